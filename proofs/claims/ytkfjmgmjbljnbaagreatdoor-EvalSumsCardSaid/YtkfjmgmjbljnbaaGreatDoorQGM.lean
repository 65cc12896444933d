/-
 Contracts and laws, joined: Ref16l, Ref16m. Conditions: those of each.
-/
import Derived.Test.YtkfjmgmjbljnbaaGreatDoorQGL
set_option maxRecDepth 100000
set_option maxHeartbeats 8000000
namespace Go.Proofs.YtkfjmgmjbljnbaaGreatDoor
open Go.RowKit
theorem rtruth16 (b:Bool) (w:World):Calls Tryz.prog 54 #[.bool b] w fun e w'=>e=.returned (.agg #[.int .u8 3,.int .i64 0,.string ⟨#[]⟩,.bool b])∧(w.alloc (.cells #[.int .u8 3,.int .i64 0,.string ⟨#[]⟩,.bool b] 31))=w':=by
 go_enter Tryz.func54,Tryz.ntmps54
 go_wp2
 exact bodyPost_ret (v:=.agg #[.int .u8 3,.int .i64 0,.string ⟨#[]⟩,.bool b]) (by simp [results,Tryz.results54,go_sem]) rfl ⟨rfl,rfl⟩
theorem ratom_null (P d:Nat) (t:Lp.Tok) (r:List Lp.Tok) (w:World) (h:RS w P (t::r) d 0) (hk2:t.k≠2) (hk3:t.k≠3) (fy:Lp.isF Lp.wNull (t::r)=true)  :
 Calls Tryz.prog 201 #[.pointer (some ⟨P,0,none⟩)] w (RPost P w d (Lp.pX 8 d (t::r))):=by
 have hq:Lp.pX 8 d (t::r)=some ((.lit 0 0 [] false),r):=by rw [Lp.pX_atom,Lp.pA_cons,if_neg hk2,if_neg hk3,if_pos fy]
 have HQ:=κ hq
 have e1:(t.k==2)=false:=beq_eq_false_iff_ne.2 hk2
 have e2:(t.k==3)=false:=beq_eq_false_iff_ne.2 hk3
 clear hk2 hk3 hq
 have hP:=h.lt
 have hb0:Below w.heap.size w (w.alloc (.cells rcZ.cells.toArray 35)):=(Below.refl _ _).alloc (Nat.le_refl _) _
 have hz0:=heap_alloc_new w (.cells rcZ.cells.toArray 35)
 have H0:=κ (ι (h.below hb0) (ι hb0 hz0))
 obtain ⟨A,c,i,h1,h2,h3⟩:=h.below hb0
 have hc0:=β h1 0
 have hc1:=β h1 1
 obtain ⟨b,off,rfl,hlt,k0,k1,k2⟩:=h2.front
 obtain ⟨n,hn⟩:∃ n,i+(t::r).length=n:=⟨_,rfl⟩
 rw [hn] at hc0
 have hin:(i:Int)<(n:Int):=by simp at hn;omega
 have hinN:i<n:=by simp at hn;omega
 have hin0:(0:Int)≤(i:Int):=by omega
 have hlt2:¬(n:Int)≤(i:Int):=by omega
 have hltN:¬n≤i:=by omega
 simp only [RC.cells,rcZ] at hc0 hc1 k0 k1 k2
 clear h hb0 hz0 h1 h2 h3 hn
 go_enter Tryz.func201,Tryz.ntmps201
 go_wp2_with fail
 go_quiet (fail)
 go_wp2_with fail
 obtain ⟨k0a,k1a,k2a,h0a,h1a⟩:=five_at (nq+1) (.cells #[.int .u8 0,.string ⟨#[]⟩,.int .i64 0] 270) k0 k1 k2 hc0 hc1
 go_region
 have hA0:=at_new (P:=P) t H0.out.2.1 H0.out.2.2 (World.size_alloc _ _) (nq+1)
 have hp0:=(H0.out.1.drawn (w':=(w.alloc (.cells rcZ.cells.toArray 35)).drewN (nq+1)) ⟨nq+1,rfl⟩).below ((Below.refl _ _).alloc (Nat.le_refl _) (.cells #[.int .u8 t.k,.string ⟨t.s.toArray⟩,.int .i64 t.n] 270))
 simp only [RC.cells,rcZ] at hA0 hp0
 have HA:=κ hA0
 have HP:=κ hp0
 clear hA0 hp0 k0a k1a k2a h0a h1a hc0 hc1 k0 k1 k2 H0 hin hinN hin0 hlt2 hltN
 generalize ((w.alloc (.cells #[.int .u8 0,.int .u8 0,.int .i64 0,.string ⟨#[]⟩,.bool false,.string ⟨#[]⟩,.string ⟨#[]⟩,.slice none 0 0] 35)).drewN (nq+1)).alloc (.cells #[.int .u8 t.k,.string ⟨t.s.toArray⟩,.int .i64 t.n] 270)=v0 at *
 have tk:=HA.out.cells.2.2.1
 have HI:=κ (pass_any P d 0 (t::r) ⟨#[110,117,108,108]⟩ v0 HP.out true (by rw [show (⟨#[110,117,108,108]⟩:ByteArray).data.toList=Lp.wNull from rfl,fy];rfl))
 go_wp2_with fail
 refine HI.out.mono ?_
 rintro e v1 ⟨rfl,hb,hp⟩
 simp only [if_true] at hp
 have hA1:=HA.out.but hb hP
 have hp1:RS v1 P r d 0:=hp
 clear hb hp HI tk
 have HZ:=κ (ι hA1 hp1)
 obtain ⟨⟨⟨a0,a1,a2,a3,a4,a5,a6,a7,a8,a9⟩,c0⟩,z0, -⟩:=hA1.cells
 obtain ⟨rz,hz⟩:=hA1.z
 have hcE:=β (put8_box (rcL 0 0 [] false) hz)
 have HE:=κ (ret_good (rcL 0 0 [] false) HZ.out.1.b rfl hP (S:=fun g=>w.heap.size<g) (fun _ h=>h) (show RX _ _ (.lit 0 0 [] false) (rcL 0 0 [] false) from rfl) HZ.out.2 HQ.out)
 simp only [RC.cells] at c0
 clear hA1 hz hp1 HA HP HQ HZ
 go_wp2
 change bodyPost _ _ _ _ _ (put8 _ w.heap.size (rcL 0 0 [] false))
 generalize put8 _ w.heap.size (rcL 0 0 [] false)=WE at *
 simp only [RC.cells,rcL] at hcE
 exact bodyPost_ret (v:=RC.val (rcL 0 0 [] false)) (by simp [results,Tryz.results201,go_sem,hcE,RC.val,rcL]) rfl HE.out
theorem ratom_true (P d:Nat) (t:Lp.Tok) (r:List Lp.Tok) (w:World) (h:RS w P (t::r) d 0) (hk2:t.k≠2) (hk3:t.k≠3) (f0:Lp.isF Lp.wNull (t::r)=false) (fy:Lp.isF Lp.wTrue (t::r)=true)  :
 Calls Tryz.prog 201 #[.pointer (some ⟨P,0,none⟩)] w (RPost P w d (Lp.pX 8 d (t::r))):=by
 have hq:Lp.pX 8 d (t::r)=some ((.lit 3 0 [] true),r):=by rw [Lp.pX_atom,Lp.pA_cons,if_neg hk2,if_neg hk3,if_neg (by rw [f0];decide),if_pos fy]
 have HQ:=κ hq
 have e1:(t.k==2)=false:=beq_eq_false_iff_ne.2 hk2
 have e2:(t.k==3)=false:=beq_eq_false_iff_ne.2 hk3
 clear hk2 hk3 hq
 have hP:=h.lt
 have hb0:Below w.heap.size w (w.alloc (.cells rcZ.cells.toArray 35)):=(Below.refl _ _).alloc (Nat.le_refl _) _
 have hz0:=heap_alloc_new w (.cells rcZ.cells.toArray 35)
 have H0:=κ (ι (h.below hb0) (ι hb0 hz0))
 obtain ⟨A,c,i,h1,h2,h3⟩:=h.below hb0
 have hc0:=β h1 0
 have hc1:=β h1 1
 obtain ⟨b,off,rfl,hlt,k0,k1,k2⟩:=h2.front
 obtain ⟨n,hn⟩:∃ n,i+(t::r).length=n:=⟨_,rfl⟩
 rw [hn] at hc0
 have hin:(i:Int)<(n:Int):=by simp at hn;omega
 have hinN:i<n:=by simp at hn;omega
 have hin0:(0:Int)≤(i:Int):=by omega
 have hlt2:¬(n:Int)≤(i:Int):=by omega
 have hltN:¬n≤i:=by omega
 simp only [RC.cells,rcZ] at hc0 hc1 k0 k1 k2
 clear h hb0 hz0 h1 h2 h3 hn
 go_enter Tryz.func201,Tryz.ntmps201
 go_wp2_with fail
 go_quiet (fail)
 go_wp2_with fail
 obtain ⟨k0a,k1a,k2a,h0a,h1a⟩:=five_at (nq+1) (.cells #[.int .u8 0,.string ⟨#[]⟩,.int .i64 0] 270) k0 k1 k2 hc0 hc1
 go_region
 have hA0:=at_new (P:=P) t H0.out.2.1 H0.out.2.2 (World.size_alloc _ _) (nq+1)
 have hp0:=(H0.out.1.drawn (w':=(w.alloc (.cells rcZ.cells.toArray 35)).drewN (nq+1)) ⟨nq+1,rfl⟩).below ((Below.refl _ _).alloc (Nat.le_refl _) (.cells #[.int .u8 t.k,.string ⟨t.s.toArray⟩,.int .i64 t.n] 270))
 simp only [RC.cells,rcZ] at hA0 hp0
 have HA:=κ hA0
 have HP:=κ hp0
 clear hA0 hp0 k0a k1a k2a h0a h1a hc0 hc1 k0 k1 k2 H0 hin hinN hin0 hlt2 hltN
 generalize ((w.alloc (.cells #[.int .u8 0,.int .u8 0,.int .i64 0,.string ⟨#[]⟩,.bool false,.string ⟨#[]⟩,.string ⟨#[]⟩,.slice none 0 0] 35)).drewN (nq+1)).alloc (.cells #[.int .u8 t.k,.string ⟨t.s.toArray⟩,.int .i64 t.n] 270)=v0 at *
 have tk:=HA.out.cells.2.2.1
 have HI:=κ (pass_any P d 0 (t::r) ⟨#[110,117,108,108]⟩ v0 HP.out false (by rw [show (⟨#[110,117,108,108]⟩:ByteArray).data.toList=Lp.wNull from rfl,f0];rfl))
 go_wp2_with fail
 refine HI.out.mono ?_
 rintro e v1 ⟨rfl,hb,hp⟩
 simp only [Bool.false_eq_true,if_false] at hp
 replace HA:=κ (HA.out.but hb hP)
 replace HP:=κ hp
 clear hb hp HI
 clear tk
 have HI:=κ (pass_any P d 0 (t::r) ⟨#[116,114,117,101]⟩ v1 HP.out true (by rw [show (⟨#[116,114,117,101]⟩:ByteArray).data.toList=Lp.wTrue from rfl,fy];rfl))
 go_wp2_with fail
 refine HI.out.mono ?_
 rintro e v2 ⟨rfl,hb,hp⟩
 simp only [if_true] at hp
 have hA1:=HA.out.but hb hP
 have hp1:RS v2 P r d 0:=hp
 clear hb hp HI
 have hbT:Below v2.heap.size v2 (v2.alloc (.cells #[.int .u8 3,.int .i64 0,.string ⟨#[]⟩,.bool true] 31)):=(Below.refl _ _).alloc (Nat.le_refl _) _
 have hA2:=hA1.but (But.of hbT) hP
 have hp2:=hp1.below hbT
 clear hA1 hp1 hbT
 have HZ:=κ (ι hA2 hp2)
 obtain ⟨⟨⟨a0,a1,a2,a3,a4,a5,a6,a7,a8,a9⟩,c0⟩,z0, -⟩:=hA2.cells
 obtain ⟨rz,hz⟩:=hA2.z
 have hcE:=β (put8_box (rcL 3 0 [] true) hz)
 have HE:=κ (ret_good (rcL 3 0 [] true) HZ.out.1.b rfl hP (S:=fun g=>w.heap.size<g) (fun _ h=>h) (show RX _ _ (.lit 3 0 [] true) (rcL 3 0 [] true) from rfl) HZ.out.2 HQ.out)
 simp only [RC.cells] at c0
 clear hA2 hz hp2 HA HP HQ HZ
 go_wp2_with fail
 refine (rtruth16 true _).mono ?_
 rintro e u1 ⟨rfl,rfl⟩
 go_wp2
 change bodyPost _ _ _ _ _ (put8 _ w.heap.size (rcL 3 0 [] true))
 generalize put8 _ w.heap.size (rcL 3 0 [] true)=WE at *
 simp only [RC.cells,rcL] at hcE
 exact bodyPost_ret (v:=RC.val (rcL 3 0 [] true)) (by simp [results,Tryz.results201,go_sem,hcE,RC.val,rcL]) rfl HE.out
theorem ratom_false (P d:Nat) (t:Lp.Tok) (r:List Lp.Tok) (w:World) (h:RS w P (t::r) d 0) (hk2:t.k≠2) (hk3:t.k≠3) (f0:Lp.isF Lp.wNull (t::r)=false) (f1:Lp.isF Lp.wTrue (t::r)=false) (fy:Lp.isF Lp.wFalse (t::r)=true)  :
 Calls Tryz.prog 201 #[.pointer (some ⟨P,0,none⟩)] w (RPost P w d (Lp.pX 8 d (t::r))):=by
 have hq:Lp.pX 8 d (t::r)=some ((.lit 3 0 [] false),r):=by rw [Lp.pX_atom,Lp.pA_cons,if_neg hk2,if_neg hk3,if_neg (by rw [f0];decide),if_neg (by rw [f1];decide),if_pos fy]
 have HQ:=κ hq
 have e1:(t.k==2)=false:=beq_eq_false_iff_ne.2 hk2
 have e2:(t.k==3)=false:=beq_eq_false_iff_ne.2 hk3
 clear hk2 hk3 hq
 have hP:=h.lt
 have hb0:Below w.heap.size w (w.alloc (.cells rcZ.cells.toArray 35)):=(Below.refl _ _).alloc (Nat.le_refl _) _
 have hz0:=heap_alloc_new w (.cells rcZ.cells.toArray 35)
 have H0:=κ (ι (h.below hb0) (ι hb0 hz0))
 obtain ⟨A,c,i,h1,h2,h3⟩:=h.below hb0
 have hc0:=β h1 0
 have hc1:=β h1 1
 obtain ⟨b,off,rfl,hlt,k0,k1,k2⟩:=h2.front
 obtain ⟨n,hn⟩:∃ n,i+(t::r).length=n:=⟨_,rfl⟩
 rw [hn] at hc0
 have hin:(i:Int)<(n:Int):=by simp at hn;omega
 have hinN:i<n:=by simp at hn;omega
 have hin0:(0:Int)≤(i:Int):=by omega
 have hlt2:¬(n:Int)≤(i:Int):=by omega
 have hltN:¬n≤i:=by omega
 simp only [RC.cells,rcZ] at hc0 hc1 k0 k1 k2
 clear h hb0 hz0 h1 h2 h3 hn
 go_enter Tryz.func201,Tryz.ntmps201
 go_wp2_with fail
 go_quiet (fail)
 go_wp2_with fail
 obtain ⟨k0a,k1a,k2a,h0a,h1a⟩:=five_at (nq+1) (.cells #[.int .u8 0,.string ⟨#[]⟩,.int .i64 0] 270) k0 k1 k2 hc0 hc1
 go_region
 have hA0:=at_new (P:=P) t H0.out.2.1 H0.out.2.2 (World.size_alloc _ _) (nq+1)
 have hp0:=(H0.out.1.drawn (w':=(w.alloc (.cells rcZ.cells.toArray 35)).drewN (nq+1)) ⟨nq+1,rfl⟩).below ((Below.refl _ _).alloc (Nat.le_refl _) (.cells #[.int .u8 t.k,.string ⟨t.s.toArray⟩,.int .i64 t.n] 270))
 simp only [RC.cells,rcZ] at hA0 hp0
 have HA:=κ hA0
 have HP:=κ hp0
 clear hA0 hp0 k0a k1a k2a h0a h1a hc0 hc1 k0 k1 k2 H0 hin hinN hin0 hlt2 hltN
 generalize ((w.alloc (.cells #[.int .u8 0,.int .u8 0,.int .i64 0,.string ⟨#[]⟩,.bool false,.string ⟨#[]⟩,.string ⟨#[]⟩,.slice none 0 0] 35)).drewN (nq+1)).alloc (.cells #[.int .u8 t.k,.string ⟨t.s.toArray⟩,.int .i64 t.n] 270)=v0 at *
 have tk:=HA.out.cells.2.2.1
 have HI:=κ (pass_any P d 0 (t::r) ⟨#[110,117,108,108]⟩ v0 HP.out false (by rw [show (⟨#[110,117,108,108]⟩:ByteArray).data.toList=Lp.wNull from rfl,f0];rfl))
 go_wp2_with fail
 refine HI.out.mono ?_
 rintro e v1 ⟨rfl,hb,hp⟩
 simp only [Bool.false_eq_true,if_false] at hp
 replace HA:=κ (HA.out.but hb hP)
 replace HP:=κ hp
 clear hb hp HI
 clear tk
 have HI:=κ (pass_any P d 0 (t::r) ⟨#[116,114,117,101]⟩ v1 HP.out false (by rw [show (⟨#[116,114,117,101]⟩:ByteArray).data.toList=Lp.wTrue from rfl,f1];rfl))
 go_wp2_with fail
 refine HI.out.mono ?_
 rintro e v2 ⟨rfl,hb,hp⟩
 simp only [Bool.false_eq_true,if_false] at hp
 replace HA:=κ (HA.out.but hb hP)
 replace HP:=κ hp
 clear hb hp HI
 have HI:=κ (pass_any P d 0 (t::r) ⟨#[102,97,108,115,101]⟩ v2 HP.out true (by rw [show (⟨#[102,97,108,115,101]⟩:ByteArray).data.toList=Lp.wFalse from rfl,fy];rfl))
 go_wp2_with fail
 refine HI.out.mono ?_
 rintro e v3 ⟨rfl,hb,hp⟩
 simp only [if_true] at hp
 have hA1:=HA.out.but hb hP
 have hp1:RS v3 P r d 0:=hp
 clear hb hp HI
 have hbT:Below v3.heap.size v3 (v3.alloc (.cells #[.int .u8 3,.int .i64 0,.string ⟨#[]⟩,.bool false] 31)):=(Below.refl _ _).alloc (Nat.le_refl _) _
 have hA2:=hA1.but (But.of hbT) hP
 have hp2:=hp1.below hbT
 clear hA1 hp1 hbT
 have HZ:=κ (ι hA2 hp2)
 obtain ⟨⟨⟨a0,a1,a2,a3,a4,a5,a6,a7,a8,a9⟩,c0⟩,z0, -⟩:=hA2.cells
 obtain ⟨rz,hz⟩:=hA2.z
 have hcE:=β (put8_box (rcL 3 0 [] false) hz)
 have HE:=κ (ret_good (rcL 3 0 [] false) HZ.out.1.b rfl hP (S:=fun g=>w.heap.size<g) (fun _ h=>h) (show RX _ _ (.lit 3 0 [] false) (rcL 3 0 [] false) from rfl) HZ.out.2 HQ.out)
 simp only [RC.cells] at c0
 clear hA2 hz hp2 HA HP HQ HZ
 go_wp2_with fail
 refine (rtruth16 false _).mono ?_
 rintro e u1 ⟨rfl,rfl⟩
 go_wp2
 change bodyPost _ _ _ _ _ (put8 _ w.heap.size (rcL 3 0 [] false))
 generalize put8 _ w.heap.size (rcL 3 0 [] false)=WE at *
 simp only [RC.cells,rcL] at hcE
 exact bodyPost_ret (v:=RC.val (rcL 3 0 [] false)) (by simp [results,Tryz.results201,go_sem,hcE,RC.val,rcL]) rfl HE.out
theorem AtSt.lev {B P:Nat} {w0 w:World} {t:Lp.Tok} (h:AtSt B P w0 w t) (rr:RC):Lev B w.heap.size P w0 (w.alloc (.cells rr.cells.toArray 35)) rr:=by
 obtain ⟨h1,⟨r0,h2⟩, -⟩:=h
 exact ⟨h1.trans (But.alloc P _ _),⟨r0,box_alloc h2 _⟩,heap_alloc_new w _⟩
theorem AtSt.lt {B P:Nat} {w0 w:World} {t:Lp.Tok} (h:AtSt B P w0 w t):B+1<w.heap.size:=heap_lt h.x
theorem RS.up2 {w:World} {P d:Nat} {bad:Int} {l:List Lp.Tok} (h:RS w P l (d+1) bad) (hd:d≤1000) :
 ∃ e:Nat,w.cell? ⟨P,2,none⟩=some (.int .i64 (e:Int))∧w.frozen? ⟨P,2,none⟩=false∧(e:Int)≤100000∧(0:Int)≤(e:Int)∧RS (w.setCell ⟨P,2,none⟩ (.int .i64 ((e:Int)-1))) P l d bad:=by
 obtain ⟨q1,q2,q3⟩:=h.up
 exact ⟨d+1,q1,q2,by omega,by omega,q3⟩
theorem ratom_paren_no (P d:Nat) (t:Lp.Tok) (r:List Lp.Tok) (w:World) (h:RS w P (t::r) d 0) (hk2:t.k≠2) (hk3:t.k≠3) (f0:Lp.isF Lp.wNull (t::r)=false) (f1:Lp.isF Lp.wTrue (t::r)=false) (f2:Lp.isF Lp.wFalse (t::r)=false) (fy:Lp.isF [40] (t::r)=true) (h40:40<d+1) (hd:d≤100) :
 Calls Tryz.prog 201 #[.pointer (some ⟨P,0,none⟩)] w (RPost P w d (Lp.pX 8 d (t::r))):=by
 have hq:Lp.pX 8 d (t::r)=if d+1≤40 then (match Lp.pX 1 (d+1) r with
  | none=>none
  | some (x,r2)=>(Lp.needF [41] r2).map fun r3=>(x,r3)) else none:=by rw [Lp.pX_atom,Lp.pA_cons,if_neg hk2,if_neg hk3,if_neg (by rw [f0];decide),if_neg (by rw [f1];decide),if_neg (by rw [f2];decide),if_pos fy];rfl
 have e1:(t.k==2)=false:=beq_eq_false_iff_ne.2 hk2
 have e2:(t.k==3)=false:=beq_eq_false_iff_ne.2 hk3
 rw [if_neg (by omega)] at hq
 have HQ:=κ hq
 clear hk2 hk3 hq
 have hP:=h.lt
 have hb0:Below w.heap.size w (w.alloc (.cells rcZ.cells.toArray 35)):=(Below.refl _ _).alloc (Nat.le_refl _) _
 have hz0:=heap_alloc_new w (.cells rcZ.cells.toArray 35)
 have H0:=κ (ι (h.below hb0) (ι hb0 hz0))
 obtain ⟨A,c,i,h1,h2,h3⟩:=h.below hb0
 have hc0:=β h1 0
 have hc1:=β h1 1
 obtain ⟨b,off,rfl,hlt,k0,k1,k2⟩:=h2.front
 obtain ⟨n,hn⟩:∃ n,i+(t::r).length=n:=⟨_,rfl⟩
 rw [hn] at hc0
 have hin:(i:Int)<(n:Int):=by simp at hn;omega
 have hinN:i<n:=by simp at hn;omega
 have hin0:(0:Int)≤(i:Int):=by omega
 have hlt2:¬(n:Int)≤(i:Int):=by omega
 have hltN:¬n≤i:=by omega
 simp only [RC.cells,rcZ] at hc0 hc1 k0 k1 k2
 clear h hb0 hz0 h1 h2 h3 hn
 go_enter Tryz.func201,Tryz.ntmps201
 go_wp2_with fail
 go_quiet (fail)
 go_wp2_with fail
 obtain ⟨k0a,k1a,k2a,h0a,h1a⟩:=five_at (nq+1) (.cells #[.int .u8 0,.string ⟨#[]⟩,.int .i64 0] 270) k0 k1 k2 hc0 hc1
 go_region
 have hA0:=at_new (P:=P) t H0.out.2.1 H0.out.2.2 (World.size_alloc _ _) (nq+1)
 have hp0:=(H0.out.1.drawn (w':=(w.alloc (.cells rcZ.cells.toArray 35)).drewN (nq+1)) ⟨nq+1,rfl⟩).below ((Below.refl _ _).alloc (Nat.le_refl _) (.cells #[.int .u8 t.k,.string ⟨t.s.toArray⟩,.int .i64 t.n] 270))
 simp only [RC.cells,rcZ] at hA0 hp0
 have HA:=κ hA0
 have HP:=κ hp0
 clear hA0 hp0 k0a k1a k2a h0a h1a hc0 hc1 k0 k1 k2 H0 hin hinN hin0 hlt2 hltN
 generalize ((w.alloc (.cells #[.int .u8 0,.int .u8 0,.int .i64 0,.string ⟨#[]⟩,.bool false,.string ⟨#[]⟩,.string ⟨#[]⟩,.slice none 0 0] 35)).drewN (nq+1)).alloc (.cells #[.int .u8 t.k,.string ⟨t.s.toArray⟩,.int .i64 t.n] 270)=v0 at *
 have tk:=HA.out.cells.2.2.1
 have HI:=κ (pass_any P d 0 (t::r) ⟨#[110,117,108,108]⟩ v0 HP.out false (by rw [show (⟨#[110,117,108,108]⟩:ByteArray).data.toList=Lp.wNull from rfl,f0];rfl))
 go_wp2_with fail
 refine HI.out.mono ?_
 rintro e v1 ⟨rfl,hb,hp⟩
 simp only [Bool.false_eq_true,if_false] at hp
 replace HA:=κ (HA.out.but hb hP)
 replace HP:=κ hp
 clear hb hp HI
 clear tk
 have HI:=κ (pass_any P d 0 (t::r) ⟨#[116,114,117,101]⟩ v1 HP.out false (by rw [show (⟨#[116,114,117,101]⟩:ByteArray).data.toList=Lp.wTrue from rfl,f1];rfl))
 go_wp2_with fail
 refine HI.out.mono ?_
 rintro e v2 ⟨rfl,hb,hp⟩
 simp only [Bool.false_eq_true,if_false] at hp
 replace HA:=κ (HA.out.but hb hP)
 replace HP:=κ hp
 clear hb hp HI
 have HI:=κ (pass_any P d 0 (t::r) ⟨#[102,97,108,115,101]⟩ v2 HP.out false (by rw [show (⟨#[102,97,108,115,101]⟩:ByteArray).data.toList=Lp.wFalse from rfl,f2];rfl))
 go_wp2_with fail
 refine HI.out.mono ?_
 rintro e v3 ⟨rfl,hb,hp⟩
 simp only [Bool.false_eq_true,if_false] at hp
 replace HA:=κ (HA.out.but hb hP)
 replace HP:=κ hp
 clear hb hp HI
 have HI:=κ (at_any P d 0 (t::r) ⟨#[40]⟩ v3 HP.out true (by rw [show (⟨#[40]⟩:ByteArray).data.toList=[40] from rfl,fy];rfl))
 go_wp2_with fail
 refine HI.out.mono ?_
 rintro e v4 ⟨rfl,hd1⟩
 replace HA:=κ (HA.out.but hd1.but hP)
 replace HP:=κ (HP.out.drawn hd1)
 clear hd1 HI
 have HD:=κ (deeper_no P d (t::r) v4 HP.out h40 (by omega))
 go_wp2_with fail
 refine HD.out.mono ?_
 rintro e v5 ⟨rfl,hb,b',hb',hp⟩
 have hA1:=HA.out.but hb hP
 obtain ⟨⟨⟨a0,a1,a2,a3,a4,a5,a6,a7,a8,a9⟩,c0⟩,z0, -⟩:=hA1.cells
 obtain ⟨rz,hz⟩:=hA1.z
 have hcE:=β (put8_box rcZ hz)
 have HE:=κ (ret_bad rcZ hA1.b rfl hP (show RBad P v5 d from ⟨t::r,d+1,b',hb',hp,by omega,by omega⟩) HQ.out)
 simp only [RC.cells] at c0
 clear hA1 hz hp hb HD HA HP HQ
 go_wp2
 change bodyPost _ _ _ _ _ (put8 _ w.heap.size rcZ)
 generalize put8 _ w.heap.size rcZ=WE at *
 simp only [RC.cells,rcZ] at hcE
 exact bodyPost_ret (v:=RC.val rcZ) (by simp [results,Tryz.results201,go_sem,hcE,RC.val,rcZ]) rfl HE.out
theorem ratom_paren_yes (P d:Nat) (t:Lp.Tok) (r:List Lp.Tok) (w:World) (h:RS w P (t::r) d 0) (hk2:t.k≠2) (hk3:t.k≠3) (f0:Lp.isF Lp.wNull (t::r)=false) (f1:Lp.isF Lp.wTrue (t::r)=false) (f2:Lp.isF Lp.wFalse (t::r)=false) (fy:Lp.isF [40] (t::r)=true) (h40:d+1≤40) (HE1:RvOk 1 P (d+1) r.length) :
 Calls Tryz.prog 201 #[.pointer (some ⟨P,0,none⟩)] w (RPost P w d (Lp.pX 8 d (t::r))):=by
 have hq:Lp.pX 8 d (t::r)=if d+1≤40 then (match Lp.pX 1 (d+1) r with
  | none=>none
  | some (x,r2)=>(Lp.needF [41] r2).map fun r3=>(x,r3)) else none:=by rw [Lp.pX_atom,Lp.pA_cons,if_neg hk2,if_neg hk3,if_neg (by rw [f0];decide),if_neg (by rw [f1];decide),if_neg (by rw [f2];decide),if_pos fy];rfl
 have e1:(t.k==2)=false:=beq_eq_false_iff_ne.2 hk2
 have e2:(t.k==3)=false:=beq_eq_false_iff_ne.2 hk3
 rw [if_pos h40] at hq
 have HQ0:=κ hq
 have HF:=κ HE1
 clear hk2 hk3 hq HE1
 have hP:=h.lt
 have hb0:Below w.heap.size w (w.alloc (.cells rcZ.cells.toArray 35)):=(Below.refl _ _).alloc (Nat.le_refl _) _
 have hz0:=heap_alloc_new w (.cells rcZ.cells.toArray 35)
 have H0:=κ (ι (h.below hb0) (ι hb0 hz0))
 obtain ⟨A,c,i,h1,h2,h3⟩:=h.below hb0
 have hc0:=β h1 0
 have hc1:=β h1 1
 obtain ⟨b,off,rfl,hlt,k0,k1,k2⟩:=h2.front
 obtain ⟨n,hn⟩:∃ n,i+(t::r).length=n:=⟨_,rfl⟩
 rw [hn] at hc0
 have hin:(i:Int)<(n:Int):=by simp at hn;omega
 have hinN:i<n:=by simp at hn;omega
 have hin0:(0:Int)≤(i:Int):=by omega
 have hlt2:¬(n:Int)≤(i:Int):=by omega
 have hltN:¬n≤i:=by omega
 simp only [RC.cells,rcZ] at hc0 hc1 k0 k1 k2
 clear h hb0 hz0 h1 h2 h3 hn
 go_enter Tryz.func201,Tryz.ntmps201
 go_wp2_with fail
 go_quiet (fail)
 go_wp2_with fail
 obtain ⟨k0a,k1a,k2a,h0a,h1a⟩:=five_at (nq+1) (.cells #[.int .u8 0,.string ⟨#[]⟩,.int .i64 0] 270) k0 k1 k2 hc0 hc1
 go_region
 have hA0:=at_new (P:=P) t H0.out.2.1 H0.out.2.2 (World.size_alloc _ _) (nq+1)
 have hp0:=(H0.out.1.drawn (w':=(w.alloc (.cells rcZ.cells.toArray 35)).drewN (nq+1)) ⟨nq+1,rfl⟩).below ((Below.refl _ _).alloc (Nat.le_refl _) (.cells #[.int .u8 t.k,.string ⟨t.s.toArray⟩,.int .i64 t.n] 270))
 simp only [RC.cells,rcZ] at hA0 hp0
 have HA:=κ hA0
 have HP:=κ hp0
 clear hA0 hp0 k0a k1a k2a h0a h1a hc0 hc1 k0 k1 k2 H0 hin hinN hin0 hlt2 hltN
 generalize ((w.alloc (.cells #[.int .u8 0,.int .u8 0,.int .i64 0,.string ⟨#[]⟩,.bool false,.string ⟨#[]⟩,.string ⟨#[]⟩,.slice none 0 0] 35)).drewN (nq+1)).alloc (.cells #[.int .u8 t.k,.string ⟨t.s.toArray⟩,.int .i64 t.n] 270)=v0 at *
 have tk:=HA.out.cells.2.2.1
 have HI:=κ (pass_any P d 0 (t::r) ⟨#[110,117,108,108]⟩ v0 HP.out false (by rw [show (⟨#[110,117,108,108]⟩:ByteArray).data.toList=Lp.wNull from rfl,f0];rfl))
 go_wp2_with fail
 refine HI.out.mono ?_
 rintro e v1 ⟨rfl,hb,hp⟩
 simp only [Bool.false_eq_true,if_false] at hp
 replace HA:=κ (HA.out.but hb hP)
 replace HP:=κ hp
 clear hb hp HI
 clear tk
 have HI:=κ (pass_any P d 0 (t::r) ⟨#[116,114,117,101]⟩ v1 HP.out false (by rw [show (⟨#[116,114,117,101]⟩:ByteArray).data.toList=Lp.wTrue from rfl,f1];rfl))
 go_wp2_with fail
 refine HI.out.mono ?_
 rintro e v2 ⟨rfl,hb,hp⟩
 simp only [Bool.false_eq_true,if_false] at hp
 replace HA:=κ (HA.out.but hb hP)
 replace HP:=κ hp
 clear hb hp HI
 have HI:=κ (pass_any P d 0 (t::r) ⟨#[102,97,108,115,101]⟩ v2 HP.out false (by rw [show (⟨#[102,97,108,115,101]⟩:ByteArray).data.toList=Lp.wFalse from rfl,f2];rfl))
 go_wp2_with fail
 refine HI.out.mono ?_
 rintro e v3 ⟨rfl,hb,hp⟩
 simp only [Bool.false_eq_true,if_false] at hp
 replace HA:=κ (HA.out.but hb hP)
 replace HP:=κ hp
 clear hb hp HI
 have HI:=κ (at_any P d 0 (t::r) ⟨#[40]⟩ v3 HP.out true (by rw [show (⟨#[40]⟩:ByteArray).data.toList=[40] from rfl,fy];rfl))
 go_wp2_with fail
 refine HI.out.mono ?_
 rintro e v4 ⟨rfl,hd1⟩
 replace HA:=κ (HA.out.but hd1.but hP)
 replace HP:=κ (HP.out.drawn hd1)
 clear hd1 HI
 have HD:=κ (deeper_yes P d (t::r) v4 HP.out h40)
 go_wp2_with fail
 refine HD.out.mono ?_
 rintro e v5 ⟨rfl,hb,hp⟩
 obtain ⟨j,n1,n2,n3,n4⟩:=hp.next
 have hA1:=(HA.out.but hb hP).but (But.set P 1 v5 (.int .i64 ((j:Int)+1))) hP
 replace HA:=κ hA1
 have HC:=κ (show Calls Tryz.prog 178 #[.pointer (some ⟨P,0,none⟩),.int .i64 1] _ _ from HF.out _ r (Nat.le_refl _) n4)
 replace HP:=κ n4
 clear hb hp n4 HD hA1 HF
 go_wp2_with fail
 refine HC.out.mono ?_
 rintro e v6 hq6
 obtain ⟨⟨k,vk,vi,vs,vb,tt,ss,A,nn,c⟩,rfl,hb6,hq7⟩:=hq6.open_
 simp only [RC.val]
 have hA6:=HA.out.but hb6 hP
 have hL7:=hA6.lev ⟨k,vk,vi,vs,vb,tt,ss,A,nn,c⟩
 have hG:w.heap.size<v6.heap.size:=by have:=hA6.lt;omega
 have hb7:Below v6.heap.size v6 (v6.alloc (.cells #[.int .u8 k,.int .u8 vk,.int .i64 vi,.string vs,.bool vb,.string tt,.string ss,.slice A nn c] 35)):=(Below.refl _ _).alloc (Nat.le_refl _) _
 have hBs:=HA.out.lt
 have HL:=κ (show Lev w.heap.size v6.heap.size P w (v6.alloc (.cells #[.int .u8 k,.int .u8 vk,.int .i64 vi,.string vs,.bool vb,.string tt,.string ss,.slice A nn c] 35)) ⟨k,vk,vi,vs,vb,tt,ss,A,nn,c⟩ from hL7)
 clear hq6 hb6 hA6 hL7 HC n1 n2
 rcases hpx:Lp.pX 1 (d+1) r with _|⟨x,r2⟩
 ·have HQ:=κ (show Lp.pX 8 d (t::r)=none by rw [HQ0.out,hpx])
  rw [hpx] at hq7
  have hbad:RBad P v6 (d+1):=hq7
  have HNe:=κ (rneed_bad ⟨#[41]⟩ P (d+1) _ (hbad.below hb7))
  clear hpx hq7 hbad hb7 HQ0
  go_wp2_with fail
  refine HNe.out.mono ?_
  rintro e v8 ⟨rfl,hb8,hbad8⟩
  have hL8:=HL.out.but hb8 hP hG
  clear hb8 HNe HL
  obtain ⟨e6,q1,q2,q3,q4,q5⟩:=RBad.up hbad8
  have hLF:=hL8.but (But.set P 2 v8 (.int .i64 ((e6:Int)-1))) hP hG
  have HE:=κ (ret_bad ⟨k,vk,vi,vs,vb,tt,ss,A,nn,c⟩ hLF.b rfl hP q5 HQ.out)
  clear q5 hL8 hbad8
  obtain ⟨⟨⟨a0,a1,a2,a3,a4,a5,a6,a7,a8,a9⟩,c0⟩,c1,z0,z1⟩:=hLF.cells
  obtain ⟨rz,hz⟩:=hLF.z
  have hcE:=β (put8_box ⟨k,vk,vi,vs,vb,tt,ss,A,nn,c⟩ hz)
  simp only [RC.cells] at c0 c1
  clear hLF hz 
  go_wp2
  change bodyPost _ _ _ _ _ (put8 _ w.heap.size ⟨k,vk,vi,vs,vb,tt,ss,A,nn,c⟩)
  generalize put8 _ w.heap.size ⟨k,vk,vi,vs,vb,tt,ss,A,nn,c⟩=WE at *
  simp only [RC.cells] at hcE
  exact bodyPost_ret (v:=RC.val ⟨k,vk,vi,vs,vb,tt,ss,A,nn,c⟩) (by simp [results,Tryz.results201,go_sem,hcE,RC.val]) rfl HE.out
 ·rw [hpx] at hq7
  obtain ⟨hx7,hp7⟩:=hq7
  have hp8:=hp7.below hb7
  have hx8:=RX.mono (S':=fun g=>w.heap.size<g) (fun g hg _=>Nat.lt_of_lt_of_le (by omega) hg) (RX.below hb7 hx7)
  have HX:=κ (ι hx8 hp8)
  cases hw:Lp.isF [41] r2
  ·have HQ:=κ (show Lp.pX 8 d (t::r)=none by rw [HQ0.out,hpx];show (Lp.needF [41] r2).map _=none;rw [Lp.needF,hw];rfl)
   have HNe:=κ (rneed_no P (d+1) 0 r2 ⟨#[41]⟩ _ hp8 (by rw [show (⟨#[41]⟩:ByteArray).data.toList=[41] from rfl,hw];rfl))
   clear hpx hx7 hp7 hp8 hx8 hb7 hw HQ0
   go_wp2_with fail
   refine HNe.out.mono ?_
   rintro e v8 ⟨rfl,hb8,b',hb',hp8⟩
   have hbad8:=rbad_of hp8 hb' (by omega)
   have hL8:=HL.out.but hb8 hP hG
   clear hb8 HNe HL hp8 hb'
   obtain ⟨e6,q1,q2,q3,q4,q5⟩:=RBad.up hbad8
   have hLF:=hL8.but (But.set P 2 v8 (.int .i64 ((e6:Int)-1))) hP hG
   have HE:=κ (ret_bad ⟨k,vk,vi,vs,vb,tt,ss,A,nn,c⟩ hLF.b rfl hP q5 HQ.out)
   clear q5 hL8 hbad8
   obtain ⟨⟨⟨a0,a1,a2,a3,a4,a5,a6,a7,a8,a9⟩,c0⟩,c1,z0,z1⟩:=hLF.cells
   obtain ⟨rz,hz⟩:=hLF.z
   have hcE:=β (put8_box ⟨k,vk,vi,vs,vb,tt,ss,A,nn,c⟩ hz)
   simp only [RC.cells] at c0 c1
   clear hLF hz 
   go_wp2
   change bodyPost _ _ _ _ _ (put8 _ w.heap.size ⟨k,vk,vi,vs,vb,tt,ss,A,nn,c⟩)
   generalize put8 _ w.heap.size ⟨k,vk,vi,vs,vb,tt,ss,A,nn,c⟩=WE at *
   simp only [RC.cells] at hcE
   exact bodyPost_ret (v:=RC.val ⟨k,vk,vi,vs,vb,tt,ss,A,nn,c⟩) (by simp [results,Tryz.results201,go_sem,hcE,RC.val]) rfl HE.out
  ·have HQ:=κ (show Lp.pX 8 d (t::r)=some (x,r2.tail) by rw [HQ0.out,hpx];show (Lp.needF [41] r2).map _=_;rw [Lp.needF,hw];rfl)
   have HNe:=κ (rneed_yes P (d+1) r2 ⟨#[41]⟩ _ hp8 hw)
   clear hpx hx7 hp7 hp8 hx8 hb7 hw HQ0
   go_wp2_with fail
   refine HNe.out.mono ?_
   rintro e v8 ⟨rfl,hb8,hp8⟩
   have hL8:=HL.out.but hb8 hP hG
   have hx8:=RX.but hb8 HX.out.2 HX.out.1
   clear hb8 HNe HL HX
   obtain ⟨e6,q1,q2,q3,q4,q5⟩:=RS.up2 hp8 (by omega)
   have hLF:=hL8.but (But.set P 2 v8 (.int .i64 ((e6:Int)-1))) hP hG
   have hxF:=hx8.far (g:=P) (o:=2) (v:=.int .i64 ((e6:Int)-1)) (fun k hk _=>by have:w.heap.size<k:=hk;omega)
   have HE:=κ (ret_good ⟨k,vk,vi,vs,vb,tt,ss,A,nn,c⟩ hLF.b rfl hP (S:=fun g=>w.heap.size<g) (fun _ h=>h) hxF q5 HQ.out)
   clear q5 hxF hx8 hL8 hp8
   obtain ⟨⟨⟨a0,a1,a2,a3,a4,a5,a6,a7,a8,a9⟩,c0⟩,c1,z0,z1⟩:=hLF.cells
   obtain ⟨rz,hz⟩:=hLF.z
   have hcE:=β (put8_box ⟨k,vk,vi,vs,vb,tt,ss,A,nn,c⟩ hz)
   simp only [RC.cells] at c0 c1
   clear hLF hz 
   go_wp2
   change bodyPost _ _ _ _ _ (put8 _ w.heap.size ⟨k,vk,vi,vs,vb,tt,ss,A,nn,c⟩)
   generalize put8 _ w.heap.size ⟨k,vk,vi,vs,vb,tt,ss,A,nn,c⟩=WE at *
   simp only [RC.cells] at hcE
   exact bodyPost_ret (v:=RC.val ⟨k,vk,vi,vs,vb,tt,ss,A,nn,c⟩) (by simp [results,Tryz.results201,go_sem,hcE,RC.val]) rfl HE.out
end Go.Proofs.YtkfjmgmjbljnbaaGreatDoor
