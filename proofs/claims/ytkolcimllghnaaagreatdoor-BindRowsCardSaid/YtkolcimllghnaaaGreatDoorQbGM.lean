/-
 Contracts. Conditions: those of each.
-/
import Derived.Test.YtkolcimllghnaaaGreatDoorQbGL
set_option maxRecDepth 100000
set_option maxHeartbeats 8000000
namespace Go.Proofs.YtkolcimllghnaaaGreatDoor
open Lp Go.Proofs.Tryz
open Go.RowKit
theorem Ap (b:Bool) (w:World):Calls prog 159 #[.bool b] w fun e w'=>e=.returned (.agg #[.int .u8 3,.int .i64 0,.string ⟨#[]⟩,.bool b])∧(w.alloc (.cells #[.int .u8 3,.int .i64 0,.string ⟨#[]⟩,.bool b] 58))=w':=by
 go_enter func159,ntmps159
 go_wp2
 exact bodyPost_ret (v:=.agg #[.int .u8 3,.int .i64 0,.string ⟨#[]⟩,.bool b]) (by simp [results,results159,go_sem]) rfl ⟨rfl,rfl⟩
theorem Em (P d:Nat) (t:Tok) (r:List Tok) (w:World) (h:RS w P (t::r) d 0) (hk2:t.k≠2) (hk3:t.k≠3) (fy:isF bS (t::r)=true)  :
 Calls prog 134 #[.pointer (some ⟨P,0,none⟩)] w (RPost P w d (pX 8 d (t::r))):=by
 have hq:pX 8 d (t::r)=some ((.lit 0 0 [] false),r):=by rw [cU,dP,if_neg hk2,if_neg hk3,if_pos fy]
 have HQ:=κ hq
 have e1:(t.k==2)=false:=η hk2
 have e2:(t.k==3)=false:=η hk3
 clear hk2 hk3 hq
 have hP:=h.lt
 have hb0:Below w.heap.size w (w.alloc (.cells rcZ.cells.toArray 60)):=ρ
 have hz0:=heap_alloc_new w (.cells rcZ.cells.toArray 60)
 have H0:=κ (ι (h.below hb0) (ι hb0 hz0))
 obtain ⟨A,c,i,h1,h2,h3⟩:=h.below hb0
 have hc0:=β h1 0
 have hc1:=β h1 1
 obtain ⟨b,off,rfl,hlt,k0,k1,k2⟩:=h2.front
 obtain ⟨n,hn⟩:∃ n,i+(t::r).length=n:=⟨_,rfl⟩
 rw [hn] at hc0
 have hin:(i:Int)<(n:Int):=by simp at hn;omega
 have hinN:i<n:=by simp at hn;omega
 have hin0:(0:Int)≤(i:Int):=by omega
 have hlt2:¬(n:Int)≤(i:Int):=by omega
 have hltN:¬n≤i:=by omega
 simp only [RC.cells,rcZ] at hc0 hc1 k0 k1 k2
 clear h hb0 hz0 h1 h2 h3 hn
 go_enter func134,ntmps134
 go_wp2_with fail
 go_quiet (fail)
 go_wp2_with fail
 obtain ⟨k0a,k1a,k2a,h0a,h1a⟩:=eJ (nq+1) (.cells #[.int .u8 0,.string ⟨#[]⟩,.int .i64 0] 173) k0 k1 k2 hc0 hc1
 go_region
 have hA0:=fV (P:=P) t H0.out.2.1 H0.out.2.2 (World.size_alloc _ _) (nq+1)
 have hp0:=(H0.out.1.drawn (w':=(w.alloc (.cells rcZ.cells.toArray 60)).drewN (nq+1)) ⟨nq+1,rfl⟩).below ((θ).alloc (ν _) (.cells #[.int .u8 t.k,.string ⟨t.s.toArray⟩,.int .i64 t.n] 173))
 simp only [RC.cells,rcZ] at hA0 hp0
 have HA:=κ hA0
 have HP:=κ hp0
 clear hA0 hp0 k0a k1a k2a h0a h1a hc0 hc1 k0 k1 k2 H0 hin hinN hin0 hlt2 hltN
 generalize ((w.alloc (.cells #[.int .u8 0,.int .u8 0,.int .i64 0,.string ⟨#[]⟩,.bool false,.string ⟨#[]⟩,.string ⟨#[]⟩,.slice none 0 0] 60)).drewN (nq+1)).alloc (.cells #[.int .u8 t.k,.string ⟨t.s.toArray⟩,.int .i64 t.n] 173)=v0 at *
 have tk:=HA.out.cells.2.2.1
 have HI:=κ (aJ P d 0 (t::r) ⟨#[110,117,108,108]⟩ v0 HP.out true (by rw [show (⟨#[110,117,108,108]⟩:ByteArray).data.toList=bS from rfl,fy];rfl))
 go_wp2_with fail
 refine μ HI ?_
 rintro e v1 ⟨rfl,hb,hp⟩
 simp only [if_true] at hp
 have hA1:=HA.out.but hb hP
 have hp1:RS v1 P r d 0:=hp
 clear hb hp HI tk
 have HZ:=κ (ι hA1 hp1)
 obtain ⟨⟨⟨a0,a1,a2,a3,a4,a5,a6,a7,a8,a9⟩,c0⟩,z0, -⟩:=hA1.cells
 obtain ⟨rz,hz⟩:=hA1.z
 have hcE:=β (aM (rcL 0 0 [] false) hz)
 have HE:=κ (eM (rcL 0 0 [] false) HZ.out.1.b rfl hP (S:=fun g=>w.heap.size<g) (fun _ h=>h) (show RX _ _ (.lit 0 0 [] false) (rcL 0 0 [] false) from rfl) HZ.out.2 HQ.out)
 simp only [RC.cells] at c0
 clear hA1 hz hp1 HA HP HQ HZ
 go_wp2
 change bodyPost _ _ _ _ _ (put8 _ w.heap.size (rcL 0 0 [] false))
 generalize put8 _ w.heap.size (rcL 0 0 [] false)=WE at *
 simp only [RC.cells,rcL] at hcE
 exact bodyPost_ret (v:=RC.val (rcL 0 0 [] false)) (by simp [results,results134,go_sem,hcE,RC.val,rcL]) rfl HE.out
theorem El (P d:Nat) (t:Tok) (r:List Tok) (w:World) (h:RS w P (t::r) d 0) (hk2:t.k≠2) (hk3:t.k≠3) (f0:isF bS (t::r)=false) (fy:isF dJ (t::r)=true)  :
 Calls prog 134 #[.pointer (some ⟨P,0,none⟩)] w (RPost P w d (pX 8 d (t::r))):=by
 have hq:pX 8 d (t::r)=some ((.lit 3 0 [] true),r):=by rw [cU,dP,if_neg hk2,if_neg hk3,if_neg (by rw [f0];decide),if_pos fy]
 have HQ:=κ hq
 have e1:(t.k==2)=false:=η hk2
 have e2:(t.k==3)=false:=η hk3
 clear hk2 hk3 hq
 have hP:=h.lt
 have hb0:Below w.heap.size w (w.alloc (.cells rcZ.cells.toArray 60)):=ρ
 have hz0:=heap_alloc_new w (.cells rcZ.cells.toArray 60)
 have H0:=κ (ι (h.below hb0) (ι hb0 hz0))
 obtain ⟨A,c,i,h1,h2,h3⟩:=h.below hb0
 have hc0:=β h1 0
 have hc1:=β h1 1
 obtain ⟨b,off,rfl,hlt,k0,k1,k2⟩:=h2.front
 obtain ⟨n,hn⟩:∃ n,i+(t::r).length=n:=⟨_,rfl⟩
 rw [hn] at hc0
 have hin:(i:Int)<(n:Int):=by simp at hn;omega
 have hinN:i<n:=by simp at hn;omega
 have hin0:(0:Int)≤(i:Int):=by omega
 have hlt2:¬(n:Int)≤(i:Int):=by omega
 have hltN:¬n≤i:=by omega
 simp only [RC.cells,rcZ] at hc0 hc1 k0 k1 k2
 clear h hb0 hz0 h1 h2 h3 hn
 go_enter func134,ntmps134
 go_wp2_with fail
 go_quiet (fail)
 go_wp2_with fail
 obtain ⟨k0a,k1a,k2a,h0a,h1a⟩:=eJ (nq+1) (.cells #[.int .u8 0,.string ⟨#[]⟩,.int .i64 0] 173) k0 k1 k2 hc0 hc1
 go_region
 have hA0:=fV (P:=P) t H0.out.2.1 H0.out.2.2 (World.size_alloc _ _) (nq+1)
 have hp0:=(H0.out.1.drawn (w':=(w.alloc (.cells rcZ.cells.toArray 60)).drewN (nq+1)) ⟨nq+1,rfl⟩).below ((θ).alloc (ν _) (.cells #[.int .u8 t.k,.string ⟨t.s.toArray⟩,.int .i64 t.n] 173))
 simp only [RC.cells,rcZ] at hA0 hp0
 have HA:=κ hA0
 have HP:=κ hp0
 clear hA0 hp0 k0a k1a k2a h0a h1a hc0 hc1 k0 k1 k2 H0 hin hinN hin0 hlt2 hltN
 generalize ((w.alloc (.cells #[.int .u8 0,.int .u8 0,.int .i64 0,.string ⟨#[]⟩,.bool false,.string ⟨#[]⟩,.string ⟨#[]⟩,.slice none 0 0] 60)).drewN (nq+1)).alloc (.cells #[.int .u8 t.k,.string ⟨t.s.toArray⟩,.int .i64 t.n] 173)=v0 at *
 have tk:=HA.out.cells.2.2.1
 have HI:=κ (aJ P d 0 (t::r) ⟨#[110,117,108,108]⟩ v0 HP.out false (by rw [show (⟨#[110,117,108,108]⟩:ByteArray).data.toList=bS from rfl,f0];rfl))
 go_wp2_with fail
 refine μ HI ?_
 rintro e v1 ⟨rfl,hb,hp⟩
 simp only [φ,if_false] at hp
 replace HA:=κ (HA.out.but hb hP)
 replace HP:=κ hp
 clear hb hp HI
 clear tk
 have HI:=κ (aJ P d 0 (t::r) ⟨#[116,114,117,101]⟩ v1 HP.out true (by rw [show (⟨#[116,114,117,101]⟩:ByteArray).data.toList=dJ from rfl,fy];rfl))
 go_wp2_with fail
 refine μ HI ?_
 rintro e v2 ⟨rfl,hb,hp⟩
 simp only [if_true] at hp
 have hA1:=HA.out.but hb hP
 have hp1:RS v2 P r d 0:=hp
 clear hb hp HI
 have hbT:Below v2.heap.size v2 (v2.alloc (.cells #[.int .u8 3,.int .i64 0,.string ⟨#[]⟩,.bool true] 58)):=ρ
 have hA2:=hA1.but (But.of hbT) hP
 have hp2:=hp1.below hbT
 clear hA1 hp1 hbT
 have HZ:=κ (ι hA2 hp2)
 obtain ⟨⟨⟨a0,a1,a2,a3,a4,a5,a6,a7,a8,a9⟩,c0⟩,z0, -⟩:=hA2.cells
 obtain ⟨rz,hz⟩:=hA2.z
 have hcE:=β (aM (rcL 3 0 [] true) hz)
 have HE:=κ (eM (rcL 3 0 [] true) HZ.out.1.b rfl hP (S:=fun g=>w.heap.size<g) (fun _ h=>h) (show RX _ _ (.lit 3 0 [] true) (rcL 3 0 [] true) from rfl) HZ.out.2 HQ.out)
 simp only [RC.cells] at c0
 clear hA2 hz hp2 HA HP HQ HZ
 go_wp2_with fail
 refine (Ap true _).mono ?_
 rintro e u1 ⟨rfl,rfl⟩
 go_wp2
 change bodyPost _ _ _ _ _ (put8 _ w.heap.size (rcL 3 0 [] true))
 generalize put8 _ w.heap.size (rcL 3 0 [] true)=WE at *
 simp only [RC.cells,rcL] at hcE
 exact bodyPost_ret (v:=RC.val (rcL 3 0 [] true)) (by simp [results,results134,go_sem,hcE,RC.val,rcL]) rfl HE.out
theorem Bc (P d:Nat) (t:Tok) (r:List Tok) (w:World) (h:RS w P (t::r) d 0) (hk2:t.k≠2) (hk3:t.k≠3) (f0:isF bS (t::r)=false) (f1:isF dJ (t::r)=false) (fy:isF cH (t::r)=true)  :
 Calls prog 134 #[.pointer (some ⟨P,0,none⟩)] w (RPost P w d (pX 8 d (t::r))):=by
 have hq:pX 8 d (t::r)=some ((.lit 3 0 [] false),r):=by rw [cU,dP,if_neg hk2,if_neg hk3,if_neg (by rw [f0];decide),if_neg (by rw [f1];decide),if_pos fy]
 have HQ:=κ hq
 have e1:(t.k==2)=false:=η hk2
 have e2:(t.k==3)=false:=η hk3
 clear hk2 hk3 hq
 have hP:=h.lt
 have hb0:Below w.heap.size w (w.alloc (.cells rcZ.cells.toArray 60)):=ρ
 have hz0:=heap_alloc_new w (.cells rcZ.cells.toArray 60)
 have H0:=κ (ι (h.below hb0) (ι hb0 hz0))
 obtain ⟨A,c,i,h1,h2,h3⟩:=h.below hb0
 have hc0:=β h1 0
 have hc1:=β h1 1
 obtain ⟨b,off,rfl,hlt,k0,k1,k2⟩:=h2.front
 obtain ⟨n,hn⟩:∃ n,i+(t::r).length=n:=⟨_,rfl⟩
 rw [hn] at hc0
 have hin:(i:Int)<(n:Int):=by simp at hn;omega
 have hinN:i<n:=by simp at hn;omega
 have hin0:(0:Int)≤(i:Int):=by omega
 have hlt2:¬(n:Int)≤(i:Int):=by omega
 have hltN:¬n≤i:=by omega
 simp only [RC.cells,rcZ] at hc0 hc1 k0 k1 k2
 clear h hb0 hz0 h1 h2 h3 hn
 go_enter func134,ntmps134
 go_wp2_with fail
 go_quiet (fail)
 go_wp2_with fail
 obtain ⟨k0a,k1a,k2a,h0a,h1a⟩:=eJ (nq+1) (.cells #[.int .u8 0,.string ⟨#[]⟩,.int .i64 0] 173) k0 k1 k2 hc0 hc1
 go_region
 have hA0:=fV (P:=P) t H0.out.2.1 H0.out.2.2 (World.size_alloc _ _) (nq+1)
 have hp0:=(H0.out.1.drawn (w':=(w.alloc (.cells rcZ.cells.toArray 60)).drewN (nq+1)) ⟨nq+1,rfl⟩).below ((θ).alloc (ν _) (.cells #[.int .u8 t.k,.string ⟨t.s.toArray⟩,.int .i64 t.n] 173))
 simp only [RC.cells,rcZ] at hA0 hp0
 have HA:=κ hA0
 have HP:=κ hp0
 clear hA0 hp0 k0a k1a k2a h0a h1a hc0 hc1 k0 k1 k2 H0 hin hinN hin0 hlt2 hltN
 generalize ((w.alloc (.cells #[.int .u8 0,.int .u8 0,.int .i64 0,.string ⟨#[]⟩,.bool false,.string ⟨#[]⟩,.string ⟨#[]⟩,.slice none 0 0] 60)).drewN (nq+1)).alloc (.cells #[.int .u8 t.k,.string ⟨t.s.toArray⟩,.int .i64 t.n] 173)=v0 at *
 have tk:=HA.out.cells.2.2.1
 have HI:=κ (aJ P d 0 (t::r) ⟨#[110,117,108,108]⟩ v0 HP.out false (by rw [show (⟨#[110,117,108,108]⟩:ByteArray).data.toList=bS from rfl,f0];rfl))
 go_wp2_with fail
 refine μ HI ?_
 rintro e v1 ⟨rfl,hb,hp⟩
 simp only [φ,if_false] at hp
 replace HA:=κ (HA.out.but hb hP)
 replace HP:=κ hp
 clear hb hp HI
 clear tk
 have HI:=κ (aJ P d 0 (t::r) ⟨#[116,114,117,101]⟩ v1 HP.out false (by rw [show (⟨#[116,114,117,101]⟩:ByteArray).data.toList=dJ from rfl,f1];rfl))
 go_wp2_with fail
 refine μ HI ?_
 rintro e v2 ⟨rfl,hb,hp⟩
 simp only [φ,if_false] at hp
 replace HA:=κ (HA.out.but hb hP)
 replace HP:=κ hp
 clear hb hp HI
 have HI:=κ (aJ P d 0 (t::r) ⟨#[102,97,108,115,101]⟩ v2 HP.out true (by rw [show (⟨#[102,97,108,115,101]⟩:ByteArray).data.toList=cH from rfl,fy];rfl))
 go_wp2_with fail
 refine μ HI ?_
 rintro e v3 ⟨rfl,hb,hp⟩
 simp only [if_true] at hp
 have hA1:=HA.out.but hb hP
 have hp1:RS v3 P r d 0:=hp
 clear hb hp HI
 have hbT:Below v3.heap.size v3 (v3.alloc (.cells #[.int .u8 3,.int .i64 0,.string ⟨#[]⟩,.bool false] 58)):=ρ
 have hA2:=hA1.but (But.of hbT) hP
 have hp2:=hp1.below hbT
 clear hA1 hp1 hbT
 have HZ:=κ (ι hA2 hp2)
 obtain ⟨⟨⟨a0,a1,a2,a3,a4,a5,a6,a7,a8,a9⟩,c0⟩,z0, -⟩:=hA2.cells
 obtain ⟨rz,hz⟩:=hA2.z
 have hcE:=β (aM (rcL 3 0 [] false) hz)
 have HE:=κ (eM (rcL 3 0 [] false) HZ.out.1.b rfl hP (S:=fun g=>w.heap.size<g) (fun _ h=>h) (show RX _ _ (.lit 3 0 [] false) (rcL 3 0 [] false) from rfl) HZ.out.2 HQ.out)
 simp only [RC.cells] at c0
 clear hA2 hz hp2 HA HP HQ HZ
 go_wp2_with fail
 refine (Ap false _).mono ?_
 rintro e u1 ⟨rfl,rfl⟩
 go_wp2
 change bodyPost _ _ _ _ _ (put8 _ w.heap.size (rcL 3 0 [] false))
 generalize put8 _ w.heap.size (rcL 3 0 [] false)=WE at *
 simp only [RC.cells,rcL] at hcE
 exact bodyPost_ret (v:=RC.val (rcL 3 0 [] false)) (by simp [results,results134,go_sem,hcE,RC.val,rcL]) rfl HE.out
theorem AtSt.lev {B P:Nat} {w0 w:World} {t:Tok} (h:AtSt B P w0 w t) (rr:RC):Lev B w.heap.size P w0 (w.alloc (.cells rr.cells.toArray 60)) rr:=by
 obtain ⟨h1,⟨r0,h2⟩, -⟩:=h
 exact ⟨h1.trans (But.alloc P _ _),⟨r0,aC h2 _⟩,heap_alloc_new w _⟩
theorem AtSt.lt {B P:Nat} {w0 w:World} {t:Tok} (h:AtSt B P w0 w t):B+1<w.heap.size:=aL h.x
theorem RS.up2 {w:World} {P d:Nat} {bad:Int} {l:List Tok} (h:RS w P l (d+1) bad) (hd:d≤1000) :
 ∃ e:Nat,w.cell? ⟨P,2,none⟩=some (.int .i64 (e:Int))∧w.frozen? ⟨P,2,none⟩=false∧(e:Int)≤100000∧(0:Int)≤(e:Int)∧RS (w.setCell ⟨P,2,none⟩ (.int .i64 ((e:Int)-1))) P l d bad:=by
 obtain ⟨q1,q2,q3⟩:=h.up
 exact ⟨d+1,q1,q2,by omega,by omega,q3⟩
theorem tG (P d:Nat) (t:Tok) (r:List Tok) (w:World) (h:RS w P (t::r) d 0) (hk2:t.k≠2) (hk3:t.k≠3) (f0:isF bS (t::r)=false) (f1:isF dJ (t::r)=false) (f2:isF cH (t::r)=false) (fy:isF [40] (t::r)=true) (h40:40<d+1) (hd:d≤100) :
 Calls prog 134 #[.pointer (some ⟨P,0,none⟩)] w (RPost P w d (pX 8 d (t::r))):=by
 have hq:pX 8 d (t::r)=if d+1≤40 then (match pX 1 (d+1) r with
  | none=>none
  | some (x,r2)=>(aE [41] r2).map fun r3=>(x,r3)) else none:=by rw [cU,dP,if_neg hk2,if_neg hk3,if_neg (by rw [f0];decide),if_neg (by rw [f1];decide),if_neg (by rw [f2];decide),if_pos fy];rfl
 have e1:(t.k==2)=false:=η hk2
 have e2:(t.k==3)=false:=η hk3
 rw [if_neg (by omega)] at hq
 have HQ:=κ hq
 clear hk2 hk3 hq
 have hP:=h.lt
 have hb0:Below w.heap.size w (w.alloc (.cells rcZ.cells.toArray 60)):=ρ
 have hz0:=heap_alloc_new w (.cells rcZ.cells.toArray 60)
 have H0:=κ (ι (h.below hb0) (ι hb0 hz0))
 obtain ⟨A,c,i,h1,h2,h3⟩:=h.below hb0
 have hc0:=β h1 0
 have hc1:=β h1 1
 obtain ⟨b,off,rfl,hlt,k0,k1,k2⟩:=h2.front
 obtain ⟨n,hn⟩:∃ n,i+(t::r).length=n:=⟨_,rfl⟩
 rw [hn] at hc0
 have hin:(i:Int)<(n:Int):=by simp at hn;omega
 have hinN:i<n:=by simp at hn;omega
 have hin0:(0:Int)≤(i:Int):=by omega
 have hlt2:¬(n:Int)≤(i:Int):=by omega
 have hltN:¬n≤i:=by omega
 simp only [RC.cells,rcZ] at hc0 hc1 k0 k1 k2
 clear h hb0 hz0 h1 h2 h3 hn
 go_enter func134,ntmps134
 go_wp2_with fail
 go_quiet (fail)
 go_wp2_with fail
 obtain ⟨k0a,k1a,k2a,h0a,h1a⟩:=eJ (nq+1) (.cells #[.int .u8 0,.string ⟨#[]⟩,.int .i64 0] 173) k0 k1 k2 hc0 hc1
 go_region
 have hA0:=fV (P:=P) t H0.out.2.1 H0.out.2.2 (World.size_alloc _ _) (nq+1)
 have hp0:=(H0.out.1.drawn (w':=(w.alloc (.cells rcZ.cells.toArray 60)).drewN (nq+1)) ⟨nq+1,rfl⟩).below ((θ).alloc (ν _) (.cells #[.int .u8 t.k,.string ⟨t.s.toArray⟩,.int .i64 t.n] 173))
 simp only [RC.cells,rcZ] at hA0 hp0
 have HA:=κ hA0
 have HP:=κ hp0
 clear hA0 hp0 k0a k1a k2a h0a h1a hc0 hc1 k0 k1 k2 H0 hin hinN hin0 hlt2 hltN
 generalize ((w.alloc (.cells #[.int .u8 0,.int .u8 0,.int .i64 0,.string ⟨#[]⟩,.bool false,.string ⟨#[]⟩,.string ⟨#[]⟩,.slice none 0 0] 60)).drewN (nq+1)).alloc (.cells #[.int .u8 t.k,.string ⟨t.s.toArray⟩,.int .i64 t.n] 173)=v0 at *
 have tk:=HA.out.cells.2.2.1
 have HI:=κ (aJ P d 0 (t::r) ⟨#[110,117,108,108]⟩ v0 HP.out false (by rw [show (⟨#[110,117,108,108]⟩:ByteArray).data.toList=bS from rfl,f0];rfl))
 go_wp2_with fail
 refine μ HI ?_
 rintro e v1 ⟨rfl,hb,hp⟩
 simp only [φ,if_false] at hp
 replace HA:=κ (HA.out.but hb hP)
 replace HP:=κ hp
 clear hb hp HI
 clear tk
 have HI:=κ (aJ P d 0 (t::r) ⟨#[116,114,117,101]⟩ v1 HP.out false (by rw [show (⟨#[116,114,117,101]⟩:ByteArray).data.toList=dJ from rfl,f1];rfl))
 go_wp2_with fail
 refine μ HI ?_
 rintro e v2 ⟨rfl,hb,hp⟩
 simp only [φ,if_false] at hp
 replace HA:=κ (HA.out.but hb hP)
 replace HP:=κ hp
 clear hb hp HI
 have HI:=κ (aJ P d 0 (t::r) ⟨#[102,97,108,115,101]⟩ v2 HP.out false (by rw [show (⟨#[102,97,108,115,101]⟩:ByteArray).data.toList=cH from rfl,f2];rfl))
 go_wp2_with fail
 refine μ HI ?_
 rintro e v3 ⟨rfl,hb,hp⟩
 simp only [φ,if_false] at hp
 replace HA:=κ (HA.out.but hb hP)
 replace HP:=κ hp
 clear hb hp HI
 have HI:=κ (bI P d 0 (t::r) ⟨#[40]⟩ v3 HP.out true (by rw [show (⟨#[40]⟩:ByteArray).data.toList=[40] from rfl,fy];rfl))
 go_wp2_with fail
 refine μ HI ?_
 rintro e v4 ⟨rfl,hd1⟩
 replace HA:=κ (HA.out.but hd1.but hP)
 replace HP:=κ (HP.out.drawn hd1)
 clear hd1 HI
 have HD:=κ (jY P d (t::r) v4 HP.out h40 (by omega))
 go_wp2_with fail
 refine μ HD ?_
 rintro e v5 ⟨rfl,hb,b',hb',hp⟩
 have hA1:=HA.out.but hb hP
 obtain ⟨⟨⟨a0,a1,a2,a3,a4,a5,a6,a7,a8,a9⟩,c0⟩,z0, -⟩:=hA1.cells
 obtain ⟨rz,hz⟩:=hA1.z
 have hcE:=β (aM rcZ hz)
 have HE:=κ (cT rcZ hA1.b rfl hP (show RBad P v5 d from ⟨t::r,d+1,b',hb',hp,by omega,by omega⟩) HQ.out)
 simp only [RC.cells] at c0
 clear hA1 hz hp hb HD HA HP HQ
 go_wp2
 change bodyPost _ _ _ _ _ (put8 _ w.heap.size rcZ)
 generalize put8 _ w.heap.size rcZ=WE at *
 simp only [RC.cells,rcZ] at hcE
 exact bodyPost_ret (v:=RC.val rcZ) (by simp [results,results134,go_sem,hcE,RC.val,rcZ]) rfl HE.out
theorem rR (P d:Nat) (t:Tok) (r:List Tok) (w:World) (h:RS w P (t::r) d 0) (hk2:t.k≠2) (hk3:t.k≠3) (f0:isF bS (t::r)=false) (f1:isF dJ (t::r)=false) (f2:isF cH (t::r)=false) (fy:isF [40] (t::r)=true) (h40:d+1≤40) (HE1:RvOk 1 P (d+1) r.length) :
 Calls prog 134 #[.pointer (some ⟨P,0,none⟩)] w (RPost P w d (pX 8 d (t::r))):=by
 have hq:pX 8 d (t::r)=if d+1≤40 then (match pX 1 (d+1) r with
  | none=>none
  | some (x,r2)=>(aE [41] r2).map fun r3=>(x,r3)) else none:=by rw [cU,dP,if_neg hk2,if_neg hk3,if_neg (by rw [f0];decide),if_neg (by rw [f1];decide),if_neg (by rw [f2];decide),if_pos fy];rfl
 have e1:(t.k==2)=false:=η hk2
 have e2:(t.k==3)=false:=η hk3
 rw [if_pos h40] at hq
 have HQ0:=κ hq
 have HF:=κ HE1
 clear hk2 hk3 hq HE1
 have hP:=h.lt
 have hb0:Below w.heap.size w (w.alloc (.cells rcZ.cells.toArray 60)):=ρ
 have hz0:=heap_alloc_new w (.cells rcZ.cells.toArray 60)
 have H0:=κ (ι (h.below hb0) (ι hb0 hz0))
 obtain ⟨A,c,i,h1,h2,h3⟩:=h.below hb0
 have hc0:=β h1 0
 have hc1:=β h1 1
 obtain ⟨b,off,rfl,hlt,k0,k1,k2⟩:=h2.front
 obtain ⟨n,hn⟩:∃ n,i+(t::r).length=n:=⟨_,rfl⟩
 rw [hn] at hc0
 have hin:(i:Int)<(n:Int):=by simp at hn;omega
 have hinN:i<n:=by simp at hn;omega
 have hin0:(0:Int)≤(i:Int):=by omega
 have hlt2:¬(n:Int)≤(i:Int):=by omega
 have hltN:¬n≤i:=by omega
 simp only [RC.cells,rcZ] at hc0 hc1 k0 k1 k2
 clear h hb0 hz0 h1 h2 h3 hn
 go_enter func134,ntmps134
 go_wp2_with fail
 go_quiet (fail)
 go_wp2_with fail
 obtain ⟨k0a,k1a,k2a,h0a,h1a⟩:=eJ (nq+1) (.cells #[.int .u8 0,.string ⟨#[]⟩,.int .i64 0] 173) k0 k1 k2 hc0 hc1
 go_region
 have hA0:=fV (P:=P) t H0.out.2.1 H0.out.2.2 (World.size_alloc _ _) (nq+1)
 have hp0:=(H0.out.1.drawn (w':=(w.alloc (.cells rcZ.cells.toArray 60)).drewN (nq+1)) ⟨nq+1,rfl⟩).below ((θ).alloc (ν _) (.cells #[.int .u8 t.k,.string ⟨t.s.toArray⟩,.int .i64 t.n] 173))
 simp only [RC.cells,rcZ] at hA0 hp0
 have HA:=κ hA0
 have HP:=κ hp0
 clear hA0 hp0 k0a k1a k2a h0a h1a hc0 hc1 k0 k1 k2 H0 hin hinN hin0 hlt2 hltN
 generalize ((w.alloc (.cells #[.int .u8 0,.int .u8 0,.int .i64 0,.string ⟨#[]⟩,.bool false,.string ⟨#[]⟩,.string ⟨#[]⟩,.slice none 0 0] 60)).drewN (nq+1)).alloc (.cells #[.int .u8 t.k,.string ⟨t.s.toArray⟩,.int .i64 t.n] 173)=v0 at *
 have tk:=HA.out.cells.2.2.1
 have HI:=κ (aJ P d 0 (t::r) ⟨#[110,117,108,108]⟩ v0 HP.out false (by rw [show (⟨#[110,117,108,108]⟩:ByteArray).data.toList=bS from rfl,f0];rfl))
 go_wp2_with fail
 refine μ HI ?_
 rintro e v1 ⟨rfl,hb,hp⟩
 simp only [φ,if_false] at hp
 replace HA:=κ (HA.out.but hb hP)
 replace HP:=κ hp
 clear hb hp HI
 clear tk
 have HI:=κ (aJ P d 0 (t::r) ⟨#[116,114,117,101]⟩ v1 HP.out false (by rw [show (⟨#[116,114,117,101]⟩:ByteArray).data.toList=dJ from rfl,f1];rfl))
 go_wp2_with fail
 refine μ HI ?_
 rintro e v2 ⟨rfl,hb,hp⟩
 simp only [φ,if_false] at hp
 replace HA:=κ (HA.out.but hb hP)
 replace HP:=κ hp
 clear hb hp HI
 have HI:=κ (aJ P d 0 (t::r) ⟨#[102,97,108,115,101]⟩ v2 HP.out false (by rw [show (⟨#[102,97,108,115,101]⟩:ByteArray).data.toList=cH from rfl,f2];rfl))
 go_wp2_with fail
 refine μ HI ?_
 rintro e v3 ⟨rfl,hb,hp⟩
 simp only [φ,if_false] at hp
 replace HA:=κ (HA.out.but hb hP)
 replace HP:=κ hp
 clear hb hp HI
 have HI:=κ (bI P d 0 (t::r) ⟨#[40]⟩ v3 HP.out true (by rw [show (⟨#[40]⟩:ByteArray).data.toList=[40] from rfl,fy];rfl))
 go_wp2_with fail
 refine μ HI ?_
 rintro e v4 ⟨rfl,hd1⟩
 replace HA:=κ (HA.out.but hd1.but hP)
 replace HP:=κ (HP.out.drawn hd1)
 clear hd1 HI
 have HD:=κ (iP P d (t::r) v4 HP.out h40)
 go_wp2_with fail
 refine μ HD ?_
 rintro e v5 ⟨rfl,hb,hp⟩
 obtain ⟨j,n1,n2,n3,n4⟩:=hp.next
 have hA1:=(HA.out.but hb hP).but (But.set P 1 v5 (.int .i64 ((j:Int)+1))) hP
 replace HA:=κ hA1
 have HC:=κ (show Calls prog 85 #[.pointer (some ⟨P,0,none⟩),.int .i64 1] _ _ from HF.out _ r (ν _) n4)
 replace HP:=κ n4
 clear hb hp n4 HD hA1 HF
 go_wp2_with fail
 refine μ HC ?_
 rintro e v6 hq6
 obtain ⟨⟨k,vk,vi,vs,vb,tt,ss,A,nn,c⟩,rfl,hb6,hq7⟩:=hq6.open_
 simp only [RC.val]
 have hA6:=HA.out.but hb6 hP
 have hL7:=hA6.lev ⟨k,vk,vi,vs,vb,tt,ss,A,nn,c⟩
 have hG:w.heap.size<v6.heap.size:=by have:=hA6.lt;omega
 have hb7:Below v6.heap.size v6 (v6.alloc (.cells #[.int .u8 k,.int .u8 vk,.int .i64 vi,.string vs,.bool vb,.string tt,.string ss,.slice A nn c] 60)):=ρ
 have hBs:=HA.out.lt
 have HL:=κ (show Lev w.heap.size v6.heap.size P w (v6.alloc (.cells #[.int .u8 k,.int .u8 vk,.int .i64 vi,.string vs,.bool vb,.string tt,.string ss,.slice A nn c] 60)) ⟨k,vk,vi,vs,vb,tt,ss,A,nn,c⟩ from hL7)
 clear hq6 hb6 hA6 hL7 HC n1 n2
 rcases hpx:pX 1 (d+1) r with _|⟨x,r2⟩
 ·have HQ:=κ (show pX 8 d (t::r)=none by rw [HQ0.out,hpx])
  rw [hpx] at hq7
  have hbad:RBad P v6 (d+1):=hq7
  have HNe:=κ (fL ⟨#[41]⟩ P (d+1) _ (hbad.below hb7))
  clear hpx hq7 hbad hb7 HQ0
  go_wp2_with fail
  refine μ HNe ?_
  rintro e v8 ⟨rfl,hb8,hbad8⟩
  have hL8:=HL.out.but hb8 hP hG
  clear hb8 HNe HL
  obtain ⟨e6,q1,q2,q3,q4,q5⟩:=RBad.up hbad8
  have hLF:=hL8.but (But.set P 2 v8 (.int .i64 ((e6:Int)-1))) hP hG
  have HE:=κ (cT ⟨k,vk,vi,vs,vb,tt,ss,A,nn,c⟩ hLF.b rfl hP q5 HQ.out)
  clear q5 hL8 hbad8
  obtain ⟨⟨⟨a0,a1,a2,a3,a4,a5,a6,a7,a8,a9⟩,c0⟩,c1,z0,z1⟩:=hLF.cells
  obtain ⟨rz,hz⟩:=hLF.z
  have hcE:=β (aM ⟨k,vk,vi,vs,vb,tt,ss,A,nn,c⟩ hz)
  simp only [RC.cells] at c0 c1
  clear hLF hz 
  go_wp2
  change bodyPost _ _ _ _ _ (put8 _ w.heap.size ⟨k,vk,vi,vs,vb,tt,ss,A,nn,c⟩)
  generalize put8 _ w.heap.size ⟨k,vk,vi,vs,vb,tt,ss,A,nn,c⟩=WE at *
  simp only [RC.cells] at hcE
  exact bodyPost_ret (v:=RC.val ⟨k,vk,vi,vs,vb,tt,ss,A,nn,c⟩) (by simp [results,results134,go_sem,hcE,RC.val]) rfl HE.out
 ·rw [hpx] at hq7
  obtain ⟨hx7,hp7⟩:=hq7
  have hp8:=hp7.below hb7
  have hx8:=RX.mono (S':=fun g=>w.heap.size<g) (fun g hg _=>Nat.lt_of_lt_of_le (by omega) hg) (RX.below hb7 hx7)
  have HX:=κ (ι hx8 hp8)
  cases hw:isF [41] r2
  ·have HQ:=κ (show pX 8 d (t::r)=none by rw [HQ0.out,hpx];show (aE [41] r2).map _=none;rw [aE,hw];rfl)
   have HNe:=κ (dK P (d+1) 0 r2 ⟨#[41]⟩ _ hp8 (by rw [show (⟨#[41]⟩:ByteArray).data.toList=[41] from rfl,hw];rfl))
   clear hpx hx7 hp7 hp8 hx8 hb7 hw HQ0
   go_wp2_with fail
   refine μ HNe ?_
   rintro e v8 ⟨rfl,hb8,b',hb',hp8⟩
   have hbad8:=dO hp8 hb' (by omega)
   have hL8:=HL.out.but hb8 hP hG
   clear hb8 HNe HL hp8 hb'
   obtain ⟨e6,q1,q2,q3,q4,q5⟩:=RBad.up hbad8
   have hLF:=hL8.but (But.set P 2 v8 (.int .i64 ((e6:Int)-1))) hP hG
   have HE:=κ (cT ⟨k,vk,vi,vs,vb,tt,ss,A,nn,c⟩ hLF.b rfl hP q5 HQ.out)
   clear q5 hL8 hbad8
   obtain ⟨⟨⟨a0,a1,a2,a3,a4,a5,a6,a7,a8,a9⟩,c0⟩,c1,z0,z1⟩:=hLF.cells
   obtain ⟨rz,hz⟩:=hLF.z
   have hcE:=β (aM ⟨k,vk,vi,vs,vb,tt,ss,A,nn,c⟩ hz)
   simp only [RC.cells] at c0 c1
   clear hLF hz 
   go_wp2
   change bodyPost _ _ _ _ _ (put8 _ w.heap.size ⟨k,vk,vi,vs,vb,tt,ss,A,nn,c⟩)
   generalize put8 _ w.heap.size ⟨k,vk,vi,vs,vb,tt,ss,A,nn,c⟩=WE at *
   simp only [RC.cells] at hcE
   exact bodyPost_ret (v:=RC.val ⟨k,vk,vi,vs,vb,tt,ss,A,nn,c⟩) (by simp [results,results134,go_sem,hcE,RC.val]) rfl HE.out
  ·have HQ:=κ (show pX 8 d (t::r)=some (x,r2.tail) by rw [HQ0.out,hpx];show (aE [41] r2).map _=_;rw [aE,hw];rfl)
   have HNe:=κ (dB P (d+1) r2 ⟨#[41]⟩ _ hp8 hw)
   clear hpx hx7 hp7 hp8 hx8 hb7 hw HQ0
   go_wp2_with fail
   refine μ HNe ?_
   rintro e v8 ⟨rfl,hb8,hp8⟩
   have hL8:=HL.out.but hb8 hP hG
   have hx8:=RX.but hb8 HX.out.2 HX.out.1
   clear hb8 HNe HL HX
   obtain ⟨e6,q1,q2,q3,q4,q5⟩:=RS.up2 hp8 (by omega)
   have hLF:=hL8.but (But.set P 2 v8 (.int .i64 ((e6:Int)-1))) hP hG
   have hxF:=hx8.far (g:=P) (o:=2) (v:=.int .i64 ((e6:Int)-1)) (fun k hk _=>by have:w.heap.size<k:=hk;omega)
   have HE:=κ (eM ⟨k,vk,vi,vs,vb,tt,ss,A,nn,c⟩ hLF.b rfl hP (S:=fun g=>w.heap.size<g) (fun _ h=>h) hxF q5 HQ.out)
   clear q5 hxF hx8 hL8 hp8
   obtain ⟨⟨⟨a0,a1,a2,a3,a4,a5,a6,a7,a8,a9⟩,c0⟩,c1,z0,z1⟩:=hLF.cells
   obtain ⟨rz,hz⟩:=hLF.z
   have hcE:=β (aM ⟨k,vk,vi,vs,vb,tt,ss,A,nn,c⟩ hz)
   simp only [RC.cells] at c0 c1
   clear hLF hz 
   go_wp2
   change bodyPost _ _ _ _ _ (put8 _ w.heap.size ⟨k,vk,vi,vs,vb,tt,ss,A,nn,c⟩)
   generalize put8 _ w.heap.size ⟨k,vk,vi,vs,vb,tt,ss,A,nn,c⟩=WE at *
   simp only [RC.cells] at hcE
   exact bodyPost_ret (v:=RC.val ⟨k,vk,vi,vs,vb,tt,ss,A,nn,c⟩) (by simp [results,results134,go_sem,hcE,RC.val]) rfl HE.out
