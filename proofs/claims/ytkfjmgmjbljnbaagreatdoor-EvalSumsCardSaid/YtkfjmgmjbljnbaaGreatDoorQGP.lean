/-
 Contracts and laws, joined: Ref16s, Ref16t, Ref16u. Conditions: those of each.
-/
import Derived.Test.YtkfjmgmjbljnbaaGreatDoorQGN
import Derived.Test.YtkfjmgmjbljnbaaGreatDoorQGL
import Derived.Test.YtkfjmgmjbljnbaaGreatDoorQGO
import Derived.Test.YtkfjmgmjbljnbaaGreatDoorQGB
set_option maxRecDepth 100000
set_option maxHeartbeats 8000000
namespace Go.Proofs.YtkfjmgmjbljnbaaGreatDoor
open Go.RowKit
theorem Lev.setT {B G P:Nat} {w0 w:World} {a b:List UInt8} (h:Lev B G P w0 w (rcC a b)) (hB:w0.heap.size=B) (hG:B<G) (m:List UInt8):Lev B G P w0 (w.setCell ⟨G,5,none⟩ (.string ⟨m.toArray⟩)) (rcC m b):=by
 obtain ⟨h1,⟨r0,h2⟩,h3⟩:=h
 refine ⟨but_set h1 (by omega) _ _,⟨r0,(Below.heap_setCell w ⟨G,5,none⟩ _ B (by show B≠G;omega)).trans h2⟩, ?_⟩
 have:=heap_setCell_same w G 5 _ _ (.string ⟨m.toArray⟩) h3
 rw [this]
 simp [rcC,RC.cells]
theorem Lev.setS {B G P:Nat} {w0 w:World} {a b:List UInt8} (h:Lev B G P w0 w (rcC a b)) (hB:w0.heap.size=B) (hG:B<G) (m:List UInt8):Lev B G P w0 (w.setCell ⟨G,6,none⟩ (.string ⟨m.toArray⟩)) (rcC a m):=by
 obtain ⟨h1,⟨r0,h2⟩,h3⟩:=h
 refine ⟨but_set h1 (by omega) _ _,⟨r0,(Below.heap_setCell w ⟨G,6,none⟩ _ B (by show B≠G;omega)).trans h2⟩, ?_⟩
 have:=heap_setCell_same w G 6 _ _ (.string ⟨m.toArray⟩) h3
 rw [this]
 simp [rcC,RC.cells]
theorem RNPost.open_ {P d:Nat} {w w':World} {q:Option (List UInt8×List Lp.Tok)} {e:Ending} (h:RNPost P w d q e w') :
 ∃ n:List UInt8,e=.returned (.string ⟨n.toArray⟩)∧But P w w'∧((q=none∧n=[]∧RBad P w' d)∨∃ r,q=some (n,r)∧RS w' P r d 0):=by
 obtain ⟨h1,h2⟩:=h
 cases q with
 | none=>exact ⟨[],h2.1,h1,.inl ⟨rfl,rfl,h2.2⟩⟩
 | some p=>exact ⟨p.1,h2.1,h1,.inr ⟨p.2,rfl,h2.2⟩⟩
theorem ratom_name (P d:Nat) (t:Lp.Tok) (r:List Lp.Tok) (w:World) (h:RS w P (t::r) d 0) (hk2:t.k≠2) (hk3:t.k≠3) (f0:Lp.isF Lp.wNull (t::r)=false) (f1:Lp.isF Lp.wTrue (t::r)=false) (f2:Lp.isF Lp.wFalse (t::r)=false) (f3:Lp.isF [40] (t::r)=false) (f4:Lp.isF Lp.wCount (t::r)=false) (f5:Lp.isF Lp.wSum (t::r)=false) (f6:Lp.isF Lp.wMin (t::r)=false) (f7:Lp.isF Lp.wMax (t::r)=false) (hd:d≤40) :
 Calls Tryz.prog 201 #[.pointer (some ⟨P,0,none⟩)] w (RPost P w d (Lp.pX 8 d (t::r))):=by
 have hq:Lp.pX 8 d (t::r)=Lp.colF (t::r):=by rw [Lp.pX_atom,Lp.pA_cons,if_neg hk2,if_neg hk3,if_neg (by rw [f0];decide),if_neg (by rw [f1];decide),if_neg (by rw [f2];decide),if_neg (by rw [f3];decide),if_neg (by rw [f4,f5,f6,f7];decide)]
 have HQ0:=κ hq
 have e1:(t.k==2)=false:=beq_eq_false_iff_ne.2 hk2
 have e2:(t.k==3)=false:=beq_eq_false_iff_ne.2 hk3
 clear hk2 hk3 hq
 have hP:=h.lt
 have hb0:Below w.heap.size w (w.alloc (.cells rcZ.cells.toArray 35)):=(Below.refl _ _).alloc (Nat.le_refl _) _
 have hz0:=heap_alloc_new w (.cells rcZ.cells.toArray 35)
 have H0:=κ (ι (h.below hb0) (ι hb0 hz0))
 obtain ⟨A,c,i,h1,h2,h3⟩:=h.below hb0
 have hc0:=β h1 0
 have hc1:=β h1 1
 obtain ⟨b,off,rfl,hlt,k0,k1,k2⟩:=h2.front
 obtain ⟨n,hn⟩:∃ n,i+(t::r).length=n:=⟨_,rfl⟩
 rw [hn] at hc0
 have hin:(i:Int)<(n:Int):=by simp at hn;omega
 have hinN:i<n:=by simp at hn;omega
 have hin0:(0:Int)≤(i:Int):=by omega
 have hlt2:¬(n:Int)≤(i:Int):=by omega
 have hltN:¬n≤i:=by omega
 simp only [RC.cells,rcZ] at hc0 hc1 k0 k1 k2
 clear h hb0 hz0 h1 h2 h3 hn
 go_enter Tryz.func201,Tryz.ntmps201
 go_wp2_with fail
 go_quiet (fail)
 go_wp2_with fail
 obtain ⟨k0a,k1a,k2a,h0a,h1a⟩:=five_at (nq+1) (.cells #[.int .u8 0,.string ⟨#[]⟩,.int .i64 0] 270) k0 k1 k2 hc0 hc1
 go_region
 have hA0:=at_new (P:=P) t H0.out.2.1 H0.out.2.2 (World.size_alloc _ _) (nq+1)
 have hp0:=(H0.out.1.drawn (w':=(w.alloc (.cells rcZ.cells.toArray 35)).drewN (nq+1)) ⟨nq+1,rfl⟩).below ((Below.refl _ _).alloc (Nat.le_refl _) (.cells #[.int .u8 t.k,.string ⟨t.s.toArray⟩,.int .i64 t.n] 270))
 simp only [RC.cells,rcZ] at hA0 hp0
 have HA:=κ hA0
 have HP:=κ hp0
 clear hA0 hp0 k0a k1a k2a h0a h1a hc0 hc1 k0 k1 k2 H0 hin hinN hin0 hlt2 hltN
 generalize ((w.alloc (.cells #[.int .u8 0,.int .u8 0,.int .i64 0,.string ⟨#[]⟩,.bool false,.string ⟨#[]⟩,.string ⟨#[]⟩,.slice none 0 0] 35)).drewN (nq+1)).alloc (.cells #[.int .u8 t.k,.string ⟨t.s.toArray⟩,.int .i64 t.n] 270)=v0 at *
 have tk:=HA.out.cells.2.2.1
 have HI:=κ (pass_any P d 0 (t::r) ⟨#[110,117,108,108]⟩ v0 HP.out false (by rw [show (⟨#[110,117,108,108]⟩:ByteArray).data.toList=Lp.wNull from rfl,f0];rfl))
 go_wp2_with fail
 refine HI.out.mono ?_
 rintro e v1 ⟨rfl,hb,hp⟩
 simp only [Bool.false_eq_true,if_false] at hp
 replace HA:=κ (HA.out.but hb hP)
 replace HP:=κ hp
 clear hb hp HI
 clear tk
 have HI:=κ (pass_any P d 0 (t::r) ⟨#[116,114,117,101]⟩ v1 HP.out false (by rw [show (⟨#[116,114,117,101]⟩:ByteArray).data.toList=Lp.wTrue from rfl,f1];rfl))
 go_wp2_with fail
 refine HI.out.mono ?_
 rintro e v2 ⟨rfl,hb,hp⟩
 simp only [Bool.false_eq_true,if_false] at hp
 replace HA:=κ (HA.out.but hb hP)
 replace HP:=κ hp
 clear hb hp HI
 have HI:=κ (pass_any P d 0 (t::r) ⟨#[102,97,108,115,101]⟩ v2 HP.out false (by rw [show (⟨#[102,97,108,115,101]⟩:ByteArray).data.toList=Lp.wFalse from rfl,f2];rfl))
 go_wp2_with fail
 refine HI.out.mono ?_
 rintro e v3 ⟨rfl,hb,hp⟩
 simp only [Bool.false_eq_true,if_false] at hp
 replace HA:=κ (HA.out.but hb hP)
 replace HP:=κ hp
 clear hb hp HI
 have HI:=κ (at_any P d 0 (t::r) ⟨#[40]⟩ v3 HP.out false (by rw [show (⟨#[40]⟩:ByteArray).data.toList=[40] from rfl,f3];rfl))
 go_wp2_with fail
 refine HI.out.mono ?_
 rintro e v4 ⟨rfl,hd1⟩
 replace HA:=κ (HA.out.but hd1.but hP)
 replace HP:=κ (HP.out.drawn hd1)
 clear hd1 HI
 have HI:=κ (at_any P d 0 (t::r) ⟨#[99,111,117,110,116]⟩ v4 HP.out false (by rw [show (⟨#[99,111,117,110,116]⟩:ByteArray).data.toList=Lp.wCount from rfl,f4];rfl))
 go_wp2_with fail
 refine HI.out.mono ?_
 rintro e v5 ⟨rfl,hd1⟩
 replace HA:=κ (HA.out.but hd1.but hP)
 replace HP:=κ (HP.out.drawn hd1)
 clear hd1 HI
 have HI:=κ (at_any P d 0 (t::r) ⟨#[115,117,109]⟩ v5 HP.out false (by rw [show (⟨#[115,117,109]⟩:ByteArray).data.toList=Lp.wSum from rfl,f5];rfl))
 go_wp2_with fail
 refine HI.out.mono ?_
 rintro e v6 ⟨rfl,hd1⟩
 replace HA:=κ (HA.out.but hd1.but hP)
 replace HP:=κ (HP.out.drawn hd1)
 clear hd1 HI
 have HI:=κ (at_any P d 0 (t::r) ⟨#[109,105,110]⟩ v6 HP.out false (by rw [show (⟨#[109,105,110]⟩:ByteArray).data.toList=Lp.wMin from rfl,f6];rfl))
 go_wp2_with fail
 refine HI.out.mono ?_
 rintro e v7 ⟨rfl,hd1⟩
 replace HA:=κ (HA.out.but hd1.but hP)
 replace HP:=κ (HP.out.drawn hd1)
 clear hd1 HI
 have HI:=κ (at_any P d 0 (t::r) ⟨#[109,97,120]⟩ v7 HP.out false (by rw [show (⟨#[109,97,120]⟩:ByteArray).data.toList=Lp.wMax from rfl,f7];rfl))
 go_wp2_with fail
 refine HI.out.mono ?_
 rintro e v8 ⟨rfl,hd1⟩
 replace HA:=κ (HA.out.but hd1.but hP)
 replace HP:=κ (HP.out.drawn hd1)
 clear hd1 HI
 have HNm:=κ (rname_any P d (t::r) v8 HP.out (by omega))
 go_wp2_with fail
 refine HNm.out.mono ?_
 rintro e u1 hn1
 obtain ⟨n1,rfl,hb1,hcase⟩:=hn1.open_
 have hA1:=HA.out.but hb1 hP
 have hG:w.heap.size<u1.heap.size:=by have:=hA1.lt;omega
 have hbG:Below u1.heap.size u1 (u1.alloc (.cells #[.int .u8 2,.int .u8 0,.int .i64 0,.string ⟨#[]⟩,.bool false,.string ⟨#[]⟩,.string ⟨n1.toArray⟩,.slice none 0 0] 35)):=(Below.refl _ _).alloc (Nat.le_refl _) _
 have hL2:Lev w.heap.size u1.heap.size P w (u1.alloc (.cells #[.int .u8 2,.int .u8 0,.int .i64 0,.string ⟨#[]⟩,.bool false,.string ⟨#[]⟩,.string ⟨n1.toArray⟩,.slice none 0 0] 35)) (rcC [] n1):=hA1.lev (rcC [] n1)
 have HL:=κ hL2
 clear hn1 hb1 hA1 hL2 HNm HA HP
 rcases hcase with ⟨hq1,rfl,hbad⟩|⟨r1,hq1,hp1⟩
 ·have HQ:=κ (show Lp.pX 8 d (t::r)=none by rw [HQ0.out,Lp.colF,hq1])
  have HPs:=κ (pass_bad ⟨#[46]⟩ P d _ (hbad.below hbG))
  clear hq1 hbad hbG HQ0
  go_wp2_with fail
  refine HPs.out.mono ?_
  rintro e u2 ⟨rfl,hb2,hbad2⟩
  have hLF:=HL.out.but hb2 hP hG
  have HE:=κ (ret_bad (rcC [] []) hLF.b rfl hP hbad2 HQ.out)
  clear hb2 hbad2 HPs HL
  obtain ⟨⟨⟨a0,a1,a2,a3,a4,a5,a6,a7,a8,a9⟩,c0⟩,c1,z0,z1⟩:=hLF.cells
  obtain ⟨rz,hz⟩:=hLF.z
  have hcE:=β (put8_box (rcC [] []) hz)
  simp only [RC.cells,rcC] at c0 c1
  clear hLF hz 
  go_wp2
  change bodyPost _ _ _ _ _ (put8 _ w.heap.size (rcC [] []))
  generalize put8 _ w.heap.size (rcC [] [])=WE at *
  simp only [RC.cells,rcC] at hcE
  exact bodyPost_ret (v:=RC.val (rcC [] [])) (by simp [results,Tryz.results201,go_sem,hcE,RC.val,rcC]) rfl HE.out
 ·cases hw:Lp.isF [46] r1
  ·have HQ:=κ (show Lp.pX 8 d (t::r)=some (.col [] n1,r1) by rw [HQ0.out,Lp.colF,hq1];show (if Lp.isF [46] r1=true then _ else _)=_;rw [hw];rfl)
   have HPs:=κ (pass_any P d 0 r1 ⟨#[46]⟩ _ (hp1.below hbG) false (by rw [show (⟨#[46]⟩:ByteArray).data.toList=[46] from rfl,hw];rfl))
   clear hq1 hp1 hbG HQ0 hw
   go_wp2_with fail
   refine HPs.out.mono ?_
   rintro e u2 ⟨rfl,hb2,hp2⟩
   simp only [Bool.false_eq_true,if_false] at hp2
   have hLF:=HL.out.but hb2 hP hG
   have HE:=κ (ret_good (rcC [] n1) hLF.b rfl hP (S:=fun g=>w.heap.size<g) (fun _ h=>h) (show RX _ _ (.col [] n1) (rcC [] n1) from rfl) hp2 HQ.out)
   clear hb2 hp2 HPs HL
   obtain ⟨⟨⟨a0,a1,a2,a3,a4,a5,a6,a7,a8,a9⟩,c0⟩,c1,z0,z1⟩:=hLF.cells
   obtain ⟨rz,hz⟩:=hLF.z
   have hcE:=β (put8_box (rcC [] n1) hz)
   simp only [RC.cells,rcC] at c0 c1
   clear hLF hz 
   go_wp2
   change bodyPost _ _ _ _ _ (put8 _ w.heap.size (rcC [] n1))
   generalize put8 _ w.heap.size (rcC [] n1)=WE at *
   simp only [RC.cells,rcC] at hcE
   exact bodyPost_ret (v:=RC.val (rcC [] n1)) (by simp [results,Tryz.results201,go_sem,hcE,RC.val,rcC]) rfl HE.out
  ·have HQ1:=κ (show Lp.pX 8 d (t::r)=(match Lp.nameF r1.tail with|none=>none|some (m,r2)=>some (.col n1 m,r2)) by rw [HQ0.out,Lp.colF,hq1];show (if Lp.isF [46] r1=true then _ else _)=_;rw [if_pos hw];cases Lp.nameF r1.tail<;>rfl)
   have HPs:=κ (pass_any P d 0 r1 ⟨#[46]⟩ _ (hp1.below hbG) true (by rw [show (⟨#[46]⟩:ByteArray).data.toList=[46] from rfl,hw];rfl))
   clear hq1 hp1 hbG HQ0 hw
   go_wp2_with fail
   refine HPs.out.mono ?_
   rintro e u2 ⟨rfl,hb2,hp2⟩
   simp only [if_true] at hp2
   have hL3:=HL.out.but hb2 hP hG
   have hL4:=hL3.setT rfl hG n1
   have HNm:=κ (rname_any P d r1.tail _ (hp2.far (g:=u1.heap.size) (o:=5) (v:=.string ⟨n1.toArray⟩) (by omega)) (by omega))
   obtain ⟨-,d1, -,y1⟩:=hL3.cells
   simp only [RC.cells,rcC] at d1
   have HL4:=κ hL4
   clear hb2 hp2 HPs HL hL3 hL4
   go_wp2_with fail
   refine HNm.out.mono ?_
   rintro e u3 hn3
   obtain ⟨n3,rfl,hb3,hcase⟩:=hn3.open_
   have hL5:=HL4.out.but hb3 hP hG
   have hLF:=hL5.setS rfl hG n3
   obtain ⟨-,d3, -,y3⟩:=hL5.cells
   simp only [RC.cells,rcC] at d3
   clear hn3 hb3 HL4 HNm d1 y1 hL5
   rcases hcase with ⟨hq3,rfl,hbad⟩|⟨r2,hq3,hp3⟩
   ·have HQ:=κ (show Lp.pX 8 d (t::r)=none by rw [HQ1.out,hq3])
    have HE:=κ (ret_bad (rcC n1 []) hLF.b rfl hP (hbad.far (g:=u1.heap.size) (o:=6) (v:=.string ⟨([]:List UInt8).toArray⟩) (by omega)) HQ.out)
    clear hq3 hbad HQ1
    obtain ⟨⟨⟨a0,a1,a2,a3,a4,a5,a6,a7,a8,a9⟩,c0⟩,c1,z0,z1⟩:=hLF.cells
    obtain ⟨rz,hz⟩:=hLF.z
    have hcE:=β (put8_box (rcC n1 []) hz)
    simp only [RC.cells,rcC] at c0 c1
    clear hLF hz 
    go_wp2
    change bodyPost _ _ _ _ _ (put8 _ w.heap.size (rcC n1 []))
    generalize put8 _ w.heap.size (rcC n1 [])=WE at *
    simp only [RC.cells,rcC] at hcE
    exact bodyPost_ret (v:=RC.val (rcC n1 [])) (by simp [results,Tryz.results201,go_sem,hcE,RC.val,rcC]) rfl HE.out
   ·have HQ:=κ (show Lp.pX 8 d (t::r)=some (.col n1 n3,r2) by rw [HQ1.out,hq3])
    have HE:=κ (ret_good (rcC n1 n3) hLF.b rfl hP (S:=fun g=>w.heap.size<g) (fun _ h=>h) (show RX _ _ (.col n1 n3) (rcC n1 n3) from rfl) (hp3.far (g:=u1.heap.size) (o:=6) (v:=.string ⟨n3.toArray⟩) (by omega)) HQ.out)
    clear hq3 hp3 HQ1
    obtain ⟨⟨⟨a0,a1,a2,a3,a4,a5,a6,a7,a8,a9⟩,c0⟩,c1,z0,z1⟩:=hLF.cells
    obtain ⟨rz,hz⟩:=hLF.z
    have hcE:=β (put8_box (rcC n1 n3) hz)
    simp only [RC.cells,rcC] at c0 c1
    clear hLF hz 
    go_wp2
    change bodyPost _ _ _ _ _ (put8 _ w.heap.size (rcC n1 n3))
    generalize put8 _ w.heap.size (rcC n1 n3)=WE at *
    simp only [RC.cells,rcC] at hcE
    exact bodyPost_ret (v:=RC.val (rcC n1 n3)) (by simp [results,Tryz.results201,go_sem,hcE,RC.val,rcC]) rfl HE.out
theorem ratom_any (P d n:Nat) (hd:d≤40) (HE:d+1≤40→∀ m,m<n→RvOk 1 P (d+1) m) (W:World) (l:List Lp.Tok) (hl:l.length≤n) (h:RS W P l d 0) :
 Calls Tryz.prog 201 #[.pointer (some ⟨P,0,none⟩)] W (RPost P W d (Lp.pX 8 d l)):=by
 cases l with
 | nil =>
   rw [Lp.pX_atom,Lp.pA_nil]
   exact ratom_nil P d W h (by omega)
 | cons t r =>
   have hE:d+1≤40→RvOk 1 P (d+1) r.length:=fun h40=>HE h40 r.length (by simp at hl;omega)
   by_cases h2:t.k=2
   ·exact ratom_num P d t r W h h2
   by_cases h3:t.k=3
   ·exact ratom_txt P d t r W h h3
   cases f0:Lp.isF Lp.wNull (t::r) with
   | true=>exact ratom_null P d t r W h h2 h3 f0
   | false =>
   cases f1:Lp.isF Lp.wTrue (t::r) with
   | true=>exact ratom_true P d t r W h h2 h3 f0 f1
   | false =>
   cases f2:Lp.isF Lp.wFalse (t::r) with
   | true=>exact ratom_false P d t r W h h2 h3 f0 f1 f2
   | false =>
   by_cases h40:d+1≤40
   ·cases f3:Lp.isF [40] (t::r) with
    | true=>exact ratom_paren_yes P d t r W h h2 h3 f0 f1 f2 f3 h40 (hE h40)
    | false =>
    cases f4:Lp.isF Lp.wCount (t::r) with
    | true=>exact ratom_count_yes P d t r W h h2 h3 f0 f1 f2 f3 f4 h40 (hE h40)
    | false =>
    cases f5:Lp.isF Lp.wSum (t::r) with
    | true=>exact ratom_sum_yes P d t r W h h2 h3 f0 f1 f2 f3 f4 f5 h40 (hE h40)
    | false =>
    cases f6:Lp.isF Lp.wMin (t::r) with
    | true=>exact ratom_min_yes P d t r W h h2 h3 f0 f1 f2 f3 f4 f5 f6 h40 (hE h40)
    | false =>
    cases f7:Lp.isF Lp.wMax (t::r) with
    | true=>exact ratom_max_yes P d t r W h h2 h3 f0 f1 f2 f3 f4 f5 f6 f7 h40 (hE h40)
    | false=>exact ratom_name P d t r W h h2 h3 f0 f1 f2 f3 f4 f5 f6 f7 hd
   ·have hn:40<d+1:=by omega
    cases f3:Lp.isF [40] (t::r) with
    | true=>exact ratom_paren_no P d t r W h h2 h3 f0 f1 f2 f3 hn (by omega)
    | false =>
    cases f4:Lp.isF Lp.wCount (t::r) with
    | true=>exact ratom_count_no P d t r W h h2 h3 f0 f1 f2 f3 f4 hn (by omega)
    | false =>
    cases f5:Lp.isF Lp.wSum (t::r) with
    | true=>exact ratom_sum_no P d t r W h h2 h3 f0 f1 f2 f3 f4 f5 hn (by omega)
    | false =>
    cases f6:Lp.isF Lp.wMin (t::r) with
    | true=>exact ratom_min_no P d t r W h h2 h3 f0 f1 f2 f3 f4 f5 f6 hn (by omega)
    | false =>
    cases f7:Lp.isF Lp.wMax (t::r) with
    | true=>exact ratom_max_no P d t r W h h2 h3 f0 f1 f2 f3 f4 f5 f6 f7 hn (by omega)
    | false=>exact ratom_name P d t r W h h2 h3 f0 f1 f2 f3 f4 f5 f6 f7 hd
structure AllR (P d n:Nat):Prop where
 e1:RvOk 1 P d n
 e3:RvOk 3 P d n
 e7:RvOk 7 P d n
theorem rlevels (P:Nat):∀ (n d:Nat),d≤40→AllR P d n:=by
 intro n
 induction n using Nat.strongRecOn with
 | _ n ih =>
   intro d hd
   have h8:=expr_8 P d n (ratom_any P d n hd (fun h40 m hm=>(ih m hm (d+1) h40).e1))
   have h7:=expr_7 P d n hd h8 (fun h40 m hm=>(ih m hm (d+1) h40).e7)
   have h4:=expr_4 P d n (by omega) (expr_5 P d n (expr_6 P d n h7))
   have h3:=expr_3 P d n hd h4 (fun h40 m hm=>(ih m hm (d+1) h40).e3)
   exact ⟨expr_1 P d n (expr_2 P d n h3),h3,h7⟩
def WhPost (P:Nat) (w:World) (q:Option (Lp.X×List Lp.Tok)) (g:Nat) (rr:RC) (w':World):Prop :=
 But P w w'∧w.heap.size≤g∧w'.heap[g]? = some (.cells rr.cells.toArray 35 (0,0))∧match q with
 | none=>RBad P w' 0
 | some (x,r)=>RX (fun k=>w.heap.size≤k) w' x rr∧RS w' P r 0 0
theorem whPost_of {P:Nat} {w w1 v:World} {q:Option (Lp.X×List Lp.Tok)} {rr:RC} (hb:But P w w1) (h:RPostR P w1 0 q rr v):WhPost P w q v.heap.size rr (v.alloc (.cells rr.cells.toArray 35)):=by
 have hb2:Below v.heap.size v (v.alloc (.cells rr.cells.toArray 35)):=(Below.refl _ _).alloc (Nat.le_refl _) _
 obtain ⟨h1,h2⟩:=h
 refine ⟨(hb.trans h1).trans (But.of hb2),(hb.trans h1).size,heap_alloc_new v _, ?_⟩
 cases q with
 | none=>exact RBad.below h2 hb2
 | some p=>exact ⟨RX.mono (fun g hg _=>Nat.le_trans hb.size hg) (RX.below hb2 h2.1),h2.2.below hb2⟩
theorem rwhere_any (P:Nat) (l:List Lp.Tok) (w:World) (h:RS w P l 0 0) (hf:Lp.isF [119,104,101,114,101] l=true) :
 Calls Tryz.prog 179 #[.pointer (some ⟨P,0,none⟩)] w fun e w'=>∃ g rr,e=.returned (.slice (some ⟨g,0,none⟩) 1 1)∧WhPost P w (Lp.pX 1 0 l.tail) g rr w':=by
 have HI:=κ (pass_any P 0 0 l ⟨#[119,104,101,114,101]⟩ w h true (by rw [show (⟨#[119,104,101,114,101]⟩:ByteArray).data.toList=[119,104,101,114,101] from rfl,hf];rfl))
 clear h hf
 go_enter Tryz.func179,Tryz.ntmps179
 go_wp2_with fail
 refine HI.out.mono ?_
 rintro e w1 ⟨rfl,hb1,hp1⟩
 simp only [if_true] at hp1
 have HC:=κ (show Calls Tryz.prog 178 #[.pointer (some ⟨P,0,none⟩),.int .i64 1] _ _ from (rlevels P l.tail.length 0 (by omega)).e1 w1 l.tail (Nat.le_refl _) hp1)
 clear hp1
 go_wp2_with fail
 refine HC.out.mono ?_
 rintro e w2 hq
 obtain ⟨⟨k,vk,vi,vs,vb,tt,ss,A,nn,c⟩,rfl,hq2⟩:=hq.open_
 simp only [RC.val]
 have HZ:=κ (whPost_of hb1 hq2)
 clear hq hq2 hb1 HC
 go_wp2
 go_ret
 exact ⟨_,_,rfl,HZ.out⟩
def stC (k:Int) (tb:List UInt8) (A:Option Addr) (n:Nat):List Value:=[.int .u8 k,.string ⟨#[]⟩,.string ⟨tb.toArray⟩,.string ⟨#[]⟩,.slice none 0 0,.slice none 0 0,.slice none 0 0,.slice none 0 0,.slice none 0 0,.slice A n n,.slice none 0 0,.slice none 0 0,.int .i64 0]
def stZ:List Value:=stC 0 [] none 0
def put13 (w:World) (g:Nat) (k:Int) (tb:List UInt8) (A:Option Addr) (n:Nat):World :=
 ((((((((((((w.setCell ⟨g,0,none⟩ (.int .u8 k)).setCell ⟨g,1,none⟩ (.string ⟨#[]⟩)).setCell ⟨g,2,none⟩ (.string ⟨tb.toArray⟩)).setCell ⟨g,3,none⟩ (.string ⟨#[]⟩)).setCell ⟨g,4,none⟩ (.slice none 0 0)).setCell ⟨g,5,none⟩ (.slice none 0 0)).setCell ⟨g,6,none⟩ (.slice none 0 0)).setCell ⟨g,7,none⟩ (.slice none 0 0)).setCell ⟨g,8,none⟩ (.slice none 0 0)).setCell ⟨g,9,none⟩ (.slice A n n)).setCell ⟨g,10,none⟩ (.slice none 0 0)).setCell ⟨g,11,none⟩ (.slice none 0 0)).setCell ⟨g,12,none⟩ (.int .i64 0)
theorem set13 (a0 a1 a2 a3 a4 a5 a6 a7 a8 a9 a10 a11 a12 b0 b1 b2 b3 b4 b5 b6 b7 b8 b9 b10 b11 b12:Value):(((((((((((((#[a0,a1,a2,a3,a4,a5,a6,a7,a8,a9,a10,a11,a12].setIfInBounds 0 b0).setIfInBounds 1 b1).setIfInBounds 2 b2).setIfInBounds 3 b3).setIfInBounds 4 b4).setIfInBounds 5 b5).setIfInBounds 6 b6).setIfInBounds 7 b7).setIfInBounds 8 b8).setIfInBounds 9 b9).setIfInBounds 10 b10).setIfInBounds 11 b11).setIfInBounds 12 b12)=#[b0,b1,b2,b3,b4,b5,b6,b7,b8,b9,b10,b11,b12]:=by simp
theorem put13_box {w:World} {g:Nat} {k0:Int} {tb0:List UInt8} {A0:Option Addr} {n0:Nat} {t:TypeId} (k:Int) (tb:List UInt8) (A:Option Addr) (n:Nat) (h:w.heap[g]? = some (.cells (stC k0 tb0 A0 n0).toArray t (0,0))):(put13 w g k tb A n).heap[g]? = some (.cells (stC k tb A n).toArray t (0,0)):=by
 change w.heap[g]? = some (.cells #[.int .u8 k0,.string ⟨#[]⟩,.string ⟨tb0.toArray⟩,.string ⟨#[]⟩,.slice none 0 0,.slice none 0 0,.slice none 0 0,.slice none 0 0,.slice none 0 0,.slice A0 n0 n0,.slice none 0 0,.slice none 0 0,.int .i64 0] t (0,0)) at h
 have h1:=heap_setCell_same _ g 0 _ _ (.int .u8 k) h
 have h2:=heap_setCell_same _ g 1 _ _ (.string ⟨#[]⟩) h1
 have h3:=heap_setCell_same _ g 2 _ _ (.string ⟨tb.toArray⟩) h2
 have h4:=heap_setCell_same _ g 3 _ _ (.string ⟨#[]⟩) h3
 have h5:=heap_setCell_same _ g 4 _ _ (.slice none 0 0) h4
 have h6:=heap_setCell_same _ g 5 _ _ (.slice none 0 0) h5
 have h7:=heap_setCell_same _ g 6 _ _ (.slice none 0 0) h6
 have h8:=heap_setCell_same _ g 7 _ _ (.slice none 0 0) h7
 have h9:=heap_setCell_same _ g 8 _ _ (.slice none 0 0) h8
 have h10:=heap_setCell_same _ g 9 _ _ (.slice A n n) h9
 have h11:=heap_setCell_same _ g 10 _ _ (.slice none 0 0) h10
 have h12:=heap_setCell_same _ g 11 _ _ (.slice none 0 0) h11
 have h13:=heap_setCell_same _ g 12 _ _ (.int .i64 0) h12
 rw [set13] at h13
 unfold put13
 rw [h13]
 rfl
theorem put13_far {w:World} {g j:Nat} {k:Int} {tb:List UInt8} {A:Option Addr} {n:Nat} (h:j≠g):(put13 w g k tb A n).heap[j]? = w.heap[j]? := by
 unfold put13
 simp only [fun (w:World) (o:Nat) (v:Value)=>Below.heap_setCell w ⟨g,o,none⟩ v j h]
theorem put13_but {P:Nat} {a w:World} {g:Nat} {k:Int} {tb:List UInt8} {A:Option Addr} {n:Nat} (h:But P a w) (hg:a.heap.size≤g):But P a (put13 w g k tb A n):=by
 unfold put13
 exact but_set (but_set (but_set (but_set (but_set (but_set (but_set (but_set (but_set (but_set (but_set (but_set (but_set h hg _ _) hg _ _) hg _ _) hg _ _) hg _ _) hg _ _) hg _ _) hg _ _) hg _ _) hg _ _) hg _ _) hg _ _) hg _ _
theorem put13_rs {w:World} {P d g:Nat} {bad:Int} {l:List Lp.Tok} {k:Int} {tb:List UInt8} {A:Option Addr} {n:Nat} (h:RS w P l d bad) (hP:P<g):RS (put13 w g k tb A n) P l d bad:=by
 obtain ⟨A0,c,i,h1,h2,h3⟩:=h
 refine ⟨A0,c,i,(put13_far (by omega)).trans h1, ?_,h3⟩
 rcases h2 with rfl|⟨b,off,hA,hlt,hc⟩
 ·exact .inl rfl
 ·exact .inr ⟨b,off,hA,hlt,fun j u hu=>(World.cell?_of_block (w:=w) (put13_far (by show b≠g;omega))).trans (hc j u hu)⟩
structure StS (B P:Nat) (w0 w:World) (k:Int) (tb:List UInt8) (A:Option Addr) (n:Nat):Prop where
 b:But P w0 w
 z:w.heap[B]? = some (.cells stZ.toArray 154 (0,0))
 x:w.heap[B+1]? = some (.cells (stC k tb A n).toArray 154 (0,0))
theorem stS_new (P:Nat) (w:World):StS w.heap.size P w ((w.alloc (.cells stZ.toArray 154)).alloc (.cells stZ.toArray 154)) 0 [] none 0:=by
 refine ⟨But.of (((Below.refl _ _).alloc (Nat.le_refl _) _).alloc (by simp) _),box_alloc (heap_alloc_new w _) _, ?_⟩
 have:=heap_alloc_new (w.alloc (.cells stZ.toArray 154)) (.cells stZ.toArray 154)
 rwa [World.size_alloc] at this
theorem StS.but {B P:Nat} {w0 w w':World} {k:Int} {tb:List UInt8} {A:Option Addr} {n:Nat} (h:StS B P w0 w k tb A n) (hb:But P w w') (hP:P<B):StS B P w0 w' k tb A n :=
 ⟨h.b.trans hb,but_box hb h.z (by omega),but_box hb h.x (by omega)⟩
theorem StS.cells {B P:Nat} {w0 w:World} {k:Int} {tb:List UInt8} {A:Option Addr} {n:Nat} (h:StS B P w0 w k tb A n):(∀ j,w.cell? ⟨B,j,none⟩=stZ.toArray[j]?)∧(∀ j,w.cell? ⟨B+1,j,none⟩=(stC k tb A n).toArray[j]?)∧(∀ j,w.frozen? ⟨B,j,none⟩=false)∧(∀ j,w.frozen? ⟨B+1,j,none⟩=false) :=
 ⟨β h.z,β h.x,fun j=>frozen_of_row w _ j _ _ h.z,fun j=>frozen_of_row w _ j _ _ h.x⟩
theorem StS.put {B P:Nat} {w0 w:World} {k:Int} {tb:List UInt8} {A:Option Addr} {n:Nat} (h:StS B P w0 w k tb A n) (hB:w0.heap.size≤B) (k2:Int) (tb2:List UInt8) (A2:Option Addr) (n2:Nat):StS B P w0 (put13 w (B+1) k2 tb2 A2 n2) k2 tb2 A2 n2 :=
 ⟨put13_but h.b (by omega),(put13_far (by omega)).trans h.z,put13_box k2 tb2 A2 n2 h.x⟩
theorem StS.wh {B P:Nat} {w0 w:World} {k:Int} {tb:List UInt8} (h:StS B P w0 w k tb none 0) (hB:w0.heap.size≤B) (g n:Nat):StS B P w0 (w.setCell ⟨B+1,9,none⟩ (.slice (some ⟨g,0,none⟩) n n)) k tb (some ⟨g,0,none⟩) n:=by
 refine ⟨but_set h.b (by omega) _ _,(Below.heap_setCell w ⟨B+1,9,none⟩ _ B (by show B≠B+1;omega)).trans h.z, ?_⟩
 have:=heap_setCell_same w (B+1) 9 _ _ (.slice (some ⟨g,0,none⟩) n n) h.x
 rw [this]
 simp [stC]
def stV (k:Int) (tb:List UInt8) (A:Option Addr) (n:Nat):Value:=.agg #[.int .u8 k,.string ⟨#[]⟩,.string ⟨tb.toArray⟩,.string ⟨#[]⟩,.slice none 0 0,.slice none 0 0,.slice none 0 0,.slice none 0 0,.slice none 0 0,.slice A n n,.slice none 0 0,.slice none 0 0,.int .i64 0]
def StPost (P:Nat) (w:World) (q:Option (Lp.X×List Lp.Tok)) (e:Ending) (w':World):Prop :=
 ∃ g rr,e=.returned (stV 7 [116] (some ⟨g,0,none⟩) 1)∧WhPost P w q g rr w'
theorem st_end {B P:Nat} {w0 v v2:World} {q:Option (Lp.X×List Lp.Tok)} {g:Nat} {rr:RC} (hB:w0.heap.size=B) (hP:P<B) (hb0:But P w0 v) (hv:B+2≤v.heap.size) (h:WhPost P v q g rr v2) :
 WhPost P w0 q g rr (put13 (v2.setCell ⟨B+1,9,none⟩ (.slice (some ⟨g,0,none⟩) 1 1)) B 7 [116] (some ⟨g,0,none⟩) 1):=by
 obtain ⟨h1,h2,h3,h4⟩:=h
 refine ⟨put13_but (but_set (hb0.trans h1) (by omega) _ _) (by omega),by omega, ?_, ?_⟩
 ·rw [put13_far (by omega),Below.heap_setCell _ _ _ _ (by show g≠B+1;omega)]
  exact h3
 ·cases q with
  | none =>
    obtain ⟨l',d',b',g0,g1,g2,g3⟩:=RBad.far (g:=B+1) (o:=9) (v:=.slice (some ⟨g,0,none⟩) 1 1) h4 (show P<B+1 by omega)
    exact ⟨l',d',b',g0,put13_rs g1 hP,g2,g3⟩
  | some p =>
    obtain ⟨x,r⟩:=p
    refine ⟨RX.turn (fun k cs hk hc=>⟨?_, ?_⟩) h4.1,put13_rs (h4.2.far (by omega)) hP⟩
    ·have:v.heap.size≤k:=hk
     show w0.heap.size≤k
     omega
    ·have:v.heap.size≤k:=hk
     rw [put13_far (by omega),Below.heap_setCell _ _ _ _ (by show k≠B+1;omega)]
     exact hc
theorem rstmt_any (P:Nat) (L:List Lp.Tok) (w:World) (h:RS w P (Lp.preT++L) 0 0) :
 Calls Tryz.prog 120 #[.pointer (some ⟨P,0,none⟩)] w (StPost P w (Lp.pX 1 0 L)):=by
 have hP:=h.lt
 have hS:=stS_new P w
 have hp:=h.below (((Below.refl w.heap.size w).alloc (Nat.le_refl _) (.cells stZ.toArray 154)).alloc (by simp) (.cells stZ.toArray 154))
 have HS:=κ hS
 have HP:=κ hp
 have HI:=κ (pass_any P 0 0 (Lp.preT++L) ⟨#[99,114,101,97,116,101]⟩ _ HP.out false rfl)
 clear h hS hp
 go_enter Tryz.func120,Tryz.ntmps120
 go_wp2_with fail
 refine HI.out.mono ?_
 rintro e v0 ⟨rfl,hb,hp⟩
 simp only [Bool.false_eq_true,if_false] at hp
 replace HS:=κ (HS.out.but hb hP)
 replace HP:=κ hp
 clear hb hp HI
 have HI:=κ (pass_any P 0 0 (Lp.preT++L) ⟨#[100,114,111,112]⟩ _ HP.out false rfl)
 go_wp2_with fail
 refine HI.out.mono ?_
 rintro e v1 ⟨rfl,hb,hp⟩
 simp only [Bool.false_eq_true,if_false] at hp
 replace HS:=κ (HS.out.but hb hP)
 replace HP:=κ hp
 clear hb hp HI
 have HI:=κ (pass_any P 0 0 (Lp.preT++L) ⟨#[105,110,115,101,114,116]⟩ _ HP.out false rfl)
 go_wp2_with fail
 refine HI.out.mono ?_
 rintro e v2 ⟨rfl,hb,hp⟩
 simp only [Bool.false_eq_true,if_false] at hp
 replace HS:=κ (HS.out.but hb hP)
 replace HP:=κ hp
 clear hb hp HI
 have HI:=κ (pass_any P 0 0 (Lp.preT++L) ⟨#[117,112,100,97,116,101]⟩ _ HP.out false rfl)
 go_wp2_with fail
 refine HI.out.mono ?_
 rintro e v3 ⟨rfl,hb,hp⟩
 simp only [Bool.false_eq_true,if_false] at hp
 replace HS:=κ (HS.out.but hb hP)
 replace HP:=κ hp
 clear hb hp HI
 have HI:=κ (pass_any P 0 0 (Lp.preT++L) ⟨#[100,101,108,101,116,101]⟩ _ HP.out true rfl)
 go_wp2_with fail
 refine HI.out.mono ?_
 rintro e v4 ⟨rfl,hb,hp⟩
 simp only [if_true] at hp
 replace HS:=κ (HS.out.but hb hP)
 replace HP:=κ hp
 clear hb hp HI
 have HI:=κ (rneed_yes P 0 (Lp.preT++L).tail ⟨#[102,114,111,109]⟩ _ HP.out rfl)
 go_wp2_with fail
 refine HI.out.mono ?_
 rintro e v5 ⟨rfl,hb,hp⟩
 replace HS:=κ (HS.out.but hb hP)
 replace HP:=κ hp
 clear hb hp HI
 have HI:=κ (rname_any P 0 (Lp.preT++L).tail.tail _ HP.out (by omega))
 go_wp2_with fail
 refine HI.out.mono ?_
 rintro e v6 hn
 have hn2:But P v5 v6∧e=.returned (.string ⟨#[116]⟩)∧RS v6 P (⟨1,[119,104,101,114,101],0⟩::L) 0 0:=hn
 obtain ⟨hb,rfl,hp⟩:=hn2
 replace HS:=κ (HS.out.but hb hP)
 obtain ⟨-,c1, -,z1⟩:=HS.out.cells
 simp only [stC] at c1
 have hSp:=HS.out.put (Nat.le_refl _) 7 [116] none 0
 have hpp:=put13_rs (k:=7) (tb:=[116]) (A:=none) (n:=0) hp (show P<w.heap.size+1 by omega)
 have hvs:w.heap.size+2≤(put13 v6 (w.heap.size+1) 7 [116] none 0).heap.size:=by have:=heap_lt hSp.x;omega
 obtain ⟨V,hV⟩:∃ V,put13 v6 (w.heap.size+1) 7 [116] none 0=V:=⟨_,rfl⟩
 rw [hV] at hSp hpp hvs
 simp only [put13] at hV
 have HV:=κ hV
 replace HS:=κ hSp
 have HW:=κ (rwhere_any P (⟨1,[119,104,101,114,101],0⟩::L) V hpp rfl)
 clear hn hb hp hSp hpp hV HI HP
 go_wp2_with fail
 rw [HV.out]
 refine HW.out.mono ?_
 rintro e v7 ⟨g,rr,rfl,hw⟩
 have hS7:=HS.out.but hw.1 hP
 have hS8:=hS7.wh (Nat.le_refl _) g 1
 have HE:=κ (st_end (q:=Lp.pX 1 0 L) rfl hP HS.out.b hvs hw)
 obtain ⟨c0,d1,z0,y1⟩:=hS8.cells
 obtain ⟨-,d7, -,y7⟩:=hS7.cells
 have hcE:=β (put13_box 7 [116] (some ⟨g,0,none⟩) 1 hS8.z)
 simp only [stC,stZ] at c0 d1 d7
 clear hw hS7 hS8 HS HV HW c1 z1
 go_wp2
 change bodyPost _ _ _ _ _ (put13 _ w.heap.size 7 [116] (some ⟨g,0,none⟩) 1)
 generalize put13 _ w.heap.size 7 [116] (some ⟨g,0,none⟩) 1=WE at *
 simp only [stC] at hcE
 exact bodyPost_ret (v:=stV 7 [116] (some ⟨g,0,none⟩) 1) (by simp [results,Tryz.results120,go_sem,hcE,stV]) rfl ⟨g,rr,rfl,HE.out⟩
end Go.Proofs.YtkfjmgmjbljnbaaGreatDoor
