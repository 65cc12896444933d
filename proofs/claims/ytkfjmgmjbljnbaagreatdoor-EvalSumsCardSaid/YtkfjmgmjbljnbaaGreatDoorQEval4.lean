/-
 eval's value of the nodes with parts. Conditions: what value gives of the parts.
-/
import Derived.Test.YtkfjmgmjbljnbaaGreatDoorQZF
import Derived.Deep.RegionHeld3
set_option maxRecDepth 100000
set_option maxHeartbeats 8000000
namespace Go.Proofs.YtkfjmgmjbljnbaaGreatDoor
open Go.RowKit
theorem firstV_one (sc:List Lp.Tb) (f:Fr) (x:Lp.X):firstV sc f [x]=(fev sc f x).2:=by
 show (if (fev sc f x).2=0 then (0:Int) else _)=_
 split
 ·rename_i h;exact h.symm
 ·rfl
theorem firstV_two (sc:List Lp.Tb) (f:Fr) (x y:Lp.X):firstV sc f [x,y]=if (fev sc f x).2=0 then (fev sc f y).2 else (fev sc f x).2:=by
 show (if (fev sc f x).2=0 then firstV sc f [y] else _)=_
 rw [firstV_one]
theorem isX_f (v:Lp.V):Lp.isX false v=(Lp.truV (v.k==0),0):=by
 show (Lp.truV (false !=(v.k==0)),(0:Int))=_
 cases (v.k==0)<;>rfl
theorem isX_t (v:Lp.V):Lp.isX true v=(Lp.truV (v.k !=0),0):=by
 show (Lp.truV (true !=(v.k==0)),(0:Int))=(Lp.truV (!(v.k==0)),0)
 cases (v.k==0)<;>rfl
theorem tri_post {bad:Bool} {n:Int} {w w':World} {e:Ending} (h:TruthPost bad n w e w'):EvPost (Lp.triV bad n) w e w':=by
 obtain ⟨h1,h2⟩:=h
 refine ⟨?_,h2⟩
 subst h1
 cases bad<;>rfl
theorem EvPost.form {p:Lp.V×Int} {w w':World} {e:Ending} (h:EvPost p w e w'):∃ k i s b E,p=(⟨k,i,s,b⟩,E)∧e=.returned (.tuple #[.agg #[.int .u8 k,.int .i64 i,.string s,.bool b],.int .i64 E])∧Below w.heap.size w w':=by
 obtain ⟨⟨k,i,s,b⟩,E⟩:=p
 exact ⟨k,i,s,b,E,rfl,h.1,h.2⟩
theorem ev_not (sc:List Lp.Tb) (f:Fr) (x:Lp.X) (ih:EvOk sc f x):EvOk sc f (.un Lp.uNot x):=by
 intro S w g hnt hF
 obtain ⟨-,A,c,g1,hg,hp,hx⟩:=hnt
 obtain ⟨fr,hfr⟩:∃ u,u=f.r.val:=⟨_,rfl⟩
 have hb1:Below w.heap.size w ((w.alloc (.cells #[fr,.slice f.A f.R.length f.c,.bool f.g] 105)).alloc (.cells #[.int .u8 0,.int .i64 0,.string ⟨#[]⟩,.bool false] 31)):=ba (ba (Below.refl _ _) _) _
 have hr1:=heap_new2 w (.cells #[fr,.slice f.A f.R.length f.c,.bool f.g] 105) (.cells #[.int .u8 0,.int .i64 0,.string ⟨#[]⟩,.bool false] 31)
 have hx1:=box_alloc (heap_alloc_new w (.cells #[fr,.slice f.A f.R.length f.c,.bool f.g] 105)) (.cells #[.int .u8 0,.int .i64 0,.string ⟨#[]⟩,.bool false] 31)
 have hg1:=box_below hg hb1
 have HP:=κ (eparts_any sc f [x] [g1] S g _ _ _ _ A c _ (hF.below hb1) (by simp) hg1 (hp.turn (Turn.below hb1) (by simp)) ⟨hx.below hb1,trivial⟩ (by intro z hz;rw [List.mem_singleton] at hz;subst hz;exact ih))
 have hc:=β hg1
 have hcx:=β hx1
 have H1:=κ (ι hb1 (ι hr1 hg1))
 unfold Fr.val at HP ⊢
 rw [←hfr] at HP ⊢
 clear hfr hb1 hr1 hx1 hg1 hg hp hx ih hF
 rw [show unN Lp.uNot=[78,79,84] from rfl] at H1 hc
 simp only [ndv] at hc
 unfold ptr at *
 go_enter Tryz.func45,Tryz.ntmps45
 go_wp2_with fail
 refine HP.out.mono ?_
 rintro e w1 ⟨hb2,hq⟩
 have hk1:=H1.out.1.trans (hb2.mono H1.out.1.size)
 have hr2:=box_below H1.out.2.1 hb2
 have hg2:=box_below H1.out.2.2 hb2
 have hc2:=β hg2
 simp only [ndv] at hc2
 have hk2:=κ (ι hk1 hr2)
 clear hb2 hg2 hk1 hr2 hc hcx H1 HP
 rw [firstV_one] at hq
 have hev:Lp.evalX sc (.un Lp.uNot x) f.row f.rows=Lp.thenV (fev sc f x) (Lp.unX Lp.uNot):=rfl
 obtain ⟨p,hp⟩:∃ p,fev sc f x=p:=⟨_,rfl⟩
 simp only [List.map_cons,List.map_nil] at hq
 rw [hp] at hq hev
 obtain ⟨v1,E⟩:=p
 by_cases h0:E=0
 ·subst h0
  have hev2:Lp.evalX sc (.un Lp.uNot x) f.row f.rows=Lp.unX Lp.uNot v1:=hev.trans (if_pos rfl)
  have HQ:=κ hev2
  rw [if_pos rfl] at hq
  obtain ⟨Ao,co,rfl,hrd⟩:=hq
  obtain ⟨bA,oA,hA,hv⟩:=RdsV.vat (i:=0) hrd (by simp)
  subst hA
  obtain ⟨q0,q1,q2,q3⟩:=hv
  simp only [Nat.zero_mul,Nat.add_zero,List.getElem_cons_zero] at q0 q1 q2 q3
  obtain ⟨k1,i1,s1,b1⟩:=v1
  clear hp hev hev2 hrd
  have HK:=κ (fun W=>(cnot_any k1 i1 s1 b1 W).mono fun e w' h=>(show EvPost (Lp.unX Lp.uNot ⟨k1,i1,s1,b1⟩) W e w' from tri_post h))
  go_wp2_with fail
  refine (HK.out _).mono ?_
  rintro e w2 hj
  obtain ⟨k,vi,vs,vb,E,hE,rfl,hb3⟩:=hj.form
  rw [hE] at HQ
  clear hj hE HK
  have hr3:=box_below hk2.out.2 hb3
  have hk3:=hk2.out.1.trans (hb3.mono hk2.out.1.size)
  have hc1:=β hr3
  have hf1:=fun j=>frozen_of_row _ _ j _ _ hr3
  have HCE:=κ (β (set4_same hr3 (.int .u8 k) (.int .i64 vi) (.string vs) (.bool vb)))
  have K5:=κ (below_set4 hk3 (g:=w.heap.size+1) (by omega) (.int .u8 k) (.int .i64 vi) (.string vs) (.bool vb))
  clear hb3 hr3 hk3
  clear q0 q1 q2 q3
  go_wp2
  have hcE:=HCE.out
  exact bodyPost_ret (v:=.tuple #[.agg #[.int .u8 k,.int .i64 vi,.string vs,.bool vb],.int .i64 E]) (by simp [results,Tryz.results45,go_sem,hcE]) rfl (EvPost.mk HQ.out K5.out)
 ·have hev2:Lp.evalX sc (.un Lp.uNot x) f.row f.rows=(Lp.nullV,E):=hev.trans (if_neg h0)
  have HQ:=κ hev2
  rw [if_neg h0] at hq
  subst hq
  have e8:(E==0)=false:=beq_eq_false_iff_ne.2 h0
  have e9:(E !=0)=true:=by rw [bne,e8];rfl
  have hc1:=β hk2.out.2
  have hf1:=fun j=>frozen_of_row _ _ j _ _ hk2.out.2
  have HCE:=κ (β (set4_same hk2.out.2 (.int .u8 0) (.int .i64 0) (.string ⟨#[]⟩) (.bool false)))
  have K5:=κ (below_set4 hk2.out.1 (g:=w.heap.size+1) (by omega) (.int .u8 0) (.int .i64 0) (.string ⟨#[]⟩) (.bool false))
  clear h0 hev hev2 hp
  go_wp2
  have hcE:=HCE.out
  exact bodyPost_ret (v:=.tuple #[.agg #[.int .u8 0,.int .i64 0,.string ⟨#[]⟩,.bool false],.int .i64 E]) (by simp [results,Tryz.results45,go_sem,hcE]) rfl (EvPost.mk HQ.out K5.out)
theorem ev_neg (sc:List Lp.Tb) (f:Fr) (x:Lp.X) (ih:EvOk sc f x) (hin:Lp.inR (fev sc f x).1.i):EvOk sc f (.un [45] x):=by
 intro S w g hnt hF
 obtain ⟨-,A,c,g1,hg,hp,hx⟩:=hnt
 obtain ⟨fr,hfr⟩:∃ u,u=f.r.val:=⟨_,rfl⟩
 have hb1:Below w.heap.size w ((w.alloc (.cells #[fr,.slice f.A f.R.length f.c,.bool f.g] 105)).alloc (.cells #[.int .u8 0,.int .i64 0,.string ⟨#[]⟩,.bool false] 31)):=ba (ba (Below.refl _ _) _) _
 have hr1:=heap_new2 w (.cells #[fr,.slice f.A f.R.length f.c,.bool f.g] 105) (.cells #[.int .u8 0,.int .i64 0,.string ⟨#[]⟩,.bool false] 31)
 have hx1:=box_alloc (heap_alloc_new w (.cells #[fr,.slice f.A f.R.length f.c,.bool f.g] 105)) (.cells #[.int .u8 0,.int .i64 0,.string ⟨#[]⟩,.bool false] 31)
 have hg1:=box_below hg hb1
 have HP:=κ (eparts_any sc f [x] [g1] S g _ _ _ _ A c _ (hF.below hb1) (by simp) hg1 (hp.turn (Turn.below hb1) (by simp)) ⟨hx.below hb1,trivial⟩ (by intro z hz;rw [List.mem_singleton] at hz;subst hz;exact ih))
 have hc:=β hg1
 have hcx:=β hx1
 have H1:=κ (ι hb1 (ι hr1 hg1))
 unfold Fr.val at HP ⊢
 rw [←hfr] at HP ⊢
 clear hfr hb1 hr1 hx1 hg1 hg hp hx ih hF
 rw [show unN [45]=[110,101,103] from rfl] at H1 hc
 have HI:=κ hin
 clear hin
 simp only [ndv] at hc
 unfold ptr at *
 go_enter Tryz.func45,Tryz.ntmps45
 go_wp2_with fail
 refine HP.out.mono ?_
 rintro e w1 ⟨hb2,hq⟩
 have hk1:=H1.out.1.trans (hb2.mono H1.out.1.size)
 have hr2:=box_below H1.out.2.1 hb2
 have hg2:=box_below H1.out.2.2 hb2
 have hc2:=β hg2
 simp only [ndv] at hc2
 have hk2:=κ (ι hk1 hr2)
 clear hb2 hg2 hk1 hr2 hc hcx H1 HP
 rw [firstV_one] at hq
 have hev:Lp.evalX sc (.un [45] x) f.row f.rows=Lp.thenV (fev sc f x) (Lp.unX [45]):=rfl
 obtain ⟨p,hp⟩:∃ p,fev sc f x=p:=⟨_,rfl⟩
 simp only [List.map_cons,List.map_nil] at hq
 rw [hp] at hq hev HI
 obtain ⟨v1,E⟩:=p
 by_cases h0:E=0
 ·subst h0
  have hev2:Lp.evalX sc (.un [45] x) f.row f.rows=Lp.unX [45] v1:=hev.trans (if_pos rfl)
  have HQ:=κ hev2
  rw [if_pos rfl] at hq
  obtain ⟨Ao,co,rfl,hrd⟩:=hq
  obtain ⟨bA,oA,hA,hv⟩:=RdsV.vat (i:=0) hrd (by simp)
  subst hA
  obtain ⟨q0,q1,q2,q3⟩:=hv
  simp only [Nat.zero_mul,Nat.add_zero,List.getElem_cons_zero] at q0 q1 q2 q3
  obtain ⟨k1,i1,s1,b1⟩:=v1
  clear hp hev hev2 hrd
  have HK:=κ (fun W=>(two_any [45] (by decide) (Lp.numV 0) ⟨k1,i1,s1,b1⟩ W (by simp [Lp.numV,Lp.inR]) HI.out))
  simp only [vv4,Lp.numV] at HK
  have hbn:Below w1.heap.size w1 (w1.alloc (.cells #[.int .u8 1,.int .i64 0,.string ⟨#[]⟩,.bool false] 31)):=ba (Below.refl _ _) _
  have z0:=cell_belo q0 hbn
  have z1:=cell_belo q1 hbn
  have z2:=cell_belo q2 hbn
  have z3:=cell_belo q3 hbn
  go_wp2_with fail
  go_region_with (first
   | (go_at_call 89;refine (number_any 0 _).mono ?_;rintro e w2 ⟨rfl,rfl⟩)
   | (go_at_call 88;refine (HK.out _).mono ?_;rintro e w2 hj;obtain ⟨k,vi,vs,vb,E,hE,rfl,hb3⟩:=hj.form;have hb3:Below w1.heap.size w1 w2:=(by first|exact hbn.drew.trans (hb3.mono hbn.size)|exact hbn.trans (hb3.mono hbn.size));have hr3:=box_below hk2.out.2 hb3;have hk3:=hk2.out.1.trans (hb3.mono hk2.out.1.size);have hc1:=β hr3;have hf1:=fun j=>frozen_of_row _ _ j _ _ hr3;have HCE:=κ (β (set4_same hr3 (.int .u8 k) (.int .i64 vi) (.string vs) (.bool vb)));have K5:=κ (below_set4 hk3 (g:=w.heap.size+1) (by omega) (.int .u8 k) (.int .i64 vi) (.string vs) (.bool vb));clear hb3 hr3 hk3))
  all_goals
   rw [show Lp.unX [45] ⟨k1,i1,s1,b1⟩=Lp.twoX [45] (Lp.numV 0) ⟨k1,i1,s1,b1⟩ from rfl,show Lp.numV 0=⟨1,0,⟨#[]⟩,false⟩ from rfl,hE] at HQ
   clear hj hE HK q0 q1 q2 q3 z0 z1 z2 z3
   go_wp2
   have hcE:=HCE.out
   exact bodyPost_ret (v:=.tuple #[.agg #[.int .u8 k,.int .i64 vi,.string vs,.bool vb],.int .i64 E]) (by simp [results,Tryz.results45,go_sem,hcE]) rfl (EvPost.mk HQ.out K5.out)
 ·have hev2:Lp.evalX sc (.un [45] x) f.row f.rows=(Lp.nullV,E):=hev.trans (if_neg h0)
  have HQ:=κ hev2
  rw [if_neg h0] at hq
  subst hq
  have e8:(E==0)=false:=beq_eq_false_iff_ne.2 h0
  have e9:(E !=0)=true:=by rw [bne,e8];rfl
  have hc1:=β hk2.out.2
  have hf1:=fun j=>frozen_of_row _ _ j _ _ hk2.out.2
  have HCE:=κ (β (set4_same hk2.out.2 (.int .u8 0) (.int .i64 0) (.string ⟨#[]⟩) (.bool false)))
  have K5:=κ (below_set4 hk2.out.1 (g:=w.heap.size+1) (by omega) (.int .u8 0) (.int .i64 0) (.string ⟨#[]⟩) (.bool false))
  clear h0 hev hev2 hp
  go_wp2
  have hcE:=HCE.out
  exact bodyPost_ret (v:=.tuple #[.agg #[.int .u8 0,.int .i64 0,.string ⟨#[]⟩,.bool false],.int .i64 E]) (by simp [results,Tryz.results45,go_sem,hcE]) rfl (EvPost.mk HQ.out K5.out)
theorem ev_is (sc:List Lp.Tb) (f:Fr) (x:Lp.X) (ih:EvOk sc f x):EvOk sc f (.isn false x):=by
 intro S w g hnt hF
 obtain ⟨-,A,c,g1,hg,hp,hx⟩:=hnt
 obtain ⟨fr,hfr⟩:∃ u,u=f.r.val:=⟨_,rfl⟩
 have hb1:Below w.heap.size w ((w.alloc (.cells #[fr,.slice f.A f.R.length f.c,.bool f.g] 105)).alloc (.cells #[.int .u8 0,.int .i64 0,.string ⟨#[]⟩,.bool false] 31)):=ba (ba (Below.refl _ _) _) _
 have hr1:=heap_new2 w (.cells #[fr,.slice f.A f.R.length f.c,.bool f.g] 105) (.cells #[.int .u8 0,.int .i64 0,.string ⟨#[]⟩,.bool false] 31)
 have hx1:=box_alloc (heap_alloc_new w (.cells #[fr,.slice f.A f.R.length f.c,.bool f.g] 105)) (.cells #[.int .u8 0,.int .i64 0,.string ⟨#[]⟩,.bool false] 31)
 have hg1:=box_below hg hb1
 have HP:=κ (eparts_any sc f [x] [g1] S g _ _ _ _ A c _ (hF.below hb1) (by simp) hg1 (hp.turn (Turn.below hb1) (by simp)) ⟨hx.below hb1,trivial⟩ (by intro z hz;rw [List.mem_singleton] at hz;subst hz;exact ih))
 have hc:=β hg1
 have hcx:=β hx1
 have H1:=κ (ι hb1 (ι hr1 hg1))
 unfold Fr.val at HP ⊢
 rw [←hfr] at HP ⊢
 clear hfr hb1 hr1 hx1 hg1 hg hp hx ih hF
 rw [show isN false=[73,83,32,78,85,76,76] from rfl] at H1 hc
 simp only [ndv] at hc
 unfold ptr at *
 go_enter Tryz.func45,Tryz.ntmps45
 go_wp2_with fail
 refine HP.out.mono ?_
 rintro e w1 ⟨hb2,hq⟩
 have hk1:=H1.out.1.trans (hb2.mono H1.out.1.size)
 have hr2:=box_below H1.out.2.1 hb2
 have hg2:=box_below H1.out.2.2 hb2
 have hc2:=β hg2
 simp only [ndv] at hc2
 have hk2:=κ (ι hk1 hr2)
 clear hb2 hg2 hk1 hr2 hc hcx H1 HP
 rw [firstV_one] at hq
 have hev:Lp.evalX sc (.isn false x) f.row f.rows=Lp.thenV (fev sc f x) (Lp.isX false):=rfl
 obtain ⟨p,hp⟩:∃ p,fev sc f x=p:=⟨_,rfl⟩
 simp only [List.map_cons,List.map_nil] at hq
 rw [hp] at hq hev
 obtain ⟨v1,E⟩:=p
 by_cases h0:E=0
 ·subst h0
  have hev2:Lp.evalX sc (.isn false x) f.row f.rows=Lp.isX false v1:=hev.trans (if_pos rfl)
  have HQ:=κ hev2
  rw [if_pos rfl] at hq
  obtain ⟨Ao,co,rfl,hrd⟩:=hq
  obtain ⟨bA,oA,hA,hv⟩:=RdsV.vat (i:=0) hrd (by simp)
  subst hA
  obtain ⟨q0,q1,q2,q3⟩:=hv
  simp only [Nat.zero_mul,Nat.add_zero,List.getElem_cons_zero] at q0 q1 q2 q3
  obtain ⟨k1,i1,s1,b1⟩:=v1
  clear hp hev hev2 hrd
  obtain ⟨B,hB⟩:∃ B,(k1==0)=B:=⟨_,rfl⟩
  have hQB:Lp.isX false ⟨k1,i1,s1,b1⟩=(⟨3,0,⟨#[]⟩,B⟩,0):=by rw [←hB];exact isX_f _
  rw [hQB] at HQ
  clear hQB
  go_wp2_with fail
  refine (etruth_any B _).mono ?_
  rintro e w2 ⟨rfl,rfl⟩
  have hb3:Below w1.heap.size w1 (w1.alloc (.cells #[.int .u8 3,.int .i64 0,.string ⟨#[]⟩,.bool B] 31)):=ba (Below.refl _ _) _
  have hr3:=box_below hk2.out.2 hb3
  have hk3:=hk2.out.1.trans (hb3.mono hk2.out.1.size)
  have hc1:=β hr3
  have hf1:=fun j=>frozen_of_row _ _ j _ _ hr3
  have HCE:=κ (β (set4_same hr3 (.int .u8 3) (.int .i64 0) (.string ⟨#[]⟩) (.bool B)))
  have K5:=κ (below_set4 hk3 (g:=w.heap.size+1) (by omega) (.int .u8 3) (.int .i64 0) (.string ⟨#[]⟩) (.bool B))
  clear hb3 hr3 hk3
  clear q0 q1 q2 q3 hB
  go_wp2
  have hcE:=HCE.out
  exact bodyPost_ret (v:=.tuple #[.agg #[.int .u8 3,.int .i64 0,.string ⟨#[]⟩,.bool B],.int .i64 0]) (by simp [results,Tryz.results45,go_sem,hcE]) rfl (EvPost.mk HQ.out K5.out)
 ·have hev2:Lp.evalX sc (.isn false x) f.row f.rows=(Lp.nullV,E):=hev.trans (if_neg h0)
  have HQ:=κ hev2
  rw [if_neg h0] at hq
  subst hq
  have e8:(E==0)=false:=beq_eq_false_iff_ne.2 h0
  have e9:(E !=0)=true:=by rw [bne,e8];rfl
  have hc1:=β hk2.out.2
  have hf1:=fun j=>frozen_of_row _ _ j _ _ hk2.out.2
  have HCE:=κ (β (set4_same hk2.out.2 (.int .u8 0) (.int .i64 0) (.string ⟨#[]⟩) (.bool false)))
  have K5:=κ (below_set4 hk2.out.1 (g:=w.heap.size+1) (by omega) (.int .u8 0) (.int .i64 0) (.string ⟨#[]⟩) (.bool false))
  clear h0 hev hev2 hp
  go_wp2
  have hcE:=HCE.out
  exact bodyPost_ret (v:=.tuple #[.agg #[.int .u8 0,.int .i64 0,.string ⟨#[]⟩,.bool false],.int .i64 E]) (by simp [results,Tryz.results45,go_sem,hcE]) rfl (EvPost.mk HQ.out K5.out)
theorem ev_isnot (sc:List Lp.Tb) (f:Fr) (x:Lp.X) (ih:EvOk sc f x):EvOk sc f (.isn true x):=by
 intro S w g hnt hF
 obtain ⟨-,A,c,g1,hg,hp,hx⟩:=hnt
 obtain ⟨fr,hfr⟩:∃ u,u=f.r.val:=⟨_,rfl⟩
 have hb1:Below w.heap.size w ((w.alloc (.cells #[fr,.slice f.A f.R.length f.c,.bool f.g] 105)).alloc (.cells #[.int .u8 0,.int .i64 0,.string ⟨#[]⟩,.bool false] 31)):=ba (ba (Below.refl _ _) _) _
 have hr1:=heap_new2 w (.cells #[fr,.slice f.A f.R.length f.c,.bool f.g] 105) (.cells #[.int .u8 0,.int .i64 0,.string ⟨#[]⟩,.bool false] 31)
 have hx1:=box_alloc (heap_alloc_new w (.cells #[fr,.slice f.A f.R.length f.c,.bool f.g] 105)) (.cells #[.int .u8 0,.int .i64 0,.string ⟨#[]⟩,.bool false] 31)
 have hg1:=box_below hg hb1
 have HP:=κ (eparts_any sc f [x] [g1] S g _ _ _ _ A c _ (hF.below hb1) (by simp) hg1 (hp.turn (Turn.below hb1) (by simp)) ⟨hx.below hb1,trivial⟩ (by intro z hz;rw [List.mem_singleton] at hz;subst hz;exact ih))
 have hc:=β hg1
 have hcx:=β hx1
 have H1:=κ (ι hb1 (ι hr1 hg1))
 unfold Fr.val at HP ⊢
 rw [←hfr] at HP ⊢
 clear hfr hb1 hr1 hx1 hg1 hg hp hx ih hF
 rw [show isN true=[73,83,32,78,79,84,32,78,85,76,76] from rfl] at H1 hc
 simp only [ndv] at hc
 unfold ptr at *
 go_enter Tryz.func45,Tryz.ntmps45
 go_wp2_with fail
 refine HP.out.mono ?_
 rintro e w1 ⟨hb2,hq⟩
 have hk1:=H1.out.1.trans (hb2.mono H1.out.1.size)
 have hr2:=box_below H1.out.2.1 hb2
 have hg2:=box_below H1.out.2.2 hb2
 have hc2:=β hg2
 simp only [ndv] at hc2
 have hk2:=κ (ι hk1 hr2)
 clear hb2 hg2 hk1 hr2 hc hcx H1 HP
 rw [firstV_one] at hq
 have hev:Lp.evalX sc (.isn true x) f.row f.rows=Lp.thenV (fev sc f x) (Lp.isX true):=rfl
 obtain ⟨p,hp⟩:∃ p,fev sc f x=p:=⟨_,rfl⟩
 simp only [List.map_cons,List.map_nil] at hq
 rw [hp] at hq hev
 obtain ⟨v1,E⟩:=p
 by_cases h0:E=0
 ·subst h0
  have hev2:Lp.evalX sc (.isn true x) f.row f.rows=Lp.isX true v1:=hev.trans (if_pos rfl)
  have HQ:=κ hev2
  rw [if_pos rfl] at hq
  obtain ⟨Ao,co,rfl,hrd⟩:=hq
  obtain ⟨bA,oA,hA,hv⟩:=RdsV.vat (i:=0) hrd (by simp)
  subst hA
  obtain ⟨q0,q1,q2,q3⟩:=hv
  simp only [Nat.zero_mul,Nat.add_zero,List.getElem_cons_zero] at q0 q1 q2 q3
  obtain ⟨k1,i1,s1,b1⟩:=v1
  clear hp hev hev2 hrd
  obtain ⟨B,hB⟩:∃ B,(k1 !=0)=B:=⟨_,rfl⟩
  have hQB:Lp.isX true ⟨k1,i1,s1,b1⟩=(⟨3,0,⟨#[]⟩,B⟩,0):=by rw [←hB];exact isX_t _
  rw [hQB] at HQ
  clear hQB
  go_wp2_with fail
  refine (etruth_any B _).mono ?_
  rintro e w2 ⟨rfl,rfl⟩
  have hb3:Below w1.heap.size w1 (w1.alloc (.cells #[.int .u8 3,.int .i64 0,.string ⟨#[]⟩,.bool B] 31)):=ba (Below.refl _ _) _
  have hr3:=box_below hk2.out.2 hb3
  have hk3:=hk2.out.1.trans (hb3.mono hk2.out.1.size)
  have hc1:=β hr3
  have hf1:=fun j=>frozen_of_row _ _ j _ _ hr3
  have HCE:=κ (β (set4_same hr3 (.int .u8 3) (.int .i64 0) (.string ⟨#[]⟩) (.bool B)))
  have K5:=κ (below_set4 hk3 (g:=w.heap.size+1) (by omega) (.int .u8 3) (.int .i64 0) (.string ⟨#[]⟩) (.bool B))
  clear hb3 hr3 hk3
  clear q0 q1 q2 q3 hB
  go_wp2
  have hcE:=HCE.out
  exact bodyPost_ret (v:=.tuple #[.agg #[.int .u8 3,.int .i64 0,.string ⟨#[]⟩,.bool B],.int .i64 0]) (by simp [results,Tryz.results45,go_sem,hcE]) rfl (EvPost.mk HQ.out K5.out)
 ·have hev2:Lp.evalX sc (.isn true x) f.row f.rows=(Lp.nullV,E):=hev.trans (if_neg h0)
  have HQ:=κ hev2
  rw [if_neg h0] at hq
  subst hq
  have e8:(E==0)=false:=beq_eq_false_iff_ne.2 h0
  have e9:(E !=0)=true:=by rw [bne,e8];rfl
  have hc1:=β hk2.out.2
  have hf1:=fun j=>frozen_of_row _ _ j _ _ hk2.out.2
  have HCE:=κ (β (set4_same hk2.out.2 (.int .u8 0) (.int .i64 0) (.string ⟨#[]⟩) (.bool false)))
  have K5:=κ (below_set4 hk2.out.1 (g:=w.heap.size+1) (by omega) (.int .u8 0) (.int .i64 0) (.string ⟨#[]⟩) (.bool false))
  clear h0 hev hev2 hp
  go_wp2
  have hcE:=HCE.out
  exact bodyPost_ret (v:=.tuple #[.agg #[.int .u8 0,.int .i64 0,.string ⟨#[]⟩,.bool false],.int .i64 E]) (by simp [results,Tryz.results45,go_sem,hcE]) rfl (EvPost.mk HQ.out K5.out)
end Go.Proofs.YtkfjmgmjbljnbaaGreatDoor
