/-
 eval's value of the nodes of two parts. Conditions: what value gives of the parts.
-/
import Derived.Test.YtkfjmgmjbljnbaaGreatDoorQEval4
set_option maxRecDepth 100000
set_option maxHeartbeats 8000000
namespace Go.Proofs.YtkfjmgmjbljnbaaGreatDoor
open Go.RowKit
theorem bin_facts2:∀ o∈Lp.binOps,(o==[108,105,116])=false∧(o==[99,111,108])=false∧(o==[67,79,85,78,84,40,42,41])=false∧(o==[67,79,85,78,84])=false∧(o==[83,85,77])=false∧(o==[77,73,78])=false∧(o==[77,65,88])=false∧(o==[78,79,84])=false∧(o==[110,101,103])=false∧(o==[73,83,32,78,85,76,76])=false∧(o==[73,83,32,78,79,84,32,78,85,76,76])=false:=by decide
theorem binX_and (u v:Lp.V):Lp.binX Lp.uAnd u v=Lp.triV (Lp.badT u v) (Lp.joinN u v false):=if_pos rfl
theorem binX_or (u v:Lp.V):Lp.binX Lp.uOr u v=Lp.triV (Lp.badT u v) (Lp.joinN u v true):=by unfold Lp.binX;rw [if_neg (by decide),if_pos rfl]
theorem binX_arith {op:List UInt8} (h:op∈Lp.arith) (u v:Lp.V):Lp.binX op u v=Lp.twoX op u v:=by
 have h1:∀ o∈Lp.arith,o≠Lp.uAnd∧o≠Lp.uOr:=by decide
 unfold Lp.binX;rw [if_neg (h1 op h).1,if_neg (h1 op h).2,if_pos h]
theorem binX_cmp {op:List UInt8} (h1:¬(op=Lp.uAnd∨op=Lp.uOr)) (h2:op ∉ Lp.arith) (u v:Lp.V):Lp.binX op u v=Lp.cmpX op u v:=by
 unfold Lp.binX;rw [if_neg (fun h=>h1 (.inl h)),if_neg (fun h=>h1 (.inr h)),if_neg h2]
theorem ev_and (sc:List Lp.Tb) (f:Fr) (x y:Lp.X) (iha:EvOk sc f x) (ihb:EvOk sc f y)  : EvOk sc f (.bin Lp.uAnd x y):=by
 intro S w g hnt hF
 obtain ⟨-,A,c,g1,g2,hg,hp,hx,hy⟩:=hnt
 obtain ⟨fr,hfr⟩:∃ u,u=f.r.val:=⟨_,rfl⟩
 have hb1:Below w.heap.size w ((w.alloc (.cells #[fr,.slice f.A f.R.length f.c,.bool f.g] 105)).alloc (.cells #[.int .u8 0,.int .i64 0,.string ⟨#[]⟩,.bool false] 31)):=ba (ba (Below.refl _ _) _) _
 have hr1:=heap_new2 w (.cells #[fr,.slice f.A f.R.length f.c,.bool f.g] 105) (.cells #[.int .u8 0,.int .i64 0,.string ⟨#[]⟩,.bool false] 31)
 have hx1:=box_alloc (heap_alloc_new w (.cells #[fr,.slice f.A f.R.length f.c,.bool f.g] 105)) (.cells #[.int .u8 0,.int .i64 0,.string ⟨#[]⟩,.bool false] 31)
 have hg1:=box_below hg hb1
 have HP:=κ (eparts_any sc f [x,y] [g1,g2] S g _ _ _ _ A c _ (hF.below hb1) (by simp) hg1 (hp.turn (Turn.below hb1) (by simp)) ⟨hx.below hb1,hy.below hb1,trivial⟩ (by intro z hz;rcases List.mem_cons.1 hz with rfl|hz;exact iha;rw [List.mem_singleton] at hz;subst hz;exact ihb))
 have hc:=β hg1
 have hcx:=β hx1
 have H1:=κ (ι hb1 (ι hr1 hg1))
 unfold Fr.val at HP ⊢
 rw [←hfr] at HP ⊢
 clear hfr hb1 hr1 hx1 hg1 hg hp hx hy iha ihb hF
 simp only [ndv] at hc
 rw [show Lp.uAnd=[65,78,68] from rfl] at hc H1
 unfold ptr at *
 go_enter Tryz.func45,Tryz.ntmps45
 go_wp2_with fail
 refine HP.out.mono ?_
 rintro e w1 ⟨hb2,hq⟩
 have hk1:=H1.out.1.trans (hb2.mono H1.out.1.size)
 have hr2:=box_below H1.out.2.1 hb2
 have hg2:=box_below H1.out.2.2 hb2
 have hc2:=β hg2
 simp only [ndv] at hc2
 have hk2:=κ (ι hk1 hr2)
 clear hb2 hg2 hk1 hr2 hc hcx H1 HP
 rw [firstV_two] at hq
 have hev:Lp.evalX sc (.bin Lp.uAnd x y) f.row f.rows=Lp.thenV (fev sc f x) fun u=>Lp.thenV (fev sc f y) (Lp.binX Lp.uAnd u):=rfl
 obtain ⟨p,hp⟩:∃ p,fev sc f x=p:=⟨_,rfl⟩
 obtain ⟨p',hp'⟩:∃ p,fev sc f y=p:=⟨_,rfl⟩
 simp only [List.map_cons,List.map_nil] at hq
 rw [hp,hp'] at hq hev
 obtain ⟨v1,E1⟩:=p
 obtain ⟨v2,E2⟩:=p'
 obtain ⟨E,hE⟩:∃ E,(if E1=0 then E2 else E1)=E:=⟨_,rfl⟩
 simp only at hq
 rw [hE] at hq
 by_cases h0:E=0
 ·subst h0
  obtain ⟨rfl,rfl⟩:E1=0∧E2=0:=by
   by_cases h:E1=0
   ·exact ⟨h,by rwa [if_pos h] at hE⟩
   ·exact absurd (by rwa [if_neg h] at hE) h
  have hev2:Lp.evalX sc (.bin Lp.uAnd x y) f.row f.rows=Lp.binX Lp.uAnd v1 v2:=hev.trans (if_pos rfl)
  have HQ:=κ hev2
  rw [if_pos rfl] at hq
  obtain ⟨Ao,co,rfl,hrd⟩:=hq
  obtain ⟨bA,oA,hA,hv⟩:=RdsV.vat (i:=0) hrd (by simp)
  obtain ⟨bB,oB,hB,hv'⟩:=RdsV.vat (i:=1) hrd (by simp)
  rw [hA] at hB
  simp only [Option.some.injEq,Addr.mk.injEq,and_true] at hB
  obtain ⟨rfl,rfl⟩:=hB
  subst hA
  obtain ⟨q0,q1,q2,q3⟩:=hv
  obtain ⟨p0,p1,p2,p3⟩:=hv'
  simp only [Nat.zero_mul,Nat.one_mul,Nat.add_zero,List.getElem_cons_zero,List.getElem_cons_succ] at q0 q1 q2 q3 p0 p1 p2 p3
  obtain ⟨k1,i1,s1,b1⟩:=v1
  obtain ⟨k2,i2,s2,b2⟩:=v2
  clear hp hp' hev hev2 hrd hE
  have HK:=κ (fun W=>((cand_any k1 i1 s1 b1 k2 i2 s2 b2 W).mono fun e w' h=>(show EvPost (Lp.triV (Lp.badT ⟨k1,i1,s1,b1⟩ ⟨k2,i2,s2,b2⟩) (Lp.joinN ⟨k1,i1,s1,b1⟩ ⟨k2,i2,s2,b2⟩ false)) W e w' from tri_post h)))
  have hz0:True:=trivial
  go_wp2_with fail
  go_region_with (go_at_call 85;refine (HK.out _).mono ?_;rintro e w2 hj;obtain ⟨k,vi,vs,vb,E,hE,rfl,hb3⟩:=hj.form;have hb3:Below w1.heap.size w1 w2:=(by first|exact hb3|exact (Below.refl w1.heap.size w1).drew.trans hb3);have hr3:=box_below hk2.out.2 hb3;have hk3:=hk2.out.1.trans (hb3.mono hk2.out.1.size);have hc1:=β hr3;have hf1:=fun j=>frozen_of_row _ _ j _ _ hr3;have HCE:=κ (β (set4_same hr3 (.int .u8 k) (.int .i64 vi) (.string vs) (.bool vb)));have K5:=κ (below_set4 hk3 (g:=w.heap.size+1) (by omega) (.int .u8 k) (.int .i64 vi) (.string vs) (.bool vb));clear hb3 hr3 hk3)
  all_goals
   have hQ:=HQ.out
   rw [binX_and,hE] at hQ
   have HQ:=κ hQ
   clear hj hE HK q0 q1 q2 q3 p0 p1 p2 p3 hQ
   go_wp2
   have hcE:=HCE.out
   exact bodyPost_ret (v:=.tuple #[.agg #[.int .u8 k,.int .i64 vi,.string vs,.bool vb],.int .i64 E]) (by simp [results,Tryz.results45,go_sem,hcE]) rfl (EvPost.mk HQ.out K5.out)
 ·have hev2:Lp.evalX sc (.bin Lp.uAnd x y) f.row f.rows=(Lp.nullV,E):=by
   by_cases h:E1=0
   ·rw [if_pos h] at hE
    subst hE
    rw [hev]
    show (if E1=0 then (if E2=0 then _ else _) else _)=_
    rw [if_pos h,if_neg h0]
   ·rw [if_neg h] at hE
    subst hE
    exact hev.trans (if_neg h)
  have HQ:=κ hev2
  rw [if_neg h0] at hq
  subst hq
  have e8:(E==0)=false:=beq_eq_false_iff_ne.2 h0
  have e9:(E !=0)=true:=by rw [bne,e8];rfl
  have hc1:=β hk2.out.2
  have hf1:=fun j=>frozen_of_row _ _ j _ _ hk2.out.2
  have HCE:=κ (β (set4_same hk2.out.2 (.int .u8 0) (.int .i64 0) (.string ⟨#[]⟩) (.bool false)))
  have K5:=κ (below_set4 hk2.out.1 (g:=w.heap.size+1) (by omega) (.int .u8 0) (.int .i64 0) (.string ⟨#[]⟩) (.bool false))
  clear h0 hev hev2 hp hp' hE
  go_wp2
  have hcE:=HCE.out
  exact bodyPost_ret (v:=.tuple #[.agg #[.int .u8 0,.int .i64 0,.string ⟨#[]⟩,.bool false],.int .i64 E]) (by simp [results,Tryz.results45,go_sem,hcE]) rfl (EvPost.mk HQ.out K5.out)
theorem ev_or (sc:List Lp.Tb) (f:Fr) (x y:Lp.X) (iha:EvOk sc f x) (ihb:EvOk sc f y)  : EvOk sc f (.bin Lp.uOr x y):=by
 intro S w g hnt hF
 obtain ⟨-,A,c,g1,g2,hg,hp,hx,hy⟩:=hnt
 obtain ⟨fr,hfr⟩:∃ u,u=f.r.val:=⟨_,rfl⟩
 have hb1:Below w.heap.size w ((w.alloc (.cells #[fr,.slice f.A f.R.length f.c,.bool f.g] 105)).alloc (.cells #[.int .u8 0,.int .i64 0,.string ⟨#[]⟩,.bool false] 31)):=ba (ba (Below.refl _ _) _) _
 have hr1:=heap_new2 w (.cells #[fr,.slice f.A f.R.length f.c,.bool f.g] 105) (.cells #[.int .u8 0,.int .i64 0,.string ⟨#[]⟩,.bool false] 31)
 have hx1:=box_alloc (heap_alloc_new w (.cells #[fr,.slice f.A f.R.length f.c,.bool f.g] 105)) (.cells #[.int .u8 0,.int .i64 0,.string ⟨#[]⟩,.bool false] 31)
 have hg1:=box_below hg hb1
 have HP:=κ (eparts_any sc f [x,y] [g1,g2] S g _ _ _ _ A c _ (hF.below hb1) (by simp) hg1 (hp.turn (Turn.below hb1) (by simp)) ⟨hx.below hb1,hy.below hb1,trivial⟩ (by intro z hz;rcases List.mem_cons.1 hz with rfl|hz;exact iha;rw [List.mem_singleton] at hz;subst hz;exact ihb))
 have hc:=β hg1
 have hcx:=β hx1
 have H1:=κ (ι hb1 (ι hr1 hg1))
 unfold Fr.val at HP ⊢
 rw [←hfr] at HP ⊢
 clear hfr hb1 hr1 hx1 hg1 hg hp hx hy iha ihb hF
 simp only [ndv] at hc
 rw [show Lp.uOr=[79,82] from rfl] at hc H1
 unfold ptr at *
 go_enter Tryz.func45,Tryz.ntmps45
 go_wp2_with fail
 refine HP.out.mono ?_
 rintro e w1 ⟨hb2,hq⟩
 have hk1:=H1.out.1.trans (hb2.mono H1.out.1.size)
 have hr2:=box_below H1.out.2.1 hb2
 have hg2:=box_below H1.out.2.2 hb2
 have hc2:=β hg2
 simp only [ndv] at hc2
 have hk2:=κ (ι hk1 hr2)
 clear hb2 hg2 hk1 hr2 hc hcx H1 HP
 rw [firstV_two] at hq
 have hev:Lp.evalX sc (.bin Lp.uOr x y) f.row f.rows=Lp.thenV (fev sc f x) fun u=>Lp.thenV (fev sc f y) (Lp.binX Lp.uOr u):=rfl
 obtain ⟨p,hp⟩:∃ p,fev sc f x=p:=⟨_,rfl⟩
 obtain ⟨p',hp'⟩:∃ p,fev sc f y=p:=⟨_,rfl⟩
 simp only [List.map_cons,List.map_nil] at hq
 rw [hp,hp'] at hq hev
 obtain ⟨v1,E1⟩:=p
 obtain ⟨v2,E2⟩:=p'
 obtain ⟨E,hE⟩:∃ E,(if E1=0 then E2 else E1)=E:=⟨_,rfl⟩
 simp only at hq
 rw [hE] at hq
 by_cases h0:E=0
 ·subst h0
  obtain ⟨rfl,rfl⟩:E1=0∧E2=0:=by
   by_cases h:E1=0
   ·exact ⟨h,by rwa [if_pos h] at hE⟩
   ·exact absurd (by rwa [if_neg h] at hE) h
  have hev2:Lp.evalX sc (.bin Lp.uOr x y) f.row f.rows=Lp.binX Lp.uOr v1 v2:=hev.trans (if_pos rfl)
  have HQ:=κ hev2
  rw [if_pos rfl] at hq
  obtain ⟨Ao,co,rfl,hrd⟩:=hq
  obtain ⟨bA,oA,hA,hv⟩:=RdsV.vat (i:=0) hrd (by simp)
  obtain ⟨bB,oB,hB,hv'⟩:=RdsV.vat (i:=1) hrd (by simp)
  rw [hA] at hB
  simp only [Option.some.injEq,Addr.mk.injEq,and_true] at hB
  obtain ⟨rfl,rfl⟩:=hB
  subst hA
  obtain ⟨q0,q1,q2,q3⟩:=hv
  obtain ⟨p0,p1,p2,p3⟩:=hv'
  simp only [Nat.zero_mul,Nat.one_mul,Nat.add_zero,List.getElem_cons_zero,List.getElem_cons_succ] at q0 q1 q2 q3 p0 p1 p2 p3
  obtain ⟨k1,i1,s1,b1⟩:=v1
  obtain ⟨k2,i2,s2,b2⟩:=v2
  clear hp hp' hev hev2 hrd hE
  have HK:=κ (fun W=>((cor_any k1 i1 s1 b1 k2 i2 s2 b2 W).mono fun e w' h=>(show EvPost (Lp.triV (Lp.badT ⟨k1,i1,s1,b1⟩ ⟨k2,i2,s2,b2⟩) (Lp.joinN ⟨k1,i1,s1,b1⟩ ⟨k2,i2,s2,b2⟩ true)) W e w' from tri_post h)))
  have hz0:True:=trivial
  go_wp2_with fail
  go_region_with (go_at_call 86;refine (HK.out _).mono ?_;rintro e w2 hj;obtain ⟨k,vi,vs,vb,E,hE,rfl,hb3⟩:=hj.form;have hb3:Below w1.heap.size w1 w2:=(by first|exact hb3|exact (Below.refl w1.heap.size w1).drew.trans hb3);have hr3:=box_below hk2.out.2 hb3;have hk3:=hk2.out.1.trans (hb3.mono hk2.out.1.size);have hc1:=β hr3;have hf1:=fun j=>frozen_of_row _ _ j _ _ hr3;have HCE:=κ (β (set4_same hr3 (.int .u8 k) (.int .i64 vi) (.string vs) (.bool vb)));have K5:=κ (below_set4 hk3 (g:=w.heap.size+1) (by omega) (.int .u8 k) (.int .i64 vi) (.string vs) (.bool vb));clear hb3 hr3 hk3)
  all_goals
   have hQ:=HQ.out
   rw [binX_or,hE] at hQ
   have HQ:=κ hQ
   clear hj hE HK q0 q1 q2 q3 p0 p1 p2 p3 hQ
   go_wp2
   have hcE:=HCE.out
   exact bodyPost_ret (v:=.tuple #[.agg #[.int .u8 k,.int .i64 vi,.string vs,.bool vb],.int .i64 E]) (by simp [results,Tryz.results45,go_sem,hcE]) rfl (EvPost.mk HQ.out K5.out)
 ·have hev2:Lp.evalX sc (.bin Lp.uOr x y) f.row f.rows=(Lp.nullV,E):=by
   by_cases h:E1=0
   ·rw [if_pos h] at hE
    subst hE
    rw [hev]
    show (if E1=0 then (if E2=0 then _ else _) else _)=_
    rw [if_pos h,if_neg h0]
   ·rw [if_neg h] at hE
    subst hE
    exact hev.trans (if_neg h)
  have HQ:=κ hev2
  rw [if_neg h0] at hq
  subst hq
  have e8:(E==0)=false:=beq_eq_false_iff_ne.2 h0
  have e9:(E !=0)=true:=by rw [bne,e8];rfl
  have hc1:=β hk2.out.2
  have hf1:=fun j=>frozen_of_row _ _ j _ _ hk2.out.2
  have HCE:=κ (β (set4_same hk2.out.2 (.int .u8 0) (.int .i64 0) (.string ⟨#[]⟩) (.bool false)))
  have K5:=κ (below_set4 hk2.out.1 (g:=w.heap.size+1) (by omega) (.int .u8 0) (.int .i64 0) (.string ⟨#[]⟩) (.bool false))
  clear h0 hev hev2 hp hp' hE
  go_wp2
  have hcE:=HCE.out
  exact bodyPost_ret (v:=.tuple #[.agg #[.int .u8 0,.int .i64 0,.string ⟨#[]⟩,.bool false],.int .i64 E]) (by simp [results,Tryz.results45,go_sem,hcE]) rfl (EvPost.mk HQ.out K5.out)
theorem ev_arith (sc:List Lp.Tb) (f:Fr) (op:List UInt8) (x y:Lp.X) (iha:EvOk sc f x) (ihb:EvOk sc f y) (hop:op∈Lp.arith) (hin:Lp.inR (fev sc f x).1.i∧Lp.inR (fev sc f y).1.i):EvOk sc f (.bin op x y):=by
 intro S w g hnt hF
 obtain ⟨-,A,c,g1,g2,hg,hp,hx,hy⟩:=hnt
 obtain ⟨fr,hfr⟩:∃ u,u=f.r.val:=⟨_,rfl⟩
 have hb1:Below w.heap.size w ((w.alloc (.cells #[fr,.slice f.A f.R.length f.c,.bool f.g] 105)).alloc (.cells #[.int .u8 0,.int .i64 0,.string ⟨#[]⟩,.bool false] 31)):=ba (ba (Below.refl _ _) _) _
 have hr1:=heap_new2 w (.cells #[fr,.slice f.A f.R.length f.c,.bool f.g] 105) (.cells #[.int .u8 0,.int .i64 0,.string ⟨#[]⟩,.bool false] 31)
 have hx1:=box_alloc (heap_alloc_new w (.cells #[fr,.slice f.A f.R.length f.c,.bool f.g] 105)) (.cells #[.int .u8 0,.int .i64 0,.string ⟨#[]⟩,.bool false] 31)
 have hg1:=box_below hg hb1
 have HP:=κ (eparts_any sc f [x,y] [g1,g2] S g _ _ _ _ A c _ (hF.below hb1) (by simp) hg1 (hp.turn (Turn.below hb1) (by simp)) ⟨hx.below hb1,hy.below hb1,trivial⟩ (by intro z hz;rcases List.mem_cons.1 hz with rfl|hz;exact iha;rw [List.mem_singleton] at hz;subst hz;exact ihb))
 have hc:=β hg1
 have hcx:=β hx1
 have H1:=κ (ι hb1 (ι hr1 hg1))
 unfold Fr.val at HP ⊢
 rw [←hfr] at HP ⊢
 clear hfr hb1 hr1 hx1 hg1 hg hp hx hy iha ihb hF
 simp only [ndv] at hc
 have HOP:=κ hop
 have HI:=κ hin
 clear hin
 have hb:op∈Lp.binOps:=by
  have h:∀ o∈Lp.arith,o∈Lp.binOps:=by decide
  exact h op hop
 obtain ⟨e1,e2,e3,e4,e5,e6,e7,f1,f2,f3,f4⟩:=bin_facts2 op hb
 have hne:(op==[65,78,68])=false∧(op==[79,82])=false:=by
  have h:∀ o∈Lp.arith,(o==[65,78,68])=false∧(o==[79,82])=false:=by decide
  exact h op hop
 obtain ⟨f5,f6⟩:=hne
 have hcs:(op==[43])=true∨((op==[43])=false∧(op==[45])=true)∨((op==[43])=false∧(op==[45])=false∧(op==[42])=true)∨((op==[43])=false∧(op==[45])=false∧(op==[42])=false∧(op==[47])=true)∨((op==[43])=false∧(op==[45])=false∧(op==[42])=false∧(op==[47])=false∧(op==[37])=true):=by
  have h:∀ o∈Lp.arith,(o==[43])=true∨((o==[43])=false∧(o==[45])=true)∨((o==[43])=false∧(o==[45])=false∧(o==[42])=true)∨((o==[43])=false∧(o==[45])=false∧(o==[42])=false∧(o==[47])=true)∨((o==[43])=false∧(o==[45])=false∧(o==[42])=false∧(o==[47])=false∧(o==[37])=true):=by decide
  exact h op hop
 clear hb hop
 unfold ptr at *
 go_enter Tryz.func45,Tryz.ntmps45
 go_wp2_with fail
 refine HP.out.mono ?_
 rintro e w1 ⟨hb2,hq⟩
 have hk1:=H1.out.1.trans (hb2.mono H1.out.1.size)
 have hr2:=box_below H1.out.2.1 hb2
 have hg2:=box_below H1.out.2.2 hb2
 have hc2:=β hg2
 simp only [ndv] at hc2
 have hk2:=κ (ι hk1 hr2)
 clear hb2 hg2 hk1 hr2 hc hcx H1 HP
 rw [firstV_two] at hq
 have hev:Lp.evalX sc (.bin op x y) f.row f.rows=Lp.thenV (fev sc f x) fun u=>Lp.thenV (fev sc f y) (Lp.binX op u):=rfl
 obtain ⟨p,hp⟩:∃ p,fev sc f x=p:=⟨_,rfl⟩
 obtain ⟨p',hp'⟩:∃ p,fev sc f y=p:=⟨_,rfl⟩
 simp only [List.map_cons,List.map_nil] at hq
 rw [hp,hp'] at hq hev HI
 obtain ⟨v1,E1⟩:=p
 obtain ⟨v2,E2⟩:=p'
 obtain ⟨E,hE⟩:∃ E,(if E1=0 then E2 else E1)=E:=⟨_,rfl⟩
 simp only at hq
 rw [hE] at hq
 by_cases h0:E=0
 ·subst h0
  obtain ⟨rfl,rfl⟩:E1=0∧E2=0:=by
   by_cases h:E1=0
   ·exact ⟨h,by rwa [if_pos h] at hE⟩
   ·exact absurd (by rwa [if_neg h] at hE) h
  have hev2:Lp.evalX sc (.bin op x y) f.row f.rows=Lp.binX op v1 v2:=hev.trans (if_pos rfl)
  have HQ:=κ hev2
  rw [if_pos rfl] at hq
  obtain ⟨Ao,co,rfl,hrd⟩:=hq
  obtain ⟨bA,oA,hA,hv⟩:=RdsV.vat (i:=0) hrd (by simp)
  obtain ⟨bB,oB,hB,hv'⟩:=RdsV.vat (i:=1) hrd (by simp)
  rw [hA] at hB
  simp only [Option.some.injEq,Addr.mk.injEq,and_true] at hB
  obtain ⟨rfl,rfl⟩:=hB
  subst hA
  obtain ⟨q0,q1,q2,q3⟩:=hv
  obtain ⟨p0,p1,p2,p3⟩:=hv'
  simp only [Nat.zero_mul,Nat.one_mul,Nat.add_zero,List.getElem_cons_zero,List.getElem_cons_succ] at q0 q1 q2 q3 p0 p1 p2 p3
  obtain ⟨k1,i1,s1,b1⟩:=v1
  obtain ⟨k2,i2,s2,b2⟩:=v2
  clear hp hp' hev hev2 hrd hE
  have HK:=κ (fun W=>((show Calls _ _ #[.string ⟨op.toArray⟩,vv4 ⟨k1,i1,s1,b1⟩,vv4 ⟨k2,i2,s2,b2⟩] _ _ from two_any op HOP.out ⟨k1,i1,s1,b1⟩ ⟨k2,i2,s2,b2⟩ W HI.out.1 HI.out.2)))
  simp only [vv4] at HK
  rcases hcs with n1|⟨n1,n2⟩|⟨n1,n2,n3⟩|⟨n1,n2,n3,n4⟩|⟨n1,n2,n3,n4,n5⟩
  all_goals
   go_wp2_with fail
   go_region_with (go_at_call 88;refine (HK.out _).mono ?_;rintro e w2 hj;obtain ⟨k,vi,vs,vb,E,hE,rfl,hb3⟩:=hj.form;have hb3:Below w1.heap.size w1 w2:=(by first|exact hb3|exact (Below.refl w1.heap.size w1).drew.trans hb3);have hr3:=box_below hk2.out.2 hb3;have hk3:=hk2.out.1.trans (hb3.mono hk2.out.1.size);have hc1:=β hr3;have hf1:=fun j=>frozen_of_row _ _ j _ _ hr3;have HCE:=κ (β (set4_same hr3 (.int .u8 k) (.int .i64 vi) (.string vs) (.bool vb)));have K5:=κ (below_set4 hk3 (g:=w.heap.size+1) (by omega) (.int .u8 k) (.int .i64 vi) (.string vs) (.bool vb));clear hb3 hr3 hk3)
  all_goals
   have hQ:=HQ.out
   rw [binX_arith HOP.out,hE] at hQ
   have HQ:=κ hQ
   clear hj hE HK q0 q1 q2 q3 p0 p1 p2 p3 hQ
   go_wp2
   have hcE:=HCE.out
   exact bodyPost_ret (v:=.tuple #[.agg #[.int .u8 k,.int .i64 vi,.string vs,.bool vb],.int .i64 E]) (by simp [results,Tryz.results45,go_sem,hcE]) rfl (EvPost.mk HQ.out K5.out)
 ·have hev2:Lp.evalX sc (.bin op x y) f.row f.rows=(Lp.nullV,E):=by
   by_cases h:E1=0
   ·rw [if_pos h] at hE
    subst hE
    rw [hev]
    show (if E1=0 then (if E2=0 then _ else _) else _)=_
    rw [if_pos h,if_neg h0]
   ·rw [if_neg h] at hE
    subst hE
    exact hev.trans (if_neg h)
  have HQ:=κ hev2
  rw [if_neg h0] at hq
  subst hq
  have e8:(E==0)=false:=beq_eq_false_iff_ne.2 h0
  have e9:(E !=0)=true:=by rw [bne,e8];rfl
  have hc1:=β hk2.out.2
  have hf1:=fun j=>frozen_of_row _ _ j _ _ hk2.out.2
  have HCE:=κ (β (set4_same hk2.out.2 (.int .u8 0) (.int .i64 0) (.string ⟨#[]⟩) (.bool false)))
  have K5:=κ (below_set4 hk2.out.1 (g:=w.heap.size+1) (by omega) (.int .u8 0) (.int .i64 0) (.string ⟨#[]⟩) (.bool false))
  clear h0 hev hev2 hp hp' hE
  go_wp2
  have hcE:=HCE.out
  exact bodyPost_ret (v:=.tuple #[.agg #[.int .u8 0,.int .i64 0,.string ⟨#[]⟩,.bool false],.int .i64 E]) (by simp [results,Tryz.results45,go_sem,hcE]) rfl (EvPost.mk HQ.out K5.out)
theorem ev_cmp (sc:List Lp.Tb) (f:Fr) (op:List UInt8) (x y:Lp.X) (iha:EvOk sc f x) (ihb:EvOk sc f y) (hop:op∈Lp.binOps) (h1:¬(op=Lp.uAnd∨op=Lp.uOr)) (h2:op ∉ Lp.arith):EvOk sc f (.bin op x y):=by
 intro S w g hnt hF
 obtain ⟨-,A,c,g1,g2,hg,hp,hx,hy⟩:=hnt
 obtain ⟨fr,hfr⟩:∃ u,u=f.r.val:=⟨_,rfl⟩
 have hb1:Below w.heap.size w ((w.alloc (.cells #[fr,.slice f.A f.R.length f.c,.bool f.g] 105)).alloc (.cells #[.int .u8 0,.int .i64 0,.string ⟨#[]⟩,.bool false] 31)):=ba (ba (Below.refl _ _) _) _
 have hr1:=heap_new2 w (.cells #[fr,.slice f.A f.R.length f.c,.bool f.g] 105) (.cells #[.int .u8 0,.int .i64 0,.string ⟨#[]⟩,.bool false] 31)
 have hx1:=box_alloc (heap_alloc_new w (.cells #[fr,.slice f.A f.R.length f.c,.bool f.g] 105)) (.cells #[.int .u8 0,.int .i64 0,.string ⟨#[]⟩,.bool false] 31)
 have hg1:=box_below hg hb1
 have HP:=κ (eparts_any sc f [x,y] [g1,g2] S g _ _ _ _ A c _ (hF.below hb1) (by simp) hg1 (hp.turn (Turn.below hb1) (by simp)) ⟨hx.below hb1,hy.below hb1,trivial⟩ (by intro z hz;rcases List.mem_cons.1 hz with rfl|hz;exact iha;rw [List.mem_singleton] at hz;subst hz;exact ihb))
 have hc:=β hg1
 have hcx:=β hx1
 have H1:=κ (ι hb1 (ι hr1 hg1))
 unfold Fr.val at HP ⊢
 rw [←hfr] at HP ⊢
 clear hfr hb1 hr1 hx1 hg1 hg hp hx hy iha ihb hF
 simp only [ndv] at hc
 obtain ⟨e1,e2,e3,e4,e5,e6,e7,f1,f2,f3,f4⟩:=bin_facts2 op hop
 have HOP:=κ hop
 clear hop
 have HC:=κ (ι h1 h2)
 have f5:(op==[65,78,68])=false:=beq_eq_false_iff_ne.2 (fun h=>h1 (.inl h))
 have f6:(op==[79,82])=false:=beq_eq_false_iff_ne.2 (fun h=>h1 (.inr h))
 have hn:(op==[43])=false∧(op==[45])=false∧(op==[42])=false∧(op==[47])=false∧(op==[37])=false:=by
  simp only [Lp.arith,List.mem_cons,List.not_mem_nil,or_false,not_or] at h2
  simpa [beq_eq_false_iff_ne] using h2
 obtain ⟨n1,n2,n3,n4,n5⟩:=hn
 clear h1 h2
 unfold ptr at *
 go_enter Tryz.func45,Tryz.ntmps45
 go_wp2_with fail
 refine HP.out.mono ?_
 rintro e w1 ⟨hb2,hq⟩
 have hk1:=H1.out.1.trans (hb2.mono H1.out.1.size)
 have hr2:=box_below H1.out.2.1 hb2
 have hg2:=box_below H1.out.2.2 hb2
 have hc2:=β hg2
 simp only [ndv] at hc2
 have hk2:=κ (ι hk1 hr2)
 clear hb2 hg2 hk1 hr2 hc hcx H1 HP
 rw [firstV_two] at hq
 have hev:Lp.evalX sc (.bin op x y) f.row f.rows=Lp.thenV (fev sc f x) fun u=>Lp.thenV (fev sc f y) (Lp.binX op u):=rfl
 obtain ⟨p,hp⟩:∃ p,fev sc f x=p:=⟨_,rfl⟩
 obtain ⟨p',hp'⟩:∃ p,fev sc f y=p:=⟨_,rfl⟩
 simp only [List.map_cons,List.map_nil] at hq
 rw [hp,hp'] at hq hev
 obtain ⟨v1,E1⟩:=p
 obtain ⟨v2,E2⟩:=p'
 obtain ⟨E,hE⟩:∃ E,(if E1=0 then E2 else E1)=E:=⟨_,rfl⟩
 simp only at hq
 rw [hE] at hq
 by_cases h0:E=0
 ·subst h0
  obtain ⟨rfl,rfl⟩:E1=0∧E2=0:=by
   by_cases h:E1=0
   ·exact ⟨h,by rwa [if_pos h] at hE⟩
   ·exact absurd (by rwa [if_neg h] at hE) h
  have hev2:Lp.evalX sc (.bin op x y) f.row f.rows=Lp.binX op v1 v2:=hev.trans (if_pos rfl)
  have HQ:=κ hev2
  rw [if_pos rfl] at hq
  obtain ⟨Ao,co,rfl,hrd⟩:=hq
  obtain ⟨bA,oA,hA,hv⟩:=RdsV.vat (i:=0) hrd (by simp)
  obtain ⟨bB,oB,hB,hv'⟩:=RdsV.vat (i:=1) hrd (by simp)
  rw [hA] at hB
  simp only [Option.some.injEq,Addr.mk.injEq,and_true] at hB
  obtain ⟨rfl,rfl⟩:=hB
  subst hA
  obtain ⟨q0,q1,q2,q3⟩:=hv
  obtain ⟨p0,p1,p2,p3⟩:=hv'
  simp only [Nat.zero_mul,Nat.one_mul,Nat.add_zero,List.getElem_cons_zero,List.getElem_cons_succ] at q0 q1 q2 q3 p0 p1 p2 p3
  obtain ⟨k1,i1,s1,b1⟩:=v1
  obtain ⟨k2,i2,s2,b2⟩:=v2
  clear hp hp' hev hev2 hrd hE
  have HK:=κ (fun W=>((show Calls _ _ #[.string ⟨op.toArray⟩,vv4 ⟨k1,i1,s1,b1⟩,vv4 ⟨k2,i2,s2,b2⟩] _ _ from ecmp_any op ⟨k1,i1,s1,b1⟩ ⟨k2,i2,s2,b2⟩ W)))
  simp only [vv4] at HK
  go_wp2_with fail
  go_region_with (go_at_call 90;refine (HK.out _).mono ?_;rintro e w2 hj;obtain ⟨k,vi,vs,vb,E,hE,rfl,hb3⟩:=hj.form;have hb3:Below w1.heap.size w1 w2:=(by first|exact hb3|exact (Below.refl w1.heap.size w1).drew.trans hb3);have hr3:=box_below hk2.out.2 hb3;have hk3:=hk2.out.1.trans (hb3.mono hk2.out.1.size);have hc1:=β hr3;have hf1:=fun j=>frozen_of_row _ _ j _ _ hr3;have HCE:=κ (β (set4_same hr3 (.int .u8 k) (.int .i64 vi) (.string vs) (.bool vb)));have K5:=κ (below_set4 hk3 (g:=w.heap.size+1) (by omega) (.int .u8 k) (.int .i64 vi) (.string vs) (.bool vb));clear hb3 hr3 hk3)
  all_goals
   have hQ:=HQ.out
   rw [binX_cmp HC.out.1 HC.out.2,hE] at hQ
   have HQ:=κ hQ
   clear hj hE HK q0 q1 q2 q3 p0 p1 p2 p3 hQ
   go_wp2
   have hcE:=HCE.out
   exact bodyPost_ret (v:=.tuple #[.agg #[.int .u8 k,.int .i64 vi,.string vs,.bool vb],.int .i64 E]) (by simp [results,Tryz.results45,go_sem,hcE]) rfl (EvPost.mk HQ.out K5.out)
 ·have hev2:Lp.evalX sc (.bin op x y) f.row f.rows=(Lp.nullV,E):=by
   by_cases h:E1=0
   ·rw [if_pos h] at hE
    subst hE
    rw [hev]
    show (if E1=0 then (if E2=0 then _ else _) else _)=_
    rw [if_pos h,if_neg h0]
   ·rw [if_neg h] at hE
    subst hE
    exact hev.trans (if_neg h)
  have HQ:=κ hev2
  rw [if_neg h0] at hq
  subst hq
  have e8:(E==0)=false:=beq_eq_false_iff_ne.2 h0
  have e9:(E !=0)=true:=by rw [bne,e8];rfl
  have hc1:=β hk2.out.2
  have hf1:=fun j=>frozen_of_row _ _ j _ _ hk2.out.2
  have HCE:=κ (β (set4_same hk2.out.2 (.int .u8 0) (.int .i64 0) (.string ⟨#[]⟩) (.bool false)))
  have K5:=κ (below_set4 hk2.out.1 (g:=w.heap.size+1) (by omega) (.int .u8 0) (.int .i64 0) (.string ⟨#[]⟩) (.bool false))
  clear h0 hev hev2 hp hp' hE
  go_wp2
  have hcE:=HCE.out
  exact bodyPost_ret (v:=.tuple #[.agg #[.int .u8 0,.int .i64 0,.string ⟨#[]⟩,.bool false],.int .i64 E]) (by simp [results,Tryz.results45,go_sem,hcE]) rfl (EvPost.mk HQ.out K5.out)
end Go.Proofs.YtkfjmgmjbljnbaaGreatDoor
