/-
 eval's value, of every bound expression. Conditions: rows of the scope; at most 1000 of them.
-/
import Derived.Test.YtkfjmgmjbljnbaaGreatDoorQEval8
import Derived.Test.YtkfjmgmjbljnbaaGreatDoorQEval6
set_option maxRecDepth 100000
set_option maxHeartbeats 8000000
namespace Go.Proofs.YtkfjmgmjbljnbaaGreatDoor
open Go.RowKit
theorem egroup_cnt (sc:List Lp.Tb) (f:Fr) (hR:f.R.length≤1000) (g:Nat) (w:World) (hg:w.heap[g]? = some (.cells (ndv Lp.sCnt 1 nul 0 none 0 0) 66 (0,0))) :
 Calls Tryz.prog 82 #[f.val,ptr g] w (EvPost (Lp.evalX sc .cnt f.row f.rows) w):=by
 obtain ⟨fr,hfr⟩:∃ u,u=f.r.val:=⟨_,rfl⟩
 have hQ:Lp.evalX sc .cnt f.row f.rows=(⟨1,f.R.length,⟨#[]⟩,false⟩,0):=by
  show (Lp.numV f.rows.length,(0:Int))=_
  rw [show f.rows.length=f.R.length by simp [Fr.rows]]
  rfl
 have HQ:=κ hQ
 have hb1:Below w.heap.size w ((w.alloc (.cells #[fr,.slice f.A f.R.length f.c,.bool f.g] 105)).alloc (.cells #[.int .u8 0,.int .i64 0,.string ⟨#[]⟩,.bool false] 31)):=ba (ba (Below.refl _ _) _) _
 have hx1:=box_alloc (heap_alloc_new w (.cells #[fr,.slice f.A f.R.length f.c,.bool f.g] 105)) (.cells #[.int .u8 0,.int .i64 0,.string ⟨#[]⟩,.bool false] 31)
 have hc:=β (box_below hg hb1)
 have hcx:=β hx1
 simp only [ndv,Lp.sCnt] at hc
 have hRI:(f.R.length:Int)≤1000:=by omega
 unfold Fr.val ptr
 rw [←hfr]
 clear hfr hb1 hx1 hg hQ hR
 go_enter Tryz.func82,Tryz.ntmps82
 go_wp2_with fail
 refine (number_any (f.R.length:Nat) _).mono ?_
 rintro e w2 ⟨rfl,rfl⟩
 clear hc hcx
 go_wp2
 exact bodyPost_ret (v:=.tuple #[.agg #[.int .u8 1,.int .i64 (f.R.length:Nat),.string ⟨#[]⟩,.bool false],.int .i64 0]) (by simp [results,Tryz.results82,go_sem]) rfl (EvPost.mk HQ.out (ba (ba (ba (Below.refl _ _) _) _) _))
theorem agg_facts3:∀ o∈Lp.sCnt::Lp.aggOps,(o==[108,105,116])=false∧(o==[99,111,108])=false∧((o==[67,79,85,78,84,40,42,41])=true∨((o==[67,79,85,78,84,40,42,41])=false∧(o==[67,79,85,78,84])=true)∨((o==[67,79,85,78,84,40,42,41])=false∧(o==[67,79,85,78,84])=false∧(o==[83,85,77])=true) ∨
 ((o==[67,79,85,78,84,40,42,41])=false∧(o==[67,79,85,78,84])=false∧(o==[83,85,77])=false∧(o==[77,73,78])=true)∨((o==[67,79,85,78,84,40,42,41])=false∧(o==[67,79,85,78,84])=false∧(o==[83,85,77])=false∧(o==[77,73,78])=false∧(o==[77,65,88])=true)):=by decide
theorem ev_grp (op:List UInt8) (hop:op∈Lp.sCnt::Lp.aggOps) (f:Fr) (q:Lp.V×Int) (g:Nat) (kd:Int) (nv:Lp.V) (a:Int) (A:Option Addr) (n c:Nat) (w:World) (hF:f.At w) (hg:w.heap[g]? = some (.cells (ndv op kd nv a A n c) 66 (0,0)))
 (hG:∀ W,Below w.heap.size w W→f.At W→Calls Tryz.prog 82 #[f.val,ptr g] W (EvPost q W)) :
 Calls Tryz.prog 45 #[f.val,ptr g] w (EvPost q w):=by
 obtain ⟨fr,hfr⟩:∃ u,u=f.r.val:=⟨_,rfl⟩
 have hb1:Below w.heap.size w ((w.alloc (.cells #[fr,.slice f.A f.R.length f.c,.bool f.g] 105)).alloc (.cells #[.int .u8 0,.int .i64 0,.string ⟨#[]⟩,.bool false] 31)):=ba (ba (Below.refl _ _) _) _
 have hr1:=heap_new2 w (.cells #[fr,.slice f.A f.R.length f.c,.bool f.g] 105) (.cells #[.int .u8 0,.int .i64 0,.string ⟨#[]⟩,.bool false] 31)
 have hx1:=box_alloc (heap_alloc_new w (.cells #[fr,.slice f.A f.R.length f.c,.bool f.g] 105)) (.cells #[.int .u8 0,.int .i64 0,.string ⟨#[]⟩,.bool false] 31)
 have HP:=κ (hG _ hb1 (hF.below hb1))
 have hc:=β (box_below hg hb1)
 have hcx:=β hx1
 have H1:=κ (ι hb1 hr1)
 simp only [ndv] at hc
 obtain ⟨e1,e2,hh⟩:=agg_facts3 op hop
 unfold Fr.val at HP ⊢
 rw [←hfr] at HP ⊢
 unfold ptr at *
 clear hfr hb1 hr1 hx1 hg hF hG hop
 rcases hh with e3|⟨e3,e4⟩|⟨e3,e4,e5⟩|⟨e3,e4,e5,e6⟩|⟨e3,e4,e5,e6,e7⟩
 all_goals
  go_enter Tryz.func45,Tryz.ntmps45
  go_wp2_with fail
  refine HP.out.mono ?_
  rintro e w2 hj
  obtain ⟨k,vi,vs,vb,E,hE,rfl,hb3⟩:=hj.form
  have HQ:=κ hE
  have hr3:=box_below H1.out.2 hb3
  have hk3:=H1.out.1.trans (hb3.mono H1.out.1.size)
  have hc1:=β hr3
  have hf1:=fun j=>frozen_of_row _ _ j _ _ hr3
  have HCE:=κ (β (set4_same hr3 (.int .u8 k) (.int .i64 vi) (.string vs) (.bool vb)))
  have K5:=κ (below_set4 hk3 (g:=w.heap.size+1) (by omega) (.int .u8 k) (.int .i64 vi) (.string vs) (.bool vb))
  clear hb3 hr3 hk3 HP hc hcx hj hE
  go_wp2
  have hcE:=HCE.out
  exact bodyPost_ret (v:=.tuple #[.agg #[.int .u8 k,.int .i64 vi,.string vs,.bool vb],.int .i64 E]) (by simp [results,Tryz.results45,go_sem,hcE]) rfl (EvPost.mk HQ.out K5.out)
theorem res_in {k:Int} {p:Lp.V×Int} (h:Lp.Res k p):Lp.inR p.1.i:=by
 by_cases h0:p.2=0
 ·exact (h.1 h0).1.1
 ·rw [h.2 h0];simp [Lp.inR,Lp.nullV]
theorem ev_all (sc:List Lp.Tb):∀ (x:Lp.X) (gr:Bool) (f:Fr),x.wf→(Lp.kindX sc x gr).2=0→f.R.length≤1000→Lp.RowOk sc f.row→(∀ r∈f.R,Lp.RowOk sc r.2.2)→EvOk sc f x:=by
 intro x
 have rowsOk:∀ f:Fr,(∀ r∈f.R,Lp.RowOk sc r.2.2)→∀ r∈f.rows,Lp.RowOk sc r:=by
  intro f h r hr
  obtain ⟨u,hu,rfl⟩:=List.mem_map.1 hr
  exact h u hu
 have rlen:∀ f:Fr,f.R.length≤1000→f.rows.length≤9223372036854775807:=by
  intro f h
  have:f.rows.length=f.R.length:=by simp [Fr.rows]
  omega
 induction x with
 | lit k i s b=>intro gr f _ _ _ _ _;exact ev_lit sc f k i s b
 | col t s=>intro gr f _ _ _ _ _;exact ev_col sc f t s
 | un op x ih =>
   intro gr f hw hk hR h1 h2
   have hk2:(Lp.thenK (Lp.kindX sc x gr) (Lp.kindU op)).2=0:=hk
   obtain ⟨k1, -, -⟩:=Lp.thenK_two hk2
   have he:=ih gr f hw.2 k1 hR h1 h2
   rcases hw.1 with rfl|rfl
   ·exact ev_not sc f x he
   ·exact ev_neg sc f x he (res_in (Lp.eval_res sc x gr f.row f.rows hw.2 k1 h1 (rowsOk f h2) (rlen f hR)).1)
 | bin op a b iha ihb =>
   intro gr f hw hk hR h1 h2
   have hk2:(Lp.thenK (Lp.kindX sc a gr) fun k=>Lp.thenK (Lp.kindX sc b gr) (Lp.kindB op k)).2=0:=hk
   obtain ⟨k1,k2, -⟩:=Lp.thenK_two hk2
   obtain ⟨k3, -, -⟩:=Lp.thenK_two k2
   have ha:=iha gr f hw.2.1 k1 hR h1 h2
   have hb:=ihb gr f hw.2.2 k3 hR h1 h2
   by_cases g1:op=Lp.uAnd∨op=Lp.uOr
   ·rcases g1 with rfl|rfl
    ·exact ev_and sc f a b ha hb
    ·exact ev_or sc f a b ha hb
   ·by_cases g2:op∈Lp.arith
    ·exact ev_arith sc f op a b ha hb g2 ⟨res_in (Lp.eval_res sc a gr f.row f.rows hw.2.1 k1 h1 (rowsOk f h2) (rlen f hR)).1,res_in (Lp.eval_res sc b gr f.row f.rows hw.2.2 k3 h1 (rowsOk f h2) (rlen f hR)).1⟩
    ·exact ev_cmp sc f op a b ha hb hw.1 g1 g2
 | isn n x ih =>
   intro gr f hw hk hR h1 h2
   have hk2:(Lp.thenK (Lp.kindX sc x gr) fun _=>(3,0)).2=0:=hk
   obtain ⟨k1, -, -⟩:=Lp.thenK_two hk2
   have he:=ih gr f hw k1 hR h1 h2
   cases n with
   | false=>exact ev_is sc f x he
   | true=>exact ev_isnot sc f x he
 | agg op x ih =>
   intro gr f hw hk hR h1 h2
   cases gr with
   | false=>exact absurd hk (by show ¬((3:Int)=0);decide)
   | true =>
     have hk2:(Lp.thenK (Lp.kindX sc x false) (Lp.kindA op)).2=0:=hk
     obtain ⟨k1,k2, -⟩:=Lp.thenK_two hk2
     have hV:∀ r∈f.R,EvOk sc (frV r) x:=fun r hr=>ih false (frV r) hw.2 k1 (Nat.zero_le _) (h2 r hr) (fun _ h=>by cases h)
     have hRes:∀ r∈f.R,Lp.Res (Lp.kindX sc x false).1 (Lp.evalX sc x r.2.2 []):=fun r hr=>(Lp.eval_res sc x false r.2.2 [] hw.2 k1 (h2 r hr) (fun _ h=>by cases h) (Nat.zero_le _)).1
     have hkk:op=Lp.uSum→Lp.fitK (Lp.kindX sc x false).1 1=true:=by
      rintro rfl
      have:(if Lp.fitK (Lp.kindX sc x false).1 1 then ((1,0):Int×Int) else (0,8)).2=0:=k2
      by_cases hf:Lp.fitK (Lp.kindX sc x false).1 1=true
      ·exact hf
      ·rw [if_neg hf] at this;exact absurd this (by decide)
     intro S w g hnt hF
     obtain ⟨-,A,c,g1,hg,hp,hx⟩:=hnt
     exact ev_grp op (List.mem_cons_of_mem _ hw.1) f _ g _ _ _ _ _ _ w hF hg (fun W hb hFW=>egroup_any sc op hw.1 x _ f hR hV hRes hkk S g g1 W _ _ _ _ _ (box_below hg hb) (hp.turn (Turn.below hb) (by simp)) (hx.below hb) hFW)
 | cnt =>
   intro gr f _ _ hR _ _ S w g hnt hF
   exact ev_grp Lp.sCnt List.mem_cons_self f _ g _ _ _ _ _ _ w hF hnt.2 (fun W hb _=>egroup_cnt sc f hR g W (box_below hnt.2 hb))
end Go.Proofs.YtkfjmgmjbljnbaaGreatDoor
