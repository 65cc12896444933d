/-
 The document's Value, of every expression that is bound without groups. Conditions: at most 100 tables, 10000 columns in all; a row of the scope.
-/
import Derived.Test.YtkfjmgmjbljnbaaGreatDoorZVal18n
import Derived.Test.YtkfjmgmjbljnbaaGreatDoorZZG
namespace Go.Proofs.YtkfjmgmjbljnbaaGreatDoor
open Go.RowKit
theorem firstR_one {sc:List Lp.Tb} {row:List Lp.V} {y:Lp.X} (h:firstR sc row [y]=0):(Lp.evalX sc y row []).2=0:=by
 have h':(if (Lp.evalX sc y row []).2=0 then (0:Int) else (Lp.evalX sc y row []).2)=0:=h
 split at h'
 ·assumption
 ·rename_i h1;exact absurd h' h1
theorem firstR_two {sc:List Lp.Tb} {row:List Lp.V} {a b:Lp.X} (h:firstR sc row [a,b]=0):(Lp.evalX sc a row []).2=0∧(Lp.evalX sc b row []).2=0:=by
 have h':(if (Lp.evalX sc a row []).2=0 then firstR sc row [b] else (Lp.evalX sc a row []).2)=0:=h
 split at h'
 ·rename_i h1;exact ⟨h1,firstR_one h'⟩
 ·rename_i h1;exact absurd h' h1
theorem cmpOk_of {k k':Int} {u v:Lp.V} (hu:Lp.Of k u) (hv:Lp.Of k' v) (hf:(Lp.fitK k k'||Lp.fitK k' k)=true):CmpOk u v:=by
 intro op
 by_cases h:u.k=0∨v.k=0
 ·rw [if_pos h];exact Lp.cmp_null h
 ·rw [if_neg h];exact Lp.cmp_ref hu hv hf (fun g=>h (.inl g)) (fun g=>h (.inr g))
theorem cmp_not:∀ op∈cmpOps,¬(op=Lp.uAnd∨op=Lp.uOr)∧¬op∈Lp.arith:=by decide
theorem val_one {A:Option Addr} {c:Nat} {l:List TabA} {r:RowV} {x y:Lp.X} (hk1:kids x=[y]) (h6:nodK x≠6) (hx:x.wf) (hy:ValOk A c l r y) (hg:(Lp.evalX (scOf l) y r.2.2 []).2=0→Lp.Gd (Lp.evalX (scOf l) y r.2.2 []).1):ValOk A c l r x:=by
 have hk:kids x≠[]:=by rw [hk1];exact fun h=>by cases h
 intro S w rr hA hr hrd
 obtain ⟨Ar,rs,rfl,hp⟩:=rx_pts hr hk
 refine val_node A c l r x hk h6 (endR_of hx hk h6) S w Ar rs hA hp hrd (fun z hz => ?_) fun hf => ?_
 ·rw [hk1] at hz;rw [List.mem_singleton.1 hz];exact hy
 ·rw [hk1] at hf ⊢
  have h0:=firstR_one hf
  refine ⟨fun u hu => ?_,fun u v h => ?_⟩
  ·have:u=(Lp.evalX (scOf l) y r.2.2 []).1:=List.mem_singleton.1 hu
   rw [this];exact hg h0
  ·have:=congrArg List.length h
   simp [valsR] at this
theorem val18_any (A:Option Addr) (c:Nat) (l:List TabA) (hn:l.length≤100) (hw:Lp.wide (scOf l)≤10000) (r:RowV) (hro:Lp.RowOk (scOf l) r.2.2) (hlen:r.2.2.length=Lp.wide (scOf l)):∀ x:Lp.X,x.wf→(Lp.kindX (scOf l) x false).2=0→ValOk A c l r x:=by
 have typed:∀ y:Lp.X,y.wf→(Lp.kindX (scOf l) y false).2=0→(Lp.evalX (scOf l) y r.2.2 []).2=0→Lp.Of (Lp.kindX (scOf l) y false).1 (Lp.evalX (scOf l) y r.2.2 []).1:=fun y hy hk h0=>(Lp.eval_res (scOf l) y false r.2.2 [] hy hk hro (fun _ h=>by cases h) (Nat.zero_le _)).1.1 h0
 intro x
 induction x with
 | lit k i s b =>
   intro _ _ S w rr hA hr hrd
   obtain rfl:rr=rcL k i s b:=hr
   exact val_lit A l.length c r.1 r.2.2.length r.2.1 k i s b w
 | col t s =>
   intro _ hk S w rr hA hr hrd
   obtain rfl:rr=rcC t s:=hr
   exact val_col A c l r.1 r.2.1 r.2.2 t s w hA hn hw hrd hlen hk
 | cnt=>intro _ hk;exact absurd hk (by decide:¬((3:Int)=0))
 | agg op x ih=>intro _ hk;exact absurd hk (by decide:¬((3:Int)=0))
 | un op x ih =>
   intro hx hk
   have h1:=(thenK_ok (show (Lp.thenK (Lp.kindX (scOf l) x false) (Lp.kindU op)).2=0 from hk)).1
   exact val_one rfl (by show (3:Int)≠6;decide) hx (ih hx.2 h1) fun h0=>(typed x hx.2 h1 h0).1
 | isn n x ih =>
   intro hx hk
   have h1:=(thenK_ok (show (Lp.thenK (Lp.kindX (scOf l) x false) fun _=>((3,0):Int×Int)).2=0 from hk)).1
   exact val_one rfl (by show (5:Int)≠6;decide) hx (ih hx h1) fun h0=>(typed x hx h1 h0).1
 | bin op a b iha ihb =>
   intro hx hk S w rr hA hr hrd
   obtain ⟨h1,h2, -⟩:=thenK_ok (show (Lp.thenK (Lp.kindX (scOf l) a false) fun k=>Lp.thenK (Lp.kindX (scOf l) b false) (Lp.kindB op k)).2=0 from hk)
   obtain ⟨h3,h4, -⟩:=thenK_ok h2
   have hk0:kids (.bin op a b)≠[]:=fun h=>by cases h
   obtain ⟨Ar,rs,rfl,hp⟩:=rx_pts (x:=.bin op a b) hr hk0
   refine val_node A c l r (.bin op a b) hk0 (by show (4:Int)≠6;decide) (endR_of hx hk0 (by show (4:Int)≠6;decide)) S w Ar rs hA hp hrd (fun z hz => ?_) fun hf => ?_
   ·rcases List.mem_cons.1 hz with rfl|hz
    ·exact iha hx.2.1 h1
    ·rw [List.mem_singleton.1 hz];exact ihb hx.2.2 h3
   ·obtain ⟨e1,e2⟩:=firstR_two (a:=a) (b:=b) hf
    have ta:=typed a hx.2.1 h1 e1
    have tb:=typed b hx.2.2 h3 e2
    refine ⟨fun u hu => ?_,fun u v h hop => ?_⟩
    ·rcases List.mem_cons.1 (show u∈[(Lp.evalX (scOf l) a r.2.2 []).1,(Lp.evalX (scOf l) b r.2.2 []).1] from hu) with rfl|hu
     ·exact ta.1
     ·rw [List.mem_singleton.1 hu];exact tb.1
    ·have hh:[(Lp.evalX (scOf l) a r.2.2 []).1,(Lp.evalX (scOf l) b r.2.2 []).1]=[u,v]:=h
     injection hh with g1 g2
     injection g2 with g2 _
     subst g1 g2
     refine cmpOk_of ta tb ?_
     obtain ⟨c1,c2⟩:=cmp_not op hop
     have h5:(Lp.kindB op (Lp.kindX (scOf l) a false).1 (Lp.kindX (scOf l) b false).1).2=0:=h4
     unfold Lp.kindB at h5
     rw [if_neg c1,if_neg c2] at h5
     split at h5
     ·assumption
     ·exact absurd h5 (by decide)
end Go.Proofs.YtkfjmgmjbljnbaaGreatDoor
