/-
 The document's Value, of every bound expression, of a row; of a group's first row and its rows. Conditions: at most 100 tables, 10000 columns in all, 1000 rows; rows of the scope.
-/
import Derived.Test.YtkfjmgmjbljnbaaGreatDoorQVag18n
import Derived.Test.YtkfjmgmjbljnbaaGreatDoorQZG
import Derived.Test.YtkfjmgmjbljnbaaGreatDoorQGrp18
import Derived.Test.YtkfjmgmjbljnbaaGreatDoorQZK
namespace Go.Proofs.YtkfjmgmjbljnbaaGreatDoor
open Go.RowKit
theorem firstR_one {sc:List Lp.Tb} {row:List Lp.V} {rows:List (List Lp.V)} {y:Lp.X} (h:firstR sc row rows [y]=0):(Lp.evalX sc y row rows).2=0:=by
 have h':(if (Lp.evalX sc y row rows).2=0 then (0:Int) else (Lp.evalX sc y row rows).2)=0:=h
 split at h'
 ·assumption
 ·rename_i h1;exact absurd h' h1
theorem firstR_two {sc:List Lp.Tb} {row:List Lp.V} {rows:List (List Lp.V)} {a b:Lp.X} (h:firstR sc row rows [a,b]=0):(Lp.evalX sc a row rows).2=0∧(Lp.evalX sc b row rows).2=0:=by
 have h':(if (Lp.evalX sc a row rows).2=0 then firstR sc row rows [b] else (Lp.evalX sc a row rows).2)=0:=h
 split at h'
 ·rename_i h1;exact ⟨h1,firstR_one h'⟩
 ·rename_i h1;exact absurd h' h1
theorem cmpOk_of {k k':Int} {u v:Lp.V} (hu:Lp.Of k u) (hv:Lp.Of k' v) (hf:(Lp.fitK k k'||Lp.fitK k' k)=true):CmpOk u v:=by
 intro op
 by_cases h:u.k=0∨v.k=0
 ·rw [if_pos h];exact Lp.cmp_null h
 ·rw [if_neg h];exact Lp.cmp_ref hu hv hf (fun g=>h (.inl g)) (fun g=>h (.inr g))
theorem cmp_not:∀ op∈cmpOps,¬(op=Lp.uAnd∨op=Lp.uOr)∧¬op∈Lp.arith:=by decide
theorem val_one {A:Option Addr} {c:Nat} {l:List TabA} {r:RowV} {wv:Value} {rows:List (List Lp.V)} {P:World→Prop} (hP:∀ w w':World,P w→Below w.heap.size w w'→P w') {x y:Lp.X} (hk1:kids x=[y]) (h6:nodK x≠6) (hx:x.wf) (hy:ValOk A c l r wv rows P y) (hg:(Lp.evalX (scOf l) y r.2.2 rows).2=0→Lp.Gd (Lp.evalX (scOf l) y r.2.2 rows).1):ValOk A c l r wv rows P x:=by
 have hk:kids x≠[]:=by rw [hk1];exact fun h=>by cases h
 intro S w rr hA hr hrd hpw
 obtain ⟨Ar,rs,rfl,hp⟩:=rx_pts hr hk
 refine val_node A c l r wv rows P hP x hk h6 (endR_of hx hk h6) S w Ar rs hA hp hrd hpw (fun z hz => ?_) fun hf => ?_
 ·rw [hk1] at hz;rw [List.mem_singleton.1 hz];exact hy
 ·rw [hk1] at hf ⊢
  have h0:=firstR_one hf
  refine ⟨fun u hu => ?_,fun u v h => ?_⟩
  ·have:u=(Lp.evalX (scOf l) y r.2.2 rows).1:=List.mem_singleton.1 hu
   rw [this];exact hg h0
  ·have:=congrArg List.length h
   simp [valsR] at this
theorem vag_ind (gr:Bool) (A:Option Addr) (c:Nat) (l:List TabA) (hn:l.length≤100) (hw:Lp.wide (scOf l)≤10000) (r:RowV) (wv:Value) (rows:List (List Lp.V)) (P:World→Prop) (hP:∀ w w':World,P w→Below w.heap.size w w'→P w') (hro:Lp.RowOk (scOf l) r.2.2) (hlen:r.2.2.length=Lp.wide (scOf l)∨r.2.2=[]) (hrows:∀ q∈rows,Lp.RowOk (scOf l) q) (hrl:rows.length≤9223372036854775807)
 (hagg:∀ op y,(Lp.X.agg op y).wf→(Lp.kindX (scOf l) (.agg op y) gr).2=0→ValOk A c l r wv rows P (.agg op y)) (hcnt:(Lp.kindX (scOf l) .cnt gr).2=0→ValOk A c l r wv rows P .cnt):∀ x:Lp.X,x.wf→(Lp.kindX (scOf l) x gr).2=0→ValOk A c l r wv rows P x:=by
 have typed:∀ y:Lp.X,y.wf→(Lp.kindX (scOf l) y gr).2=0→(Lp.evalX (scOf l) y r.2.2 rows).2=0→Lp.Of (Lp.kindX (scOf l) y gr).1 (Lp.evalX (scOf l) y r.2.2 rows).1:=fun y hy hk h0=>(Lp.eval_res (scOf l) y gr r.2.2 rows hy hk hro hrows hrl).1.1 h0
 intro x
 induction x with
 | lit k i s b =>
   intro _ _ S w rr hA hr hrd _
   obtain rfl:rr=rcL k i s b:=hr
   exact val_lit A l.length c r.1 r.2.2.length r.2.1 wv k i s b w
 | col t s =>
   intro _ hk S w rr hA hr hrd _
   obtain rfl:rr=rcC t s:=hr
   rcases hlen with hlen|hlen
   ·exact val_col gr A c l r.1 r.2.1 wv rows r.2.2 t s w hA hn hw hrd hlen hk
   ·obtain ⟨rA,rc,rl⟩:=r
    obtain rfl:rl=[]:=hlen
    have he:Lp.evalX (scOf l) (.col t s) [] rows=(Lp.nullV,0):=by
     unfold Lp.evalX
     split<;>simp
    show Calls _ _ #[_,_,.slice rA 0 rc,_] w (EvPost (Lp.evalX (scOf l) (.col t s) [] rows) w)
    rw [he]
    exact val_col0 A c l rc rA wv t s w
 | cnt=>intro _ hk;exact hcnt hk
 | agg op x _=>intro hx hk;exact hagg op x hx hk
 | un op x ih =>
   intro hx hk
   have h1:=(thenK_ok (show (Lp.thenK (Lp.kindX (scOf l) x gr) (Lp.kindU op)).2=0 from hk)).1
   exact val_one hP rfl (by show (3:Int)≠6;decide) hx (ih hx.2 h1) fun h0=>(typed x hx.2 h1 h0).1
 | isn n x ih =>
   intro hx hk
   have h1:=(thenK_ok (show (Lp.thenK (Lp.kindX (scOf l) x gr) fun _=>((3,0):Int×Int)).2=0 from hk)).1
   exact val_one hP rfl (by show (5:Int)≠6;decide) hx (ih hx h1) fun h0=>(typed x hx h1 h0).1
 | bin op a b iha ihb =>
   intro hx hk S w rr hA hr hrd hpw
   obtain ⟨h1,h2, -⟩:=thenK_ok (show (Lp.thenK (Lp.kindX (scOf l) a gr) fun k=>Lp.thenK (Lp.kindX (scOf l) b gr) (Lp.kindB op k)).2=0 from hk)
   obtain ⟨h3,h4, -⟩:=thenK_ok h2
   have hk0:kids (.bin op a b)≠[]:=fun h=>by cases h
   obtain ⟨Ar,rs,rfl,hp⟩:=rx_pts (x:=.bin op a b) hr hk0
   refine val_node A c l r wv rows P hP (.bin op a b) hk0 (by show (4:Int)≠6;decide) (endR_of hx hk0 (by show (4:Int)≠6;decide)) S w Ar rs hA hp hrd hpw (fun z hz => ?_) fun hf => ?_
   ·rcases List.mem_cons.1 hz with rfl|hz
    ·exact iha hx.2.1 h1
    ·rw [List.mem_singleton.1 hz];exact ihb hx.2.2 h3
   ·obtain ⟨e1,e2⟩:=firstR_two (a:=a) (b:=b) hf
    have ta:=typed a hx.2.1 h1 e1
    have tb:=typed b hx.2.2 h3 e2
    refine ⟨fun u hu => ?_,fun u v h hop => ?_⟩
    ·rcases List.mem_cons.1 (show u∈[(Lp.evalX (scOf l) a r.2.2 rows).1,(Lp.evalX (scOf l) b r.2.2 rows).1] from hu) with rfl|hu
     ·exact ta.1
     ·rw [List.mem_singleton.1 hu];exact tb.1
    ·have hh:[(Lp.evalX (scOf l) a r.2.2 rows).1,(Lp.evalX (scOf l) b r.2.2 rows).1]=[u,v]:=h
     injection hh with g1 g2
     injection g2 with g2 _
     subst g1 g2
     refine cmpOk_of ta tb ?_
     obtain ⟨c1,c2⟩:=cmp_not op hop
     have h5:(Lp.kindB op (Lp.kindX (scOf l) a gr).1 (Lp.kindX (scOf l) b gr).1).2=0:=h4
     unfold Lp.kindB at h5
     rw [if_neg c1,if_neg c2] at h5
     split at h5
     ·assumption
     ·exact absurd h5 (by decide)
theorem vag_no (A:Option Addr) (c:Nat) (l:List TabA) (hn:l.length≤100) (hw:Lp.wide (scOf l)≤10000) (r:RowV) (hro:Lp.RowOk (scOf l) r.2.2) (hlen:r.2.2.length=Lp.wide (scOf l)) (x:Lp.X) (hx:x.wf) (hk:(Lp.kindX (scOf l) x false).2=0):ValOk A c l r (.slice none 0 0) [] (fun _=>True) x :=
 vag_ind false A c l hn hw r _ [] _ (fun _ _ _ _=>trivial) hro (.inl hlen) (fun _ h=>by cases h) (Nat.zero_le _) (fun _ _ _ h=>absurd h (by show ¬((3:Int)=0);decide)) (fun h=>absurd h (by show ¬((3:Int)=0);decide)) x hx hk
theorem vag_any (A:Option Addr) (c:Nat) (l:List TabA) (hn:l.length≤100) (hw:Lp.wide (scOf l)≤10000) (r:RowV) (hro:Lp.RowOk (scOf l) r.2.2) (hlen:r.2.2.length=Lp.wide (scOf l)∨r.2.2=[]) (gA:Option Addr) (gc:Nat) (R:List RowV) (hR:R.length≤1000) (hRs:∀ q∈R,Lp.RowOk (scOf l) q.2.2∧q.2.2.length=Lp.wide (scOf l)):∀ x:Lp.X,x.wf→(Lp.kindX (scOf l) x true).2=0→ValOk A c l r (.slice gA R.length gc) (R.map fun q=>q.2.2) (fun w=>RowsM w gA R) x:=by
 refine vag_ind true A c l hn hw r _ _ _ (fun _ _ h hb=>h.below hb) hro hlen (fun q hq => ?_) (by rw [List.length_map];omega) (fun op y hwf hk => ?_) (fun _ => ?_)
 ·obtain ⟨u,hu,rfl⟩:=List.mem_map.1 hq
  exact (hRs u hu).1
 ·have hk2:(Lp.thenK (Lp.kindX (scOf l) y false) (Lp.kindA op)).2=0:=hk
  obtain ⟨k1,k2, -⟩:=thenK_ok hk2
  have hkk:op=Lp.uSum→Lp.fitK (Lp.kindX (scOf l) y false).1 1=true:=by
   rintro rfl
   have:(if Lp.fitK (Lp.kindX (scOf l) y false).1 1 then ((1,0):Int×Int) else (0,8)).2=0:=k2
   by_cases hf:Lp.fitK (Lp.kindX (scOf l) y false).1 1=true
   ·exact hf
   ·rw [if_neg hf] at this;exact absurd this (by decide)
  intro S w rr hA hr hrd hpw
  obtain ⟨Ar,rs,rfl,hp⟩:=rx_pts (x:=.agg op y) hr (fun h=>by cases h)
  exact val_six A l.length c _ _ _ _ _ _ _ _ _ r.val _ _ w fun W hb=>grp18_any A c l op hwf.1 y _ gA gc R hR (fun q hq=>vag_no A c l hn hw q (hRs q hq).1 (hRs q hq).2 y hwf.2 k1) (fun q hq=>(Lp.eval_res (scOf l) y false q.2.2 [] hwf.2 k1 (hRs q hq).1 (fun _ h=>by cases h) (Nat.zero_le _)).1) hkk S W Ar rs (hA.below hb) (hp.below hb) (hpw.below hb)
 ·intro S w rr hA hr hrd hpw
  obtain rfl:rr=rc0 6 Lp.uCount:=hr
  have he:Lp.evalX (scOf l) .cnt r.2.2 (R.map fun q=>q.2.2)=(Lp.numV R.length,0):=by
   show (Lp.numV (R.map fun q=>q.2.2).length,(0:Int))=_
   rw [List.length_map]
  rw [he]
  exact val_six A l.length c _ _ _ _ _ _ _ _ _ r.val _ _ w fun W hb=>grp18_cnt A l.length c _ gA R.length gc hR W
end Go.Proofs.YtkfjmgmjbljnbaaGreatDoor
