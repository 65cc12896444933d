/-
 Rows of values of the call's own, and a row of such rows. No conditions.
-/
import Derived.Test.YtkfjmgmjbljnbaaGreatDoorQFit
import Derived.Test.YtkfjmgmjbljnbaaGreatDoorQZH
namespace Go.Proofs.YtkfjmgmjbljnbaaGreatDoor
open Go.RowKit
theorem rowsInfo:(Tryz.prog.info? 23).map (fun i=>(i.zero,i.size,i.bytes))=some (some (.slice none 0 0),1,24):=by kernel_rfl
def RowsIn (sc:List Lp.Tb) (W:World) (B:Nat) (R:List RowV):Prop:=∀ x∈R,W.ownsRow B 31 4 (.slice x.1 x.2.2.length x.2.1) x.2.2.length (Lp.vv x.2.2)∧Lp.RowOk sc x.2.2∧x.2.2.length=Lp.wide sc
theorem RowsIn.nil (sc:List Lp.Tb) (W:World) (B:Nat):RowsIn sc W B []:=fun _ h=>by cases h
section
variable {sc:List Lp.Tb} {W W':World} {B B2:Nat} {R:List RowV}
theorem RowsIn.below (h:RowsIn sc W B R) (hb:Below W.heap.size W W'):RowsIn sc W' B R:=fun x hx=>⟨own_under (h x hx).1 hb,(h x hx).2⟩
theorem RowsIn.two {n2 s2:Nat} {e2:TypeId} {v2:Value} {x2:List Value} (h:RowsIn sc W B R) (h2:W.ownsRow B2 e2 s2 v2 n2 x2) (hne:e2≠31) (hg:W.grownBy W' v2.ownBlock):RowsIn sc W' B R :=
 fun x hx=>⟨own_twoS (h x hx).1 h2 hne hg,(h x hx).2⟩
theorem RowsIn.snoc {x:RowV} (h:RowsIn sc W B R) (hx:W.ownsRow B 31 4 (.slice x.1 x.2.2.length x.2.1) x.2.2.length (Lp.vv x.2.2)) (h1:Lp.RowOk sc x.2.2) (h2:x.2.2.length=Lp.wide sc):RowsIn sc W B (R++[x]):=fun q hq=>by
 rcases List.mem_append.1 hq with hq|hq
 ·exact h q hq
 ·rw [List.mem_singleton] at hq;rw [hq];exact ⟨hx,h1,h2⟩
theorem RowsIn.rows {A:Option Addr} {c:Nat} (h:RowsIn sc W B R) (ho:W.ownsRow B2 23 1 (.slice A R.length c) R.length (R.map RowV.val)):RowsM W A R:=⟨Rds.own ho,fun x hx=>Rds.own (h x hx).1⟩
theorem RowsIn.rowOk (h:RowsIn sc W B R):∀ x∈R,Lp.RowOk sc x.2.2∧x.2.2.length=Lp.wide sc:=fun x hx=>(h x hx).2
end
theorem vals_one (R:List RowV):∀ u∈R.map RowV.val,u.oneCell'=true:=by
 intro u hu
 obtain ⟨x, -,rfl⟩:=List.mem_map.1 hu
 rfl
def hd (R:List RowV):RowV:=R.headD (none,0,[])
theorem frG_row (A:Option Addr) (c:Nat) (R:List RowV):(frG A c R).row=(hd R).2.2:=by cases R<;>rfl
theorem frG_rows (A:Option Addr) (c:Nat) (R:List RowV):(frG A c R).rows=R.map fun q=>q.2.2:=rfl
theorem hd_ok {sc:List Lp.Tb} {R:List RowV} (h:∀ x∈R,Lp.RowOk sc x.2.2∧x.2.2.length=Lp.wide sc):Lp.RowOk sc (hd R).2.2∧((hd R).2.2.length=Lp.wide sc∨(hd R).2.2=[]):=by
 cases R with
 | nil=>exact ⟨Lp.RowOk.nil _,.inr rfl⟩
 | cons x R=>exact ⟨(h x List.mem_cons_self).1,.inl (h x List.mem_cons_self).2⟩
theorem hd_rds {w:World} {A:Option Addr} {R:List RowV} (h:RowsM w A R):RdsV w (hd R).1 (hd R).2.2:=by
 cases R with
 | nil=>exact Rds.nil_
 | cons x R=>exact h.2 x List.mem_cons_self
end Go.Proofs.YtkfjmgmjbljnbaaGreatDoor
