/-
 What the laws of layer 18 share: scopes, rows cut to twenty. No conditions.
-/
import Derived.Test.YtkfjmgmjbljnbaaGreatDoorYLaw18b
import Derived.Test.YtkfjmgmjbljnbaaGreatDoorYScope18
import Derived.Test.YtkfjmgmjbljnbaaGreatDoorYFit
import Derived.Test.YtkfjmgmjbljnbaaGreatDoorYSafe1
namespace Go.Proofs.YtkfjmgmjbljnbaaGreatDoor
open Go.RowKit
theorem vv_take2 (l : List Lp.V) (n : Nat) : Lp.vv (l.take n) = (Lp.vv l).take (n * 4) := (Lp.vv_take l n).symm
theorem row_cut {W : World} {A : Option Addr} {c : Nat} {l : List Lp.V} (h : RowOk1 W (A, c, l)) : RowOk1 W ((A, c, l.take (min l.length 20)) : RowV) ∧ (l.take (min l.length 20)).length = min l.length 20 := by
 refine ⟨⟨?_, ?_, fun u hu => h.2.2 u (List.mem_of_mem_take hu)⟩, by simp⟩
 ·show Rds W A (Lp.vv _)
  rw [vv_take2]
  exact Rds.take h.1 _
 ·have h2 : l.length ≤ c := h.2.1
  show (l.take (min l.length 20)).length ≤ c
  simp; omega
theorem RowOk1.below {W W' : World} {x : RowV} (h : RowOk1 W x) (hb : Below W.heap.size W W') : RowOk1 W' x := ⟨h.1.below hb, h.2⟩
theorem frV_ok {sc : List Lp.Tb} {r : RowV} (h : Lp.RowOk sc r.2.2) : Lp.RowOk sc (frV r).row := h
theorem value_at {sc : List Lp.Tb} {x : Lp.X} (hw : x.wf) (hk : (Lp.kindX sc x false).2 = 0) {r : RowV} (hr : Lp.RowOk sc r.2.2) {S : Nat → Prop} {g : Nat} {w : World} (hnt : NT S w sc x g) (hv : RdsV w r.1 r.2.2) :
 Calls Tryz.prog 19 #[ptr g, r.val] w (EvPost (Lp.evalX sc x r.2.2 []) w) :=
 eValue_any sc x r (ev_all sc x false (frV r) hw hk (Nat.zero_le _) hr (fun _ h => by cases h)) S g w hnt hv
theorem safe_zero {sc : List Lp.Tb} {x : Lp.X} (hw : x.wf) (hk : (Lp.kindX sc x false).2 = 0) {row : List Lp.V} (hr : Lp.RowOk sc row) (hs : Lp.safeX x = true) : (Lp.evalX sc x row []).2 = 0 :=
 (Lp.eval_res sc x false row [] hw hk hr (fun _ h => by cases h) (Nat.zero_le _)).2 hs
end Go.Proofs.YtkfjmgmjbljnbaaGreatDoor
