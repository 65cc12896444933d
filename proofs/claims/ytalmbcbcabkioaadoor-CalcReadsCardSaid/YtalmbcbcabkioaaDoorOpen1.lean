/-
  The tables that calc's numerals read, and a world for the witness. No conditions.
-/
import Derived.Test.YtalmbcbcabkioaaDoorTabPow
import Derived.ProofKit
import Derived.OpenShut
import Derived.ShutString
import Derived.ChangeOld
import Derived.Lib.LaidIn
import Derived.Deep.DeepHandedRow
import Derived.Deep.DeepWitnessRowRef
namespace Go.Proofs.YtalmbcbcabkioaaDoor
open Go.ChangeShapes Go.WideShapes Go.ChangeAt Go.RowKit Go.Lib Go.Shelf
open Go.ChangeMaps (open_string shut_string)

theorem tabs_of {W : World} (hL : laidMet Tryd.prog Rows.calcReadsRow.laid W) : Pow W := by
  have r1 := Lib.laidMet.reads hL (.tail _ (.tail _ (.head _)))
  have e1 : (Rows.laid_internal_strconv_uint64pow10 : DataW Unit) = Lib.tabData .u64 Lib.pow10Tab := by kernel_rfl
  rw [e1] at r1
  exact pow_reads r1
/-- A world for the witness: the settled one, the tables as laid. -/
noncomputable def laidWorld (os : Os) : World :=
  let w0 := World.holding Tryd.prog os ⟨#[], #[], []⟩
  let put (h : Array Obj) (g : Nat) (d : DataW Unit) : Array Obj := h.modify g fun
    | .cells _ t frozen => .cells (cell2 d).toArray t frozen
    | o => o
  let h1 := put w0.heap 1 Rows.laid_math_bits_deBruijn32tab
  let h2 := put h1 2 Rows.laid_math_bits_deBruijn64tab
  let h3 := put h2 0 Rows.laid_internal_strconv_uint64pow10
  { w0 with heap := h3 }
end Go.Proofs.YtalmbcbcabkioaaDoor
