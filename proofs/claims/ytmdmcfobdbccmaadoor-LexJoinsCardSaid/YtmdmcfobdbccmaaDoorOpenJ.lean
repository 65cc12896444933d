/-
  The five listed tables of LexJoins; a world for its witness. No conditions.
-/
import Derived.Test.YtmdmcfobdbccmaaDoorWalkLexJoins
import Derived.ProofKit
import Derived.OpenShut
import Derived.ShutString
import Derived.ChangeOld
import Derived.Lib.LaidIn
import Derived.Lib.LaidU8T
import Derived.Deep.DeepHandedRow
import Derived.Deep.DeepWitnessRowRef
namespace Go.Proofs.YtmdmcfobdbccmaaDoor
open Go.ChangeShapes Go.WideShapes Go.ChangeAt Go.RowKit Go.Lib Go.Shelf
open Go.ChangeMaps (open_string shut_string)

set_option maxRecDepth 100000 in
theorem tabs_of {W : World} (hL : laidMet Tryd.prog Rows.lexJoinsRow.laid W) (hS : W.ShapedOpen Tryd.prog) : AwJ W := by
  have r1 := Lib.laidMet.reads hL (.tail _ (.tail _ (.head _)))
  have r2 := Lib.laidMet.reads hL (.tail _ (.tail _ (.tail _ (.head _))))
  have r3 := Lib.laidMet.reads hL (.tail _ (.tail _ (.tail _ (.tail _ (.head _)))))
  have e1 : (Rows.laid_internal_strconv_uint64pow10 : DataW Unit) = Lib.tabData .u64 Lib.pow10Tab := by kernel_rfl
  have e2 : (Rows.laid_unicode_utf8_acceptRanges : DataW Unit) = Lib.acceptData := by kernel_rfl
  have e3 : Rows.laid_unicode_utf8_first = Lib.firstData := by kernel_rfl
  rw [e1] at r1
  rw [e2] at r2
  rw [e3] at r3
  exact ⟨utf8Tabs_of_readsT (U8Types.of196 Tryd.laysValid) ⟨by kernel_rfl, by kernel_rfl, by kernel_rfl, by kernel_rfl, by kernel_rfl, by kernel_rfl, by kernel_rfl⟩ r3 r2, pow_reads r1, ml_shaped hS⟩
/-- A world for the witness: the settled one, the tables as laid. -/
noncomputable def laidWorld (os : Os) : World :=
  let w0 := World.holding Tryd.prog os ⟨#[], #[], []⟩
  let put (h : Array Obj) (g : Nat) (d : DataW Unit) : Array Obj := h.modify g fun
    | .cells _ t frozen => .cells (cell3 d).toArray t frozen
    | o => o
  let h1 := put w0.heap 4 Rows.laid_math_bits_deBruijn32tab
  let h2 := put h1 5 Rows.laid_math_bits_deBruijn64tab
  let h3 := put h2 3 Rows.laid_internal_strconv_uint64pow10
  let h4 := put h3 1 Rows.laid_unicode_utf8_acceptRanges
  let h5 := put h4 0 Rows.laid_unicode_utf8_first
  { w0 with heap := h5 }
end Go.Proofs.YtmdmcfobdbccmaaDoor
