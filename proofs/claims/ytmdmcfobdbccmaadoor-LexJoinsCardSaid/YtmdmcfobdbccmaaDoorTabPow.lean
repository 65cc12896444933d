/-
  The table of the powers of ten as a row lists it. Condition: the row's own.
-/
import Derived.Test.YtmdmcfobdbccmaaDoorRows
import Derived.Below
import Derived.WalkSmall
import Derived.Lib.LaidU8
import Derived.Lib.LaidTab
import Derived.Lib.ItoaNum
namespace Go.Proofs.YtmdmcfobdbccmaaDoor
open Go.RowKit Go.Lib

/-- The table of the powers of ten is as its text lays it. -/
def Pow (w : World) : Prop := Lib.TabIs Tryd.prog w "internal/strconv.uint64pow10" .u64 Lib.pow10Tab
theorem pow_below {w w' : World} (h : Pow w) (hb : Below w.heap.size w w') : Pow w' := by
  have hg : Tryd.prog.globalNamed "internal/strconv.uint64pow10" = some 3 := by kernel_rfl
  refine var?_below hb hg ?_ h
  unfold Pow Lib.TabIs World.var? at h
  simp only [hg, Option.bind_some] at h
  by_cases hlt : 3 < w.heap.size
  · exact hlt
  · rw [Array.getElem?_eq_none (by omega)] at h; cases h
theorem pow_alloc {w : World} (h : Pow w) (o : Obj) : Pow (w.alloc o) := pow_below h ((Below.refl _ _).alloc (Nat.le_refl _) o)
theorem pow_reads {W : World} (h : Lib.VarReads Tryd.prog W "internal/strconv.uint64pow10" (Lib.tabData .u64 Lib.pow10Tab)) : Pow W := by
  obtain ⟨g, t, cs, fuel, p, hg, hty, hvar, hd⟩ := h
  obtain rfl := Option.some.inj ((show Tryd.prog.globalNamed "internal/strconv.uint64pow10" = some 3 by kernel_rfl).symm.trans hg)
  obtain rfl := Option.some.inj ((show (Tryd.prog.globals[3]?).map (·.type) = some 112 by kernel_rfl).symm.trans hty)
  unfold Pow Lib.TabIs
  rw [hvar, ← Lib.cells_of_tab Tryd.underlying112 Tryd.underlying70 (by kernel_rfl) (by kernel_rfl) hd]

/-- A listed table's cells, for the witness. -/
def cell1 : DataW Unit → List Value
  | .lit (.int k z) => [.int k z]
  | _ => []
def cell2 : DataW Unit → List Value
  | .agg l => l.flatMap cell1
  | d => cell1 d
def cell3 : DataW Unit → List Value
  | .agg l => l.flatMap cell2
  | d => cell1 d
end Go.Proofs.YtmdmcfobdbccmaaDoor
