/-
  lapidarylaw02's awake returns true: the document's examples hold of the program. Conditions: the listed tables as laid; internal/bytealg.MaxLen holds a number.
-/
import Derived.Test.YthojikijelijnaaDoorCell7
import Derived.Test.YthojikijelijnaaDoorLit
namespace Go.Proofs.YthojikijelijnaaDoor
open Go.RowKit

/-- What a statement of layer 2 asks of its world. -/
def Aw (w : World) : Prop := Tabs w ∧ Pow w ∧ Ml w
theorem aw_below {w w' : World} (h : Aw w) (hb : Below w.heap.size w w') : Aw w' := ⟨tabs_below h.1 hb, pow_below h.2.1 hb, ml_below h.2.2 hb⟩
theorem aw_and (w : World) : Calls Tryd.prog 22 #[.agg #[.int .u8 0, .int .i64 0, .string ⟨#[]⟩, .bool false], .agg #[.int .u8 3, .int .i64 0, .string ⟨#[]⟩, .bool false]] w fun e w' => e = .returned (.tuple #[.agg #[.int .u8 3, .int .i64 0, .string ⟨#[]⟩, .bool false], .int .i64 0]) ∧ Below w.heap.size w w' :=
  (cand_any 0 0 ⟨#[]⟩ false 3 0 ⟨#[]⟩ false w).mono fun _ _ h => h
theorem aw_or (w : World) : Calls Tryd.prog 25 #[.agg #[.int .u8 0, .int .i64 0, .string ⟨#[]⟩, .bool false], .agg #[.int .u8 3, .int .i64 0, .string ⟨#[]⟩, .bool false]] w fun e w' => e = .returned (.tuple #[.agg #[.int .u8 0, .int .i64 0, .string ⟨#[]⟩, .bool false], .int .i64 0]) ∧ Below w.heap.size w w' :=
  (cor_any 0 0 ⟨#[]⟩ false 3 0 ⟨#[]⟩ false w).mono fun _ _ h => h
theorem aw_cmp (w : World) : Calls Tryd.prog 18 #[.agg #[.int .u8 1, .int .i64 1, .string ⟨#[]⟩, .bool false], .agg #[.int .u8 2, .int .i64 0, .string ⟨#[120]⟩, .bool false]] w fun e w' => e = .returned (.tuple #[.int .i64 0, .bool false, .int .i64 8]) ∧ Below w.heap.size w w' :=
  (compare_any 1 1 ⟨#[]⟩ false 2 0 ⟨#[120]⟩ false w).mono fun _ _ h => h
theorem aw_lit (w : World) (h : Aw w) : Calls Tryd.prog 14 #[.agg #[.int .u8 2, .int .i64 0, .string ⟨#[105, 116, 39, 115]⟩, .bool false]] w fun e w' => e = .returned (.string ⟨#[39, 105, 116, 39, 39, 115, 39]⟩) ∧ Below w.heap.size w w' :=
  (clit_any 2 0 ⟨#[105, 116, 39, 115]⟩ false w (by decide) (by decide) h.2.1 h.2.2).mono fun _ _ h => h
set_option maxRecDepth 100000 in
set_option maxHeartbeats 4000000 in
theorem awake2_any (w : World) (h : Aw w) : Calls Tryd.prog 12 #[] w fun e w' => e = .returned (.bool true) ∧ Below w.heap.size w w' := by
  have hb0 : Below w.heap.size w (w.alloc (.cells #[.int .u8 3, .int .i64 0, .string ⟨#[]⟩, .bool false] 24)) := (Below.refl _ _).alloc (Nat.le_refl _) _
  have hx0 := heap_alloc_new w (.cells #[.int .u8 3, .int .i64 0, .string ⟨#[]⟩, .bool false] 24)
  go_enter Tryd.func12, Tryd.ntmps12
  go_wp2_with fail
  refine (aw_and _).mono ?_
  rintro e w1 ⟨rfl, hb1⟩
  have k1 := hb0.trans (hb1.mono (by simp))
  have hx1 := box_below hx0 hb1
  have hc1 := box_cells hx1
  have k1a := ba k1 (.cells #[.int .u8 3, .int .i64 0, .string ⟨#[]⟩, .bool false] 24)
  have hx1a := box_alloc hx1 (.cells #[.int .u8 3, .int .i64 0, .string ⟨#[]⟩, .bool false] 24)
  have hy1a := heap_alloc_new w1 (.cells #[.int .u8 3, .int .i64 0, .string ⟨#[]⟩, .bool false] 24)
  have hz1 := k1.size
  have hlt1 : w.heap.size < w1.heap.size := heap_lt hx1
  clear hb0 hb1 hx0 hx1
  go_wp2_with fail
  refine (aw_or _).mono ?_
  rintro e w2 ⟨rfl, hb2⟩
  have k2 := k1a.trans (hb2.mono k1a.size)
  have hx2 := box_below hx1a hb2
  have hy2 := box_below hy1a hb2
  have hx2a := box_alloc hx2 (.cells #[.int .u8 0, .int .i64 0, .string ⟨#[]⟩, .bool false] 24)
  have hy2a := box_alloc hy2 (.cells #[.int .u8 0, .int .i64 0, .string ⟨#[]⟩, .bool false] 24)
  have hv2a := heap_alloc_new w2 (.cells #[.int .u8 0, .int .i64 0, .string ⟨#[]⟩, .bool false] 24)
  have k2a := ba k2 (.cells #[.int .u8 0, .int .i64 0, .string ⟨#[]⟩, .bool false] 24)
  clear hb2 hx1a hy1a k1 k1a hx2 hy2 k2 hc1
  go_wp2_with fail
  refine (aw_cmp _).mono ?_
  rintro e w3 ⟨rfl, hb3⟩
  have k3 := k2a.trans (hb3.mono k2a.size)
  have hx3 := box_cells (box_below hx2a hb3)
  have hy3 := box_cells (box_below hy2a hb3)
  have hv3 := box_cells (box_below hv2a hb3)
  clear hb3 hx2a hy2a hv2a k2a
  go_wp2_with fail
  refine (aw_lit _ (aw_below h k3)).mono ?_
  rintro e w4 ⟨rfl, hb4⟩
  go_wp2
  go_ret
  exact ⟨rfl, k3.trans (hb4.mono k3.size)⟩
end Go.Proofs.YthojikijelijnaaDoor
