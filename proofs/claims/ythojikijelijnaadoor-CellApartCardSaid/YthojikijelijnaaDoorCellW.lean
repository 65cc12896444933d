/-
  Words for the walks of layer 2's statements: truth by letters; right values' classes. No conditions.
-/
import Derived.Test.YthojikijelijnaaDoorAwake2
import Derived.Test.YthojikijelijnaaDoorRef2Right
import Derived.Test.YthojikijelijnaaDoorRefAnd
import Derived.Test.YthojikijelijnaaDoorRefOr
namespace Go.Proofs.YthojikijelijnaaDoor
open Go.RowKit

theorem tp {f : FuncId} {args : Array Value} {bad : Bool} {n : Int} {K E : Int} {B : Bool} (h1 : (if bad then 0 else Lp.bkK n) = K) (h2 : (if bad then false else Lp.bkB n) = B) (h3 : (if bad then 8 else 0) = E)
    (h : ∀ W, Calls Tryd.prog f args W (TruthPost bad n W)) : ∀ W, Calls Tryd.prog f args W fun e w' => e = .returned (.tuple #[.agg #[.int .u8 K, .int .i64 0, .string ⟨#[]⟩, .bool B], .int .i64 E]) ∧ Below W.heap.size W w' := by
  subst h1 h2 h3; exact fun W => (h W).mono fun _ _ g => g
theorem three_tw {k i : Int} {s : ByteArray} {b : Bool} (h : Lp.rightB k i s b = true) : Lp.three k b = Lp.tw k b := by
  rcases Lp.right_kinds (v := ⟨k, i, s, b⟩) h with h1 | h1 | h1 | h1 <;> simp only at h1 <;> subst h1 <;> rfl
theorem size_zero {s : ByteArray} (h : s.data.toList.isEmpty = true) : s = ⟨#[]⟩ := by
  apply ByteArray.ext
  have : s.data.toList = [] := List.isEmpty_iff.1 h
  exact Array.toList_eq_nil_iff.1 this
/-- Right values: Null, a number, a text, truth. -/
theorem right_class {k i : Int} {s : ByteArray} {b : Bool} (h : Lp.rightB k i s b = true) :
    (k = 0 ∧ i = 0 ∧ s = ⟨#[]⟩ ∧ b = false) ∨ (k = 1 ∧ s = ⟨#[]⟩ ∧ b = false) ∨ (k = 2 ∧ i = 0 ∧ b = false ∧ s.size ≤ 60) ∨ (k = 3 ∧ i = 0 ∧ s = ⟨#[]⟩) := by
  unfold Lp.rightB at h
  split at h
  · simp only [Bool.and_eq_true, beq_iff_eq, Bool.not_eq_true'] at h
    exact .inl ⟨by assumption, h.1.1, size_zero h.1.2, h.2⟩
  · split at h
    · simp only [Bool.and_eq_true, Bool.not_eq_true'] at h
      exact .inr (.inl ⟨by assumption, size_zero h.1, h.2⟩)
    · split at h
      · simp only [Bool.and_eq_true, beq_iff_eq, Bool.not_eq_true', decide_eq_true_eq] at h
        exact .inr (.inr (.inl ⟨by assumption, h.1.1.1, h.1.1.2, h.1.2⟩))
      · split at h
        · simp only [Bool.and_eq_true, beq_iff_eq] at h
          exact .inr (.inr (.inr ⟨by assumption, h.1, size_zero h.2⟩))
        · cases h
theorem box4c {w : World} {g : Nat} {t : TypeId} {a0 a1 a2 a3 : Value} (h : w.heap[g]? = some (.cells #[a0, a1, a2, a3] t (0, 0))) : ∀ j, w.cell? ⟨g, j, none⟩ = #[a0, a1, a2, a3][j]? := box_cells h
end Go.Proofs.YthojikijelijnaaDoor
