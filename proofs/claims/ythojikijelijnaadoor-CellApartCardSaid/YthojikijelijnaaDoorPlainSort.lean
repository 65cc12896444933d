/-
  The order of all values is one: it goes on, and the same values stand alike. Plain. No conditions.
-/
import Derived.Test.YthojikijelijnaaDoorPlainLess
namespace Go.Proofs.YthojikijelijnaaDoor.Lp
open Go.RowKit

theorem less_trans {s t r : List UInt8} (h : Op.bytesLess s t = true) (h' : Op.bytesLess t r = true) : Op.bytesLess s r = true := by
  induction s generalizing t r with
  | nil => cases r with
    | nil => rw [less_nil_r] at h'; cases h'
    | cons c r => rfl
  | cons a s ih =>
    cases t with
    | nil => rw [less_nil_r] at h; cases h
    | cons b t =>
      cases r with
      | nil => rw [less_nil_r] at h'; cases h'
      | cons c r =>
        rw [less_cons, Bool.or_eq_true, Bool.and_eq_true, decide_eq_true_eq, beq_iff_eq] at h h' ⊢
        rcases h with h | ⟨rfl, h⟩
        · rcases h' with h' | ⟨rfl, h'⟩
          · exact .inl (UInt8.lt_trans h h')
          · exact .inl h
        · rcases h' with h' | ⟨rfl, h'⟩
          · exact .inl h'
          · exact .inr ⟨rfl, ih h h'⟩
theorem place3 (v : V) : place v = 3 ↔ v.k = 1 := by
  unfold place
  by_cases h3 : v.k = 3
  · rw [if_pos h3]; constructor
    · intro h; split at h <;> omega
    · intro h; omega
  · rw [if_neg h3]; split
    · simp [*]
    · split <;> simp [*]
theorem place4 (v : V) : place v = 4 ↔ v.k = 2 := by
  unfold place
  by_cases h3 : v.k = 3
  · rw [if_pos h3]; constructor
    · intro h; split at h <;> omega
    · intro h; omega
  · rw [if_neg h3]; split
    · rename_i h; simp [h]
    · split <;> simp [*]
theorem vless_iff (u v : V) : vless u v = true ↔ place u < place v ∨ (place u = place v ∧ ((place u = 3 ∧ u.i < v.i) ∨ (place u = 4 ∧ Op.bytesLess u.s.data.toList v.s.data.toList = true))) := by
  unfold vless
  rw [place3, place4]
  by_cases hp : place u = place v
  · rw [if_neg (by simp [hp])]
    simp [hp]
  · rw [if_pos hp]
    simp [hp]
theorem vless_trans {u v t : V} (h : vless u v = true) (h' : vless v t = true) : vless u t = true := by
  rw [vless_iff] at *
  rcases h with h | ⟨h0, h | h⟩ <;> rcases h' with h' | ⟨h0', h' | h'⟩
  · exact .inl (by omega)
  · exact .inl (by omega)
  · exact .inl (by omega)
  · exact .inl (by omega)
  · exact .inr ⟨by omega, .inl ⟨h.1, by omega⟩⟩
  · omega
  · exact .inl (by omega)
  · omega
  · exact .inr ⟨by omega, .inr ⟨h.1, less_trans h.2 h'.2⟩⟩
theorem vsame_is {u v : V} (h : vsame u v = true) : place u = place v ∧ (place u = 3 → u.i = v.i) ∧ (place u = 4 → u.s.data.toList = v.s.data.toList) := by
  unfold vsame at h
  rw [Bool.and_eq_true, Bool.not_eq_true', Bool.not_eq_true'] at h
  have h1 := fun g => Bool.false_ne_true (h.1.symm.trans ((vless_iff u v).2 g))
  have h2 := fun g => Bool.false_ne_true (h.2.symm.trans ((vless_iff v u).2 g))
  have hp : place u = place v := by
    have a1 : ¬ place u < place v := fun g => h1 (.inl g)
    have a2 : ¬ place v < place u := fun g => h2 (.inl g)
    omega
  refine ⟨hp, fun g => ?_, fun g => ?_⟩
  · have a1 : ¬ u.i < v.i := fun e => h1 (.inr ⟨hp, .inl ⟨g, e⟩⟩)
    have a2 : ¬ v.i < u.i := fun e => h2 (.inr ⟨hp.symm, .inl ⟨hp ▸ g, e⟩⟩)
    omega
  · have et := less_total u.s.data.toList v.s.data.toList
    have a1 : Op.bytesLess u.s.data.toList v.s.data.toList = false := Bool.eq_false_iff.2 fun e => h1 (.inr ⟨hp, .inr ⟨g, e⟩⟩)
    have a2 : Op.bytesLess v.s.data.toList u.s.data.toList = false := Bool.eq_false_iff.2 fun e => h2 (.inr ⟨hp.symm, .inr ⟨hp ▸ g, e⟩⟩)
    rw [a1, a2] at et
    exact beq_iff_eq.1 et
theorem vless_same {u v : V} (t : V) (h : vsame u v = true) : vless u t = vless v t ∧ vless t u = vless t v := by
  obtain ⟨h1, h2, h3⟩ := vsame_is h
  constructor
  · rw [Bool.eq_iff_iff, vless_iff, vless_iff, ← h1]
    constructor
    · rintro (g | ⟨g0, g | g⟩)
      · exact .inl g
      · exact .inr ⟨g0, .inl ⟨g.1, by rw [← h2 g.1]; exact g.2⟩⟩
      · exact .inr ⟨g0, .inr ⟨g.1, by rw [← h3 g.1]; exact g.2⟩⟩
    · rintro (g | ⟨g0, g | g⟩)
      · exact .inl g
      · exact .inr ⟨g0, .inl ⟨g.1, by rw [h2 g.1]; exact g.2⟩⟩
      · exact .inr ⟨g0, .inr ⟨g.1, by rw [h3 g.1]; exact g.2⟩⟩
  · rw [Bool.eq_iff_iff, vless_iff, vless_iff, ← h1]
    constructor
    · rintro (g | ⟨g0, g | g⟩)
      · exact .inl g
      · exact .inr ⟨g0, .inl ⟨g.1, by rw [← h2 (g0 ▸ g.1)]; exact g.2⟩⟩
      · exact .inr ⟨g0, .inr ⟨g.1, by rw [← h3 (g0 ▸ g.1)]; exact g.2⟩⟩
    · rintro (g | ⟨g0, g | g⟩)
      · exact .inl g
      · exact .inr ⟨g0, .inl ⟨g.1, by rw [h2 (g0 ▸ g.1)]; exact g.2⟩⟩
      · exact .inr ⟨g0, .inr ⟨g.1, by rw [h3 (g0 ▸ g.1)]; exact g.2⟩⟩
end Go.Proofs.YthojikijelijnaaDoor.Lp
