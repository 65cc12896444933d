/-
  Two right values have one literal just if they are of one kind, and the same. Plain. No conditions.
-/
import Derived.Test.YthojikijelijnaaDoorPlainSort
import Derived.Test.YthojikijelijnaaDoorPlainLit
import Derived.Test.YthojikijelijnaaDoorPlainDec
namespace Go.Proofs.YthojikijelijnaaDoor.Lp
open Go.RowKit

theorem quo_inj : ∀ (a b : List UInt8), quo a = quo b → a = b
  | [], [], _ => rfl
  | [], c :: b, h => by
    rw [quo_cons, quo_nil] at h
    split at h <;> cases h
  | c :: a, [], h => by
    rw [quo_cons, quo_nil] at h
    split at h <;> cases h
  | c :: a, d :: b, h => by
    rw [quo_cons, quo_cons] at h
    by_cases hc : c = 39
    · by_cases hd : d = 39
      · rw [if_pos hc, if_pos hd] at h
        have := quo_inj a b (by simpa using h)
        rw [this, hc, hd]
      · rw [if_pos hc, if_neg hd] at h
        simp only [List.cons_append, List.nil_append, List.cons.injEq] at h
        exact absurd h.1.symm hd
    · by_cases hd : d = 39
      · rw [if_neg hc, if_pos hd] at h
        simp only [List.cons_append, List.nil_append, List.cons.injEq] at h
        exact absurd h.1 hc
      · rw [if_neg hc, if_neg hd] at h
        simp only [List.cons_append, List.nil_append, List.cons.injEq] at h
        rw [h.1, quo_inj a b h.2]
theorem litT_inj {a b : List UInt8} (h : litT a = litT b) : a = b := by
  unfold litT at h
  have h1 := List.append_cancel_right h
  exact quo_inj a b (List.append_cancel_left h1)
theorem dec_inj {a b : Nat} (h : Lib.decDigits a = Lib.decDigits b) : a = b := by
  have h1 := dvf_decDigits a
  have h2 := dvf_decDigits b
  rw [h, h2] at h1
  omega
theorem dec_head (u : Nat) : ∃ c l, Lib.decDigits u = c :: l ∧ isDig c = true := by
  obtain ⟨h1, h2⟩ := decDigits_all u
  cases h : Lib.decDigits u with
  | nil => exact absurd h h2
  | cons c l =>
    rw [h, List.all_cons, Bool.and_eq_true] at h1
    exact ⟨c, l, rfl, h1.1⟩
theorem itoa_head (n : Int) : ∃ c l, Lib.itoa n = c :: l ∧ (c = 45 ∨ isDig c = true) := by
  unfold Lib.itoa
  by_cases h : n < 0
  · rw [if_pos h]; exact ⟨45, _, rfl, .inl rfl⟩
  · rw [if_neg h]
    obtain ⟨c, l, h1, h2⟩ := dec_head n.toNat
    exact ⟨c, l, h1, .inr h2⟩
theorem itoa_inj {a b : Int} (h : Lib.itoa a = Lib.itoa b) : a = b := by
  unfold Lib.itoa at h
  by_cases ha : a < 0
  · by_cases hb : b < 0
    · rw [if_pos ha, if_pos hb, List.cons.injEq] at h
      have := dec_inj h.2
      omega
    · rw [if_pos ha, if_neg hb] at h
      obtain ⟨c, l, h1, h2⟩ := dec_head b.toNat
      rw [h1, List.cons.injEq] at h
      rw [← h.1] at h2; cases h2
  · by_cases hb : b < 0
    · rw [if_neg ha, if_pos hb] at h
      obtain ⟨c, l, h1, h2⟩ := dec_head a.toNat
      rw [h1, List.cons.injEq] at h
      rw [h.1] at h2; cases h2
    · rw [if_neg ha, if_neg hb] at h
      have := dec_inj h
      omega
/-- The first byte of a literal tells its kind. -/
def litKind (c : UInt8) : Int := if c = 39 then 2 else if c = 84 ∨ c = 70 then 3 else if c = 78 then 0 else 1
theorem lit_kind {v : V} (h : v.k = 0 ∨ v.k = 1 ∨ v.k = 2 ∨ v.k = 3) : ∃ c l, lit v = c :: l ∧ litKind c = v.k := by
  rcases h with h | h | h | h
  · exact ⟨78, [85, 76, 76], by simp [lit, h], by rw [h]; rfl⟩
  · obtain ⟨c, l, h1, h2⟩ := itoa_head v.i
    refine ⟨c, l, by simp [lit, h, h1], ?_⟩
    rw [h]
    have hne : c ≠ 39 ∧ ¬ (c = 84 ∨ c = 70) ∧ c ≠ 78 := by
      rcases h2 with rfl | h2
      · decide
      · refine ⟨?_, ?_, ?_⟩
        · rintro rfl; cases h2
        · rintro (rfl | rfl) <;> cases h2
        · rintro rfl; cases h2
    unfold litKind
    rw [if_neg hne.1, if_neg hne.2.1, if_neg hne.2.2]
  · exact ⟨39, quo v.s.data.toList ++ [39], by simp [lit, h, litT], by rw [h]; rfl⟩
  · cases hb : v.b
    · exact ⟨70, [65, 76, 83, 69], by simp [lit, h, hb], by rw [h]; rfl⟩
    · exact ⟨84, [82, 85, 69], by simp [lit, h, hb], by rw [h]; rfl⟩
theorem vsame_iff (u v : V) : vsame u v = true ↔ place u = place v ∧ (place u = 3 → u.i = v.i) ∧ (place u = 4 → u.s.data.toList = v.s.data.toList) := by
  constructor
  · intro h; exact vsame_is h
  · rintro ⟨h1, h2, h3⟩
    unfold vsame
    rw [Bool.and_eq_true, Bool.not_eq_true', Bool.not_eq_true', ← Bool.not_eq_true, ← Bool.not_eq_true, vless_iff, vless_iff]
    constructor
    · rintro (h | ⟨_, ⟨h4, h⟩ | ⟨h4, h⟩⟩)
      · omega
      · have := h2 h4; omega
      · rw [h3 h4, less_irrefl] at h; cases h
    · rintro (h | ⟨_, ⟨h4, h⟩ | ⟨h4, h⟩⟩)
      · omega
      · have := h2 (by omega); omega
      · rw [h3 (by omega), less_irrefl] at h; cases h
theorem place_k {v : V} (h : v.k = 0 ∨ v.k = 1 ∨ v.k = 2 ∨ v.k = 3) : place v = if v.k = 0 then 0 else if v.k = 1 then 3 else if v.k = 2 then 4 else if v.b then 2 else 1 := by
  unfold place
  rcases h with h | h | h | h <;> simp [h]
/-- Two right values have one literal just if they are of one kind, and the same. -/
theorem lit_apart {u v : V} (hu : u.right = true) (hv : v.right = true) : (lit u == lit v) = (decide (u.k = v.k) && vsame u v) := by
  have ku := right_kinds hu
  have kv := right_kinds hv
  rw [Bool.eq_iff_iff, Bool.and_eq_true, decide_eq_true_iff, beq_iff_eq, vsame_iff, place_k ku, place_k kv]
  constructor
  · intro h
    obtain ⟨c, l, h1, h2⟩ := lit_kind ku
    obtain ⟨d, m, h3, h4⟩ := lit_kind kv
    have hk : u.k = v.k := by
      rw [h1, h3, List.cons.injEq] at h
      rw [← h2, ← h4, h.1]
    refine ⟨hk, ?_⟩
    rw [← hk]
    unfold lit at h
    rw [← hk] at h
    rcases ku with e | e | e | e
    · simp [e]
    · simp only [e, if_true] at h
      have := itoa_inj h
      simp [e, this]
    · simp only [e] at h
      have := litT_inj (a := u.s.data.toList) (b := v.s.data.toList) (by simpa using h)
      simp [e, this]
    · simp only [e] at h
      cases hb : u.b <;> cases hb' : v.b <;> simp [hb, hb'] at h <;> simp [e]
  · rintro ⟨hk, hp, hi, hs⟩
    unfold lit
    rw [← hk] at hp ⊢
    rcases ku with e | e | e | e
    · simp [e]
    · simp [e] at hi ⊢; rw [hi]
    · simp [e] at hs ⊢; rw [hs]
    · simp [e] at hp ⊢
      cases hb : u.b <;> cases hb' : v.b <;> simp [hb, hb'] at hp ⊢
end Go.Proofs.YthojikijelijnaaDoor.Lp
