/-
  What is behind a beginning, plain: bytes in their order. No program in sight. No conditions.
-/
import Derived.Test.YthdnphnipfpdkaaDoorKey1
namespace Go.Proofs.YthdnphnipfpdkaaDoor
open Go.RowKit

def begins (o p : List UInt8) : Bool := decide (p.length ≤ o.length) && o.take p.length == p
theorem begins_nil (o : List UInt8) : begins o [] = true := by simp [begins]
theorem begins_nil_cons (x : UInt8) (p : List UInt8) : begins [] (x :: p) = false := by simp [begins]
theorem begins_cons (y x : UInt8) (o p : List UInt8) : begins (y :: o) (x :: p) = (y == x && begins o p) := by
  simp only [begins, List.length_cons, List.take_succ_cons]
  by_cases h : y = x
  · subst h; simp
  · have h2 : (y == x) = false := beq_eq_false_iff_ne.2 h
    simp [h2]
theorem less_cons (x y : UInt8) (a b : List UInt8) : Op.bytesLess (x :: a) (y :: b) = (decide (x < y) || (x == y && Op.bytesLess a b)) := by
  simp [Op.bytesLess]
theorem less_nil_r (a : List UInt8) : Op.bytesLess a [] = false := by cases a <;> rfl
theorem less_nil_l (y : UInt8) (b : List UInt8) : Op.bytesLess [] (y :: b) = true := rfl
theorem less_prefix (a s t : List UInt8) : Op.bytesLess (a ++ s) (a ++ t) = Op.bytesLess s t := by
  induction a with
  | nil => rfl
  | cons x a ih => rw [List.cons_append, List.cons_append, less_cons, ih]; simp [UInt8.lt_irrefl]
theorem succ_nat {x : UInt8} (h : x ≠ 255) : (x + 1).toNat = x.toNat + 1 := by
  have hx := x.toNat_lt
  have : x.toNat ≠ 255 := fun e => h (UInt8.toNat_inj.1 e)
  rw [UInt8.toNat_add]; simp; omega
theorem lt_succ {x : UInt8} (h : x ≠ 255) : x < x + 1 := by rw [UInt8.lt_iff_toNat_lt, succ_nat h]; omega
/-- Nothing is less than bytes 255 that does not end among them. -/
theorem less_full (o f : List UInt8) (hf : ∀ x ∈ f, x = 255) : (!Op.bytesLess o f) = begins o f := by
  induction f generalizing o with
  | nil => rw [less_nil_r, begins_nil]; rfl
  | cons x f ih =>
    cases o with
    | nil => rw [less_nil_l, begins_nil_cons]; rfl
    | cons y o =>
      have hx := hf x (by simp)
      subst hx
      rw [less_cons, begins_cons, ← ih o (fun z hz => hf z (by simp [hz]))]
      by_cases hy : y = 255
      · subst hy; simp [UInt8.lt_irrefl]
      · have : y < 255 := by
          have h1 := y.toNat_lt
          have h2 : y.toNat ≠ 255 := fun e => hy (UInt8.toNat_inj.1 e)
          rw [UInt8.lt_iff_toNat_lt]; show y.toNat < 255; omega
        simp [hy, this]
theorem in_split (a f o : List UInt8) (x : UInt8) (hx : x ≠ 255) (hf : ∀ z ∈ f, z = 255) :
    (!Op.bytesLess o (a ++ x :: f) && Op.bytesLess o (a ++ [x + 1])) = begins o (a ++ x :: f) := by
  induction a generalizing o with
  | nil =>
    cases o with
    | nil => simp only [List.nil_append]; rw [less_nil_l, begins_nil_cons]; rfl
    | cons y o =>
      simp only [List.nil_append]
      rw [less_cons, less_cons, less_nil_r, begins_cons, ← less_full o f hf]
      by_cases h1 : y < x
      · have : ¬ y = x := by rintro rfl; exact absurd h1 (UInt8.lt_irrefl _)
        simp [h1, this]
      · by_cases h2 : y = x
        · subst h2; simp [lt_succ hx, UInt8.lt_irrefl]
        · have h3 : ¬ y < x + 1 := by
            rw [UInt8.lt_iff_toNat_lt] at *
            rw [succ_nat hx]
            have : y.toNat ≠ x.toNat := fun e => h2 (UInt8.toNat_inj.1 e)
            omega
          simp [h2, h3]
  | cons z a ih =>
    cases o with
    | nil => simp only [List.cons_append]; rw [less_nil_l, begins_nil_cons]; rfl
    | cons y o =>
      simp only [List.cons_append]
      rw [less_cons, less_cons, begins_cons, ← ih o]
      by_cases h1 : y < z
      · have : ¬ y = z := by rintro rfl; exact absurd h1 (UInt8.lt_irrefl _)
        simp [h1, this]
      · by_cases h2 : y = z
        · subst h2; simp [UInt8.lt_irrefl]
        · have h3 : (y == z) = false := beq_eq_false_iff_ne.2 h2
          simp [h1, h3]
theorem behind_split {p r : List UInt8} (h : BehindOf p r) (hn : p.all (· == 255) = false) : ∃ a x f, x ≠ 255 ∧ (∀ z ∈ f, z = 255) ∧ p = a ++ x :: f ∧ r = a ++ [x + 1] := by
  rcases h with ⟨h, _⟩ | ⟨m, hm, h1, h2, h3⟩
  · exfalso
    have : p.all (· == 255) = true := by rw [List.all_eq_true]; intro x hx; simp [h x hx]
    rw [this] at hn; cases hn
  · refine ⟨p.take m, p[m], p.drop (m + 1), h2, h1, ?_, h3⟩
    rw [← List.drop_eq_getElem_cons hm, List.take_append_drop]
theorem behind_nil {p r : List UInt8} (h : BehindOf p r) (hn : p.all (· == 255) = true) : r = [] := by
  rcases h with ⟨_, h⟩ | ⟨m, hm, _, h2, _⟩
  · exact h
  · exact absurd (by simpa using List.all_eq_true.1 hn p[m] (List.getElem_mem hm)) h2
theorem behind_less {p r : List UInt8} (m : List UInt8) (h : BehindOf p r) (hn : p.all (· == 255) = false) : Op.bytesLess (p ++ m) r = true := by
  obtain ⟨a, x, f, hx, _, rfl, rfl⟩ := behind_split h hn
  rw [List.append_assoc, less_prefix, List.cons_append, less_cons]
  simp [lt_succ hx]
theorem behind_in {p r : List UInt8} (o : List UInt8) (h : BehindOf p r) (hn : p.all (· == 255) = false) : (!Op.bytesLess o p && Op.bytesLess o r) = begins o p := by
  obtain ⟨a, x, f, hx, hf, rfl, rfl⟩ := behind_split h hn
  exact in_split a f o x hx hf
end Go.Proofs.YthdnphnipfpdkaaDoor
