/-
  The plain laws of numbers of 64 bits: what calc and its reference compute, with no program in sight. No conditions.
-/
import Derived.RowKit
import Derived.IntWalk
namespace Go.Proofs.YtmdmcfobdbccmaaDoor.Lp
open Go.RowKit

/-- A number that 64 bits hold. -/
def inR (x : Int) : Prop := -9223372036854775808 ≤ x ∧ x ≤ 9223372036854775807
instance (x : Int) : Decidable (inR x) := by unfold inR; exact inferInstance
theorem beqd (a b : Int) : (a == b) = decide (a = b) := by rw [Bool.eq_iff_iff]; simp
def val (x : Int) : Int := if inR x then x else 0
def err (x : Int) : Int := if inR x then 0 else 9
/-- told: a number, or nought. -/
def tv (ok : Bool) (n : Int) : Int := if ok then n else 0
def te (ok : Bool) : Int := if ok then 0 else 9
theorem inR_def (x : Int) : inR x ↔ (-9223372036854775808 ≤ x ∧ x ≤ 9223372036854775807) := Iff.rfl
theorem tv_of {ok : Bool} {n x : Int} (h : ok = decide (inR x)) (h2 : inR x → n = x) : tv ok n = val x := by
  subst h; unfold tv val; by_cases h3 : inR x <;> simp [h3]; exact h2 h3
theorem te_of {ok : Bool} {x : Int} (h : ok = decide (inR x)) : te ok = err x := by
  subst h; unfold te err; by_cases h3 : inR x <;> simp [h3]
theorem wrap_in {x : Int} (h : inR x) : wrap64 x = x := IntWalk.wrap64_in x h
theorem inR_wrap (x : Int) : inR (wrap64 x) := by unfold inR wrap64; omega
theorem wrap_mod (x : Int) : ∃ k : Int, wrap64 x = x + 18446744073709551616 * k := by
  refine ⟨-((x + 9223372036854775808) / 18446744073709551616), ?_⟩; unfold wrap64; omega

/-! calc.Add: n > a just where b > 0. -/
theorem add_ok' (a b : Int) (ha : inR a) (hb : inR b) : (a < wrap64 (a + b) ↔ 0 < b) ↔ inR (a + b) := by
  unfold inR wrap64 at *; omega
theorem add_ok (a b : Int) (ha : inR a) (hb : inR b) : (decide (a < wrap64 (a + b)) == decide (0 < b)) = decide (inR (a + b)) := by
  rw [Bool.eq_iff_iff, beq_iff_eq, decide_eq_decide, decide_eq_true_iff]; exact add_ok' a b ha hb
theorem sub_ok' (a b : Int) (ha : inR a) (hb : inR b) : (wrap64 (a - b) < a ↔ 0 < b) ↔ inR (a - b) := by
  unfold inR wrap64 at *; omega
theorem sub_ok (a b : Int) (ha : inR a) (hb : inR b) : (decide (wrap64 (a - b) < a) == decide (0 < b)) = decide (inR (a - b)) := by
  rw [Bool.eq_iff_iff, beq_iff_eq, decide_eq_decide, decide_eq_true_iff]; exact sub_ok' a b ha hb

theorem neg_ok (a : Int) (ha : inR a) : (a != -9223372036854775808) = decide (inR (-a)) := by
  rw [Bool.eq_iff_iff, bne_iff_ne, decide_eq_true_iff]; unfold inR at *; omega
def zerE (b : Int) : Int := if b = 0 then 10 else 0
theorem zerE_no {b : Int} (h : b ≠ 0) : zerE b = 0 := if_neg h
/-- The remainder, or nought. -/
def modV (a b : Int) : Int := if b = 0 then 0 else a.tmod b
theorem modV_neg (a : Int) : modV a (-1) = 0 := by simp [modV]
theorem modV_no {a b : Int} (h : b ≠ 0) : modV a b = a.tmod b := if_neg h
def divE (a b : Int) : Int := if b = 0 then 10 else err (a.tdiv b)
def divV (a b : Int) : Int := if b = 0 then 0 else val (a.tdiv b)
def mag (n : Int) : Int := if n < 0 then -n else n
theorem mag_nonneg (n : Int) : 0 ≤ mag n := by unfold mag; split <;> omega
theorem mag_le {n : Int} (h : inR n) : mag n ≤ 9223372036854775808 := by unfold mag inR at *; split <;> omega
/-! Products. -/
theorem tdiv_rem (n b : Int) (hb : b ≠ 0) : ∃ r : Int, n = n.tdiv b * b + r ∧ -(mag b) < r ∧ r < mag b := by
  refine ⟨n.tmod b, ?_, ?_, ?_⟩
  · have := Int.mul_tdiv_add_tmod n b; rw [Int.mul_comm] at this; exact this.symm
  · have h := Int.tmod_lt_of_pos n (b := mag b) (by unfold mag; split <;> omega)
    have h2 := Int.tmod_lt_of_pos (-n) (b := mag b) (by unfold mag; split <;> omega)
    have e : n.tmod b = n.tmod (mag b) := by unfold mag; split; · rw [Int.tmod_neg]
                                             · rfl
    rw [Int.neg_tmod] at h2; rw [e]; omega
  · have h := Int.tmod_lt_of_pos n (b := mag b) (by unfold mag; split <;> omega)
    have e : n.tmod b = n.tmod (mag b) := by unfold mag; split; · rw [Int.tmod_neg]
                                             · rfl
    rw [e]; exact h
theorem tdiv_inR {n b : Int} (hn : inR n) (h : ¬ (n = -9223372036854775808 ∧ b = -1)) : inR (n.tdiv b) := by
  by_cases hb0 : b = 0
  · subst hb0; simp [inR]
  · have hm : (n.tdiv b).natAbs = n.natAbs / b.natAbs := Int.natAbs_tdiv n b
    by_cases hb1 : b.natAbs = 1
    · have : b = 1 ∨ b = -1 := by omega
      rcases this with rfl | rfl
      · simpa using hn
      · have : n.tdiv (-1) = -n := by rw [Int.tdiv_neg]; simp
        rw [this]; unfold inR at *; omega
    · have : n.natAbs / b.natAbs ≤ n.natAbs / 2 := Nat.div_le_div_left (by omega) (by omega)
      unfold inR at *; omega
theorem mul_ok' (a b : Int) (ha : inR a) (hb : inR b) (hb0 : b ≠ 0) (h1 : ¬ (a = -1 ∧ b = -9223372036854775808)) (h2 : ¬ (b = -1 ∧ a = -9223372036854775808)) :
    wrap64 ((wrap64 (a * b)).tdiv b) = a ↔ inR (a * b) := by
  constructor
  · intro h
    by_cases hx : wrap64 (a * b) = -9223372036854775808 ∧ b = -1
    · obtain ⟨hx1, rfl⟩ := hx
      rw [hx1] at h
      have : (-9223372036854775808 : Int).tdiv (-1) = 9223372036854775808 := by decide
      rw [this] at h
      have : wrap64 9223372036854775808 = -9223372036854775808 := by unfold wrap64; decide
      rw [this] at h
      exact absurd ⟨rfl, h.symm⟩ h2
    · rw [wrap_in (tdiv_inR (inR_wrap _) hx)] at h
      obtain ⟨r, hr, hr1, hr2⟩ := tdiv_rem (wrap64 (a * b)) b hb0
      rw [h] at hr
      obtain ⟨k, hk⟩ := wrap_mod (a * b)
      have hm := mag_le hb
      have hw := inR_wrap (a * b)
      have : k = 0 := by omega
      rw [this] at hk
      have e : wrap64 (a * b) = a * b := by omega
      rw [← e]; exact hw
  · intro h
    rw [wrap_in h, Int.mul_tdiv_cancel _ hb0]
    exact wrap_in ha
theorem mul_out1 {a b : Int} (h : a = -1 ∧ b = -9223372036854775808) : ¬ inR (a * b) := by obtain ⟨rfl, rfl⟩ := h; decide
theorem mul_out2 {a b : Int} (h : b = -1 ∧ a = -9223372036854775808) : ¬ inR (a * b) := by obtain ⟨rfl, rfl⟩ := h; decide
theorem mul_ok (a b : Int) (ha : inR a) (hb : inR b) (hb0 : b ≠ 0) :
    (wrap64 ((wrap64 (a * b)).tdiv b) == a && !(a == -1 && b == -9223372036854775808) && !(b == -1 && a == -9223372036854775808)) = decide (inR (a * b)) := by
  by_cases h1 : a = -1 ∧ b = -9223372036854775808
  · rw [decide_eq_false (mul_out1 h1)]; obtain ⟨rfl, rfl⟩ := h1; simp
  · by_cases h2 : b = -1 ∧ a = -9223372036854775808
    · rw [decide_eq_false (mul_out2 h2)]; obtain ⟨rfl, rfl⟩ := h2; simp
    · have h := mul_ok' a b ha hb hb0 h1 h2
      have e1 : (a == -1 && b == -9223372036854775808) = false := by rw [Bool.eq_false_iff]; simpa using h1
      have e2 : (b == -1 && a == -9223372036854775808) = false := by rw [Bool.eq_false_iff]; simpa using h2
      rw [e1, e2, Bool.eq_iff_iff, decide_eq_true_iff, ← h]; simp
theorem tdiv_out {a b : Int} (h : a = -9223372036854775808 ∧ b = -1) : ¬ inR (a.tdiv b) := by obtain ⟨rfl, rfl⟩ := h; decide
theorem div_ok (a b : Int) (ha : inR a) : (a != -9223372036854775808 || b != -1) = decide (inR (a.tdiv b)) := by
  by_cases h1 : a = -9223372036854775808 ∧ b = -1
  · rw [decide_eq_false (tdiv_out h1)]; obtain ⟨rfl, rfl⟩ := h1; simp
  · rw [decide_eq_true (tdiv_inR ha h1), Bool.or_eq_true, bne_iff_ne, bne_iff_ne]; omega
theorem divV_zero (a : Int) : divV a 0 = 0 := if_pos rfl
theorem divE_zero (a : Int) : divE a 0 = 10 := if_pos rfl
theorem divV_no {a b : Int} (h : b ≠ 0) : divV a b = val (a.tdiv b) := if_neg h
theorem divE_no {a b : Int} (h : b ≠ 0) : divE a b = err (a.tdiv b) := if_neg h

/-- The number of that size and sign. -/
def signed (s : Int) (below : Bool) : Int := if below then -s else s
def sgOk (s : Int) (below : Bool) : Bool := decide (inR (signed s below))
def sgV (s : Int) (below : Bool) : Int := val (signed s below)
theorem mag_neg {n : Int} (h : n < 0) : mag n = -(n + 1) + 1 := by unfold mag; rw [if_pos h]; omega
theorem mag_pos {n : Int} (h : ¬ n < 0) : mag n = n := if_neg h
theorem val_in {x : Int} (h : inR x) : val x = x := if_pos h
theorem val_out {x : Int} (h : ¬ inR x) : val x = 0 := if_neg h
theorem err_in {x : Int} (h : inR x) : err x = 0 := if_pos h
theorem err_out {x : Int} (h : ¬ inR x) : err x = 9 := if_neg h
theorem sgOk_ff {s : Int} (h : 9223372036854775808 ≤ s) : sgOk s false = false := decide_eq_false (show ¬ inR s by unfold inR; omega)
theorem sgV_ff {s : Int} (h : 9223372036854775808 ≤ s) : sgV s false = 0 := val_out (show ¬ inR s by unfold inR; omega)
theorem sgOk_ft {s : Int} (h0 : 0 ≤ s) (h : ¬ 9223372036854775808 ≤ s) : sgOk s false = true := decide_eq_true (show inR s by unfold inR; omega)
theorem sgV_ft {s : Int} (h0 : 0 ≤ s) (h : ¬ 9223372036854775808 ≤ s) : sgV s false = s := val_in (show inR s by unfold inR; omega)
theorem sgOk_tf {s : Int} (h : 9223372036854775808 < s) : sgOk s true = false := decide_eq_false (show ¬ inR (-s) by unfold inR; omega)
theorem sgV_tf {s : Int} (h : 9223372036854775808 < s) : sgV s true = 0 := val_out (show ¬ inR (-s) by unfold inR; omega)
theorem sgOk_tt {s : Int} (h0 : 0 ≤ s) (h : ¬ 9223372036854775808 < s) : sgOk s true = true := decide_eq_true (show inR (-s) by unfold inR; omega)
theorem sgV_tt {s : Int} (h0 : 0 ≤ s) (h : ¬ 9223372036854775808 < s) : sgV s true = -s := val_in (show inR (-s) by unfold inR; omega)
def low (x : Int) : Int := x % 18446744073709551616
def high (x : Int) : Int := x / 18446744073709551616
theorem low_bd (x : Int) : 0 ≤ low x ∧ low x < 18446744073709551616 := by unfold low; omega
theorem tv_sg (s : Int) (below : Bool) : tv (sgOk s below) (sgV s below) = val (signed s below) := by
  unfold tv sgOk sgV val; by_cases h : inR (signed s below) <;> simp [h]
theorem te_sg (s : Int) (below : Bool) : te (sgOk s below) = err (signed s below) := by
  unfold te sgOk err; by_cases h : inR (signed s below) <;> simp [h]
/-- Two halves: the low one has the number, the high one is nought. -/
theorem rok (s : Int) (h0 : 0 ≤ s) (below : Bool) : (sgOk (low s) below && (high s == 0)) = decide (inR (signed s below)) := by
  rw [Bool.eq_iff_iff]; simp only [sgOk, Bool.and_eq_true, decide_eq_true_iff, beq_iff_eq]
  unfold inR signed low high; cases below <;> simp <;> omega
theorem rval (s : Int) (h0 : 0 ≤ s) (below : Bool) (h : inR (signed s below)) : sgV (low s) below = signed s below := by
  have e : low s = s := by unfold low inR signed at *; cases below <;> simp at h <;> omega
  unfold sgV; rw [e]; unfold val; rw [if_pos h]
theorem add_signed {a b : Int} (h : (decide (a < 0) == decide (b < 0)) = true) : signed (mag a + mag b) (decide (a < 0)) = a + b := by
  simp only [beq_iff_eq, decide_eq_decide] at h
  unfold signed mag; by_cases ha : a < 0
  · have hb : b < 0 := h.1 ha
    simp [ha, hb]; omega
  · have hb : ¬ b < 0 := fun x => ha (h.2 x)
    simp [ha, hb]
/-- An answer out of halves. -/
theorem rtv (s : Int) (h0 : 0 ≤ s) (below : Bool) : tv (sgOk (low s) below && (high s == 0)) (sgV (low s) below) = val (signed s below) := tv_of (rok s h0 below) (rval s h0 below)
theorem rte (s : Int) (h0 : 0 ≤ s) (below : Bool) : te (sgOk (low s) below && (high s == 0)) = err (signed s below) := te_of (rok s h0 below)
theorem mag_add (a b : Int) : 0 ≤ mag a + mag b := by have := mag_nonneg a; have := mag_nonneg b; omega
theorem add_signed1 {a b : Int} (h : ¬ (decide (a < 0) == decide (b < 0)) = true) : signed (mag a - mag b) (decide (a < 0)) = a + b := by
  simp only [beq_iff_eq, decide_eq_decide] at h
  unfold signed mag; by_cases ha : a < 0 <;> by_cases hb : b < 0 <;> simp [ha, hb] at h ⊢ <;> omega
theorem add_signed2 {a b : Int} (h : ¬ (decide (a < 0) == decide (b < 0)) = true) : signed (mag b - mag a) (decide (b < 0)) = a + b := by
  simp only [beq_iff_eq, decide_eq_decide] at h
  unfold signed mag; by_cases ha : a < 0 <;> by_cases hb : b < 0 <;> simp [ha, hb] at h ⊢ <;> omega
theorem neg_signed (a : Int) : signed (mag a) (decide (0 < a)) = -a := by
  unfold signed mag; by_cases ha : a < 0 <;> by_cases hb : 0 < a <;> simp [ha, hb] <;> omega
theorem sub_signed {a b : Int} (h : ¬ (decide (a < 0) == decide (b < 0)) = true) : signed (mag a + mag b) (decide (a < 0)) = a - b := by
  unfold signed mag; by_cases ha : a < 0 <;> by_cases hb : b < 0 <;> simp [ha, hb] at h ⊢ <;> omega
theorem sub_signed1 {a b : Int} (h : (decide (a < 0) == decide (b < 0)) = true) : signed (mag a - mag b) (decide (a < 0)) = a - b := by
  unfold signed mag; by_cases ha : a < 0 <;> by_cases hb : b < 0 <;> simp [ha, hb] at h ⊢ <;> omega
theorem sub_signed2 {a b : Int} (h : (decide (a < 0) == decide (b < 0)) = true) : signed (mag b - mag a) (decide (0 ≤ a)) = a - b := by
  unfold signed mag; by_cases ha : a < 0 <;> by_cases hb : b < 0 <;> by_cases hc : 0 ≤ a <;> simp [ha, hb, hc] at h ⊢ <;> omega
theorem mag_abs (n : Int) : mag n = (n.natAbs : Int) := by unfold mag; split <;> omega
theorem mul_signed (a b : Int) : signed (mag a * mag b) (decide (a < 0) != decide (b < 0)) = a * b := by
  unfold signed mag
  by_cases ha : a < 0 <;> by_cases hb : b < 0 <;> simp [ha, hb, Int.neg_mul, Int.mul_neg]
theorem div_signed (a b : Int) : signed (mag a / mag b) (decide (a < 0) != decide (b < 0)) = a.tdiv b := by
  rw [← Int.tdiv_eq_ediv_of_nonneg (mag_nonneg a)]
  unfold signed mag
  by_cases ha : a < 0 <;> by_cases hb : b < 0 <;> simp [ha, hb, Int.neg_tdiv, Int.tdiv_neg]
theorem mod_signed (a b : Int) : signed (mag a % mag b) (decide (a < 0)) = a.tmod b := by
  rw [← Int.tmod_eq_emod_of_nonneg (mag_nonneg a)]
  unfold signed mag
  by_cases ha : a < 0 <;> by_cases hb : b < 0 <;> simp [ha, hb, Int.neg_tmod, Int.tmod_neg]
theorem mag_pos' {b : Int} (h : b ≠ 0) : 1 ≤ mag b := by unfold mag; split <;> omega
theorem mag_div (a b : Int) : 0 ≤ mag a / mag b ∧ mag a / mag b ≤ mag a := by
  have h := mag_nonneg a; have h2 := mag_nonneg b
  exact ⟨Int.ediv_nonneg h h2, Int.ediv_le_self _ h⟩
theorem mag_mod (a : Int) {b : Int} (h : b ≠ 0) : 0 ≤ mag a % mag b ∧ mag a % mag b < mag b := by
  have h2 := mag_pos' h
  exact ⟨Int.emod_nonneg _ (by omega), Int.emod_lt_of_pos _ (by omega)⟩
theorem val_mod (a : Int) {b : Int} (hb : b ≠ 0) (hb2 : inR b) : inR (a.tmod b) := by
  rw [← mod_signed]; have h := mag_mod a hb; have h2 := mag_le hb2
  unfold signed inR; split <;> omega

/-! What CalcBack asks. -/
theorem back_add (a b : Int) : a.tdiv b * b + a.tmod b = a := by
  have := Int.mul_tdiv_add_tmod a b; rw [Int.mul_comm] at this; exact this
theorem back_mul (a b : Int) (ha : inR a) : inR (a.tdiv b * b) := by
  have h := back_add a b
  have h2 : (a.tmod b).natAbs ≤ a.natAbs := by rw [Int.natAbs_tmod]; exact Nat.mod_le _ _
  have h3 : (0 ≤ a ∧ 0 ≤ a.tmod b) ∨ (a ≤ 0 ∧ a.tmod b ≤ 0) := by
    by_cases h4 : 0 ≤ a
    · exact .inl ⟨h4, Int.tmod_nonneg _ h4⟩
    · have h5 := Int.tmod_nonneg b (a := -a) (by omega)
      rw [Int.neg_tmod] at h5
      exact .inr ⟨by omega, by omega⟩
  unfold inR at *; omega
theorem tdiv_not {a b : Int} (ha : inR a) (h : ¬ inR (a.tdiv b)) : a = -9223372036854775808 ∧ b = -1 :=
  Decidable.byContradiction fun h2 => h (tdiv_inR ha h2)

end Go.Proofs.YtmdmcfobdbccmaaDoor.Lp
