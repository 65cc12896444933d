/-
  The plain laws of numerals: what the reference's numerals are, what they read as, and when a text of digits is too great. No program in sight. No conditions.
-/
import Derived.Test.YtmdmcfobdbccmaaDoorPlainRd
import Derived.Lib.ItoaNum
namespace Go.Proofs.YtmdmcfobdbccmaaDoor.Lp
open Go.RowKit

def digc (d : Nat) : UInt8 := UInt8.ofNat (48 + d)
/-- The digits T are told, M is left to be told, of the number U. -/
def DecInv (U : Nat) (T : List UInt8) (M : Nat) : Prop := (T = [] ∧ M = U) ∨ (T ≠ [] ∧ Lib.decDigits U = if M = 0 then T else Lib.decDigits M ++ T)
theorem dec_start (U : Nat) : DecInv U [] U := .inl ⟨rfl, rfl⟩
theorem dec_step {U M : Nat} {T : List UInt8} (h : DecInv U T M) (hc : 0 < M ∨ T = []) : DecInv U (digc (M % 10) :: T) (M / 10) := by
  have key : Lib.decDigits M = if M / 10 = 0 then [digc (M % 10)] else Lib.decDigits (M / 10) ++ [digc (M % 10)] := by
    rw [Lib.decDigits]
    by_cases h10 : M < 10
    · rw [dif_pos h10, if_pos (by omega), Nat.mod_eq_of_lt h10]; rfl
    · rw [dif_neg h10, if_neg (by omega)]; rfl
  refine .inr ⟨by simp, ?_⟩
  rcases h with ⟨rfl, rfl⟩ | ⟨hT, h⟩
  · exact key
  · have hM : 0 < M := by rcases hc with h1 | h1; exact h1; exact absurd h1 hT
    rw [h, if_neg (by omega), key]
    split
    · rfl
    · simp
theorem dec_end {U : Nat} {T : List UInt8} (h : DecInv U T 0) (hT : T ≠ []) : Lib.decDigits U = T := by
  rcases h with ⟨h1, _⟩ | ⟨_, h1⟩
  · exact absurd h1 hT
  · rw [h1, if_pos rfl]

theorem digc_nat {d : Nat} (h : d < 10) : (digc d).toNat = 48 + d := by unfold digc; simp; omega
theorem digc_isDig {d : Nat} (h : d < 10) : isDig (digc d) = true := by unfold isDig; rw [digc_nat h]; simp; omega
theorem decDigits_all (u : Nat) : (Lib.decDigits u).all isDig = true ∧ Lib.decDigits u ≠ [] := by
  induction u using Nat.strongRecOn with
  | _ u ih =>
    rw [Lib.decDigits]
    by_cases h : u < 10
    · rw [dif_pos h]; exact ⟨by show (isDig (digc u) && true) = true; rw [digc_isDig h]; rfl, by simp⟩
    · rw [dif_neg h]
      have h1 := ih (u / 10) (by omega)
      refine ⟨?_, by simp⟩
      rw [List.all_append, h1.1]
      show (true && (isDig (digc (u % 10)) && true)) = true
      rw [digc_isDig (by omega)]; rfl
theorem dvf_decDigits (u : Nat) : dvf 0 (Lib.decDigits u) = (u : Int) := by
  induction u using Nat.strongRecOn with
  | _ u ih =>
    rw [Lib.decDigits]
    by_cases h : u < 10
    · rw [dif_pos h]
      show (0 : Int) * 10 + (((digc u).toNat : Int) - 48) = u
      rw [digc_nat h]; omega
    · rw [dif_neg h, dvf_snoc, ih (u / 10) (by omega)]
      show ((u / 10 : Nat) : Int) * 10 + (((digc (u % 10)).toNat : Int) - 48) = u
      rw [digc_nat (by omega)]; omega
theorem allD_dec (u : Nat) : allD (Lib.decDigits u) = true := by
  have h := decDigits_all u
  unfold allD; rw [h.1]; simp [h.2]
theorem allD_minus (l : List UInt8) : allD (45 :: l) = false := by
  unfold allD; simp [isDig]
/-- A number's numeral reads as the number, if it isn't below 0. -/
theorem read_itoa {n : Int} (h0 : 0 ≤ n) (h1 : inR n) : readV (Lib.itoa n) = n ∧ readE (Lib.itoa n) = 0 := by
  have e : Lib.itoa n = Lib.decDigits n.toNat := by unfold Lib.itoa; rw [if_neg (by omega)]
  have hv : dvf 0 (Lib.decDigits n.toNat) = n := by rw [dvf_decDigits]; omega
  rw [e, readV_yes (allD_dec _), readE_yes (allD_dec _), hv, val_in h1, err_in h1]
  exact ⟨rfl, rfl⟩
theorem read_itoa_neg {n : Int} (h0 : n < 0) : readE (Lib.itoa n) = 3 := by
  have e : Lib.itoa n = 45 :: Lib.decDigits n.natAbs := by unfold Lib.itoa; rw [if_pos h0]
  rw [e, readE_not (allD_minus _)]

/-! What digits are worth, by their count and their order. -/
theorem dvf_lt {l : List UInt8} (h : l.all isDig = true) : ∀ n : Int, n * 10 ^ l.length ≤ dvf n l ∧ dvf n l < (n + 1) * 10 ^ l.length := by
  induction l with
  | nil => intro n; simp [dvf]; omega
  | cons c l ih =>
    intro n
    simp only [List.all_cons, Bool.and_eq_true] at h
    have hb := isDig_bd h.1
    obtain ⟨h1, h2⟩ := ih h.2 (n * 10 + ((c.toNat : Int) - 48))
    have hp : (0 : Int) < 10 ^ l.length := Int.pow_pos (by omega)
    have ep : (10 : Int) ^ (c :: l).length = 10 * 10 ^ l.length := by rw [List.length_cons, Int.pow_succ, Int.mul_comm]
    have e1 : n * 10 ^ (c :: l).length = (n * 10) * 10 ^ l.length := by rw [ep, ← Int.mul_assoc]
    have e2 : (n + 1) * 10 ^ (c :: l).length = (n * 10 + 10) * 10 ^ l.length := by rw [ep, ← Int.mul_assoc]; congr 1; omega
    show _ ≤ dvf (n * 10 + ((c.toNat : Int) - 48)) l ∧ dvf (n * 10 + ((c.toNat : Int) - 48)) l < _
    rw [e1, e2]
    have m1 : (n * 10) * 10 ^ l.length ≤ (n * 10 + ((c.toNat : Int) - 48)) * 10 ^ l.length := Int.mul_le_mul_of_nonneg_right (by omega) (Int.le_of_lt hp)
    have m2 : (n * 10 + ((c.toNat : Int) - 48) + 1) * 10 ^ l.length ≤ (n * 10 + 10) * 10 ^ l.length := Int.mul_le_mul_of_nonneg_right (by omega) (Int.le_of_lt hp)
    omega
theorem dvf_less {a : List UInt8} : ∀ {b : List UInt8} (n : Int), a.length = b.length → a.all isDig = true → b.all isDig = true → (Op.bytesLess a b = true ↔ dvf n a < dvf n b) := by
  induction a with
  | nil => intro b n hl _ _; cases b with
    | nil => simp [Op.bytesLess]
    | cons => simp at hl
  | cons x a ih =>
    intro b n hl ha hb
    cases b with
    | nil => simp at hl
    | cons y b =>
      simp only [List.length_cons, Nat.add_right_cancel_iff] at hl
      simp only [List.all_cons, Bool.and_eq_true] at ha hb
      have hx := isDig_bd ha.1
      have hy := isDig_bd hb.1
      have la := dvf_lt ha.2 (n * 10 + ((x.toNat : Int) - 48))
      have lb := dvf_lt hb.2 (n * 10 + ((y.toNat : Int) - 48))
      have hp : (0 : Int) < 10 ^ a.length := Int.pow_pos (by omega)
      rw [← hl] at lb
      show (Op.bytesLess (x :: a) (y :: b) = true) ↔ dvf (n * 10 + ((x.toNat : Int) - 48)) a < dvf (n * 10 + ((y.toNat : Int) - 48)) b
      simp only [Op.bytesLess, Bool.or_eq_true, Bool.and_eq_true, decide_eq_true_eq, beq_iff_eq]
      by_cases hlt : x.toNat < y.toNat
      · have : x < y := UInt8.lt_iff_toNat_lt.2 hlt
        have m : (n * 10 + ((x.toNat : Int) - 48) + 1) * 10 ^ a.length ≤ (n * 10 + ((y.toNat : Int) - 48)) * 10 ^ a.length := Int.mul_le_mul_of_nonneg_right (by omega) (Int.le_of_lt hp)
        exact ⟨fun _ => by omega, fun _ => .inl this⟩
      · by_cases heq : x.toNat = y.toNat
        · have e : x = y := UInt8.toNat_inj.1 heq
          subst e
          have := ih (b := b) (n * 10 + ((x.toNat : Int) - 48)) hl ha.2 hb.2
          constructor
          · rintro (h | ⟨_, h⟩)
            · exact absurd (UInt8.lt_iff_toNat_lt.1 h) (by omega)
            · exact this.1 h
          · intro h; exact .inr ⟨rfl, this.2 h⟩
        · have m : (n * 10 + ((y.toNat : Int) - 48) + 1) * 10 ^ a.length ≤ (n * 10 + ((x.toNat : Int) - 48)) * 10 ^ a.length := Int.mul_le_mul_of_nonneg_right (by omega) (Int.le_of_lt hp)
          constructor
          · rintro (h | ⟨h, _⟩)
            · exact absurd (UInt8.lt_iff_toNat_lt.1 h) hlt
            · exact absurd (congrArg UInt8.toNat h) heq
          · intro h; omega
theorem dvf_zeros (n : Int) (l : List UInt8) (hn : n = 0) : dvf n (48 :: l) = dvf 0 l := by subst hn; rfl

def maxT : List UInt8 := [57, 50, 50, 51, 51, 55, 50, 48, 51, 54, 56, 53, 52, 55, 55, 53, 56, 48, 55]
theorem maxT_val : dvf 0 maxT = 9223372036854775807 := by decide
/-- Nineteen digits are too great just if they stand behind the greatest ones. -/
theorem big19 {l : List UInt8} (ha : l.all isDig = true) (hl : l.length = 19) : inR (dvf 0 l) ↔ Op.bytesLess maxT l = false := by
  have h := dvf_less (a := maxT) (b := l) 0 (by rw [hl]; rfl) (by decide) ha
  rw [maxT_val] at h
  have h0 := dvf_nonneg ha
  unfold inR
  constructor
  · intro g
    rw [Bool.eq_false_iff]; intro hc
    have := h.1 hc; omega
  · intro g
    refine ⟨by omega, ?_⟩
    apply Int.not_lt.1
    intro hc; rw [h.2 (by omega)] at g; cases g
theorem few_in {l : List UInt8} (ha : l.all isDig = true) (hl : l.length ≤ 18) : inR (dvf 0 l) := by
  have h := (dvf_lt ha 0).2
  have h0 := dvf_nonneg ha
  have h2 : (10 : Int) ^ l.length ≤ 10 ^ 18 := by
    have : (10 : Nat) ^ l.length ≤ 10 ^ 18 := Nat.pow_le_pow_right (by omega) hl
    exact_mod_cast this
  unfold inR; omega
theorem many_out {x : UInt8} {l : List UInt8} (ha : (x :: l).all isDig = true) (hx : x ≠ 48) (hl : 19 ≤ l.length) : ¬ inR (dvf 0 (x :: l)) := by
  simp only [List.all_cons, Bool.and_eq_true] at ha
  have hb := isDig_bd ha.1
  have hx2 : x.toNat ≠ 48 := fun g => hx (UInt8.toNat_inj.1 g)
  have h := (dvf_lt ha.2 (0 * 10 + ((x.toNat : Int) - 48))).1
  have hp : (10 : Int) ^ 19 ≤ 10 ^ l.length := by
    have : (10 : Nat) ^ 19 ≤ 10 ^ l.length := Nat.pow_le_pow_right (by omega) hl
    exact_mod_cast this
  have m : (1 : Int) * 10 ^ l.length ≤ (0 * 10 + ((x.toNat : Int) - 48)) * 10 ^ l.length := Int.mul_le_mul_of_nonneg_right (by omega) (by omega)
  show ¬ inR (dvf (0 * 10 + ((x.toNat : Int) - 48)) l)
  unfold inR; omega
end Go.Proofs.YtmdmcfobdbccmaaDoor.Lp
