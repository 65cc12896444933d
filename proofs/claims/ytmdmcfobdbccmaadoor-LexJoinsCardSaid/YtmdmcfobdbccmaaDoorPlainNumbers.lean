/-
  A number's digits, with any noughts ahead of them, are one token. Plain. No conditions.
-/
import Derived.Test.YtmdmcfobdbccmaaDoorPlainParts
import Derived.Test.YtmdmcfobdbccmaaDoorPlainJoin
import Derived.Test.YtmdmcfobdbccmaaDoorPlainDec
import Derived.Lib.ItoaLen
namespace Go.Proofs.YtmdmcfobdbccmaaDoor.Lp
open Go.RowKit

theorem itoa_len {n : Int} (h : inR n) : (Lib.itoa n).length ≤ 21 := by
  unfold inR at h
  unfold Lib.itoa
  by_cases h0 : n < 0
  · rw [if_pos h0, List.length_cons, Lib.decDigits_length]
    have := Lib.nDigits_le20 n.natAbs (by omega)
    omega
  · rw [if_neg h0, Lib.decDigits_length]
    have := Lib.nDigits_le20 n.toNat (by omega)
    omega
theorem all_takeWhile {p : UInt8 → Bool} {l : List UInt8} (h : l.all p = true) : l.takeWhile p = l := by
  induction l with
  | nil => rfl
  | cons c l ih =>
    rw [List.all_cons, Bool.and_eq_true] at h
    rw [List.takeWhile_cons, h.1, ih h.2]; rfl
theorem dig_let {c : UInt8} (h : isDig c = true) : letB c = false ∧ blankB c = false ∧ c ≠ 39 := by
  have hb := isDig_bd h
  refine ⟨?_, ?_, ?_⟩
  · rw [← Bool.not_eq_true]; unfold letB; simp only [Bool.or_eq_true, Bool.and_eq_true, decide_eq_true_eq]; omega
  · rw [← Bool.not_eq_true]; unfold blankB; simp only [Bool.or_eq_true, decide_eq_true_eq]; omega
  · rintro rfl; cases h
theorem dvf_noughts (l : List UInt8) : ∀ z, dvf 0 (List.replicate z 48 ++ l) = dvf 0 l
  | 0 => rfl
  | z + 1 => by
    rw [List.replicate_succ, List.cons_append, dvf_zeros 0 _ rfl, dvf_noughts l z]
/-- Digits that are a number within its bounds: one token. -/
theorem next_digits {l : List UInt8} (ha : l.all isDig = true) (hne : l ≠ []) {n : Int} (hn : dvf 0 l = n) (hin : inR n) : nextT l = (⟨2, [], n⟩, l.length, 0) := by
  cases l with
  | nil => exact absurd rfl hne
  | cons c r =>
    have hc : isDig c = true := by rw [List.all_cons, Bool.and_eq_true] at ha; exact ha.1
    have hall : allD (c :: r) = true := by unfold allD; rw [ha]; rfl
    rw [nextT_num r (dig_let hc).1 hc, all_takeWhile ha, readV_yes hall, readE_yes hall, hn, val_in hin, err_in hin]
theorem itoa_digits {n : Int} (h0 : 0 ≤ n) : Lib.itoa n = Lib.decDigits n.toNat := by unfold Lib.itoa; rw [if_neg (by omega)]
theorem noughts_all (z : Nat) {n : Int} (h0 : 0 ≤ n) : (List.replicate z 48 ++ Lib.itoa n).all isDig = true ∧ List.replicate z 48 ++ Lib.itoa n ≠ [] ∧ dvf 0 (List.replicate z 48 ++ Lib.itoa n) = n := by
  rw [itoa_digits h0]
  obtain ⟨h1, h2⟩ := decDigits_all n.toNat
  refine ⟨?_, ?_, ?_⟩
  · rw [List.all_append, h1, Bool.and_true, List.all_eq_true]
    intro x hx
    rw [List.eq_of_mem_replicate hx]; decide
  · simp [h2]
  · rw [dvf_noughts, dvf_decDigits]; omega
theorem number_toks (z : Nat) {n : Int} (h0 : 0 ≤ n) (hin : inR n) (hz : z ≤ 30) : toks (List.replicate z 48 ++ Lib.itoa n) = ([⟨2, [], n⟩], 0) := by
  obtain ⟨h1, h2, h3⟩ := noughts_all z h0
  have hl := itoa_len hin
  have hn := next_digits h1 h2 h3 hin
  rw [toks_short (by rw [List.length_append, List.length_replicate]; omega)]
  cases hx : List.replicate z 48 ++ Lib.itoa n with
  | nil => exact absurd hx h2
  | cons c r =>
    rw [hx] at hn h1
    have hc : isDig c = true := by rw [List.all_cons, Bool.and_eq_true] at h1; exact h1.1
    rw [splA_tok [] (dig_let hc).2.1 (by rw [hn]), hn, List.drop_length, splA_nil]; rfl
theorem number_fit {n : Int} (hin : inR n) : (⟨2, [], n⟩ : Tok).fit := ⟨hin, by simp, by have := itoa_len hin; simp [jt]; omega⟩
end Go.Proofs.YtmdmcfobdbccmaaDoor.Lp
