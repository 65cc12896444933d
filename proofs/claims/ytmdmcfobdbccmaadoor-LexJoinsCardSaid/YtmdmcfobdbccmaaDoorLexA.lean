/-
  What lapidaryref14's and lex's small functions of one byte, or of one rune, give. No conditions.
-/
import Derived.Test.YtmdmcfobdbccmaaDoorPlainLex
import Derived.Test.YtmdmcfobdbccmaaDoorRows
import Derived.WalkKit
import Derived.WalkSpells
import Derived.WalkLawsBesides
import Derived.Lib.Hide
namespace Go.Proofs.YtmdmcfobdbccmaaDoor
open Go.RowKit

def letR (r : Int) : Bool := (decide (97 ≤ r) && decide (r ≤ 122)) || (decide (65 ≤ r) && decide (r ≤ 90)) || decide (r = 95)
def digR (r : Int) : Bool := decide (48 ≤ r) && decide (r ≤ 57)
def lowR (r : Int) : Int := if 65 ≤ r ∧ r ≤ 90 then r + 32 else r
theorem letR_byte (c : UInt8) : letR (c.toNat : Int) = Lp.letB c := by
  unfold letR Lp.letB
  rw [Bool.eq_iff_iff]; simp; omega
theorem digR_byte (c : UInt8) : digR (c.toNat : Int) = Lp.isDig c := by
  unfold digR Lp.isDig
  rw [Bool.eq_iff_iff]; simp; omega
theorem letR_yes {r : Int} (h : (97 ≤ r ∧ r ≤ 122) ∨ (65 ≤ r ∧ r ≤ 90) ∨ r = 95) : letR r = true := by unfold letR; simp; omega
theorem letR_no {r : Int} (h : r < 65 ∨ (90 < r ∧ r < 95) ∨ r = 96 ∨ 122 < r) : letR r = false := by
  rw [← Bool.not_eq_true]; unfold letR; simp; omega
theorem digR_yes {r : Int} (h : 48 ≤ r ∧ r ≤ 57) : digR r = true := by unfold digR; simp; omega
theorem digR_no {r : Int} (h : r < 48 ∨ 57 < r) : digR r = false := by
  rw [← Bool.not_eq_true]; unfold digR; simp; omega
def BoolPost (b : Bool) (w : World) (e : Ending) (w' : World) : Prop := e = .returned (.bool b) ∧ w = w'
theorem boolPost {b c : Bool} {w : World} (h : b = c) : BoolPost b w (.returned (.bool c)) w := by subst h; exact ⟨rfl, rfl⟩
theorem rletter_any (r : Int) (w : World) : Calls Tryd.prog 18 #[.int .u8 r] w (BoolPost (letR r) w) := by
  go_enter Tryd.func18, Tryd.ntmps18
  go_wp2
  all_goals (go_ret; refine boolPost ?_; unfold letR; rw [Bool.eq_iff_iff]; simp; omega)
theorem rdigit_any (r : Int) (w : World) : Calls Tryd.prog 19 #[.int .u8 r] w (BoolPost (digR r) w) := by
  go_enter Tryd.func19, Tryd.ntmps19
  go_wp2
  all_goals (go_ret; refine boolPost ?_; unfold digR; rw [Bool.eq_iff_iff]; simp; omega)
theorem lletter_any (r : Int) (w : World) : Calls Tryd.prog 32 #[.int .i32 r] w (BoolPost (letR r) w) := by
  go_enter Tryd.func32, Tryd.ntmps32
  go_wp2
  all_goals (go_ret; refine boolPost ?_; unfold letR; rw [Bool.eq_iff_iff]; simp; omega)
theorem ldigit_any (r : Int) (w : World) : Calls Tryd.prog 35 #[.int .i32 r] w (BoolPost (digR r) w) := by
  go_enter Tryd.func35, Tryd.ntmps35
  go_wp2
  all_goals (go_ret; refine boolPost ?_; unfold digR; rw [Bool.eq_iff_iff]; simp; omega)
theorem small_any (r : Int) (w : World) (h0 : 0 ≤ r) (h1 : r ≤ 1114111) : Calls Tryd.prog 37 #[.int .i32 r] w fun e w' => e = .returned (.int .i32 (lowR r)) ∧ w = w' := by
  by_cases h : 65 ≤ r ∧ r ≤ 90
  · obtain ⟨h2, h3⟩ := h
    have HF : Hid (lowR r = r + 97 - 65) := by show _ = _; unfold lowR; rw [if_pos ⟨h2, h3⟩]; omega
    go_enter Tryd.func37, Tryd.ntmps37
    go_wp2
    go_ret
    exact ⟨congrArg (fun x => Ending.returned (.int .i32 x)) HF.out.symm, rfl⟩
  · have HF : Hid (lowR r = r) := by show _ = _; unfold lowR; rw [if_neg h]
    rcases (show r < 65 ∨ 90 < r by omega) with h2 | h2
    · clear h
      go_enter Tryd.func37, Tryd.ntmps37
      go_wp2
      go_ret
      exact ⟨congrArg (fun x => Ending.returned (.int .i32 x)) HF.out.symm, rfl⟩
    · clear h
      go_enter Tryd.func37, Tryd.ntmps37
      go_wp2
      go_ret
      exact ⟨congrArg (fun x => Ending.returned (.int .i32 x)) HF.out.symm, rfl⟩
def wordR (r : Int) : Bool := letR r || digR r
theorem wordR_byte (c : UInt8) : wordR (c.toNat : Int) = Lp.wordB c := by unfold wordR Lp.wordB; rw [letR_byte, digR_byte]
theorem wordr_any (r : Int) (w : World) : Calls Tryd.prog 34 #[.int .i32 r] w (BoolPost (wordR r) w) := by
  have c1 := lletter_any r
  have c2 := ldigit_any r
  unfold BoolPost at c1 c2
  cases h1 : letR r
  · rw [h1] at c1
    have C1 := Lib.hid c1
    have C2 := Lib.hid c2
    have HF : Hid (wordR r = digR r) := by show _ = _; unfold wordR; rw [h1]; rfl
    clear c1 c2 h1
    go_enter Tryd.func34, Tryd.ntmps34
    go_wp2_with fail
    refine (C1.out _).mono ?_
    rintro e w' ⟨rfl, rfl⟩
    go_wp2_with fail
    refine (C2.out _).mono ?_
    rintro e w' ⟨rfl, rfl⟩
    go_wp2
    go_ret
    exact boolPost HF.out
  · rw [h1] at c1
    have C1 := Lib.hid c1
    have HF : Hid (wordR r = true) := by show _ = _; unfold wordR; rw [h1]; rfl
    clear c1 c2 h1
    go_enter Tryd.func34, Tryd.ntmps34
    go_wp2_with fail
    refine (C1.out _).mono ?_
    rintro e w' ⟨rfl, rfl⟩
    go_wp2
    go_ret
    exact boolPost HF.out
theorem rsingle_any (c : UInt8) (w : World) : Calls Tryd.prog 24 #[.int .u8 c.toNat] w (BoolPost (Lp.singB c) w) := by
  go_enter Tryd.func24, Tryd.ntmps24
  go_wp2
  go_loop [3] (fun i => ∃ k : Nat, k ≤ 13 ∧ i = .int .i64 k ∧ Hid ((Lp.signs.take k).contains c = false)) (fun i => 13 - (intOf i).toNat)
  case atStart => exact ⟨0, by omega, rfl, rfl⟩
  case round =>
    obtain ⟨k, hk, rfl, HC⟩ := hrel
    by_cases hlt : k < 13
    · have hk0 : (0 : Int) ≤ (k : Int) := by omega
      have hk1 : (k : Int) < 13 := by omega
      have HD := Lib.hid (show (Lp.signs.take (k + 1)).contains c = (decide ((((⟨#[40, 41, 44, 59, 42, 43, 45, 47, 37, 61, 60, 62, 46]⟩ : ByteArray)[k]'hlt).toNat : Int) = (c.toNat : Int))) by
        have e : Lp.signs.take (k + 1) = Lp.signs.take k ++ [(⟨#[40, 41, 44, 59, 42, 43, 45, 47, 37, 61, 60, 62, 46]⟩ : ByteArray)[k]'hlt] := Lp.take_snoc ⟨#[40, 41, 44, 59, 42, 43, 45, 47, 37, 61, 60, 62, 46]⟩ k hlt
        have hc := HC.out
        generalize (⟨#[40, 41, 44, 59, 42, 43, 45, 47, 37, 61, 60, 62, 46]⟩ : ByteArray)[k]'hlt = d at *
        rw [e, Bool.eq_iff_iff]
        rw [← Bool.not_eq_true, List.contains_iff_mem] at hc
        simp only [List.contains_iff_mem, List.mem_append, List.mem_singleton, hc, false_or, decide_eq_true_eq]
        constructor
        · rintro rfl; rfl
        · intro h; exact (UInt8.toNat_inj.1 (by omega)).symm)
      go_wp2
      · go_ret
        have hm := HD.out
        rename_i ht _
        rw [beq_iff_eq] at ht
        rw [decide_eq_true ht] at hm
        refine boolPost ?_
        unfold Lp.singB
        rw [List.contains_iff_mem] at hm ⊢
        exact List.mem_of_mem_take hm
      · rename_i ht
        rw [beq_eq_false_iff_ne] at ht
        go_round
        case rel => exact ⟨k + 1, by omega, by go_num, by show _ = _; rw [HD.out, decide_eq_false ht]⟩
        case measure => simp [intOf]; omega
    · obtain rfl : k = 13 := by omega
      have HF : Hid (Lp.singB c = false) := by show _ = _; unfold Lp.singB; have := HC.out; exact this
      go_wp2
      go_ret
      exact boolPost HF.out
end Go.Proofs.YtmdmcfobdbccmaaDoor
