/-
  What the functions of the program's package calc compute (but Read and Dec), each by a walk through its text. Conditions: the arguments are numbers of 64 bits.
-/
import Derived.Test.YtalmbcbcabkioaaRows
import Derived.Test.YtalmbcbcabkioaaPlain1
import Derived.WalkKit
import Derived.WalkSpells
import Derived.WalkLawsBesides
import Derived.Lib.Hide
namespace Go.Proofs.Ytalmbcbcabkioaa
open Go.RowKit

theorem told_any (n : Int) (ok : Bool) (w : World) :
    Calls Try.prog 22 #[.int .i64 n, .bool ok] w fun e w' => e = .returned (.tuple #[.int .i64 (Lp.tv ok n), .int .i64 (Lp.te ok)]) ∧ w = w' := by
  cases ok
  · go_enter Try.func22, Try.ntmps22
    go_wp2
    go_ret2
    exact ⟨rfl, rfl⟩
  · go_enter Try.func22, Try.ntmps22
    go_wp2
    go_ret2
    exact ⟨rfl, rfl⟩

theorem add_any (a b : Int) (w : World) (ha : Lp.inR a) (hb : Lp.inR b) :
    Calls Try.prog 9 #[.int .i64 a, .int .i64 b] w fun e w' => e = .returned (.tuple #[.int .i64 (Lp.val (a + b)), .int .i64 (Lp.err (a + b))]) ∧ w = w' := by
  have e1 := Lp.tv_of (Lp.add_ok a b ha hb) Lp.wrap_in
  have e2 := Lp.te_of (Lp.add_ok a b ha hb)
  rw [← e1, ← e2]; clear e1 e2
  go_enter Try.func9, Try.ntmps9
  go_wp2_with (go_at_call 22; refine (told_any _ _ _).mono ?_; rintro e w' ⟨rfl, rfl⟩)
  go_ret2
  exact ⟨rfl, rfl⟩

theorem sub_any (a b : Int) (w : World) (ha : Lp.inR a) (hb : Lp.inR b) :
    Calls Try.prog 10 #[.int .i64 a, .int .i64 b] w fun e w' => e = .returned (.tuple #[.int .i64 (Lp.val (a - b)), .int .i64 (Lp.err (a - b))]) ∧ w = w' := by
  have e1 := Lp.tv_of (Lp.sub_ok a b ha hb) Lp.wrap_in
  have e2 := Lp.te_of (Lp.sub_ok a b ha hb)
  rw [← e1, ← e2]; clear e1 e2
  go_enter Try.func10, Try.ntmps10
  go_wp2_with (go_at_call 22; refine (told_any _ _ _).mono ?_; rintro e w' ⟨rfl, rfl⟩)
  go_ret2
  exact ⟨rfl, rfl⟩

theorem neg_any (a : Int) (w : World) (ha : Lp.inR a) :
    Calls Try.prog 14 #[.int .i64 a] w fun e w' => e = .returned (.tuple #[.int .i64 (Lp.val (-a)), .int .i64 (Lp.err (-a))]) ∧ w = w' := by
  have e1 := Lp.tv_of (Lp.neg_ok a ha) Lp.wrap_in
  have e2 := Lp.te_of (Lp.neg_ok a ha)
  rw [← e1, ← e2]; clear e1 e2
  go_enter Try.func14, Try.ntmps14
  go_wp2_with (go_at_call 22; refine (told_any _ _ _).mono ?_; rintro e w' ⟨rfl, rfl⟩)
  go_ret2
  exact ⟨rfl, rfl⟩

theorem mod_any (a b : Int) (w : World) :
    Calls Try.prog 12 #[.int .i64 a, .int .i64 b] w fun e w' => e = .returned (.tuple #[.int .i64 (Lp.modV a b), .int .i64 (Lp.zerE b)]) ∧ w = w' := by
  by_cases h0 : b = 0
  · subst h0
    go_enter Try.func12, Try.ntmps12
    go_wp2
    go_ret2
    exact ⟨rfl, rfl⟩
  · by_cases h1 : b = -1
    · subst h1
      rw [Lp.modV_neg, Lp.zerE_no (by decide)]
      go_enter Try.func12, Try.ntmps12
      go_wp2
      go_ret2
      exact ⟨rfl, rfl⟩
    · have e0 : (b == 0) = false := by simpa using h0
      have e1 : (b == -1) = false := by simpa using h1
      rw [Lp.modV_no h0, Lp.zerE_no h0]
      clear h1
      go_enter Try.func12, Try.ntmps12
      go_wp2
      go_ret2
      exact ⟨rfl, rfl⟩

theorem mul_any (a b : Int) (w : World) (ha : Lp.inR a) (hb : Lp.inR b) :
    Calls Try.prog 13 #[.int .i64 a, .int .i64 b] w fun e w' => e = .returned (.tuple #[.int .i64 (Lp.val (a * b)), .int .i64 (Lp.err (a * b))]) ∧ w = w' := by
  by_cases h0 : a = 0
  · subst h0
    rw [Int.zero_mul]
    go_enter Try.func13, Try.ntmps13
    go_wp2
    go_ret2
    exact ⟨rfl, rfl⟩
  · by_cases h1 : b = 0
    · subst h1
      rw [Int.mul_zero]
      go_enter Try.func13, Try.ntmps13
      go_wp2
      go_ret2
      exact ⟨rfl, rfl⟩
    · have e1 := Lp.tv_of (Lp.mul_ok a b ha hb h1) Lp.wrap_in
      have e2 := Lp.te_of (Lp.mul_ok a b ha hb h1)
      rw [← e1, ← e2]; clear e1 e2 ha hb
      go_enter Try.func13, Try.ntmps13
      go_wp2_with (go_at_call 22; refine (told_any _ _ _).mono ?_; rintro e w' ⟨rfl, rfl⟩)
      all_goals
        go_ret2
        simp_all [Lp.beqd]

theorem div_any (a b : Int) (w : World) (ha : Lp.inR a) :
    Calls Try.prog 11 #[.int .i64 a, .int .i64 b] w fun e w' => e = .returned (.tuple #[.int .i64 (Lp.divV a b), .int .i64 (Lp.divE a b)]) ∧ w = w' := by
  by_cases h1 : b = 0
  · subst h1
    rw [Lp.divV_zero, Lp.divE_zero]
    go_enter Try.func11, Try.ntmps11
    go_wp2
    go_ret2
    exact ⟨rfl, rfl⟩
  · rw [Lp.divV_no h1, Lp.divE_no h1]
    have e1 := Lp.tv_of (Lp.div_ok a b ha) Lp.wrap_in
    have e2 := Lp.te_of (Lp.div_ok a b ha)
    rw [← e1, ← e2]; clear e1 e2 ha
    go_enter Try.func11, Try.ntmps11
    go_wp2_with (go_at_call 22; refine (told_any _ _ _).mono ?_; rintro e w' ⟨rfl, rfl⟩)
    all_goals
      go_ret2
      simp_all [Lp.beqd, bne]

end Go.Proofs.Ytalmbcbcabkioaa
