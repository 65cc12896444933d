/-
  What the functions of the reference lapidaryref01 compute (but Read and Dec), each by a walk through its text. Conditions: the arguments are numbers of 64 bits.
-/
import Derived.Test.YtalmbcbcabkioaaRows
import Derived.Test.YtalmbcbcabkioaaPlain1
import Derived.Test.YtalmbcbcabkioaaShelf
import Derived.Laws.Externs
import Derived.WalkKit
import Derived.WalkSpells
import Derived.WalkLawsBesides
import Derived.Lib.Hide
namespace Go.Proofs.Ytalmbcbcabkioaa
open Go.RowKit

theorem rsize_any (n : Int) (w : World) (h : Lp.inR n) :
    Calls Try.prog 24 #[.int .i64 n] w fun e w' => e = .returned (.int .u64 (Lp.mag n)) ∧ w = w' := by
  obtain ⟨h1, h2⟩ := h
  by_cases hn : n < 0
  · rw [Lp.mag_neg hn]
    go_enter Try.func24, Try.ntmps24
    go_wp2
    go_ret
    exact ⟨rfl, rfl⟩
  · rw [Lp.mag_pos hn]
    have hn' : 0 ≤ n := by omega
    go_enter Try.func24, Try.ntmps24
    go_wp2
    go_ret
    exact ⟨rfl, rfl⟩

theorem rsign_any (s : Int) (below : Bool) (w : World) (h0 : 0 ≤ s) (h1 : s < 18446744073709551616) :
    Calls Try.prog 25 #[.int .u64 s, .bool below] w fun e w' => e = .returned (.tuple #[.int .i64 (Lp.sgV s below), .bool (Lp.sgOk s below)]) ∧ w = w' := by
  cases below
  · by_cases h2 : 9223372036854775808 ≤ s
    · rw [Lp.sgV_ff h2, Lp.sgOk_ff h2]
      go_enter Try.func25, Try.ntmps25
      go_wp2
      go_ret2
      exact ⟨rfl, rfl⟩
    · rw [Lp.sgV_ft h0 h2, Lp.sgOk_ft h0 h2]
      go_enter Try.func25, Try.ntmps25
      go_wp2
      go_ret2
      exact ⟨rfl, rfl⟩
  · by_cases h2 : 9223372036854775808 < s
    · rw [Lp.sgV_tf h2, Lp.sgOk_tf h2]
      go_enter Try.func25, Try.ntmps25
      go_wp2
      go_ret2
      exact ⟨rfl, rfl⟩
    · rw [Lp.sgV_tt h0 h2, Lp.sgOk_tt h0 h2]
      by_cases h3 : s = 9223372036854775808
      · subst h3
        go_enter Try.func25, Try.ntmps25
        go_wp2
        go_ret2
        exact ⟨rfl, rfl⟩
      · have h4 : s < 9223372036854775808 := by omega
        clear h3 h2
        go_enter Try.func25, Try.ntmps25
        go_wp2
        go_ret2
        exact ⟨rfl, rfl⟩

theorem ranswer_any (n : Int) (ok : Bool) (w : World) :
    Calls Try.prog 26 #[.int .i64 n, .bool ok] w fun e w' => e = .returned (.tuple #[.int .i64 (Lp.tv ok n), .int .i64 (Lp.te ok)]) ∧ w = w' := by
  cases ok
  · go_enter Try.func26, Try.ntmps26
    go_wp2
    go_ret2
    exact ⟨rfl, rfl⟩
  · go_enter Try.func26, Try.ntmps26
    go_wp2
    go_ret2
    exact ⟨rfl, rfl⟩

theorem radd64 (x y : Int) (hx : 0 ≤ x) (hy : 0 ≤ y) (w : World) : (callFunc 23 #[.int .u64 x, .int .u64 y, .int .u64 0]).run Try.prog w =
    .ok (.value (.tuple #[.int .u64 (Lp.low (x + y)), .int .u64 (Lp.high (x + y))])) w := by
  rw [run_callFunc_extern Try.func23 (by kernel_rfl) (by kernel_rfl) (by kernel_rfl) (e := add64Entry) (by kernel_rfl), run_add64 x y 0 hx hy (by decide) (by decide)]
  simp [Result.andThen, Lp.low, Lp.high]

set_option maxHeartbeats 400000 in
theorem radd_any (a b : Int) (w : World) (ha : Lp.inR a) (hb : Lp.inR b) :
    Calls Try.prog 15 #[.int .i64 a, .int .i64 b] w fun e w' => e = .returned (.tuple #[.int .i64 (Lp.val (a + b)), .int .i64 (Lp.err (a + b))]) ∧ w = w' := by
  by_cases h1 : (decide (a < 0) == decide (b < 0)) = true
  · rw [← Lp.add_signed h1, ← Lp.rtv _ (Lp.mag_add a b), ← Lp.rte _ (Lp.mag_add a b)]
    obtain ⟨l1, l2⟩ := Lp.low_bd (Lp.mag a + Lp.mag b)
    go_enter Try.func15, Try.ntmps15
    go_wp2_with (first | (go_at_call 24; refine (rsize_any _ _ (by assumption)).mono ?_; rintro e w' ⟨rfl, rfl⟩) | simp only [radd64 (Lp.mag a) (Lp.mag b) (Lp.mag_nonneg a) (Lp.mag_nonneg b)] | (go_at_call 25; refine (rsign_any _ _ _ l1 l2).mono ?_; rintro e w' ⟨rfl, rfl⟩) | (go_at_call 26; refine (ranswer_any _ _ _).mono ?_; rintro e w' ⟨rfl, rfl⟩))
    all_goals
      go_ret2
      simp_all
  · have ma := Lp.mag_le ha
    have mb := Lp.mag_le hb
    have na := Lp.mag_nonneg a
    have nb := Lp.mag_nonneg b
    by_cases h2 : Lp.mag b ≤ Lp.mag a
    · rw [← Lp.add_signed1 h1, ← Lp.tv_sg, ← Lp.te_sg]
      go_enter Try.func15, Try.ntmps15
      go_wp2_with (first | (go_at_call 24; refine (rsize_any _ _ (by assumption)).mono ?_; rintro e w' ⟨rfl, rfl⟩) | (go_at_call 25; refine (rsign_any _ _ _ (by omega) (by omega)).mono ?_; rintro e w' ⟨rfl, rfl⟩) | (go_at_call 26; refine (ranswer_any _ _ _).mono ?_; rintro e w' ⟨rfl, rfl⟩))
      go_ret2
      exact ⟨rfl, rfl⟩
    · rw [← Lp.add_signed2 h1, ← Lp.tv_sg, ← Lp.te_sg]
      go_enter Try.func15, Try.ntmps15
      go_wp2_with (first | (go_at_call 24; refine (rsize_any _ _ (by assumption)).mono ?_; rintro e w' ⟨rfl, rfl⟩) | (go_at_call 25; refine (rsign_any _ _ _ (by omega) (by omega)).mono ?_; rintro e w' ⟨rfl, rfl⟩) | (go_at_call 26; refine (ranswer_any _ _ _).mono ?_; rintro e w' ⟨rfl, rfl⟩))
      go_ret2
      exact ⟨rfl, rfl⟩

set_option maxHeartbeats 400000 in
theorem rsub_any (a b : Int) (w : World) (ha : Lp.inR a) (hb : Lp.inR b) :
    Calls Try.prog 16 #[.int .i64 a, .int .i64 b] w fun e w' => e = .returned (.tuple #[.int .i64 (Lp.val (a - b)), .int .i64 (Lp.err (a - b))]) ∧ w = w' := by
  by_cases h1 : (decide (a < 0) == decide (b < 0)) = true
  · have ma := Lp.mag_le ha
    have mb := Lp.mag_le hb
    have na := Lp.mag_nonneg a
    have nb := Lp.mag_nonneg b
    by_cases h2 : Lp.mag b ≤ Lp.mag a
    · rw [← Lp.sub_signed1 h1, ← Lp.tv_sg, ← Lp.te_sg]
      go_enter Try.func16, Try.ntmps16
      go_wp2_with (first | (go_at_call 24; refine (rsize_any _ _ (by assumption)).mono ?_; rintro e w' ⟨rfl, rfl⟩) | (go_at_call 25; refine (rsign_any _ _ _ (by omega) (by omega)).mono ?_; rintro e w' ⟨rfl, rfl⟩) | (go_at_call 26; refine (ranswer_any _ _ _).mono ?_; rintro e w' ⟨rfl, rfl⟩))
      go_ret2
      exact ⟨rfl, rfl⟩
    · rw [← Lp.sub_signed2 h1, ← Lp.tv_sg, ← Lp.te_sg]
      go_enter Try.func16, Try.ntmps16
      go_wp2_with (first | (go_at_call 24; refine (rsize_any _ _ (by assumption)).mono ?_; rintro e w' ⟨rfl, rfl⟩) | (go_at_call 25; refine (rsign_any _ _ _ (by omega) (by omega)).mono ?_; rintro e w' ⟨rfl, rfl⟩) | (go_at_call 26; refine (ranswer_any _ _ _).mono ?_; rintro e w' ⟨rfl, rfl⟩))
      go_ret2
      exact ⟨rfl, rfl⟩
  · have h1' : (decide (a < 0) == decide (b < 0)) = false := by simpa using h1
    rw [← Lp.sub_signed h1, ← Lp.rtv _ (Lp.mag_add a b), ← Lp.rte _ (Lp.mag_add a b)]
    obtain ⟨l1, l2⟩ := Lp.low_bd (Lp.mag a + Lp.mag b)
    clear h1
    go_enter Try.func16, Try.ntmps16
    go_wp2_with (first | (go_at_call 24; refine (rsize_any _ _ (by assumption)).mono ?_; rintro e w' ⟨rfl, rfl⟩) | simp only [radd64 (Lp.mag a) (Lp.mag b) (Lp.mag_nonneg a) (Lp.mag_nonneg b)] | (go_at_call 25; refine (rsign_any _ _ _ l1 l2).mono ?_; rintro e w' ⟨rfl, rfl⟩) | (go_at_call 26; refine (ranswer_any _ _ _).mono ?_; rintro e w' ⟨rfl, rfl⟩))
    all_goals
      go_ret2
      simp_all

theorem rneg_any (a : Int) (w : World) (ha : Lp.inR a) :
    Calls Try.prog 17 #[.int .i64 a] w fun e w' => e = .returned (.tuple #[.int .i64 (Lp.val (-a)), .int .i64 (Lp.err (-a))]) ∧ w = w' := by
  rw [← Lp.neg_signed, ← Lp.tv_sg, ← Lp.te_sg]
  have ma := Lp.mag_le ha
  have na := Lp.mag_nonneg a
  go_enter Try.func17, Try.ntmps17
  go_wp2_with (first | (go_at_call 24; refine (rsize_any _ _ (by assumption)).mono ?_; rintro e w' ⟨rfl, rfl⟩) | (go_at_call 25; refine (rsign_any _ _ _ (by omega) (by omega)).mono ?_; rintro e w' ⟨rfl, rfl⟩) | (go_at_call 26; refine (ranswer_any _ _ _).mono ?_; rintro e w' ⟨rfl, rfl⟩))
  go_ret2
  exact ⟨rfl, rfl⟩

theorem rmul64 (x y : Int) (hx : 0 ≤ x) (hy : 0 ≤ y) (hx1 : x < 18446744073709551616) (hy1 : y < 18446744073709551616) (w : World) :
    Calls Try.prog 27 #[.int .u64 x, .int .u64 y] w fun e w' => e = .returned (.tuple #[.int .u64 (Lp.high (x * y)), .int .u64 (Lp.low (x * y))]) ∧ w = w' := by
  obtain ⟨x, rfl⟩ := Int.eq_ofNat_of_zero_le hx
  obtain ⟨y, rfl⟩ := Int.eq_ofNat_of_zero_le hy
  refine (Try.bits_Mul64 x y (by omega) (by omega) w).mono ?_
  rintro e w' ⟨rfl, rfl⟩
  exact ⟨rfl, rfl⟩

theorem rmul_any (a b : Int) (w : World) (ha : Lp.inR a) (hb : Lp.inR b) :
    Calls Try.prog 18 #[.int .i64 a, .int .i64 b] w fun e w' => e = .returned (.tuple #[.int .i64 (Lp.val (a * b)), .int .i64 (Lp.err (a * b))]) ∧ w = w' := by
  have na := Lp.mag_nonneg a
  have nb := Lp.mag_nonneg b
  rw [← Lp.mul_signed, ← Lp.rtv _ (Int.mul_nonneg na nb), ← Lp.rte _ (Int.mul_nonneg na nb)]
  have ma := Lp.mag_le ha
  have mb := Lp.mag_le hb
  obtain ⟨l1, l2⟩ := Lp.low_bd (Lp.mag a * Lp.mag b)
  go_enter Try.func18, Try.ntmps18
  go_wp2_with (first | (go_at_call 24; refine (rsize_any _ _ (by assumption)).mono ?_; rintro e w' ⟨rfl, rfl⟩) | (go_at_call 27; refine (rmul64 _ _ na nb (by omega) (by omega) _).mono ?_; rintro e w' ⟨rfl, rfl⟩) | (go_at_call 25; refine (rsign_any _ _ _ l1 l2).mono ?_; rintro e w' ⟨rfl, rfl⟩) | (go_at_call 26; refine (ranswer_any _ _ _).mono ?_; rintro e w' ⟨rfl, rfl⟩))
  all_goals
    go_ret2
    simp_all [bne]

theorem rdiv_any (a b : Int) (w : World) (ha : Lp.inR a) (hb : Lp.inR b) :
    Calls Try.prog 19 #[.int .i64 a, .int .i64 b] w fun e w' => e = .returned (.tuple #[.int .i64 (Lp.divV a b), .int .i64 (Lp.divE a b)]) ∧ w = w' := by
  by_cases h1 : b = 0
  · subst h1
    rw [Lp.divV_zero, Lp.divE_zero]
    go_enter Try.func19, Try.ntmps19
    go_wp2
    go_ret2
    exact ⟨rfl, rfl⟩
  · rw [Lp.divV_no h1, Lp.divE_no h1, ← Lp.div_signed, ← Lp.tv_sg, ← Lp.te_sg]
    have ma := Lp.mag_le ha
    have na := Lp.mag_nonneg a
    have mb := Lp.mag_pos' h1
    obtain ⟨d0, d1⟩ := Lp.mag_div a b
    go_enter Try.func19, Try.ntmps19
    go_wp2_with (first | (go_at_call 24; refine (rsize_any _ _ (by assumption)).mono ?_; rintro e w' ⟨rfl, rfl⟩) | (go_at_call 25; refine (rsign_any _ _ _ d0 (by omega)).mono ?_; rintro e w' ⟨rfl, rfl⟩) | (go_at_call 26; refine (ranswer_any _ _ _).mono ?_; rintro e w' ⟨rfl, rfl⟩))
    go_ret2
    exact ⟨rfl, rfl⟩

theorem rmod_any (a b : Int) (w : World) (ha : Lp.inR a) (hb : Lp.inR b) :
    Calls Try.prog 20 #[.int .i64 a, .int .i64 b] w fun e w' => e = .returned (.tuple #[.int .i64 (Lp.modV a b), .int .i64 (Lp.zerE b)]) ∧ w = w' := by
  by_cases h1 : b = 0
  · subst h1
    go_enter Try.func20, Try.ntmps20
    go_wp2
    go_ret2
    exact ⟨rfl, rfl⟩
  · have e1 := Lp.val_in (Lp.val_mod a h1 hb)
    have e2 := Lp.err_in (Lp.val_mod a h1 hb)
    rw [Lp.modV_no h1, Lp.zerE_no h1, ← e1, ← e2, ← Lp.mod_signed, ← Lp.tv_sg, ← Lp.te_sg]
    clear e1 e2
    have ma := Lp.mag_le hb
    have na := Lp.mag_nonneg a
    have mb := Lp.mag_pos' h1
    obtain ⟨d0, d1⟩ := Lp.mag_mod a h1
    go_enter Try.func20, Try.ntmps20
    go_wp2_with (first | (go_at_call 24; refine (rsize_any _ _ (by assumption)).mono ?_; rintro e w' ⟨rfl, rfl⟩) | (go_at_call 25; refine (rsign_any _ _ _ d0 (by omega)).mono ?_; rintro e w' ⟨rfl, rfl⟩) | (go_at_call 26; refine (ranswer_any _ _ _).mono ?_; rintro e w' ⟨rfl, rfl⟩))
    go_ret2
    exact ⟨rfl, rfl⟩

end Go.Proofs.Ytalmbcbcabkioaa
