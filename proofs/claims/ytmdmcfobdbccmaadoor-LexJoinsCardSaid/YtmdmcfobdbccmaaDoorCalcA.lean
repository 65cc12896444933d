/-
  What calc's sum and product compute, each by a walk through its text. Conditions: the arguments are numbers of 64 bits.
-/
import Derived.Test.YtmdmcfobdbccmaaDoorRows
import Derived.Test.YtmdmcfobdbccmaaDoorPlain1
import Derived.WalkKit
import Derived.WalkSpells
import Derived.WalkLawsBesides
import Derived.Lib.Hide
namespace Go.Proofs.YtmdmcfobdbccmaaDoor
open Go.RowKit

theorem told_any (n : Int) (ok : Bool) (w : World) :
    Calls Tryd.prog 65 #[.int .i64 n, .bool ok] w fun e w' => e = .returned (.tuple #[.int .i64 (Lp.tv ok n), .int .i64 (Lp.te ok)]) ∧ w = w' := by
  cases ok
  · go_enter Tryd.func65, Tryd.ntmps65
    go_wp2
    go_ret2
    exact ⟨rfl, rfl⟩
  · go_enter Tryd.func65, Tryd.ntmps65
    go_wp2
    go_ret2
    exact ⟨rfl, rfl⟩

theorem add_any (a b : Int) (w : World) (ha : Lp.inR a) (hb : Lp.inR b) :
    Calls Tryd.prog 58 #[.int .i64 a, .int .i64 b] w fun e w' => e = .returned (.tuple #[.int .i64 (Lp.val (a + b)), .int .i64 (Lp.err (a + b))]) ∧ w = w' := by
  have e1 := Lp.tv_of (Lp.add_ok a b ha hb) Lp.wrap_in
  have e2 := Lp.te_of (Lp.add_ok a b ha hb)
  rw [← e1, ← e2]; clear e1 e2
  go_enter Tryd.func58, Tryd.ntmps58
  go_wp2_with (go_at_call 65; refine (told_any _ _ _).mono ?_; rintro e w' ⟨rfl, rfl⟩)
  go_ret2
  exact ⟨rfl, rfl⟩

theorem mul_any (a b : Int) (w : World) (ha : Lp.inR a) (hb : Lp.inR b) :
    Calls Tryd.prog 57 #[.int .i64 a, .int .i64 b] w fun e w' => e = .returned (.tuple #[.int .i64 (Lp.val (a * b)), .int .i64 (Lp.err (a * b))]) ∧ w = w' := by
  by_cases h0 : a = 0
  · subst h0
    rw [Int.zero_mul]
    go_enter Tryd.func57, Tryd.ntmps57
    go_wp2
    go_ret2
    exact ⟨rfl, rfl⟩
  · by_cases h1 : b = 0
    · subst h1
      rw [Int.mul_zero]
      go_enter Tryd.func57, Tryd.ntmps57
      go_wp2
      go_ret2
      exact ⟨rfl, rfl⟩
    · have e1 := Lp.tv_of (Lp.mul_ok a b ha hb h1) Lp.wrap_in
      have e2 := Lp.te_of (Lp.mul_ok a b ha hb h1)
      rw [← e1, ← e2]; clear e1 e2 ha hb
      go_enter Tryd.func57, Tryd.ntmps57
      go_wp2_with (go_at_call 65; refine (told_any _ _ _).mono ?_; rintro e w' ⟨rfl, rfl⟩)
      all_goals
        go_ret2
        simp_all [Lp.beqd]

end Go.Proofs.YtmdmcfobdbccmaaDoor
