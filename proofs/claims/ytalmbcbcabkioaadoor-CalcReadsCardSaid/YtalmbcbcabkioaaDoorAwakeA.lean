/-
  lapidarylaw01's awake returns true: the document's examples hold of the program. No conditions.
-/
import Derived.Test.YtalmbcbcabkioaaDoorReadA
import Derived.Test.YtalmbcbcabkioaaDoorCalcD
namespace Go.Proofs.YtalmbcbcabkioaaDoor
open Go.RowKit

theorem aw_add (w : World) : Calls Tryd.prog 9 #[.int .i64 9223372036854775807, .int .i64 1] w fun e w' => e = .returned (.tuple #[.int .i64 0, .int .i64 9]) ∧ w = w' :=
  add_out _ _ _ (by decide) (by decide) (by decide)
theorem aw_div (w : World) : Calls Tryd.prog 10 #[.int .i64 (-7), .int .i64 2] w fun e w' => e = .returned (.tuple #[.int .i64 (-3), .int .i64 0]) ∧ w = w' :=
  div_any (-7) 2 w (by decide)
theorem aw_mod (w : World) : Calls Tryd.prog 11 #[.int .i64 (-7), .int .i64 2] w fun e w' => e = .returned (.tuple #[.int .i64 (-1), .int .i64 0]) ∧ w = w' :=
  mod_any (-7) 2 w
theorem aw_read (w : World) : Calls Tryd.prog 5 #[.string ⟨#[48, 48, 55]⟩] w fun e w' => e = .returned (.tuple #[.int .i64 7, .int .i64 0]) ∧ Below w.heap.size w w' :=
  (read_any _ w).mono fun _ _ h => h

theorem awake1_any (w : World) : Calls Tryd.prog 4 #[] w fun e w' => e = .returned (.bool true) ∧ Below w.heap.size w w' := by
  go_enter Tryd.func4, Tryd.ntmps4
  go_wp2_with (first | (go_at_call 9; refine (aw_add _).mono ?_; rintro e w' ⟨rfl, rfl⟩) | (go_at_call 10; refine (aw_div _).mono ?_; rintro e w' ⟨rfl, rfl⟩) | (go_at_call 11; refine (aw_mod _).mono ?_; rintro e w' ⟨rfl, rfl⟩) | (go_at_call 5; refine (aw_read _).mono ?_; rintro e w1 ⟨rfl, hb1⟩))
  go_ret
  exact ⟨rfl, hb1⟩
end Go.Proofs.YtalmbcbcabkioaaDoor
