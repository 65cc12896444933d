/-
 Contracts and laws, joined. Conditions: those of each.
-/
import Derived.Test.YtkfjmgmjbljnbaaGreatDoorYGD
import Derived.Test.YtkfjmgmjbljnbaaGreatDoorYGA
import Derived.WalkKit
import Derived.WalkSpells
import Derived.WalkLawsBesides
import Derived.Lib.Hide
namespace Go.Proofs.YtkfjmgmjbljnbaaGreatDoor
open Go.RowKit
theorem mod_any (a b : Int) (w : World) :
 Calls Tryz.prog 132 #[.int .i64 a, .int .i64 b] w fun e w' => e = .returned (.tuple #[.int .i64 (Lp.modV a b), .int .i64 (Lp.zerE b)]) ∧ w = w' := by
 by_cases h0 : b = 0
 ·subst h0
  go_enter Tryz.func132, Tryz.ntmps132
  go_wp2
  go_ret2
  exact ⟨rfl, rfl⟩
 ·by_cases h1 : b = -1
  ·subst h1
   rw [Lp.modV_neg, Lp.zerE_no (by decide)]
   go_enter Tryz.func132, Tryz.ntmps132
   go_wp2
   go_ret2
   exact ⟨rfl, rfl⟩
  ·have e0 : (b == 0) = false := by simpa using h0
   have e1 : (b == -1) = false := by simpa using h1
   rw [Lp.modV_no h0, Lp.zerE_no h0]
   clear h1
   go_enter Tryz.func132, Tryz.ntmps132
   go_wp2
   go_ret2
   exact ⟨rfl, rfl⟩
theorem div_any (a b : Int) (w : World) (ha : Lp.inR a) :
 Calls Tryz.prog 131 #[.int .i64 a, .int .i64 b] w fun e w' => e = .returned (.tuple #[.int .i64 (Lp.divV a b), .int .i64 (Lp.divE a b)]) ∧ w = w' := by
 by_cases h1 : b = 0
 ·subst h1
  rw [Lp.divV_zero, Lp.divE_zero]
  go_enter Tryz.func131, Tryz.ntmps131
  go_wp2
  go_ret2
  exact ⟨rfl, rfl⟩
 ·rw [Lp.divV_no h1, Lp.divE_no h1]
  have e1 := Lp.tv_of (Lp.div_ok a b ha) Lp.wrap_in
  have e2 := Lp.te_of (Lp.div_ok a b ha)
  rw [← e1, ← e2]; clear e1 e2 ha
  go_enter Tryz.func131, Tryz.ntmps131
  go_wp2_with (go_at_call 183; refine (told_any _ _ _).mono ?_; rintro e w' ⟨rfl, rfl⟩)
  all_goals
   go_ret2
   simp_all [Lp.beqd, bne]
end Go.Proofs.YtkfjmgmjbljnbaaGreatDoor
namespace Go.Proofs.YtkfjmgmjbljnbaaGreatDoor
open Go.RowKit
theorem sub_any (a b : Int) (w : World) (ha : Lp.inR a) (hb : Lp.inR b) :
 Calls Tryz.prog 129 #[.int .i64 a, .int .i64 b] w fun e w' => e = .returned (.tuple #[.int .i64 (Lp.val (a - b)), .int .i64 (Lp.err (a - b))]) ∧ w = w' := by
 have e1 := Lp.tv_of (Lp.sub_ok a b ha hb) Lp.wrap_in
 have e2 := Lp.te_of (Lp.sub_ok a b ha hb)
 rw [← e1, ← e2]; clear e1 e2
 go_enter Tryz.func129, Tryz.ntmps129
 go_wp2_with (go_at_call 183; refine (told_any _ _ _).mono ?_; rintro e w' ⟨rfl, rfl⟩)
 go_ret2
 exact ⟨rfl, rfl⟩
end Go.Proofs.YtkfjmgmjbljnbaaGreatDoor
