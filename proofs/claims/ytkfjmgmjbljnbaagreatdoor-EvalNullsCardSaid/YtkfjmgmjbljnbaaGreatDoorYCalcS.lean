/-
 What calc's difference computes, by a walk through its text. Conditions: the arguments are numbers of 64 bits.
-/
import Derived.Test.YtkfjmgmjbljnbaaGreatDoorYGD
namespace Go.Proofs.YtkfjmgmjbljnbaaGreatDoor
open Go.RowKit
theorem sub_any (a b : Int) (w : World) (ha : Lp.inR a) (hb : Lp.inR b) :
 Calls Tryz.prog 129 #[.int .i64 a, .int .i64 b] w fun e w' => e = .returned (.tuple #[.int .i64 (Lp.val (a - b)), .int .i64 (Lp.err (a - b))]) ∧ w = w' := by
 have e1 := Lp.tv_of (Lp.sub_ok a b ha hb) Lp.wrap_in
 have e2 := Lp.te_of (Lp.sub_ok a b ha hb)
 rw [← e1, ← e2]; clear e1 e2
 go_enter Tryz.func129, Tryz.ntmps129
 go_wp2_with (go_at_call 183; refine (told_any _ _ _).mono ?_; rintro e w' ⟨rfl, rfl⟩)
 go_ret2
 exact ⟨rfl, rfl⟩
end Go.Proofs.YtkfjmgmjbljnbaaGreatDoor
