/-
  calc's contracts where the outcome is known. No conditions beyond each theorem's own.
-/
import Derived.Test.YtalmbcbcabkioaaAwake1
namespace Go.Proofs.Ytalmbcbcabkioaa
open Go.RowKit

theorem inR_of {a : Int} (h : (Lit.int .i64 a).wf = true) : Lp.inR a := by
  simp [Lit.wf, IntKind.min, IntKind.max, IntKind.bits, IntKind.signed] at h; unfold Lp.inR; omega
theorem sub_in (a b : Int) (w : World) (ha : Lp.inR a) (hb : Lp.inR b) (h : Lp.inR (a - b)) :
    Calls Try.prog 10 #[.int .i64 a, .int .i64 b] w fun e w' => e = .returned (.tuple #[.int .i64 (a - b), .int .i64 0]) ∧ w = w' := by
  have := sub_any a b w ha hb; rw [Lp.val_in h, Lp.err_in h] at this; exact this
theorem sub_out (a b : Int) (w : World) (ha : Lp.inR a) (hb : Lp.inR b) (h : ¬ Lp.inR (a - b)) :
    Calls Try.prog 10 #[.int .i64 a, .int .i64 b] w fun e w' => e = .returned (.tuple #[.int .i64 0, .int .i64 9]) ∧ w = w' := by
  have := sub_any a b w ha hb; rw [Lp.val_out h, Lp.err_out h] at this; exact this
theorem neg_in (a : Int) (w : World) (ha : Lp.inR a) (h : Lp.inR (-a)) :
    Calls Try.prog 14 #[.int .i64 a] w fun e w' => e = .returned (.tuple #[.int .i64 (-a), .int .i64 0]) ∧ w = w' := by
  have := neg_any a w ha; rw [Lp.val_in h, Lp.err_in h] at this; exact this
theorem div_in (a b : Int) (w : World) (ha : Lp.inR a) (hb : b ≠ 0) (h : Lp.inR (a.tdiv b)) :
    Calls Try.prog 11 #[.int .i64 a, .int .i64 b] w fun e w' => e = .returned (.tuple #[.int .i64 (a.tdiv b), .int .i64 0]) ∧ w = w' := by
  have := div_any a b w ha; rw [Lp.divV_no hb, Lp.divE_no hb, Lp.val_in h, Lp.err_in h] at this; exact this
theorem div_out (a b : Int) (w : World) (ha : Lp.inR a) (hb : b ≠ 0) (h : ¬ Lp.inR (a.tdiv b)) :
    Calls Try.prog 11 #[.int .i64 a, .int .i64 b] w fun e w' => e = .returned (.tuple #[.int .i64 0, .int .i64 9]) ∧ w = w' := by
  have := div_any a b w ha; rw [Lp.divV_no hb, Lp.divE_no hb, Lp.val_out h, Lp.err_out h] at this; exact this
theorem div_zero (a : Int) (w : World) (ha : Lp.inR a) :
    Calls Try.prog 11 #[.int .i64 a, .int .i64 0] w fun e w' => e = .returned (.tuple #[.int .i64 0, .int .i64 10]) ∧ w = w' := by
  have := div_any a 0 w ha; rw [Lp.divV_zero, Lp.divE_zero] at this; exact this
theorem mod_no (a b : Int) (w : World) (hb : b ≠ 0) :
    Calls Try.prog 12 #[.int .i64 a, .int .i64 b] w fun e w' => e = .returned (.tuple #[.int .i64 (a.tmod b), .int .i64 0]) ∧ w = w' := by
  have := mod_any a b w; rw [Lp.modV_no hb, Lp.zerE_no hb] at this; exact this
end Go.Proofs.Ytalmbcbcabkioaa
