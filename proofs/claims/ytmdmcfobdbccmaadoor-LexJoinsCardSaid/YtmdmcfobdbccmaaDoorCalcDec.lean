/-
  What calc.Dec gives: a number's numeral. Conditions: the argument is a number of 64 bits; the table of the powers of ten as laid.
-/
import Derived.Test.YtmdmcfobdbccmaaDoorShelf
import Derived.Test.YtmdmcfobdbccmaaDoorTabPow
import Derived.Test.YtmdmcfobdbccmaaDoorPlain1
import Derived.WalkKit
import Derived.WalkSpells
import Derived.WalkLawsBesides
import Derived.Lib.Hide
import Derived.Lib.AppendIntMem
namespace Go.Proofs.YtmdmcfobdbccmaaDoor
open Go.RowKit

theorem fmt_any (n : Int) (w : World) (h : Lp.inR n) (hP : Pow w) :
    Calls Tryd.prog 45 #[.int .i64 n, .int .i64 10] w fun e w' => e = .returned (.string ⟨(Lib.itoa n).toArray⟩) ∧ Below w.heap.size w w' := by
  unfold Lp.inR at h
  refine (Tryd.strconv_FormatInt_10 n (by omega) (by omega) w hP).mono ?_
  rintro e w' ⟨he, k, os, hw⟩
  subst hw
  exact ⟨he, Lib.below_grow _ _ (Nat.le_refl _) _ _⟩
theorem cdec_any (n : Int) (w : World) (h : Lp.inR n) (hP : Pow w) :
    Calls Tryd.prog 27 #[.int .i64 n] w fun e w' => e = .returned (.string ⟨(Lib.itoa n).toArray⟩) ∧ Below w.heap.size w w' := by
  go_enter Tryd.func27, Tryd.ntmps27
  go_wp2_with fail
  refine (fmt_any n w h hP).mono ?_
  rintro e w' ⟨rfl, hb⟩
  go_wp2
  go_ret
  exact ⟨rfl, hb⟩
end Go.Proofs.YtmdmcfobdbccmaaDoor
