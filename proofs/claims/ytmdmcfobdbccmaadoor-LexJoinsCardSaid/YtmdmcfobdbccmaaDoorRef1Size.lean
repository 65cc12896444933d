/-
  How great a number is, as lapidaryref01 has it. Conditions: the arguments are numbers of 64 bits.
-/
import Derived.Test.YtmdmcfobdbccmaaDoorRows
import Derived.Test.YtmdmcfobdbccmaaDoorPlain1
import Derived.WalkKit
import Derived.WalkSpells
import Derived.WalkLawsBesides
import Derived.Lib.Hide
namespace Go.Proofs.YtmdmcfobdbccmaaDoor
open Go.RowKit

theorem rsize_any (n : Int) (w : World) (h : Lp.inR n) :
    Calls Tryd.prog 44 #[.int .i64 n] w fun e w' => e = .returned (.int .u64 (Lp.mag n)) ∧ w = w' := by
  obtain ⟨h1, h2⟩ := h
  by_cases hn : n < 0
  · rw [Lp.mag_neg hn]
    go_enter Tryd.func44, Tryd.ntmps44
    go_wp2
    go_ret
    exact ⟨rfl, rfl⟩
  · rw [Lp.mag_pos hn]
    have hn' : 0 ≤ n := by omega
    go_enter Tryd.func44, Tryd.ntmps44
    go_wp2
    go_ret
    exact ⟨rfl, rfl⟩

end Go.Proofs.YtmdmcfobdbccmaaDoor
