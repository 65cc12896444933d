/-
  A scope's tables without their places. No conditions.
-/
import Derived.Test.YtkfjmgmjbljnbaaGreatDoorScope4
namespace Go.Proofs.YtkfjmgmjbljnbaaGreatDoor
open Go.RowKit

/-- The tables of a scope, without their places. -/
def scOf (l : List TabA) : List Lp.Tb := l.map (·.1)
theorem ScA.scm {w : World} {A : Option Addr} {l : List TabA} (h : ScA w A l) : ScM w A (scOf l) := ⟨l, rfl, h.1, fun p hp => (h.2 p hp).2.1⟩
theorem scOf_len (l : List TabA) : (scOf l).length = l.length := by simp [scOf]
theorem wide_scOf : ∀ {l : List TabA}, (∀ p ∈ l, p.1.cs.length ≤ 8) → Lp.wide (scOf l) ≤ 8 * l.length
  | [], _ => by simp [Lp.wide, scOf]
  | p :: l, h => by
    have h1 := wide_scOf (l := l) (fun q hq => h q (by simp [hq]))
    have h2 := h p (by simp)
    have e : Lp.wide (scOf (p :: l)) = p.1.cs.length + Lp.wide (scOf l) := by simp [Lp.wide, scOf]
    rw [e, List.length_cons]
    omega
end Go.Proofs.YtkfjmgmjbljnbaaGreatDoor
