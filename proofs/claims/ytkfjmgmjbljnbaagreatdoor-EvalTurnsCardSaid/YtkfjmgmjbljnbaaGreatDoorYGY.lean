/-
 Contracts and laws, joined: PlainSort, PlainApart, PlainSame. Conditions: those of each.
-/
import Derived.Test.YtkfjmgmjbljnbaaGreatDoorYGT
import Derived.Test.YtkfjmgmjbljnbaaGreatDoorYGB
namespace Go.Proofs.YtkfjmgmjbljnbaaGreatDoor.Lp
open Go.RowKit
end Go.Proofs.YtkfjmgmjbljnbaaGreatDoor.Lp
namespace Go.Proofs.YtkfjmgmjbljnbaaGreatDoor.Lp
open Go.RowKit
end Go.Proofs.YtkfjmgmjbljnbaaGreatDoor.Lp
namespace Go.Proofs.YtkfjmgmjbljnbaaGreatDoor.Lp
open Go.RowKit
def flatK (sc : List Tb) : List Int := sc.flatMap fun tb => tb.cs.map (·.k)
theorem hitsC_at (s : List UInt8) : ∀ (l : List Col) (a0 a : Nat) (k : Int), (a, k) ∈ hitsC s a0 l → a0 ≤ a ∧ (l.map (·.k))[a - a0]? = some k ∧ a - a0 < l.length
 | [], _, _, _, h => by simp [hitsC] at h
 | c :: r, a0, a, k, h => by
   unfold hitsC at h
   rcases List.mem_append.1 h with h | h
   ·split at h
    ·simp only [List.mem_singleton, Prod.mk.injEq] at h
     obtain ⟨rfl, rfl⟩ := h
     simp
    ·simp at h
   ·obtain ⟨h1, h2, h3⟩ := hitsC_at s r (a0 + 1) a k h
    refine ⟨by omega, ?_, by simp; omega⟩
    rw [show a - a0 = (a - (a0 + 1)) + 1 by omega]
    simpa using h2
theorem hits_at (t s : List UInt8) : ∀ (l : List Tb) (a0 a : Nat) (k : Int), (a, k) ∈ hits t s a0 l → a0 ≤ a ∧ (flatK l)[a - a0]? = some k
 | [], _, _, _, h => by simp [hits] at h
 | c :: r, a0, a, k, h => by
   unfold hits at h
   have e : flatK (c :: r) = c.cs.map (·.k) ++ flatK r := by simp [flatK]
   rw [e]
   rcases List.mem_append.1 h with h | h
   ·split at h
    ·obtain ⟨h1, h2, h3⟩ := hitsC_at s c.cs a0 a k h
     exact ⟨h1, by rw [List.getElem?_append_left (by simpa using h3)]; exact h2⟩
    ·simp at h
   ·obtain ⟨h1, h2⟩ := hits_at t s r (a0 + c.cs.length) a k h
    refine ⟨by omega, ?_⟩
    rw [List.getElem?_append_right (by simp; omega)]
    rw [← h2]
    congr 1
    simp
    omega
theorem findX_at {sc : List Tb} {t s : List UInt8} {p : Nat × Int} (h : findX sc t s = some p) : (flatK sc)[p.1]? = some p.2 := by
 unfold findX at h
 split at h
 ·have := hits_at t s sc 0 p.1 p.2 (List.mem_of_getLast? h)
  simpa using this.2
 ·cases h
def Stp (r : List UInt8) : Prop := ∀ c l, r = c :: l → c = 32 ∨ c = 41
theorem Stp.nil : Stp [] := fun _ _ h => by cases h
end Go.Proofs.YtkfjmgmjbljnbaaGreatDoor.Lp
