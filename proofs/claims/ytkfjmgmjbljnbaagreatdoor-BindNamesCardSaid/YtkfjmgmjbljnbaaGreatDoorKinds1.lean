/-
  BindKinds, plain: the 48 texts. Conditions: none.
-/
import Derived.Test.YtkfjmgmjbljnbaaGreatDoorGU
namespace Go.Proofs.YtkfjmgmjbljnbaaGreatDoor
open Go.RowKit

def valS : Nat → List UInt8
  | 0 => [78, 85, 76, 76]
  | 1 => [49]
  | 2 => [39, 120, 39]
  | _ => [84, 82, 85, 69]
def opS : Nat → List UInt8
  | 0 => [32, 61, 32]
  | 1 => [32, 43, 32]
  | _ => [32, 65, 78, 68, 32]
def wantK (i a b : Nat) : Bool := if i = 0 then a == 0 || b == 0 || a == b else if i = 1 then decide (a ≤ 1) && decide (b ≤ 1) else (a == 0 || a == 3) && (b == 0 || b == 3)
def chkK (a i b : Nat) : Bool := match Lp.condS (valS a ++ opS i ++ valS b) with
  | none => false
  | some x => (Lp.kindX [] x false).2 == if wantK i a b then 0 else 8
set_option maxRecDepth 100000 in
theorem chkK_all : ∀ a < 4, ∀ i < 3, ∀ b < 4, chkK a i b = true := by decide +kernel
theorem kinds_at {a i b : Nat} (ha : a < 4) (hi : i < 3) (hb : b < 4) : ∃ x, Lp.condS (valS a ++ opS i ++ valS b) = some x ∧ (Lp.kindX [] x false).2 = (if wantK i a b then 0 else 8) ∧ x.wf := by
  have h := chkK_all a ha i hi b hb
  unfold chkK at h
  split at h
  · cases h
  · rename_i x hx
    refine ⟨x, hx, beq_iff_eq.1 h, (Lp.condS_ok ?_ hx).1⟩
    have h1 : ∀ a < 4, (valS a).length ≤ 4 := by decide
    have h2 : ∀ i < 3, (opS i).length ≤ 5 := by decide
    have := h1 a ha
    have := h1 b hb
    have := h2 i hi
    simp; omega
/-- What condition leaves of one of these texts. -/
theorem cond_kinds (s : ByteArray) {a i b : Nat} (ha : a < 4) (hi : i < 3) (hb : b < 4) (hs : s.data.toList = valS a ++ opS i ++ valS b) (w : World) (hT : Tabs w) (hR : Resv w) :
    Calls Tryz.prog 29 #[.string s] w fun e w' => Below w.heap.size w w' ∧ ∃ x T g rr, e = .returned (.tuple #[.iface T (.pointer (some ⟨g, 0, none⟩)), RC.val rr, .bool true]) ∧ PX w.heap.size w' x (.iface T (.pointer (some ⟨g, 0, none⟩))) ∧ x.wf ∧ (Lp.kindX [] x false).2 = (if wantK i a b then 0 else 8) := by
  obtain ⟨x, h1, h2, h3⟩ := kinds_at ha hi hb
  have hl : s.data.toList.take 600 = valS a ++ opS i ++ valS b := by
    rw [hs, List.take_of_length_le]
    have h1 : ∀ a < 4, (valS a).length ≤ 4 := by decide
    have h2 : ∀ i < 3, (opS i).length ≤ 5 := by decide
    have := h1 a ha
    have := h1 b hb
    have := h2 i hi
    simp; omega
  refine (condition_any s w hT hR).mono ?_
  rintro e w' ⟨hb, hc⟩
  rw [hl, h1] at hc
  obtain ⟨T, g, rr, he, hp, -⟩ := hc
  exact ⟨hb, x, T, g, rr, he, hp, h3, h2⟩
end Go.Proofs.YtkfjmgmjbljnbaaGreatDoor
