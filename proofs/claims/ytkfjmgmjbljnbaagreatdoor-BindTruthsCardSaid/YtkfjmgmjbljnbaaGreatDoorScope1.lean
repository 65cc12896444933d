/-
  The document's Name and Right of columns: they tell one thing or the other. No conditions but the length.
-/
import Derived.Test.YtkfjmgmjbljnbaaGreatDoorOpenT
import Derived.Deep.QuietTactic
import Derived.BigQuiet
namespace Go.Proofs.YtkfjmgmjbljnbaaGreatDoor
open Go.RowKit

theorem bal {w w' : World} (h : Below w.heap.size w w') (o : Obj) : Below w.heap.size w (w'.alloc o) := h.alloc h.size o
/-- One thing or the other. -/
def SomeB (e : Ending) : Prop := ∃ b, e = .returned (.bool b)
theorem SomeB.mk (b : Bool) : SomeB (.returned (.bool b)) := ⟨b, rfl⟩
set_option maxRecDepth 100000 in
set_option maxHeartbeats 4000000 in
theorem name11_any (s : ByteArray) (w : World) (hs : s.size ≤ 9223372036854775807) :
    Calls Tryz.prog 41 #[.string s] w fun e w' => SomeB e ∧ w = w' := by
  have hsI : (s.size : Int) ≤ 9223372036854775807 := by omega
  by_cases h1 : s.size < 1
  · go_enter Tryz.func41, Tryz.ntmps41
    go_wp2
    go_ret
    exact ⟨SomeB.mk _, rfl⟩
  · by_cases h2 : 20 < s.size
    · go_enter Tryz.func41, Tryz.ntmps41
      go_wp2
      go_ret
      exact ⟨SomeB.mk _, rfl⟩
    · have hb : s.size ≤ 20 := by omega
      have hp : 0 < s.size := by omega
      go_enter Tryz.func41, Tryz.ntmps41
      go_wp2_with fail
      all_goals first
        | (go_ret; exact ⟨SomeB.mk _, rfl⟩)
        | skip
      all_goals
        go_loop [3, 4] (fun s3 _ => ∃ i : Nat, i ≤ s.size ∧ s3 = .int .i64 i) (fun s3 _ => s.size - (intOf s3).toNat)
        case atStart => exact ⟨0, by omega, rfl⟩
        case round =>
          obtain ⟨i, hi, rfl⟩ := hrel
          by_cases hlt : i < s.size
          · go_wp2
            all_goals first
              | (go_ret; exact ⟨SomeB.mk _, rfl⟩)
              | skip
            all_goals
              go_round
              case rel => exact ⟨i + 1, by omega, by go_num⟩
              case measure => simp [intOf]; omega
          · go_wp2
            go_ret
            exact ⟨SomeB.mk _, rfl⟩
end Go.Proofs.YtkfjmgmjbljnbaaGreatDoor
