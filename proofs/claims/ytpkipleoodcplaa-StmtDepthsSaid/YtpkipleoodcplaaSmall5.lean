/-
  lapidarylaw15's small functions; stmt.Depth and stmt.Walk of nil. Conditions: a number from 0 to 10^6.
-/
import Derived.Test.YtpkipleoodcplaaDepth
namespace Go.Proofs.Ytpkipleoodcplaa
open Go.RowKit

set_option maxHeartbeats 4000000 in
theorem few_any (s : ByteArray) (w : World) : Calls Try.prog 14 #[.string s] w fun en w' => ∃ t : ByteArray, en = .returned (.string t) ∧ t.size ≤ 30 ∧ w = w' := by
  have h0 : (0 : Int) ≤ min (s.size : Int) 30 := by omega
  have h1 : min (s.size : Int) 30 ≤ (s.size : Int) := by omega
  go_enter Try.func14, Try.ntmps14
  go_wp2
  all_goals
    go_ret
    exact ⟨_, rfl, by first | omega | (rw [ByteArray.size_extract]; omega), rfl⟩
set_option maxHeartbeats 4000000 in
theorem depth_nil (w : World) : Calls Try.prog 12 #[.nilIface] w fun en w' => en = .returned (.int .i64 0) ∧ w = w' := by
  go_enter Try.func12, Try.ntmps12
  go_wp2
  go_ret
  exact ⟨rfl, rfl⟩
set_option maxHeartbeats 4000000 in
theorem walk_nil (f : Value) (w : World) : Calls Try.prog 8 #[.nilIface, f] w fun en w' => en = .returned (.bool true) ∧ w = w' := by
  go_enter Try.func8, Try.ntmps8
  go_wp2
  go_ret
  exact ⟨rfl, rfl⟩
theorem idx_groups_0 (w : World) : Sem.run Try.prog (Instr.index 71 (.agg #[.string { data := #[67, 79, 85, 78, 84] }, .string { data := #[83, 85, 77] }, .string { data := #[77, 73, 78] }, .string { data := #[77, 65, 88] }]) (.int .i64 0)) w = .ok (.string { data := #[67, 79, 85, 78, 84] }) w := by kernel_rfl
theorem idx_groups_1 (w : World) : Sem.run Try.prog (Instr.index 71 (.agg #[.string { data := #[67, 79, 85, 78, 84] }, .string { data := #[83, 85, 77] }, .string { data := #[77, 73, 78] }, .string { data := #[77, 65, 88] }]) (.int .i64 1)) w = .ok (.string { data := #[83, 85, 77] }) w := by kernel_rfl
theorem idx_groups_2 (w : World) : Sem.run Try.prog (Instr.index 71 (.agg #[.string { data := #[67, 79, 85, 78, 84] }, .string { data := #[83, 85, 77] }, .string { data := #[77, 73, 78] }, .string { data := #[77, 65, 88] }]) (.int .i64 2)) w = .ok (.string { data := #[77, 73, 78] }) w := by kernel_rfl
theorem idx_groups_3 (w : World) : Sem.run Try.prog (Instr.index 71 (.agg #[.string { data := #[67, 79, 85, 78, 84] }, .string { data := #[83, 85, 77] }, .string { data := #[77, 73, 78] }, .string { data := #[77, 65, 88] }]) (.int .i64 3)) w = .ok (.string { data := #[77, 65, 88] }) w := by kernel_rfl
attribute [local go_sem] idx_groups_0 idx_groups_1 idx_groups_2 idx_groups_3
set_option maxRecDepth 100000 in
set_option maxHeartbeats 4000000 in
theorem groups_any (i : Nat) (hi : i < 1000000) (w : World) : Calls Try.prog 17 #[.int .i64 i] w fun en w' => ∃ t : ByteArray, en = .returned (.string t) ∧ w = w' := by
  have h0 : ((i : Int) % 4) = ((i % 4 : Nat) : Int) := by omega
  have hm : i % 4 = 0 ∨ i % 4 = 1 ∨ i % 4 = 2 ∨ i % 4 = 3 := by omega
  have hT : Int.tmod (i : Int) 4 = ((i % 4 : Nat) : Int) := by rw [Int.tmod_eq_emod_of_nonneg (by omega)]; exact h0
  rcases hm with h | h | h | h <;>
  · rw [h] at h0 hT
    go_enter Try.func17, Try.ntmps17
    go_wp2
    go_ret
    exact ⟨_, rfl, rfl⟩
theorem idx_signs_0 (w : World) : Sem.run Try.prog (Instr.index 70 (.agg #[.string { data := #[79, 82] }, .string { data := #[65, 78, 68] }, .string { data := #[61] }, .string { data := #[60, 62] }, .string { data := #[60] }, .string { data := #[60, 61] }, .string { data := #[62] }, .string { data := #[62, 61] }, .string { data := #[43] }, .string { data := #[45] }, .string { data := #[42] }, .string { data := #[47] }, .string { data := #[37] }]) (.int .i64 0)) w = .ok (.string { data := #[79, 82] }) w := by kernel_rfl
theorem idx_signs_1 (w : World) : Sem.run Try.prog (Instr.index 70 (.agg #[.string { data := #[79, 82] }, .string { data := #[65, 78, 68] }, .string { data := #[61] }, .string { data := #[60, 62] }, .string { data := #[60] }, .string { data := #[60, 61] }, .string { data := #[62] }, .string { data := #[62, 61] }, .string { data := #[43] }, .string { data := #[45] }, .string { data := #[42] }, .string { data := #[47] }, .string { data := #[37] }]) (.int .i64 1)) w = .ok (.string { data := #[65, 78, 68] }) w := by kernel_rfl
theorem idx_signs_2 (w : World) : Sem.run Try.prog (Instr.index 70 (.agg #[.string { data := #[79, 82] }, .string { data := #[65, 78, 68] }, .string { data := #[61] }, .string { data := #[60, 62] }, .string { data := #[60] }, .string { data := #[60, 61] }, .string { data := #[62] }, .string { data := #[62, 61] }, .string { data := #[43] }, .string { data := #[45] }, .string { data := #[42] }, .string { data := #[47] }, .string { data := #[37] }]) (.int .i64 2)) w = .ok (.string { data := #[61] }) w := by kernel_rfl
theorem idx_signs_3 (w : World) : Sem.run Try.prog (Instr.index 70 (.agg #[.string { data := #[79, 82] }, .string { data := #[65, 78, 68] }, .string { data := #[61] }, .string { data := #[60, 62] }, .string { data := #[60] }, .string { data := #[60, 61] }, .string { data := #[62] }, .string { data := #[62, 61] }, .string { data := #[43] }, .string { data := #[45] }, .string { data := #[42] }, .string { data := #[47] }, .string { data := #[37] }]) (.int .i64 3)) w = .ok (.string { data := #[60, 62] }) w := by kernel_rfl
theorem idx_signs_4 (w : World) : Sem.run Try.prog (Instr.index 70 (.agg #[.string { data := #[79, 82] }, .string { data := #[65, 78, 68] }, .string { data := #[61] }, .string { data := #[60, 62] }, .string { data := #[60] }, .string { data := #[60, 61] }, .string { data := #[62] }, .string { data := #[62, 61] }, .string { data := #[43] }, .string { data := #[45] }, .string { data := #[42] }, .string { data := #[47] }, .string { data := #[37] }]) (.int .i64 4)) w = .ok (.string { data := #[60] }) w := by kernel_rfl
theorem idx_signs_5 (w : World) : Sem.run Try.prog (Instr.index 70 (.agg #[.string { data := #[79, 82] }, .string { data := #[65, 78, 68] }, .string { data := #[61] }, .string { data := #[60, 62] }, .string { data := #[60] }, .string { data := #[60, 61] }, .string { data := #[62] }, .string { data := #[62, 61] }, .string { data := #[43] }, .string { data := #[45] }, .string { data := #[42] }, .string { data := #[47] }, .string { data := #[37] }]) (.int .i64 5)) w = .ok (.string { data := #[60, 61] }) w := by kernel_rfl
theorem idx_signs_6 (w : World) : Sem.run Try.prog (Instr.index 70 (.agg #[.string { data := #[79, 82] }, .string { data := #[65, 78, 68] }, .string { data := #[61] }, .string { data := #[60, 62] }, .string { data := #[60] }, .string { data := #[60, 61] }, .string { data := #[62] }, .string { data := #[62, 61] }, .string { data := #[43] }, .string { data := #[45] }, .string { data := #[42] }, .string { data := #[47] }, .string { data := #[37] }]) (.int .i64 6)) w = .ok (.string { data := #[62] }) w := by kernel_rfl
theorem idx_signs_7 (w : World) : Sem.run Try.prog (Instr.index 70 (.agg #[.string { data := #[79, 82] }, .string { data := #[65, 78, 68] }, .string { data := #[61] }, .string { data := #[60, 62] }, .string { data := #[60] }, .string { data := #[60, 61] }, .string { data := #[62] }, .string { data := #[62, 61] }, .string { data := #[43] }, .string { data := #[45] }, .string { data := #[42] }, .string { data := #[47] }, .string { data := #[37] }]) (.int .i64 7)) w = .ok (.string { data := #[62, 61] }) w := by kernel_rfl
theorem idx_signs_8 (w : World) : Sem.run Try.prog (Instr.index 70 (.agg #[.string { data := #[79, 82] }, .string { data := #[65, 78, 68] }, .string { data := #[61] }, .string { data := #[60, 62] }, .string { data := #[60] }, .string { data := #[60, 61] }, .string { data := #[62] }, .string { data := #[62, 61] }, .string { data := #[43] }, .string { data := #[45] }, .string { data := #[42] }, .string { data := #[47] }, .string { data := #[37] }]) (.int .i64 8)) w = .ok (.string { data := #[43] }) w := by kernel_rfl
theorem idx_signs_9 (w : World) : Sem.run Try.prog (Instr.index 70 (.agg #[.string { data := #[79, 82] }, .string { data := #[65, 78, 68] }, .string { data := #[61] }, .string { data := #[60, 62] }, .string { data := #[60] }, .string { data := #[60, 61] }, .string { data := #[62] }, .string { data := #[62, 61] }, .string { data := #[43] }, .string { data := #[45] }, .string { data := #[42] }, .string { data := #[47] }, .string { data := #[37] }]) (.int .i64 9)) w = .ok (.string { data := #[45] }) w := by kernel_rfl
theorem idx_signs_10 (w : World) : Sem.run Try.prog (Instr.index 70 (.agg #[.string { data := #[79, 82] }, .string { data := #[65, 78, 68] }, .string { data := #[61] }, .string { data := #[60, 62] }, .string { data := #[60] }, .string { data := #[60, 61] }, .string { data := #[62] }, .string { data := #[62, 61] }, .string { data := #[43] }, .string { data := #[45] }, .string { data := #[42] }, .string { data := #[47] }, .string { data := #[37] }]) (.int .i64 10)) w = .ok (.string { data := #[42] }) w := by kernel_rfl
theorem idx_signs_11 (w : World) : Sem.run Try.prog (Instr.index 70 (.agg #[.string { data := #[79, 82] }, .string { data := #[65, 78, 68] }, .string { data := #[61] }, .string { data := #[60, 62] }, .string { data := #[60] }, .string { data := #[60, 61] }, .string { data := #[62] }, .string { data := #[62, 61] }, .string { data := #[43] }, .string { data := #[45] }, .string { data := #[42] }, .string { data := #[47] }, .string { data := #[37] }]) (.int .i64 11)) w = .ok (.string { data := #[47] }) w := by kernel_rfl
theorem idx_signs_12 (w : World) : Sem.run Try.prog (Instr.index 70 (.agg #[.string { data := #[79, 82] }, .string { data := #[65, 78, 68] }, .string { data := #[61] }, .string { data := #[60, 62] }, .string { data := #[60] }, .string { data := #[60, 61] }, .string { data := #[62] }, .string { data := #[62, 61] }, .string { data := #[43] }, .string { data := #[45] }, .string { data := #[42] }, .string { data := #[47] }, .string { data := #[37] }]) (.int .i64 12)) w = .ok (.string { data := #[37] }) w := by kernel_rfl
attribute [local go_sem] idx_signs_0 idx_signs_1 idx_signs_2 idx_signs_3 idx_signs_4 idx_signs_5 idx_signs_6 idx_signs_7 idx_signs_8 idx_signs_9 idx_signs_10 idx_signs_11 idx_signs_12
set_option maxRecDepth 100000 in
set_option maxHeartbeats 4000000 in
theorem signs_any (i : Nat) (hi : i < 1000000) (w : World) : Calls Try.prog 16 #[.int .i64 i] w fun en w' => ∃ t : ByteArray, en = .returned (.string t) ∧ w = w' := by
  have h0 : ((i : Int) % 13) = ((i % 13 : Nat) : Int) := by omega
  have hm : i % 13 = 0 ∨ i % 13 = 1 ∨ i % 13 = 2 ∨ i % 13 = 3 ∨ i % 13 = 4 ∨ i % 13 = 5 ∨ i % 13 = 6 ∨ i % 13 = 7 ∨ i % 13 = 8 ∨ i % 13 = 9 ∨ i % 13 = 10 ∨ i % 13 = 11 ∨ i % 13 = 12 := by omega
  have hT : Int.tmod (i : Int) 13 = ((i % 13 : Nat) : Int) := by rw [Int.tmod_eq_emod_of_nonneg (by omega)]; exact h0
  rcases hm with h | h | h | h | h | h | h | h | h | h | h | h | h <;>
  · rw [h] at h0 hT
    go_enter Try.func16, Try.ntmps16
    go_wp2
    go_ret
    exact ⟨_, rfl, rfl⟩
end Go.Proofs.Ytpkipleoodcplaa
