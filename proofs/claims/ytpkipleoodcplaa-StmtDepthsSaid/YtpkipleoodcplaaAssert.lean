/-
  What a type's assertion gives of the values that cell.open gives. No conditions.
-/
import Derived.Test.YtpkipleoodcplaaRows
import Derived.KernelRfl
import Derived.WalkKit
namespace Go.Proofs.Ytpkipleoodcplaa
open Go.RowKit

theorem ta_i_i (x : Int) (w : World) : (Instr.typeAssert (.iface 2 (.int .i64 x)) 20 2 true).run Try.prog w = .ok (.tuple #[.int .i64 x, .bool true]) w := by kernel_rfl
theorem ta_i_s (x : Int) (w : World) : (Instr.typeAssert (.iface 2 (.int .i64 x)) 20 9 true).run Try.prog w = .ok (.tuple #[.string ⟨#[]⟩, .bool false]) w := by kernel_rfl
theorem ta_i_b (x : Int) (w : World) : (Instr.typeAssert (.iface 2 (.int .i64 x)) 20 4 true).run Try.prog w = .ok (.tuple #[.bool false, .bool false]) w := by kernel_rfl
theorem ta1_i (x : Int) (w : World) : (Instr.typeAssert (.iface 2 (.int .i64 x)) 20 2 false).run Try.prog w = .ok (.int .i64 x) w := by kernel_rfl
theorem ta_s_i (x : ByteArray) (w : World) : (Instr.typeAssert (.iface 9 (.string x)) 20 2 true).run Try.prog w = .ok (.tuple #[.int .i64 0, .bool false]) w := by kernel_rfl
theorem ta_s_s (x : ByteArray) (w : World) : (Instr.typeAssert (.iface 9 (.string x)) 20 9 true).run Try.prog w = .ok (.tuple #[.string x, .bool true]) w := by kernel_rfl
theorem ta_s_b (x : ByteArray) (w : World) : (Instr.typeAssert (.iface 9 (.string x)) 20 4 true).run Try.prog w = .ok (.tuple #[.bool false, .bool false]) w := by kernel_rfl
theorem ta1_s (x : ByteArray) (w : World) : (Instr.typeAssert (.iface 9 (.string x)) 20 9 false).run Try.prog w = .ok (.string x) w := by kernel_rfl
theorem ta_b_i (x : Bool) (w : World) : (Instr.typeAssert (.iface 4 (.bool x)) 20 2 true).run Try.prog w = .ok (.tuple #[.int .i64 0, .bool false]) w := by kernel_rfl
theorem ta_b_s (x : Bool) (w : World) : (Instr.typeAssert (.iface 4 (.bool x)) 20 9 true).run Try.prog w = .ok (.tuple #[.string ⟨#[]⟩, .bool false]) w := by kernel_rfl
theorem ta_b_b (x : Bool) (w : World) : (Instr.typeAssert (.iface 4 (.bool x)) 20 4 true).run Try.prog w = .ok (.tuple #[.bool x, .bool true]) w := by kernel_rfl
theorem ta1_b (x : Bool) (w : World) : (Instr.typeAssert (.iface 4 (.bool x)) 20 4 false).run Try.prog w = .ok (.bool x) w := by kernel_rfl
theorem ta_n_i  (w : World) : (Instr.typeAssert (.nilIface) 20 2 true).run Try.prog w = .ok (.tuple #[.int .i64 0, .bool false]) w := by kernel_rfl
theorem ta_n_s  (w : World) : (Instr.typeAssert (.nilIface) 20 9 true).run Try.prog w = .ok (.tuple #[.string ⟨#[]⟩, .bool false]) w := by kernel_rfl
theorem ta_n_b  (w : World) : (Instr.typeAssert (.nilIface) 20 4 true).run Try.prog w = .ok (.tuple #[.bool false, .bool false]) w := by kernel_rfl
end Go.Proofs.Ytpkipleoodcplaa
