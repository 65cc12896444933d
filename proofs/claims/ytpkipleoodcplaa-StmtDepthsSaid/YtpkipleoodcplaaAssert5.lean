/-
  What a type's assertion gives of an expression. No conditions.
-/
import Derived.Test.YtpkipleoodcplaaRows
import Derived.KernelRfl
import Derived.WalkKit
namespace Go.Proofs.Ytpkipleoodcplaa
open Go.RowKit

theorem te_Lit_Unary (g : Nat) (w : World) : (Instr.typeAssert (.iface 48 (.pointer (some ⟨g, 0, none⟩))) 27 41 true).run Try.prog w = .ok (.tuple #[.pointer none, .bool false]) w := by kernel_rfl
theorem te_Lit_Binary (g : Nat) (w : World) : (Instr.typeAssert (.iface 48 (.pointer (some ⟨g, 0, none⟩))) 27 47 true).run Try.prog w = .ok (.tuple #[.pointer none, .bool false]) w := by kernel_rfl
theorem te_Lit_Is (g : Nat) (w : World) : (Instr.typeAssert (.iface 48 (.pointer (some ⟨g, 0, none⟩))) 27 44 true).run Try.prog w = .ok (.tuple #[.pointer none, .bool false]) w := by kernel_rfl
theorem te_Lit_Agg (g : Nat) (w : World) : (Instr.typeAssert (.iface 48 (.pointer (some ⟨g, 0, none⟩))) 27 64 true).run Try.prog w = .ok (.tuple #[.pointer none, .bool false]) w := by kernel_rfl
theorem te_Col_Unary (g : Nat) (w : World) : (Instr.typeAssert (.iface 54 (.pointer (some ⟨g, 0, none⟩))) 27 41 true).run Try.prog w = .ok (.tuple #[.pointer none, .bool false]) w := by kernel_rfl
theorem te_Col_Binary (g : Nat) (w : World) : (Instr.typeAssert (.iface 54 (.pointer (some ⟨g, 0, none⟩))) 27 47 true).run Try.prog w = .ok (.tuple #[.pointer none, .bool false]) w := by kernel_rfl
theorem te_Col_Is (g : Nat) (w : World) : (Instr.typeAssert (.iface 54 (.pointer (some ⟨g, 0, none⟩))) 27 44 true).run Try.prog w = .ok (.tuple #[.pointer none, .bool false]) w := by kernel_rfl
theorem te_Col_Agg (g : Nat) (w : World) : (Instr.typeAssert (.iface 54 (.pointer (some ⟨g, 0, none⟩))) 27 64 true).run Try.prog w = .ok (.tuple #[.pointer none, .bool false]) w := by kernel_rfl
theorem te_Unary_Unary (g : Nat) (w : World) : (Instr.typeAssert (.iface 41 (.pointer (some ⟨g, 0, none⟩))) 27 41 true).run Try.prog w = .ok (.tuple #[.pointer (some ⟨g, 0, none⟩), .bool true]) w := by kernel_rfl
theorem te_Unary_Binary (g : Nat) (w : World) : (Instr.typeAssert (.iface 41 (.pointer (some ⟨g, 0, none⟩))) 27 47 true).run Try.prog w = .ok (.tuple #[.pointer none, .bool false]) w := by kernel_rfl
theorem te_Unary_Is (g : Nat) (w : World) : (Instr.typeAssert (.iface 41 (.pointer (some ⟨g, 0, none⟩))) 27 44 true).run Try.prog w = .ok (.tuple #[.pointer none, .bool false]) w := by kernel_rfl
theorem te_Unary_Agg (g : Nat) (w : World) : (Instr.typeAssert (.iface 41 (.pointer (some ⟨g, 0, none⟩))) 27 64 true).run Try.prog w = .ok (.tuple #[.pointer none, .bool false]) w := by kernel_rfl
theorem te_Binary_Unary (g : Nat) (w : World) : (Instr.typeAssert (.iface 47 (.pointer (some ⟨g, 0, none⟩))) 27 41 true).run Try.prog w = .ok (.tuple #[.pointer none, .bool false]) w := by kernel_rfl
theorem te_Binary_Binary (g : Nat) (w : World) : (Instr.typeAssert (.iface 47 (.pointer (some ⟨g, 0, none⟩))) 27 47 true).run Try.prog w = .ok (.tuple #[.pointer (some ⟨g, 0, none⟩), .bool true]) w := by kernel_rfl
theorem te_Binary_Is (g : Nat) (w : World) : (Instr.typeAssert (.iface 47 (.pointer (some ⟨g, 0, none⟩))) 27 44 true).run Try.prog w = .ok (.tuple #[.pointer none, .bool false]) w := by kernel_rfl
theorem te_Binary_Agg (g : Nat) (w : World) : (Instr.typeAssert (.iface 47 (.pointer (some ⟨g, 0, none⟩))) 27 64 true).run Try.prog w = .ok (.tuple #[.pointer none, .bool false]) w := by kernel_rfl
theorem te_Is_Unary (g : Nat) (w : World) : (Instr.typeAssert (.iface 44 (.pointer (some ⟨g, 0, none⟩))) 27 41 true).run Try.prog w = .ok (.tuple #[.pointer none, .bool false]) w := by kernel_rfl
theorem te_Is_Binary (g : Nat) (w : World) : (Instr.typeAssert (.iface 44 (.pointer (some ⟨g, 0, none⟩))) 27 47 true).run Try.prog w = .ok (.tuple #[.pointer none, .bool false]) w := by kernel_rfl
theorem te_Is_Is (g : Nat) (w : World) : (Instr.typeAssert (.iface 44 (.pointer (some ⟨g, 0, none⟩))) 27 44 true).run Try.prog w = .ok (.tuple #[.pointer (some ⟨g, 0, none⟩), .bool true]) w := by kernel_rfl
theorem te_Is_Agg (g : Nat) (w : World) : (Instr.typeAssert (.iface 44 (.pointer (some ⟨g, 0, none⟩))) 27 64 true).run Try.prog w = .ok (.tuple #[.pointer none, .bool false]) w := by kernel_rfl
theorem te_Agg_Unary (g : Nat) (w : World) : (Instr.typeAssert (.iface 64 (.pointer (some ⟨g, 0, none⟩))) 27 41 true).run Try.prog w = .ok (.tuple #[.pointer none, .bool false]) w := by kernel_rfl
theorem te_Agg_Binary (g : Nat) (w : World) : (Instr.typeAssert (.iface 64 (.pointer (some ⟨g, 0, none⟩))) 27 47 true).run Try.prog w = .ok (.tuple #[.pointer none, .bool false]) w := by kernel_rfl
theorem te_Agg_Is (g : Nat) (w : World) : (Instr.typeAssert (.iface 64 (.pointer (some ⟨g, 0, none⟩))) 27 44 true).run Try.prog w = .ok (.tuple #[.pointer none, .bool false]) w := by kernel_rfl
theorem te_Agg_Agg (g : Nat) (w : World) : (Instr.typeAssert (.iface 64 (.pointer (some ⟨g, 0, none⟩))) 27 64 true).run Try.prog w = .ok (.tuple #[.pointer (some ⟨g, 0, none⟩), .bool true]) w := by kernel_rfl
end Go.Proofs.Ytpkipleoodcplaa
