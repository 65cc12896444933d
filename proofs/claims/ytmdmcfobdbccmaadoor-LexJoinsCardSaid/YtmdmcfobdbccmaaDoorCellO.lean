/-
  What cell.open gives. No conditions.
-/
import Derived.Test.YtmdmcfobdbccmaaDoorRight
import Derived.Test.YtmdmcfobdbccmaaDoorMem
import Derived.Test.YtmdmcfobdbccmaaDoorPlainLess
import Derived.Test.YtmdmcfobdbccmaaDoorAssert
namespace Go.Proofs.YtmdmcfobdbccmaaDoor
open Go.RowKit
attribute [local go_sem] ta_i_i ta_i_s ta_i_b ta1_i ta_s_i ta_s_s ta_s_b ta1_s ta_b_i ta_b_s ta_b_b ta1_b ta_n_i ta_n_s ta_n_b

theorem open_1 (i : Int) (s : ByteArray) (b : Bool) (w : World) : Calls Tryd.prog 46 #[.agg #[.int .u8 1, .int .i64 i, .string s, .bool b]] w fun e w' => e = .returned (.iface 2 (.int .i64 i)) ∧ w.alloc (.cells #[.int .u8 1, .int .i64 i, .string s, .bool b] 53) = w' := by
  go_enter Tryd.func46, Tryd.ntmps46
  go_wp2
  go_ret
  exact ⟨rfl, rfl⟩
theorem open_2 (i : Int) (s : ByteArray) (b : Bool) (w : World) : Calls Tryd.prog 46 #[.agg #[.int .u8 2, .int .i64 i, .string s, .bool b]] w fun e w' => e = .returned (.iface 9 (.string s)) ∧ w.alloc (.cells #[.int .u8 2, .int .i64 i, .string s, .bool b] 53) = w' := by
  go_enter Tryd.func46, Tryd.ntmps46
  go_wp2
  go_ret
  exact ⟨rfl, rfl⟩
theorem open_3 (i : Int) (s : ByteArray) (b : Bool) (w : World) : Calls Tryd.prog 46 #[.agg #[.int .u8 3, .int .i64 i, .string s, .bool b]] w fun e w' => e = .returned (.iface 4 (.bool b)) ∧ w.alloc (.cells #[.int .u8 3, .int .i64 i, .string s, .bool b] 53) = w' := by
  go_enter Tryd.func46, Tryd.ntmps46
  go_wp2
  go_ret
  exact ⟨rfl, rfl⟩
/-- No kind of a value that is known. -/
def NoK (k : Int) : Prop := (k == 1) = false ∧ (k == 2) = false ∧ (k == 3) = false
theorem open_n (k i : Int) (s : ByteArray) (b : Bool) (hk : NoK k) (w : World) : Calls Tryd.prog 46 #[.agg #[.int .u8 k, .int .i64 i, .string s, .bool b]] w fun e w' => e = .returned .nilIface ∧ w.alloc (.cells #[.int .u8 k, .int .i64 i, .string s, .bool b] 53) = w' := by
  obtain ⟨h1, h2, h3⟩ := hk
  go_enter Tryd.func46, Tryd.ntmps46
  go_wp2
  go_ret
  exact ⟨rfl, rfl⟩
theorem kcases (k : Int) : k = 1 ∨ k = 2 ∨ k = 3 ∨ NoK k := by
  by_cases h1 : k = 1
  · exact .inl h1
  · by_cases h2 : k = 2
    · exact .inr (.inl h2)
    · by_cases h3 : k = 3
      · exact .inr (.inr (.inl h3))
      · exact .inr (.inr (.inr ⟨beq_eq_false_iff_ne.2 h1, beq_eq_false_iff_ne.2 h2, beq_eq_false_iff_ne.2 h3⟩))
theorem openb_1 (i : Int) (s : ByteArray) (b : Bool) (w : World) : Calls Tryd.prog 46 #[.agg #[.int .u8 1, .int .i64 i, .string s, .bool b]] w fun e w' => e = .returned (.iface 2 (.int .i64 i)) ∧ Below w.heap.size w w' :=
  (open_1 i s b w).mono fun _ _ ⟨h1, h2⟩ => ⟨h1, h2 ▸ (Below.refl _ _).alloc (Nat.le_refl _) _⟩
theorem openb_2 (i : Int) (s : ByteArray) (b : Bool) (w : World) : Calls Tryd.prog 46 #[.agg #[.int .u8 2, .int .i64 i, .string s, .bool b]] w fun e w' => e = .returned (.iface 9 (.string s)) ∧ Below w.heap.size w w' :=
  (open_2 i s b w).mono fun _ _ ⟨h1, h2⟩ => ⟨h1, h2 ▸ (Below.refl _ _).alloc (Nat.le_refl _) _⟩
theorem openb_3 (i : Int) (s : ByteArray) (b : Bool) (w : World) : Calls Tryd.prog 46 #[.agg #[.int .u8 3, .int .i64 i, .string s, .bool b]] w fun e w' => e = .returned (.iface 4 (.bool b)) ∧ Below w.heap.size w w' :=
  (open_3 i s b w).mono fun _ _ ⟨h1, h2⟩ => ⟨h1, h2 ▸ (Below.refl _ _).alloc (Nat.le_refl _) _⟩
theorem openb_n (k i : Int) (s : ByteArray) (b : Bool) (hk : NoK k) (w : World) : Calls Tryd.prog 46 #[.agg #[.int .u8 k, .int .i64 i, .string s, .bool b]] w fun e w' => e = .returned .nilIface ∧ Below w.heap.size w w' :=
  (open_n k i s b hk w).mono fun _ _ ⟨h1, h2⟩ => ⟨h1, h2 ▸ (Below.refl _ _).alloc (Nat.le_refl _) _⟩
end Go.Proofs.YtmdmcfobdbccmaaDoor
