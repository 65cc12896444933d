/-
  lapidaryref02.Right tells which values are right, at every value. Condition: the text is as long as a text can be.
-/
import Derived.Test.YtpkipleoodcplaaRef2Valid
import Derived.Lib.Hide
import Derived.Deep.QuietTactic
import Derived.BigQuiet
namespace Go.Proofs.Ytpkipleoodcplaa
open Go.RowKit

theorem drewN_below2 (B : Nat) (w : World) (n : Nat) : Below B w (w.drewN n) := ⟨rfl, rfl, rfl, Nat.le_refl _, fun _ _ => rfl⟩
def Right2Post (k i : Int) (s : ByteArray) (b : Bool) (w : World) (e : Ending) (w' : World) : Prop := e = .returned (.bool (Lp.rightB k i s b)) ∧ Below w.heap.size w w'
theorem right2Post {k i : Int} {s : ByteArray} {b r : Bool} {w w' : World} (h : r = Lp.rightB k i s b) (hb : Below w.heap.size w w') : Right2Post k i s b w (.returned (.bool r)) w' := by
  subst h; exact ⟨rfl, hb⟩

set_option maxHeartbeats 1000000 in
theorem right2_0 (i : Int) (s : ByteArray) (b : Bool) (w : World) :
    Calls Try.prog 15 #[.agg #[.int .u8 0, .int .i64 i, .string s, .bool b]] w (Right2Post 0 i s b w) := by
  have hB : ∀ o n, Below w.heap.size w ((w.alloc o).drewN n) := fun o n => ((Below.refl w.heap.size w).alloc (Nat.le_refl _) o).trans (drewN_below2 _ _ _)
  go_enter Try.func15, Try.ntmps15
  go_wp2_with fail
  go_quiet (fail)
  go_wp2
  all_goals (go_ret; exact right2Post (by clear hB; simp_all [Lp.rightB, ByteArray.toList_eq]) (hB _ _))
set_option maxHeartbeats 1000000 in
theorem right2_1 (i : Int) (s : ByteArray) (b : Bool) (w : World) :
    Calls Try.prog 15 #[.agg #[.int .u8 1, .int .i64 i, .string s, .bool b]] w (Right2Post 1 i s b w) := by
  have hB : ∀ o n, Below w.heap.size w ((w.alloc o).drewN n) := fun o n => ((Below.refl w.heap.size w).alloc (Nat.le_refl _) o).trans (drewN_below2 _ _ _)
  go_enter Try.func15, Try.ntmps15
  go_wp2_with fail
  go_quiet (fail)
  go_wp2
  all_goals (go_ret; exact right2Post (by clear hB; simp_all [Lp.rightB, ByteArray.toList_eq]) (hB _ _))
set_option maxHeartbeats 1000000 in
theorem right2_2 (i : Int) (s : ByteArray) (b : Bool) (w : World) (hs : s.size ≤ 9223372036854775807) :
    Calls Try.prog 15 #[.agg #[.int .u8 2, .int .i64 i, .string s, .bool b]] w (Right2Post 2 i s b w) := by
  have hB : ∀ o n, Below w.heap.size w ((w.alloc o).drewN n) := fun o n => ((Below.refl w.heap.size w).alloc (Nat.le_refl _) o).trans (drewN_below2 _ _ _)
  go_enter Try.func15, Try.ntmps15
  go_wp2_with fail
  go_quiet (fail)
  go_wp2_with (go_at_call 19; refine (valid2_any _ _ hs).mono ?_; rintro e w' ⟨rfl, rfl⟩)
  all_goals (go_ret; exact right2Post (by clear hB; simp_all [Lp.rightB] <;> (intros; omega)) (hB _ _))
set_option maxHeartbeats 1000000 in
theorem right2_3 (i : Int) (s : ByteArray) (b : Bool) (w : World) :
    Calls Try.prog 15 #[.agg #[.int .u8 3, .int .i64 i, .string s, .bool b]] w (Right2Post 3 i s b w) := by
  have hB : ∀ o n, Below w.heap.size w ((w.alloc o).drewN n) := fun o n => ((Below.refl w.heap.size w).alloc (Nat.le_refl _) o).trans (drewN_below2 _ _ _)
  go_enter Try.func15, Try.ntmps15
  go_wp2_with fail
  go_quiet (fail)
  go_wp2
  all_goals (go_ret; exact right2Post (by clear hB; simp_all [Lp.rightB, ByteArray.toList_eq]) (hB _ _))
theorem right2_other (k i : Int) (s : ByteArray) (b : Bool) (w : World) (h0 : (k == 0) = false) (h1 : (k == 1) = false) (h2 : (k == 2) = false) (h3 : (k == 3) = false) :
    Calls Try.prog 15 #[.agg #[.int .u8 k, .int .i64 i, .string s, .bool b]] w (Right2Post k i s b w) := by
  have hB : ∀ o n, Below w.heap.size w ((w.alloc o).drewN n) := fun o n => ((Below.refl w.heap.size w).alloc (Nat.le_refl _) o).trans (drewN_below2 _ _ _)
  go_enter Try.func15, Try.ntmps15
  go_wp2_with fail
  go_quiet (fail)
  go_wp2
  all_goals (go_ret; exact right2Post (by simp_all [Lp.rightB]) (hB _ _))
theorem right2_any (k i : Int) (s : ByteArray) (b : Bool) (w : World) (hs : s.size ≤ 9223372036854775807) :
    Calls Try.prog 15 #[.agg #[.int .u8 k, .int .i64 i, .string s, .bool b]] w (Right2Post k i s b w) := by
  by_cases h0 : k = 0
  · subst h0; exact right2_0 i s b w
  · by_cases h1 : k = 1
    · subst h1; exact right2_1 i s b w
    · by_cases h2 : k = 2
      · subst h2; exact right2_2 i s b w hs
      · by_cases h3 : k = 3
        · subst h3; exact right2_3 i s b w
        · exact right2_other k i s b w (by simpa using h0) (by simpa using h1) (by simpa using h2) (by simpa using h3)
theorem right2_at (k i : Int) (s : ByteArray) (b r : Bool) (hr : Lp.rightB k i s b = r) (w : World) (hs : s.size ≤ 9223372036854775807) :
    Calls Try.prog 15 #[.agg #[.int .u8 k, .int .i64 i, .string s, .bool b]] w fun e w' => e = .returned (.bool r) ∧ Below w.heap.size w w' := by
  subst hr; exact right2_any k i s b w hs
end Go.Proofs.Ytpkipleoodcplaa
