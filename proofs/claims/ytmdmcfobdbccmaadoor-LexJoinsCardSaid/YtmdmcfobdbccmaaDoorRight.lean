/-
  cell.Right tells which values are right, at every value. Condition: unicode/utf8's two tables hold what the program's text lays in them.
-/
import Derived.Test.YtmdmcfobdbccmaaDoorRows
import Derived.Test.YtmdmcfobdbccmaaDoorShelf
import Derived.Test.YtmdmcfobdbccmaaDoorVal
import Derived.WalkKit
import Derived.WalkSpells
import Derived.WalkLawsBesides
import Derived.Lib.Hide
import Derived.Deep.Draws
namespace Go.Proofs.YtmdmcfobdbccmaaDoor
open Go.RowKit

def Tabs (w : World) : Prop := Lib.Utf8Tabs 0 1 w

theorem valid_any (s : ByteArray) (w : World) (hs : s.size ≤ 9223372036854775807) (hT : Tabs w) :
    Calls Tryd.prog 40 #[.string s] w fun e w' => e = .returned (.bool (Lib.validD s.data.toList)) ∧ Below w.heap.size w w' :=
  Any.utf8_ValidString Tryd.laysValid s w hs hT

theorem tabs_below {w w' : World} (h : Tabs w) (hb : Below w.heap.size w w') : Tabs w' := Utf8Tabs_below h hb
theorem tabs_alloc {w : World} (h : Tabs w) (o : Obj) : Tabs (w.alloc o) := tabs_below h ((Below.refl _ _).alloc (Nat.le_refl _) o)
theorem bcell {W w1 : World} (hb : Below W.heap.size W w1) : (∀ b o, b < W.heap.size → w1.cell? ⟨b, o, none⟩ = W.cell? ⟨b, o, none⟩) ∧ (∀ b o, b < W.heap.size → w1.frozen? ⟨b, o, none⟩ = W.frozen? ⟨b, o, none⟩) :=
  ⟨fun b o h => hb.cell (p := ⟨b, o, none⟩) h, fun b o h => hb.frozen (p := ⟨b, o, none⟩) h⟩

theorem idx_no (s : ByteArray) (w : World) (h : s.data.toList.contains 0 = false) :
    Calls Tryd.prog 16 #[.string s, .int .u8 0] w fun e w' => e = .returned (.int .i64 (-1)) ∧ w = w' := by
  refine (Tryd.strings_IndexByte s 0 w).mono ?_
  rintro e w' ⟨rfl, rfl⟩
  have h1 := Lib.indexByte_ge s.data.toList (Int.toNat 0).toUInt8
  have h2 : Lib.indexByte s.data.toList (Int.toNat 0).toUInt8 = -1 := by
    rcases Int.lt_or_le (Lib.indexByte s.data.toList (Int.toNat 0).toUInt8) 0 with h3 | h3
    · omega
    · obtain ⟨n, hn⟩ := Int.eq_ofNat_of_zero_le h3
      have h4 := (Lib.indexByte_some hn).1
      have h5 : s.data.toList.contains 0 = true := List.contains_iff_mem.2 (List.mem_of_getElem? h4)
      rw [h5] at h; cases h
  rw [h2]; exact ⟨rfl, rfl⟩
def SomeNat (e : Ending) : Prop := ∃ n : Nat, e = .returned (.int .i64 n)
theorem idx_yes (s : ByteArray) (w : World) (h : s.data.toList.contains 0 = true) :
    Calls Tryd.prog 16 #[.string s, .int .u8 0] w fun e w' => SomeNat e ∧ w = w' := by
  refine (Tryd.strings_IndexByte s 0 w).mono ?_
  rintro e w' ⟨rfl, rfl⟩
  refine ⟨?_, rfl⟩
  have e0 : (Int.toNat 0).toUInt8 = 0 := rfl
  rw [e0]
  rcases Int.lt_or_le (Lib.indexByte s.data.toList 0) 0 with h3 | h3
  · have h1 := Lib.indexByte_ge s.data.toList 0
    obtain ⟨k, hk⟩ := List.mem_iff_getElem?.1 (List.contains_iff_mem.1 h)
    exact absurd hk (Lib.indexByte_none (by omega) k)
  · obtain ⟨n, hn⟩ := Int.eq_ofNat_of_zero_le h3
    exact ⟨n, by rw [hn]⟩

theorem size_nil {s : ByteArray} (h : s.data = #[]) : s.size = 0 := by show s.data.size = 0; rw [h]; rfl
def RightPost (k i : Int) (s : ByteArray) (b : Bool) (w : World) (e : Ending) (w' : World) : Prop := e = .returned (.bool (Lp.rightB k i s b)) ∧ Below w.heap.size w w'
theorem rightPost {k i : Int} {s : ByteArray} {b r : Bool} {w w' : World} (h : r = Lp.rightB k i s b) (hb : Below w.heap.size w w') : RightPost k i s b w (.returned (.bool r)) w' := by
  subst h; exact ⟨rfl, hb⟩

set_option maxHeartbeats 1000000 in
theorem right_0 (i : Int) (s : ByteArray) (b : Bool) (w : World) (hs : s.size ≤ 9223372036854775807) (hT : Tabs w) :
    Calls Tryd.prog 41 #[.agg #[.int .u8 0, .int .i64 i, .string s, .bool b]] w (RightPost 0 i s b w) := by
  have hT2 : ∀ o1 o2, Tabs ((w.alloc o1).alloc o2) := fun o1 o2 => tabs_alloc (tabs_alloc hT o1) o2
  have hB2 : ∀ o1 o2, Below w.heap.size w ((w.alloc o1).alloc o2) := fun o1 o2 => ((Below.refl w.heap.size w).alloc (Nat.le_refl _) o1).alloc (by simp) o2
  cases hz : s.data.toList.contains 0
  · go_enter Tryd.func41, Tryd.ntmps41
    go_wp2_with (first | (go_at_call 40; refine (valid_any _ _ hs (hT2 _ _)).mono ?_; rintro e w1 ⟨rfl, hb1⟩; obtain ⟨hc1, hf1⟩ := bcell hb1) | (go_at_call 16; refine (idx_no _ _ hz).mono ?_; rintro e w' ⟨rfl, rfl⟩))
    all_goals (go_ret; first | exact rightPost (by clear hB2 hT2; simp_all [Lp.rightB, ByteArray.toList_eq, size_nil]) (hB2 _ _) | exact rightPost (by clear hB2 hT2 hc1 hf1 hb1; simp_all [Lp.rightB, ByteArray.toList_eq, Lib.validD_nil, size_nil]) ((hB2 _ _).trans (hb1.mono (by simp; omega))))
  · go_enter Tryd.func41, Tryd.ntmps41
    go_wp2_with (first | (go_at_call 40; refine (valid_any _ _ hs (hT2 _ _)).mono ?_; rintro e w1 ⟨rfl, hb1⟩; obtain ⟨hc1, hf1⟩ := bcell hb1) | (go_at_call 16; refine (idx_yes _ _ hz).mono ?_; rintro e w' ⟨⟨n0, rfl⟩, rfl⟩))
    all_goals (go_ret; first | exact rightPost (by clear hB2 hT2; simp_all [Lp.rightB, ByteArray.toList_eq, size_nil]) (hB2 _ _) | exact rightPost (by clear hB2 hT2 hc1 hf1 hb1; simp_all [Lp.rightB, ByteArray.toList_eq, Lib.validD_nil, size_nil]) ((hB2 _ _).trans (hb1.mono (by simp; omega))))
set_option maxHeartbeats 1000000 in
theorem right_1 (i : Int) (s : ByteArray) (b : Bool) (w : World) (hs : s.size ≤ 9223372036854775807) (hT : Tabs w) :
    Calls Tryd.prog 41 #[.agg #[.int .u8 1, .int .i64 i, .string s, .bool b]] w (RightPost 1 i s b w) := by
  have hT2 : ∀ o1 o2, Tabs ((w.alloc o1).alloc o2) := fun o1 o2 => tabs_alloc (tabs_alloc hT o1) o2
  have hB2 : ∀ o1 o2, Below w.heap.size w ((w.alloc o1).alloc o2) := fun o1 o2 => ((Below.refl w.heap.size w).alloc (Nat.le_refl _) o1).alloc (by simp) o2
  cases hz : s.data.toList.contains 0
  · go_enter Tryd.func41, Tryd.ntmps41
    go_wp2_with (first | (go_at_call 40; refine (valid_any _ _ hs (hT2 _ _)).mono ?_; rintro e w1 ⟨rfl, hb1⟩; obtain ⟨hc1, hf1⟩ := bcell hb1) | (go_at_call 16; refine (idx_no _ _ hz).mono ?_; rintro e w' ⟨rfl, rfl⟩))
    all_goals (go_ret; first | exact rightPost (by clear hB2 hT2; simp_all [Lp.rightB, ByteArray.toList_eq, size_nil]) (hB2 _ _) | exact rightPost (by clear hB2 hT2 hc1 hf1 hb1; simp_all [Lp.rightB, ByteArray.toList_eq, Lib.validD_nil, size_nil]) ((hB2 _ _).trans (hb1.mono (by simp; omega))))
  · go_enter Tryd.func41, Tryd.ntmps41
    go_wp2_with (first | (go_at_call 40; refine (valid_any _ _ hs (hT2 _ _)).mono ?_; rintro e w1 ⟨rfl, hb1⟩; obtain ⟨hc1, hf1⟩ := bcell hb1) | (go_at_call 16; refine (idx_yes _ _ hz).mono ?_; rintro e w' ⟨⟨n0, rfl⟩, rfl⟩))
    all_goals (go_ret; first | exact rightPost (by clear hB2 hT2; simp_all [Lp.rightB, ByteArray.toList_eq, size_nil]) (hB2 _ _) | exact rightPost (by clear hB2 hT2 hc1 hf1 hb1; simp_all [Lp.rightB, ByteArray.toList_eq, Lib.validD_nil, size_nil]) ((hB2 _ _).trans (hb1.mono (by simp; omega))))
set_option maxHeartbeats 1000000 in
theorem right_2 (i : Int) (s : ByteArray) (b : Bool) (w : World) (hs : s.size ≤ 9223372036854775807) (hT : Tabs w) :
    Calls Tryd.prog 41 #[.agg #[.int .u8 2, .int .i64 i, .string s, .bool b]] w (RightPost 2 i s b w) := by
  have hT2 : ∀ o1 o2, Tabs ((w.alloc o1).alloc o2) := fun o1 o2 => tabs_alloc (tabs_alloc hT o1) o2
  have hB2 : ∀ o1 o2, Below w.heap.size w ((w.alloc o1).alloc o2) := fun o1 o2 => ((Below.refl w.heap.size w).alloc (Nat.le_refl _) o1).alloc (by simp) o2
  cases hz : s.data.toList.contains 0
  · go_enter Tryd.func41, Tryd.ntmps41
    go_wp2_with (first | (go_at_call 40; refine (valid_any _ _ hs (hT2 _ _)).mono ?_; rintro e w1 ⟨rfl, hb1⟩; obtain ⟨hc1, hf1⟩ := bcell hb1) | (go_at_call 16; refine (idx_no _ _ hz).mono ?_; rintro e w' ⟨rfl, rfl⟩))
    all_goals (go_ret; first | exact rightPost (by clear hB2 hT2; simp_all [Lp.rightB, Lp.textOk] <;> (intros; omega)) (hB2 _ _) | exact rightPost (by clear hB2 hT2 hc1 hf1 hb1; simp_all [Lp.rightB, Lp.textOk] <;> (intros; omega)) ((hB2 _ _).trans (hb1.mono (by simp; omega))))
  · go_enter Tryd.func41, Tryd.ntmps41
    go_wp2_with (first | (go_at_call 40; refine (valid_any _ _ hs (hT2 _ _)).mono ?_; rintro e w1 ⟨rfl, hb1⟩; obtain ⟨hc1, hf1⟩ := bcell hb1) | (go_at_call 16; refine (idx_yes _ _ hz).mono ?_; rintro e w' ⟨⟨n0, rfl⟩, rfl⟩))
    all_goals (go_ret; first | exact rightPost (by clear hB2 hT2; simp_all [Lp.rightB, Lp.textOk] <;> (intros; omega)) (hB2 _ _) | exact rightPost (by clear hB2 hT2 hc1 hf1 hb1; simp_all [Lp.rightB, Lp.textOk] <;> (intros; omega)) ((hB2 _ _).trans (hb1.mono (by simp; omega))))
set_option maxHeartbeats 1000000 in
theorem right_3 (i : Int) (s : ByteArray) (b : Bool) (w : World) (hs : s.size ≤ 9223372036854775807) (hT : Tabs w) :
    Calls Tryd.prog 41 #[.agg #[.int .u8 3, .int .i64 i, .string s, .bool b]] w (RightPost 3 i s b w) := by
  have hT2 : ∀ o1 o2, Tabs ((w.alloc o1).alloc o2) := fun o1 o2 => tabs_alloc (tabs_alloc hT o1) o2
  have hB2 : ∀ o1 o2, Below w.heap.size w ((w.alloc o1).alloc o2) := fun o1 o2 => ((Below.refl w.heap.size w).alloc (Nat.le_refl _) o1).alloc (by simp) o2
  cases hz : s.data.toList.contains 0
  · go_enter Tryd.func41, Tryd.ntmps41
    go_wp2_with (first | (go_at_call 40; refine (valid_any _ _ hs (hT2 _ _)).mono ?_; rintro e w1 ⟨rfl, hb1⟩; obtain ⟨hc1, hf1⟩ := bcell hb1) | (go_at_call 16; refine (idx_no _ _ hz).mono ?_; rintro e w' ⟨rfl, rfl⟩))
    all_goals (go_ret; first | exact rightPost (by clear hB2 hT2; simp_all [Lp.rightB, ByteArray.toList_eq, size_nil]) (hB2 _ _) | exact rightPost (by clear hB2 hT2 hc1 hf1 hb1; simp_all [Lp.rightB, ByteArray.toList_eq, Lib.validD_nil, size_nil]) ((hB2 _ _).trans (hb1.mono (by simp; omega))))
  · go_enter Tryd.func41, Tryd.ntmps41
    go_wp2_with (first | (go_at_call 40; refine (valid_any _ _ hs (hT2 _ _)).mono ?_; rintro e w1 ⟨rfl, hb1⟩; obtain ⟨hc1, hf1⟩ := bcell hb1) | (go_at_call 16; refine (idx_yes _ _ hz).mono ?_; rintro e w' ⟨⟨n0, rfl⟩, rfl⟩))
    all_goals (go_ret; first | exact rightPost (by clear hB2 hT2; simp_all [Lp.rightB, ByteArray.toList_eq, size_nil]) (hB2 _ _) | exact rightPost (by clear hB2 hT2 hc1 hf1 hb1; simp_all [Lp.rightB, ByteArray.toList_eq, Lib.validD_nil, size_nil]) ((hB2 _ _).trans (hb1.mono (by simp; omega))))

theorem right_other (k i : Int) (s : ByteArray) (b : Bool) (w : World) (h0 : (k == 0) = false) (h1 : (k == 1) = false) (h2 : (k == 2) = false) (h3 : (k == 3) = false) :
    Calls Tryd.prog 41 #[.agg #[.int .u8 k, .int .i64 i, .string s, .bool b]] w (RightPost k i s b w) := by
  have hB2 : ∀ o1 o2, Below w.heap.size w ((w.alloc o1).alloc o2) := fun o1 o2 => ((Below.refl w.heap.size w).alloc (Nat.le_refl _) o1).alloc (by simp) o2
  go_enter Tryd.func41, Tryd.ntmps41
  go_wp2
  go_ret
  exact rightPost (by simp_all [Lp.rightB]) (hB2 _ _)

theorem right_any (k i : Int) (s : ByteArray) (b : Bool) (w : World) (hs : s.size ≤ 9223372036854775807) (hT : Tabs w) :
    Calls Tryd.prog 41 #[.agg #[.int .u8 k, .int .i64 i, .string s, .bool b]] w (RightPost k i s b w) := by
  by_cases h0 : k = 0
  · subst h0; exact right_0 i s b w hs hT
  · by_cases h1 : k = 1
    · subst h1; exact right_1 i s b w hs hT
    · by_cases h2 : k = 2
      · subst h2; exact right_2 i s b w hs hT
      · by_cases h3 : k = 3
        · subst h3; exact right_3 i s b w hs hT
        · exact right_other k i s b w (by simpa using h0) (by simpa using h1) (by simpa using h2) (by simpa using h3)

end Go.Proofs.YtmdmcfobdbccmaaDoor
