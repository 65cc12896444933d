/-
  What lex.sign gives, and lex.next, of any text that isn't empty. Conditions: unicode/utf8's tables as laid; at most 10^9 bytes.
-/
import Derived.Test.YtmdmcfobdbccmaaDoorLexT
import Derived.Lib.IndexAny
namespace Go.Proofs.YtmdmcfobdbccmaaDoor
open Go.RowKit

theorem sing_idx (c : UInt8) : Lp.singB c = decide (0 ≤ Lib.indexByte [40, 41, 44, 59, 42, 43, 45, 47, 37, 61, 60, 62, 46] c) := Lib.contains_iff_indexByte _ _
theorem list_one {s : ByteArray} (h : s.size = 1) : s.data.toList = [s[0]'(by omega)] := by
  have := Lp.drop_cons s 0 (by omega)
  rw [List.drop_zero] at this
  rw [this, List.drop_eq_nil_of_le (by simp; omega)]
theorem list_two {s : ByteArray} (h : 1 < s.size) : s.data.toList = s[0]'(by omega) :: s[1]'h :: s.data.toList.drop 2 := by
  have h1 := Lp.drop_cons s 0 (by omega)
  have h2 := Lp.drop_cons s 1 h
  rw [List.drop_zero] at h1
  rw [h1, h2]; rfl
theorem front_two {s : ByteArray} (h : 1 < s.size) : (s.extract 0 2).toList = [s[0]'(by omega), s[1]'h] := by
  rw [ByteArray.toList_eq, Lib.extract_data, list_two h]; rfl
theorem eq_two (c d : UInt8) (x y : UInt8) : ([c, d] == [x, y]) = (decide (c.toNat = x.toNat) && decide (d.toNat = y.toNat)) := by
  rw [Bool.eq_iff_iff]
  simp [← UInt8.toNat_inj]
theorem two_is (c d : UInt8) : Lp.twoB c d = (([c, d] == [60, 61]) || ([c, d] == [62, 61]) || ([c, d] == [60, 62])) := by
  rw [eq_two, eq_two, eq_two, Bool.eq_iff_iff]
  unfold Lp.twoB
  simp
  omega
theorem ret_int_nat {n : Nat} {z : Int} (h : (n : Int) = z) : Ending.returned (.int .i64 z) = .returned (.int .i64 (n : Int)) := by rw [h]
set_option maxHeartbeats 1000000 in
theorem sign_any (s : ByteArray) (w : World) (h1 : 1 ≤ s.size) : Calls Tryd.prog 42 #[.string s] w fun e w' => e = .returned (.int .i64 (Lp.signN s.data.toList : Nat)) ∧ w = w' := by
  have hsg := sing_idx (s[0]'h1)
  by_cases h2 : 1 < s.size
  · have hl := list_two h2
    have ht := two_is (s[0]'h1) (s[1]'h2)
    rw [← front_two h2] at ht
    cases e1 : (s.extract 0 2).toList == [60, 61]
    · cases e2 : (s.extract 0 2).toList == [62, 61]
      · cases e3 : (s.extract 0 2).toList == [60, 62]
        · rw [e1, e2, e3] at ht
          cases hg : Lp.singB (s[0]'h1)
          · rw [hg] at hsg
            have hi : Lib.indexByte [40, 41, 44, 59, 42, 43, 45, 47, 37, 61, 60, 62, 46] (s[0]'h1) < 0 := by have := of_decide_eq_false hsg.symm; omega
            have HF := Lib.hid (show ((Lp.signN s.data.toList : Nat) : Int) = 0 by rw [hl]; simp [Lp.signN, ht, hg])
            clear hl ht hsg hg
            go_enter Tryd.func42, Tryd.ntmps42
            go_wp2_with (go_at_call 16; refine (Tryd.strings_IndexByte _ _ _).mono ?_; rintro e w' ⟨rfl, rfl⟩)
            go_ret
            exact ⟨ret_int_nat HF.out, rfl⟩
          · rw [hg] at hsg
            have hi : 0 ≤ Lib.indexByte [40, 41, 44, 59, 42, 43, 45, 47, 37, 61, 60, 62, 46] (s[0]'h1) := of_decide_eq_true hsg.symm
            have HF := Lib.hid (show ((Lp.signN s.data.toList : Nat) : Int) = 1 by rw [hl]; simp [Lp.signN, ht, hg])
            clear hl ht hsg hg
            go_enter Tryd.func42, Tryd.ntmps42
            go_wp2_with (go_at_call 16; refine (Tryd.strings_IndexByte _ _ _).mono ?_; rintro e w' ⟨rfl, rfl⟩)
            go_ret
            exact ⟨ret_int_nat HF.out, rfl⟩
        · rw [e1, e2, e3] at ht
          have HF := Lib.hid (show ((Lp.signN s.data.toList : Nat) : Int) = 2 by rw [hl]; simp [Lp.signN, ht])
          clear hl ht hsg
          go_enter Tryd.func42, Tryd.ntmps42
          go_wp2
          go_ret
          exact ⟨ret_int_nat HF.out, rfl⟩
      · rw [e1, e2] at ht
        have HF := Lib.hid (show ((Lp.signN s.data.toList : Nat) : Int) = 2 by rw [hl]; simp [Lp.signN, ht])
        clear hl ht hsg
        go_enter Tryd.func42, Tryd.ntmps42
        go_wp2
        go_ret
        exact ⟨ret_int_nat HF.out, rfl⟩
    · rw [e1] at ht
      have HF := Lib.hid (show ((Lp.signN s.data.toList : Nat) : Int) = 2 by rw [hl]; simp [Lp.signN, ht])
      clear hl ht hsg
      go_enter Tryd.func42, Tryd.ntmps42
      go_wp2
      go_ret
      exact ⟨ret_int_nat HF.out, rfl⟩
  · have hl := list_one (s := s) (by omega)
    have h2' : ¬ (1 : Int) < (s.size : Int) := by omega
    cases hg : Lp.singB (s[0]'h1)
    · rw [hg] at hsg
      have hi : Lib.indexByte [40, 41, 44, 59, 42, 43, 45, 47, 37, 61, 60, 62, 46] (s[0]'h1) < 0 := by have := of_decide_eq_false hsg.symm; omega
      have HF := Lib.hid (show ((Lp.signN s.data.toList : Nat) : Int) = 0 by rw [hl]; simp [Lp.signN, hg])
      clear hl hsg hg
      go_enter Tryd.func42, Tryd.ntmps42
      go_wp2_with (go_at_call 16; refine (Tryd.strings_IndexByte _ _ _).mono ?_; rintro e w' ⟨rfl, rfl⟩)
      go_ret
      exact ⟨ret_int_nat HF.out, rfl⟩
    · rw [hg] at hsg
      have hi : 0 ≤ Lib.indexByte [40, 41, 44, 59, 42, 43, 45, 47, 37, 61, 60, 62, 46] (s[0]'h1) := of_decide_eq_true hsg.symm
      have HF := Lib.hid (show ((Lp.signN s.data.toList : Nat) : Int) = 1 by rw [hl]; simp [Lp.signN, hg])
      clear hl hsg hg
      go_enter Tryd.func42, Tryd.ntmps42
      go_wp2_with (go_at_call 16; refine (Tryd.strings_IndexByte _ _ _).mono ?_; rintro e w' ⟨rfl, rfl⟩)
      go_ret
      exact ⟨ret_int_nat HF.out, rfl⟩
end Go.Proofs.YtmdmcfobdbccmaaDoor
