/-
  What lex.while gives at its two functions: how many bytes in front are of that sort. No conditions.
-/
import Derived.Test.YtmdmcfobdbccmaaDoorLexA
import Derived.Lib.OthersKept
import Derived.Laws.RangeAny
namespace Go.Proofs.YtmdmcfobdbccmaaDoor
open Go.RowKit

theorem iterPos_at {w : World} {k : Nat} {s : ByteArray} {p : Nat} (h : w.heap[k]? = some (.stringIter s p)) : w.iterPos k = p := by simp [World.iterPos, h]
theorem ret_nat {a b : Nat} (h : a = b) : Ending.returned (.int .i64 (a : Int)) = .returned (.int .i64 (b : Int)) := by rw [h]
theorem takeWhile_at {p : UInt8 → Bool} : ∀ {l : List UInt8} {k : Nat} (h : k < l.length), (l.take k).all p = true → p l[k] = false → (l.takeWhile p).length = k
  | c :: l, 0, _, _, h2 => by rw [List.takeWhile_cons]; simp only [List.getElem_cons_zero] at h2; rw [h2]; rfl
  | c :: l, k + 1, h, h1, h2 => by
    rw [List.take_succ_cons, List.all_cons, Bool.and_eq_true] at h1
    rw [List.takeWhile_cons, h1.1]
    simp only [List.getElem_cons_succ] at h2
    have := takeWhile_at (l := l) (k := k) (by simpa using h) h1.2 h2
    simp [this]
theorem takeWhile_all {p : UInt8 → Bool} {l : List UInt8} (h : l.all p = true) : l.takeWhile p = l := by
  induction l with
  | nil => rfl
  | cons c l ih =>
    rw [List.all_cons, Bool.and_eq_true] at h
    rw [List.takeWhile_cons, h.1, ih h.2]; rfl
theorem word_small {c : UInt8} (h : Lp.wordB c = true) : c.toNat < 128 := by
  unfold Lp.wordB Lp.letB Lp.isDig at h
  simp at h; omega
theorem dig_small {c : UInt8} (h : Lp.isDig c = true) : c.toNat < 128 := by
  unfold Lp.isDig at h
  simp at h; omega
theorem wordR_big {r : Int} (h : 128 ≤ r) : wordR r = false := by
  unfold wordR; rw [letR_no (by omega), digR_no (by omega)]; rfl
theorem digR_big {r : Int} (h : 128 ≤ r) : digR r = false := digR_no (by omega)
theorem rune_word_yes (s : ByteArray) (pos : Nat) (h : pos < s.size) (hd : Lp.wordB (s[pos]'h) = true) : Utf8.decode s pos = ((s[pos]'h).toNat, 1) ∧ wordR ((s[pos]'h).toNat : Int) = true :=
  ⟨decode_ascii s pos h (word_small hd), by rw [wordR_byte]; exact hd⟩
theorem rune_word_no (s : ByteArray) (pos : Nat) (h : pos < s.size) (hd : Lp.wordB (s[pos]'h) = false) : wordR ((Utf8.decode s pos).1 : Int) = false := by
  by_cases ha : (s[pos]'h).toNat < 128
  · rw [decode_ascii s pos h ha]; show wordR ((s[pos]'h).toNat : Int) = false; rw [wordR_byte]; exact hd
  · exact wordR_big (by have := (decode_high s pos h (by omega)).1; omega)
set_option maxHeartbeats 1000000 in
theorem while_word (s : ByteArray) (w : World) :
    Calls Tryd.prog 33 #[.string s, .func (.func 34) #[] #[]] w fun e w' => e = .returned (.int .i64 ((s.data.toList.takeWhile Lp.wordB).length)) ∧ Below w.heap.size w w' := by
  go_enter Tryd.func33, Tryd.ntmps33
  go_wp2
  go_loopw [5, 6] (fun _ _ wr => ∃ pos : Nat, wr.heap[w.heap.size]? = some (.stringIter s pos) ∧ Below w.heap.size w wr ∧ pos ≤ s.size ∧ Hid ((s.data.toList.take pos).all Lp.wordB = true)) (fun _ _ wr => s.size - wr.iterPos w.heap.size)
  case atStart => exact ⟨0, World.iter_heap w s 0, (Below.refl _ _).alloc (Nat.le_refl _) _, Nat.zero_le _, by rfl⟩
  case round =>
    obtain ⟨pos, hit, hbw, hle, HD⟩ := hrel
    have hpos0 := iterPos_at hit
    by_cases hp : pos < s.size
    · have hnx0 : ∀ ty, (Instr.next (.pointer (some ⟨w.heap.size, 0, none⟩)) true ty).run Tryd.prog wr = _ := fun ty => Lib.run_next_any_at wr w.heap.size s pos ty hit hp
      cases hd : Lp.wordB (s[pos]'hp)
      · have hr := rune_word_no s pos hp hd
        have HF : Hid ((s.data.toList.takeWhile Lp.wordB).length = pos) := takeWhile_at (by simpa using hp) HD.out hd
        have hb2 := Lib.below_iterAt hbw (k := w.heap.size) (Nat.le_refl _) s (pos + (Utf8.decode s pos).2)
        generalize (Utf8.decode s pos).1 = c at *
        generalize (Utf8.decode s pos).2 = k at *
        have C := wordr_any (c : Int)
        unfold BoolPost at C
        rw [hr] at C
        have HC := Lib.hid C
        clear C hr HD hd
        go_wp2_with fail
        refine (HC.out _).mono ?_
        rintro e w' ⟨rfl, rfl⟩
        go_wp2
        go_ret
        exact ⟨ret_nat HF.out.symm, hb2⟩
      · obtain ⟨hdec, hr⟩ := rune_word_yes s pos hp hd
        have HD2 : Hid ((s.data.toList.take (pos + 1)).all Lp.wordB = true) := by
          show _ = _
          rw [Lp.take_snoc s pos hp]; simp [HD.out, hd]
        have hnx := hnx0
        rw [hdec] at hnx
        have hit2 := Lib.iterAt_heap wr w.heap.size s pos (pos + 1) hit
        have hb2 := Lib.below_iterAt hbw (k := w.heap.size) (Nat.le_refl _) s (pos + 1)
        have hp2 := iterPos_at hit2
        generalize (s[pos]'hp).toNat = c at *
        have C := wordr_any (c : Int)
        unfold BoolPost at C
        rw [hr] at C
        have HC := Lib.hid C
        clear hnx0 hdec hd HD C hr
        go_wp2_with fail
        refine (HC.out _).mono ?_
        rintro e w' ⟨rfl, rfl⟩
        go_wp2
        go_roundw
        case rel => exact ⟨pos + 1, hit2, hb2, by omega, HD2⟩
        case measure => rw [hp2, hpos0]; omega
    · have hnx : ∀ ty, (Instr.next (.pointer (some ⟨w.heap.size, 0, none⟩)) true ty).run Tryd.prog wr = _ := fun ty => Lib.run_next_end_at wr w.heap.size s pos ty hit hp
      obtain rfl : pos = s.size := by omega
      have HF : Hid ((s.data.toList.takeWhile Lp.wordB).length = s.size) := by
        show _ = _
        have := HD.out; rw [Lp.take_all] at this
        rw [takeWhile_all this]; simp
      clear HD
      go_wp2
      go_ret
      exact ⟨ret_nat HF.out.symm, hbw⟩
theorem rune_dig_yes (s : ByteArray) (pos : Nat) (h : pos < s.size) (hd : Lp.isDig (s[pos]'h) = true) : Utf8.decode s pos = ((s[pos]'h).toNat, 1) ∧ digR ((s[pos]'h).toNat : Int) = true :=
  ⟨decode_ascii s pos h (dig_small hd), by rw [digR_byte]; exact hd⟩
theorem rune_dig_no (s : ByteArray) (pos : Nat) (h : pos < s.size) (hd : Lp.isDig (s[pos]'h) = false) : digR ((Utf8.decode s pos).1 : Int) = false := by
  by_cases ha : (s[pos]'h).toNat < 128
  · rw [decode_ascii s pos h ha]; show digR ((s[pos]'h).toNat : Int) = false; rw [digR_byte]; exact hd
  · exact digR_big (by have := (decode_high s pos h (by omega)).1; omega)
set_option maxHeartbeats 1000000 in
theorem while_dig (s : ByteArray) (w : World) :
    Calls Tryd.prog 33 #[.string s, .func (.func 35) #[] #[]] w fun e w' => e = .returned (.int .i64 ((s.data.toList.takeWhile Lp.isDig).length)) ∧ Below w.heap.size w w' := by
  go_enter Tryd.func33, Tryd.ntmps33
  go_wp2
  go_loopw [5, 6] (fun _ _ wr => ∃ pos : Nat, wr.heap[w.heap.size]? = some (.stringIter s pos) ∧ Below w.heap.size w wr ∧ pos ≤ s.size ∧ Hid ((s.data.toList.take pos).all Lp.isDig = true)) (fun _ _ wr => s.size - wr.iterPos w.heap.size)
  case atStart => exact ⟨0, World.iter_heap w s 0, (Below.refl _ _).alloc (Nat.le_refl _) _, Nat.zero_le _, by rfl⟩
  case round =>
    obtain ⟨pos, hit, hbw, hle, HD⟩ := hrel
    have hpos0 := iterPos_at hit
    by_cases hp : pos < s.size
    · have hnx0 : ∀ ty, (Instr.next (.pointer (some ⟨w.heap.size, 0, none⟩)) true ty).run Tryd.prog wr = _ := fun ty => Lib.run_next_any_at wr w.heap.size s pos ty hit hp
      cases hd : Lp.isDig (s[pos]'hp)
      · have hr := rune_dig_no s pos hp hd
        have HF : Hid ((s.data.toList.takeWhile Lp.isDig).length = pos) := takeWhile_at (by simpa using hp) HD.out hd
        have hb2 := Lib.below_iterAt hbw (k := w.heap.size) (Nat.le_refl _) s (pos + (Utf8.decode s pos).2)
        generalize (Utf8.decode s pos).1 = c at *
        generalize (Utf8.decode s pos).2 = k at *
        have C := ldigit_any (c : Int)
        unfold BoolPost at C
        rw [hr] at C
        have HC := Lib.hid C
        clear C hr HD hd
        go_wp2_with fail
        refine (HC.out _).mono ?_
        rintro e w' ⟨rfl, rfl⟩
        go_wp2
        go_ret
        exact ⟨ret_nat HF.out.symm, hb2⟩
      · obtain ⟨hdec, hr⟩ := rune_dig_yes s pos hp hd
        have HD2 : Hid ((s.data.toList.take (pos + 1)).all Lp.isDig = true) := by
          show _ = _
          rw [Lp.take_snoc s pos hp]; simp [HD.out, hd]
        have hnx := hnx0
        rw [hdec] at hnx
        have hit2 := Lib.iterAt_heap wr w.heap.size s pos (pos + 1) hit
        have hb2 := Lib.below_iterAt hbw (k := w.heap.size) (Nat.le_refl _) s (pos + 1)
        have hp2 := iterPos_at hit2
        generalize (s[pos]'hp).toNat = c at *
        have C := ldigit_any (c : Int)
        unfold BoolPost at C
        rw [hr] at C
        have HC := Lib.hid C
        clear hnx0 hdec hd HD C hr
        go_wp2_with fail
        refine (HC.out _).mono ?_
        rintro e w' ⟨rfl, rfl⟩
        go_wp2
        go_roundw
        case rel => exact ⟨pos + 1, hit2, hb2, by omega, HD2⟩
        case measure => rw [hp2, hpos0]; omega
    · have hnx : ∀ ty, (Instr.next (.pointer (some ⟨w.heap.size, 0, none⟩)) true ty).run Tryd.prog wr = _ := fun ty => Lib.run_next_end_at wr w.heap.size s pos ty hit hp
      obtain rfl : pos = s.size := by omega
      have HF : Hid ((s.data.toList.takeWhile Lp.isDig).length = s.size) := by
        show _ = _
        have := HD.out; rw [Lp.take_all] at this
        rw [takeWhile_all this]; simp
      clear HD
      go_wp2
      go_ret
      exact ⟨ret_nat HF.out.symm, hbw⟩
end Go.Proofs.YtmdmcfobdbccmaaDoor
