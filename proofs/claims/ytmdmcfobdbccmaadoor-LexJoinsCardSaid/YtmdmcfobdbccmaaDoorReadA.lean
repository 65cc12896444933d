/-
  What calc.Read computes, at any text: its number, or the error. The world has at most new blocks behind what was there..
-/
import Derived.Test.YtmdmcfobdbccmaaDoorRows
import Derived.Test.YtmdmcfobdbccmaaDoorPlainRd
import Derived.Test.YtmdmcfobdbccmaaDoorCalcA
import Derived.WalkKit
import Derived.WalkSpells
import Derived.WalkLawsBesides
import Derived.Lib.OthersKept
import Derived.Lib.Hide
namespace Go.Proofs.YtmdmcfobdbccmaaDoor
open Go.RowKit

theorem mul_in (a b : Int) (w : World) (ha : Lp.inR a) (hb : Lp.inR b) (h : Lp.inR (a * b)) :
    Calls Tryd.prog 57 #[.int .i64 a, .int .i64 b] w fun e w' => e = .returned (.tuple #[.int .i64 (a * b), .int .i64 0]) ∧ w = w' := by
  have := mul_any a b w ha hb; rw [Lp.val_in h, Lp.err_in h] at this; exact this
theorem mul_out (a b : Int) (w : World) (ha : Lp.inR a) (hb : Lp.inR b) (h : ¬ Lp.inR (a * b)) :
    Calls Tryd.prog 57 #[.int .i64 a, .int .i64 b] w fun e w' => e = .returned (.tuple #[.int .i64 0, .int .i64 9]) ∧ w = w' := by
  have := mul_any a b w ha hb; rw [Lp.val_out h, Lp.err_out h] at this; exact this
theorem add_in (a b : Int) (w : World) (ha : Lp.inR a) (hb : Lp.inR b) (h : Lp.inR (a + b)) :
    Calls Tryd.prog 58 #[.int .i64 a, .int .i64 b] w fun e w' => e = .returned (.tuple #[.int .i64 (a + b), .int .i64 0]) ∧ w = w' := by
  have := add_any a b w ha hb; rw [Lp.val_in h, Lp.err_in h] at this; exact this
theorem add_out (a b : Int) (w : World) (ha : Lp.inR a) (hb : Lp.inR b) (h : ¬ Lp.inR (a + b)) :
    Calls Tryd.prog 58 #[.int .i64 a, .int .i64 b] w fun e w' => e = .returned (.tuple #[.int .i64 0, .int .i64 9]) ∧ w = w' := by
  have := add_any a b w ha hb; rw [Lp.val_out h, Lp.err_out h] at this; exact this

def ReadPost (s : ByteArray) (w : World) (e : Ending) (w' : World) : Prop :=
  e = .returned (.tuple #[.int .i64 (Lp.readV s.data.toList), .int .i64 (Lp.readE s.data.toList)]) ∧ Below w.heap.size w w'

theorem readPost_not {s : ByteArray} {w w' : World} (h : Lp.allD s.data.toList = false) (hb : Below w.heap.size w w') : ReadPost s w (.returned (.tuple #[.int .i64 0, .int .i64 3])) w' := by
  rw [ReadPost, Lp.readV_not h, Lp.readE_not h]; exact ⟨rfl, hb⟩
theorem readPost_yes {s : ByteArray} {w w' : World} {m : Int} (h : Lp.allD s.data.toList = true) (hm : m = Lp.dvf 0 s.data.toList) (hin : Lp.inR m) (hb : Below w.heap.size w w') : ReadPost s w (.returned (.tuple #[.int .i64 m, .int .i64 0])) w' := by
  subst hm; rw [ReadPost, Lp.readV_yes h, Lp.readE_yes h, Lp.val_in hin, Lp.err_in hin]; exact ⟨rfl, hb⟩
theorem readPost_out {s : ByteArray} {w w' : World} (h : Lp.allD s.data.toList = true) (hin : ¬ Lp.inR (Lp.dvf 0 s.data.toList)) (hb : Below w.heap.size w w') : ReadPost s w (.returned (.tuple #[.int .i64 0, .int .i64 9])) w' := by
  rw [ReadPost, Lp.readV_yes h, Lp.readE_yes h, Lp.val_out hin, Lp.err_out hin]; exact ⟨rfl, hb⟩

theorem iterPos_of {w : World} {k : Nat} {s : ByteArray} {p : Nat} (h : w.heap[k]? = some (.stringIter s p)) : w.iterPos k = p := by simp [World.iterPos, h]

set_option maxHeartbeats 1000000 in
theorem read_any (s : ByteArray) (w : World) :
    Calls Tryd.prog 38 #[.string s] w (ReadPost s w) := by
  go_enter Tryd.func38, Tryd.ntmps38
  go_wp2
  go_loopw [6] (fun _ wr => ∃ pos : Nat, wr.heap[w.heap.size]? = some (.stringIter s pos) ∧ Below w.heap.size w wr ∧ pos ≤ s.size ∧ Hid ((s.data.toList.take pos).all Lp.isDig = true)) (fun _ wr => s.size - wr.iterPos w.heap.size)
  case atStart => exact ⟨0, World.iter_heap w s 0, (Below.refl _ _).alloc (Nat.le_refl _) _, Nat.zero_le _, by rfl⟩
  case round =>
    obtain ⟨pos, hit, hbw, hle, HD⟩ := hrel
    have hpos0 := iterPos_of hit
    by_cases hp : pos < s.size
    · have hnx0 : ∀ ty, (Instr.next (.pointer (some ⟨w.heap.size, 0, none⟩)) true ty).run Tryd.prog wr = _ := fun ty => Lib.run_next_any_at wr w.heap.size s pos ty hit hp
      cases hd : Lp.isDig (s[pos]'hp)
      · have hr := Lp.rune_not s pos hp hd
        have hall := Lp.allD_not s pos hp hd
        have hb2 := Lib.below_iterAt hbw (k := w.heap.size) (Nat.le_refl _) s (pos + (Utf8.decode s pos).2)
        generalize (Utf8.decode s pos).1 = c at *
        generalize (Utf8.decode s pos).2 = k at *
        have Hall := Lib.hid hall
        clear hall hd HD
        rcases hr with hr | hr
        · go_wp2
          go_ret2
          exact readPost_not Hall.out hb2
        · have hr2 : ¬ c < 48 := by omega
          go_wp2
          go_ret2
          exact readPost_not Hall.out hb2
      · have hdec := Lp.rune_dig s pos hp hd
        have hbd := Lp.isDig_bd hd
        have HD2 := Lib.hid (Lp.all_snoc s pos hp HD.out hd)
        have hnx := hnx0
        rw [hdec] at hnx
        have hit2 := Lib.iterAt_heap wr w.heap.size s pos (pos + 1) hit
        have hb2 := Lib.below_iterAt hbw (k := w.heap.size) (Nat.le_refl _) s (pos + 1)
        clear hnx0 hdec hd HD
        generalize (s[pos]'hp).toNat = c at *
        obtain ⟨hc1, hc2⟩ := hbd
        have hc3 : ¬ c < 48 := by omega
        have hc4 : ¬ 57 < c := by omega
        have hp2 := iterPos_of hit2
        go_wp2
        go_roundw
        case rel => exact ⟨pos + 1, hit2, hb2, by omega, HD2⟩
        case measure => rw [hp2, hpos0]; omega
    · have hnx : ∀ ty, (Instr.next (.pointer (some ⟨w.heap.size, 0, none⟩)) true ty).run Tryd.prog wr = _ := fun ty => Lib.run_next_end_at wr w.heap.size s pos ty hit hp
      obtain rfl : pos = s.size := by omega
      have HA : Hid (s.data.toList.all Lp.isDig = true) := by have := HD.out; rw [Lp.take_all] at this; exact this
      clear HD
      obtain ⟨wo, rfl⟩ : ∃ wo : World, wo = wr := ⟨_, rfl⟩
      by_cases h0 : s.size = 0
      · have h0l : s.data.toList = [] := List.eq_nil_of_length_eq_zero (by simpa using h0)
        have Hall := Lib.hid (show Lp.allD s.data.toList = false by rw [h0l]; rfl)
        have h0e : s.toList.isEmpty = true := by rw [ByteArray.toList_eq, h0l]; rfl
        clear h0l
        go_wp2
        go_ret2
        exact readPost_not Hall.out hbw
      · have h0e : s.toList.isEmpty = false := by rw [ByteArray.toList_eq, List.isEmpty_eq_false_iff]; intro h; exact h0 (by simpa using congrArg List.length h)
        have Hall := Lib.hid (show Lp.allD s.data.toList = true by rw [ByteArray.toList_eq] at h0e; simp [Lp.allD, h0e]; simpa using HA.out)
        have hlt := (Array.getElem?_eq_some_iff.1 hit).1
        clear hit hpos0
        go_wp2
        have hKw : w.heap.size ≤ wo.heap.size := by omega
        have hstart := World.iter_heap wo s 0
        have hbstart := hbw.alloc (by omega) (.stringIter s 0)
        clear hnx
        go_loopw [4, 8, 9, 10] (fun n _ _ _ wr => ∃ (pos : Nat) (m : Int), n = .int .i64 m ∧ Hid (m = Lp.dvf 0 (s.data.toList.take pos)) ∧ Hid (Lp.inR m) ∧ wr.heap[wo.heap.size]? = some (.stringIter s pos) ∧ Below w.heap.size w wr ∧ pos ≤ s.size) (fun _ _ _ _ wr => s.size - wr.iterPos wo.heap.size)
        case atStart => exact ⟨0, 0, rfl, rfl, by show Lp.inR 0; decide, hstart, hbstart, Nat.zero_le _⟩
        case round =>
          clear hstart hbstart h0e hbw hp
          obtain ⟨pos, m, rfl, Hm, Hin, hit, hbw, hle⟩ := hrel
          have hpos0 := iterPos_of hit
          by_cases hp : pos < s.size
          · have hd := Lp.all_at s pos hp HA.out
            have hdec := Lp.rune_dig s pos hp hd
            have hbd := Lp.isDig_bd hd
            have hnx : ∀ ty, (Instr.next (.pointer (some ⟨wo.heap.size, 0, none⟩)) true ty).run Tryd.prog wr = _ := fun ty => Lib.run_next_any_at wr wo.heap.size s pos ty hit hp
            rw [hdec] at hnx
            have hit2 := Lib.iterAt_heap wr wo.heap.size s pos (pos + 1) hit
            have hb2 := Lib.below_iterAt hbw (k := wo.heap.size) hKw s (pos + 1)
            have Hm2 : Hid (m * 10 + (((s[pos]'hp).toNat : Int) - 48) = Lp.dvf 0 (s.data.toList.take (pos + 1))) := by
              show _ = _
              rw [Lp.take_snoc s pos hp, Lp.dvf_snoc, ← Hm.out]
            have Hge : Hid (¬ Lp.inR m → ¬ Lp.inR (Lp.dvf 0 s.data.toList)) := fun h => Lp.out_of s pos HA.out (by rw [← Hm.out]; exact h)
            have Hge2 : Hid (¬ Lp.inR (m * 10 + (((s[pos]'hp).toNat : Int) - 48)) → ¬ Lp.inR (Lp.dvf 0 s.data.toList)) := fun h => Lp.out_of s (pos + 1) HA.out (by rw [← Hm2.out]; exact h)
            have Hnn : Hid (0 ≤ m) := by
              show 0 ≤ m
              rw [Hm.out]
              exact Lp.dvf_nonneg (by have := HA.out; rw [List.all_eq_true] at *; intro x hx; exact this x (List.mem_of_mem_take hx))
            clear hdec hd Hm
            generalize (s[pos]'hp).toNat = c at *
            obtain ⟨hc1, hc2⟩ := hbd
            have hc3 : Lp.inR ((c : Int) - 48) := ⟨by omega, by omega⟩
            have hp2 := iterPos_of hit2
            by_cases h1 : Lp.inR (m * 10)
            · by_cases h2 : Lp.inR (m * 10 + ((c : Int) - 48))
              · go_wp2_with (first | (go_at_call 57; refine (mul_in _ _ _ Hin.out (by decide) h1).mono ?_; rintro e w' ⟨rfl, rfl⟩) | (go_at_call 58; refine (add_in _ _ _ h1 hc3 h2).mono ?_; rintro e w' ⟨rfl, rfl⟩))
                go_roundw
                case rel => exact ⟨pos + 1, _, rfl, Hm2, Lib.hid h2, hit2, hb2, by omega⟩
                case measure => rw [hp2, hpos0]; omega
              · have Hout := Lib.hid (Hge2.out h2)
                go_wp2_with (first | (go_at_call 57; refine (mul_in _ _ _ Hin.out (by decide) h1).mono ?_; rintro e w' ⟨rfl, rfl⟩) | (go_at_call 58; refine (add_out _ _ _ h1 hc3 h2).mono ?_; rintro e w' ⟨rfl, rfl⟩))
                go_ret2
                exact readPost_out Hall.out Hout.out hb2
            · have Hout := Lib.hid (Hge2.out (fun h => h1 (by have := Hnn.out; unfold Lp.inR at *; omega)))
              go_wp2_with (first | (go_at_call 57; refine (mul_out _ _ _ Hin.out (by decide) h1).mono ?_; rintro e w' ⟨rfl, rfl⟩))
              go_ret2
              exact readPost_out Hall.out Hout.out hb2
          · have hnx : ∀ ty, (Instr.next (.pointer (some ⟨wo.heap.size, 0, none⟩)) true ty).run Tryd.prog wr = _ := fun ty => Lib.run_next_end_at wr wo.heap.size s pos ty hit hp
            have Hm2 : Hid (m = Lp.dvf 0 s.data.toList) := by
              show _ = _
              obtain rfl : pos = s.size := by omega
              have := Hm.out; rw [Lp.take_all] at this; exact this
            clear Hm
            go_wp2
            go_ret2
            exact readPost_yes Hall.out Hm2.out Hin.out hbw

end Go.Proofs.YtmdmcfobdbccmaaDoor
