/-
  What lapidaryref14's lower gives. Conditions: at most 10^9 bytes.
-/
import Derived.Test.YtmdmcfobdbccmaaDoorLexA
import Derived.Test.YtmdmcfobdbccmaaDoorMem
import Derived.Lib.Strings
import Derived.Deep.LoopGhost
namespace Go.Proofs.YtmdmcfobdbccmaaDoor
open Go.RowKit

theorem low_up {c : UInt8} (h1 : 65 ≤ c.toNat) (h2 : c.toNat ≤ 90) : ((Lp.lowB c).toNat : Int) = (c.toNat : Int) + 32 := by
  unfold Lp.lowB
  rw [if_pos ⟨h1, h2⟩, UInt8.toNat_add]
  have : (32 : UInt8).toNat = 32 := rfl
  rw [this]; omega
theorem low_no {c : UInt8} (h : c.toNat < 65 ∨ 90 < c.toNat) : Lp.lowB c = c := by
  unfold Lp.lowB; rw [if_neg (by omega)]
theorem low_more {w : World} {B c k : Nat} {A : Option Addr} {s : ByteArray} (hk : k < s.size) (h : w.ownsRow B 5 1 (.slice A (k + 1) c) (k + 1) (bv ((s.data.toList.take k).map Lp.lowB) ++ [.int .u8 ((Lp.lowB (s[k]'hk)).toNat : Int)])) :
    w.ownsRow B 5 1 (.slice A (k + 1) c) (k + 1) (bv ((s.data.toList.take (k + 1)).map Lp.lowB)) := by
  rw [Lp.take_snoc s k hk, List.map_append, bv_append]; exact h
set_option maxRecDepth 100000 in
set_option maxHeartbeats 4000000 in
theorem lower_any (s : ByteArray) (w : World) (hs : s.size ≤ 1000000000) :
    Calls Tryd.prog 20 #[.string s] w fun e w' => e = .returned (.string ⟨(s.data.toList.map Lp.lowB).toArray⟩) ∧ Below w.heap.size w w' := by
  obtain ⟨i0, hi0, hz0, hz1, hz2⟩ := info_parts byteInfo
  go_enter Tryd.func20, Tryd.ntmps20
  go_wp2_with fail
  go_loopg [3, 4, 5] (s.size + 1) (fun gk s3 s4 _ wr => ∃ (k : Nat) (A : Option Addr) (c : Nat), k ≤ s.size ∧ gk = s.size + 1 - k ∧ s4 = .int .i64 k ∧ s3 = .slice A k c ∧ wr.ownsRow w.heap.size 5 1 (.slice A k c) k (bv ((s.data.toList.take k).map Lp.lowB)) ∧ Below w.heap.size w wr)
  case atStart => exact ⟨0, none, 0, by omega, by omega, rfl, rfl, World.ownsRow_nil _ _ _ _, Below.refl _ _⟩
  case round =>
    obtain ⟨k, A, c, hle, rfl, rfl, rfl, hown, hbw⟩ := hrel
    have hsz := hbw.size
    by_cases hlt : k < s.size
    · have hbl := (s[k]'hlt).toNat_lt
      have hm := fun W A c h => @low_more W w.heap.size c k A s hlt h
      by_cases hup : 65 ≤ (s[k]'hlt).toNat ∧ (s[k]'hlt).toNat ≤ 90
      · obtain ⟨h1, h2⟩ := hup
        have hlu := Lib.hid (low_up h1 h2)
        have HM := Lib.hid hm
        clear hm
        obtain ⟨x, hx⟩ : ∃ x, (s[k]'hlt).toNat = x := ⟨_, rfl⟩
        rw [hx] at h1 h2 hbl
        have hxa : ¬ x < 65 := by omega
        have hxb : ¬ 90 < x := by omega
        go_wp2_with (at_builtin; refine wpList_app _ rfl (.tmp 23) (.tmp 25) _ rfl w.heap.size 5 i0 _ 1 1 Tryd.underlying34 hi0 hz0 hz1 hz2 rfl (by omega) _ _ _ _ rfl (hown.alloc _) _ 1 1 [.int .u8 ((x : Int) + 32)] rfl rfl (rds_new _ _ _) (by simp [Value.oneCell']) (by simp only [maxLen]; omega) (by omega) (by simp; omega) ?_; intro A2 c2 w2 hown2 hb2 _ _)
        have hown3 := HM.out w2 A2 c2 (by rw [hlu.out, hx]; exact hown2)
        have hbw3 := (hbw.alloc hsz _).trans hb2
        clear hown2 hb2 hown hbw
        go_wp2
        go_roundg (s.size + 1 - (k + 1))
        case measure => omega
        case rel => exact ⟨k + 1, A2, c2, by omega, rfl, by go_num, rfl, hown3, hbw3⟩
      · have hlo := Lib.hid (low_no (c := s[k]'hlt) (by omega))
        have HM := Lib.hid hm
        clear hm
        obtain ⟨x, hx⟩ : ∃ x, (s[k]'hlt).toNat = x := ⟨_, rfl⟩
        rw [hx] at hup hbl
        rcases (show x < 65 ∨ 90 < x by omega) with h1 | h1
        all_goals
          clear hup
          go_wp2_with (at_builtin; refine wpList_app _ rfl (.tmp 23) (.tmp 25) _ rfl w.heap.size 5 i0 _ 1 1 Tryd.underlying34 hi0 hz0 hz1 hz2 rfl (by omega) _ _ _ _ rfl (hown.alloc _) _ 1 1 [.int .u8 ((x : Int))] rfl rfl (rds_new _ _ _) (by simp [Value.oneCell']) (by simp only [maxLen]; omega) (by omega) (by simp; omega) ?_; intro A2 c2 w2 hown2 hb2 _ _)
          have hown3 := HM.out w2 A2 c2 (by rw [hlo.out, hx]; exact hown2)
          have hbw3 := (hbw.alloc hsz _).trans hb2
          clear hown2 hb2 hown hbw
          go_wp2
          go_roundg (s.size + 1 - (k + 1))
          case measure => omega
          case rel => exact ⟨k + 1, A2, c2, by omega, rfl, by go_num, rfl, hown3, hbw3⟩
    · obtain rfl : k = s.size := by omega
      have hr : Rds wr A (bv (s.data.toList.map Lp.lowB)) := by
        have := Rds.own hown
        rw [Lp.take_all] at this; exact this
      have hcv := conv_rds s.size c (by rw [List.length_map, Array.length_toList]; rfl) hr
      go_wp2
      go_ret
      exact ⟨rfl, hbw⟩
end Go.Proofs.YtmdmcfobdbccmaaDoor
