/-
  What lapidaryref03's functions on bytes give: a copy, a cut, whether two are the same, which is less, whether one begins with the other. Conditions: lengths below 2^46.
-/
import Derived.Test.YthdnphnipfpdkaaDoorMem
namespace Go.Proofs.YthdnphnipfpdkaaDoor
open Go.RowKit

/-- The bytes of v behind a call: the call's own, of that list. -/
def GaveB (w : World) (l : List UInt8) (e : Ending) (w' : World) : Prop :=
  ∃ A c, e = .returned (.slice A l.length c) ∧ OwnB w' w.heap.size A c l ∧ Below w.heap.size w w'

theorem copy3_any (A : Option Addr) (c : Nat) (l : List UInt8) (w : World) (h : Rds w A (bv l)) (hn : l.length ≤ 70368744177664) :
    Calls Tryd.prog 17 #[.slice A l.length c] w (GaveB w l) := by
  obtain ⟨i0, hi0, hz0, hz1, hz2⟩ := info_parts byteInfo
  have hown0 := World.ownsRow_made (e := 5) (size := 1) w #[] 0 (Nat.le_refl _) (by simp [maxLen]) rfl
  have hr0 := h.below ((Below.refl _ _).alloc (Nat.le_refl _) (.cells #[] 5))
  go_enter Tryd.func17, Tryd.ntmps17
  go_wp2_with (at_builtin; refine wpList_app _ rfl (.tmp 3) (.tmp 4) _ rfl w.heap.size 5 i0 _ 1 1 Tryd.underlying22 hi0 hz0 hz1 hz2 rfl (by omega) _ 0 0 [] rfl hown0 A l.length c (bv l) rfl (by simp [bv_length]) hr0 (bv_one l) (by simp only [maxLen]; omega) (by omega) (by simp) ?_; intro A1 c1 w1 hown1 hb1 hg1 _)
  go_ret
  simp only [Nat.zero_add, List.nil_append] at hown1
  exact ⟨A1, c1, rfl, hown1, ((Below.refl _ _).alloc (Nat.le_refl _) _).trans hb1⟩

theorem cut3_all (A : Option Addr) (c : Nat) (l : List UInt8) (n : Int) (hn0 : 0 ≤ n) (w : World) (h : Rds w A (bv l)) (hn : n ≤ 70368744177664) (hle : (l.length : Int) ≤ n) (hc : l.length ≤ c) :
    Calls Tryd.prog 16 #[.slice A l.length c, .int .i64 n] w (GaveB w (l.take n.toNat)) := by
  obtain ⟨i0, hi0, hz0, hz1, hz2⟩ := info_parts byteInfo
  have hown0 := World.ownsRow_made (e := 5) (size := 1) w #[] 0 (Nat.le_refl _) (by simp [maxLen]) rfl
  have hr0 := (h.take n.toNat).below ((Below.refl _ _).alloc (Nat.le_refl _) (.cells #[] 5))
  rw [bv_take] at hr0
  have hl0 : Hid ((l.take n.toNat).length = l.length) := by show _ = _; rw [List.length_take]; omega
  go_enter Tryd.func16, Tryd.ntmps16
  go_wp2_with (at_builtin; refine wpList_app _ rfl (.tmp 5) (.tmp 11) _ rfl w.heap.size 5 i0 _ 1 1 Tryd.underlying22 hi0 hz0 hz1 hz2 rfl (by omega) _ 0 0 [] rfl hown0 A l.length c (bv (l.take n.toNat)) rfl (by rw [bv_length, hl0.out, Nat.mul_one]) hr0 (bv_one _) (by simp only [maxLen]; omega) (by omega) (by simp) ?_; intro A1 c1 w1 hown1 hb1 hg1 _)
  go_ret
  have hl1 := hl0.out
  simp only [Nat.zero_add, List.nil_append] at hown1
  exact ⟨A1, c1, by rw [hl1]; rfl, by unfold OwnB; rw [hl1]; exact hown1, ((Below.refl _ _).alloc (Nat.le_refl _) _).trans hb1⟩

theorem cut3_some (A : Option Addr) (c : Nat) (l : List UInt8) (n : Int) (hn0 : 0 ≤ n) (w : World) (h : Rds w A (bv l)) (hn : n ≤ 70368744177664) (hle : n < (l.length : Int)) (hc : l.length ≤ c) :
    Calls Tryd.prog 16 #[.slice A l.length c, .int .i64 n] w (GaveB w (l.take n.toNat)) := by
  obtain ⟨i0, hi0, hz0, hz1, hz2⟩ := info_parts byteInfo
  have hown0 := World.ownsRow_made (e := 5) (size := 1) w #[] 0 (Nat.le_refl _) (by simp [maxLen]) rfl
  have hr0 := (h.take n.toNat).below ((Below.refl _ _).alloc (Nat.le_refl _) (.cells #[] 5))
  rw [bv_take] at hr0
  have hl0 : Hid ((l.take n.toNat).length = n.toNat) := by show _ = _; rw [List.length_take]; omega
  go_enter Tryd.func16, Tryd.ntmps16
  go_wp2_with (at_builtin; refine wpList_app _ rfl (.tmp 5) (.tmp 11) _ rfl w.heap.size 5 i0 _ 1 1 Tryd.underlying22 hi0 hz0 hz1 hz2 rfl (by omega) _ 0 0 [] rfl hown0 A n.toNat c (bv (l.take n.toNat)) rfl (by rw [bv_length, hl0.out, Nat.mul_one]) hr0 (bv_one _) (by simp only [maxLen]; omega) (by omega) (by simp) ?_; intro A1 c1 w1 hown1 hb1 hg1 _)
  go_ret
  have hl1 := hl0.out
  simp only [Nat.zero_add, List.nil_append] at hown1
  exact ⟨A1, c1, by rw [hl1]; rfl, by unfold OwnB; rw [hl1]; exact hown1, ((Below.refl _ _).alloc (Nat.le_refl _) _).trans hb1⟩

theorem cut3_any (A : Option Addr) (c : Nat) (l : List UInt8) (n : Int) (hn0 : 0 ≤ n) (w : World) (h : Rds w A (bv l)) (hn : n ≤ 70368744177664) (hc : l.length ≤ c) :
    Calls Tryd.prog 16 #[.slice A l.length c, .int .i64 n] w (GaveB w (l.take n.toNat)) := by
  by_cases hle : (l.length : Int) ≤ n
  · exact cut3_all A c l n hn0 w h hn hle hc
  · exact cut3_some A c l n hn0 w h hn (by omega) hc

theorem same3_any (A1 A2 : Option Addr) (c1 c2 : Nat) (l1 l2 : List UInt8) (n1 n2 : Nat) (hn1 : n1 = l1.length) (hn2 : n2 = l2.length) (w : World) (h1 : Rds w A1 (bv l1)) (h2 : Rds w A2 (bv l2)) :
    Calls Tryd.prog 19 #[.slice A1 n1 c1, .slice A2 n2 c2] w fun e w' => e = .returned (.bool (l1 == l2)) ∧ w = w' := by
  have e1 := conv_rds n1 c1 hn1 h1
  have e2 := conv_rds n2 c2 hn2 h2
  clear hn1 hn2
  go_enter Tryd.func19, Tryd.ntmps19
  go_wp2
  go_ret
  exact ⟨rfl, rfl⟩

theorem less3_any (A1 A2 : Option Addr) (c1 c2 : Nat) (l1 l2 : List UInt8) (n1 n2 : Nat) (hn1 : n1 = l1.length) (hn2 : n2 = l2.length) (w : World) (h1 : Rds w A1 (bv l1)) (h2 : Rds w A2 (bv l2)) :
    Calls Tryd.prog 20 #[.slice A1 n1 c1, .slice A2 n2 c2] w fun e w' => e = .returned (.bool (Op.bytesLess l1 l2)) ∧ w = w' := by
  have e1 := conv_rds n1 c1 hn1 h1
  have e2 := conv_rds n2 c2 hn2 h2
  clear hn1 hn2
  go_enter Tryd.func20, Tryd.ntmps20
  go_wp2
  go_ret
  exact ⟨rfl, rfl⟩

theorem begins3_any (A1 A2 : Option Addr) (c1 c2 : Nat) (l1 l2 : List UInt8) (n1 n2 : Nat) (hn1 : n1 = l1.length) (hn2 : n2 = l2.length) (w : World) (h1 : Rds w A1 (bv l1)) (h2 : Rds w A2 (bv l2)) (hc : n1 ≤ c1) :
    Calls Tryd.prog 21 #[.slice A1 n1 c1, .slice A2 n2 c2] w fun e w' => e = .returned (.bool (decide (n2 ≤ n1) && l1.take n2 == l2)) ∧ w = w' := by
  by_cases hle : n2 ≤ n1
  · have h1' := h1.take n2
    rw [bv_take] at h1'
    have hl : n2 = (l1.take n2).length := by rw [List.length_take]; omega
    have H1 := Lib.hid hn1; have H2 := Lib.hid hn2; have HL := Lib.hid hl
    clear hn1 hn2 hl
    rw [decide_eq_true hle, Bool.true_and]
    have hle' : (n2 : Int) ≤ (n1 : Int) := by omega
    go_enter Tryd.func21, Tryd.ntmps21
    go_wp2_with (go_at_call 19; refine (same3_any _ _ _ _ _ _ _ _ HL.out H2.out _ h1' h2).mono ?_; rintro e w' ⟨rfl, rfl⟩)
    go_ret
    exact ⟨rfl, rfl⟩
  · rw [decide_eq_false hle, Bool.false_and]
    clear hn1 hn2
    have hle' : ¬ (n2 : Int) ≤ (n1 : Int) := by omega
    go_enter Tryd.func21, Tryd.ntmps21
    go_wp2
    go_ret
    exact ⟨rfl, rfl⟩
end Go.Proofs.YthdnphnipfpdkaaDoor
