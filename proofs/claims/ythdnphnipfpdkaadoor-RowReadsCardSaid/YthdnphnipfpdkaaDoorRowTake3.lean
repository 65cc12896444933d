/-
  What row.take gives, of any bytes, at truth's kind; and at any right kind. Conditions: unicode/utf8's tables as laid; lengths as a slice can have.
-/
import Derived.Test.YthdnphnipfpdkaaDoorRowTake
namespace Go.Proofs.YthdnphnipfpdkaaDoor
open Go.RowKit

set_option maxRecDepth 100000 in
set_option maxHeartbeats 4000000 in
theorem take4_bool (A : Option Addr) (n c : Nat) (l : List UInt8) (hnl : n = l.length) (w : World) (h : Rds w A (bv l)) (hc : n ≤ c) (hcm : n ≤ 1000000) :
    Calls Tryd.prog 48 #[.int .u8 3, .slice A n c] w (TakePost w A (Lp.rtake 3 l)) := by
  subst hnl
  have hb2 : ∀ o1 o2, Below w.heap.size w ((w.alloc o1).alloc o2) := fun o1 o2 => ((Below.refl w.heap.size w).alloc (Nat.le_refl _) o1).alloc (by simp) o2
  have HX := Lib.hid hb2
  clear hb2
  rcases l with _ | ⟨x, r⟩
  · have HK : Hid (Lp.rtake 3 [] = none) := rfl
    go_enter Tryd.func48, Tryd.ntmps48
    go_wp2
    exact bodyPost_ret (v := .tuple #[.agg #[.int .u8 3, .int .i64 0, .string ⟨#[]⟩, .bool false], .slice none 0 0, .bool false]) (by simp [results, Tryd.results48, go_sem]) rfl (take_no ⟨3, 0, ⟨#[]⟩, false⟩ (HX.out _ _) HK.out)
  · obtain ⟨b, off, rfl, p0⟩ := h.at_ (k := 0) (u := .int .u8 x.toNat) rfl
    have hlt := World.block_lt_of_cell? w _ p0
    simp only [Nat.add_zero] at p0 hlt
    have hxl := x.toNat_lt
    have el : ((r.length : Int) + 1 == 0) = false := by simp; omega
    simp only [List.length_cons] at hc hcm ⊢
    by_cases hx1 : x.toNat ≤ 1
    · have HK : Hid (Lp.rtake 3 (x :: r) = some (Lp.vBool (x == 1), r)) := by show _ = _; simp [Lp.rtake, hx1]
      have hxb : ((x.toNat : Int) == 1) = (x == 1) := by
        rw [Bool.eq_iff_iff]; simp [← UInt8.toNat_inj]; omega
      have hr1 := h.drop 1 (cap := c) (by rw [bv_length, List.length_cons]; exact hc)
      by_cases hc1 : c = 1
      · subst hc1
        have hr0 : r.length = 0 := by omega
        have hrn : r = [] := List.eq_nil_of_length_eq_zero hr0
        subst hrn
        clear hr0
        go_enter Tryd.func48, Tryd.ntmps48
        go_wp2_with fail
        go_region
        go_wp2
        exact bodyPost_ret (v := .tuple #[.agg #[.int .u8 3, .int .i64 0, .string ⟨#[]⟩, .bool (x == 1)], .slice (some ⟨b, off, none⟩) 0 0, .bool true]) (by simp [results, Tryd.results48, go_sem]) rfl (take_yes (hB := ⟨_, _, _, rfl, rfl⟩) (v := Lp.vBool (x == 1)) (HX.out _ _).drew HK.out rfl (Nat.le_refl _) Rds.nil_ (vbool_ok _))
      · rw [if_neg hc1] at hr1
        have hd4 : Rds w (some ⟨b, off + 1, none⟩) (bv r) := hr1
        clear hr1
        go_enter Tryd.func48, Tryd.ntmps48
        go_wp2_with fail
        go_region
        go_wp2
        exact bodyPost_ret (v := .tuple #[.agg #[.int .u8 3, .int .i64 0, .string ⟨#[]⟩, .bool (x == 1)], .slice (some ⟨b, off + 1, none⟩) r.length (c - 1), .bool true]) (by simp [results, Tryd.results48, go_sem]) rfl (take_yes (hB := ⟨_, _, _, rfl, rfl⟩) (v := Lp.vBool (x == 1)) (HX.out _ _).drew HK.out rfl (by omega) (hd4.below (HX.out _ _).drew) (vbool_ok _))
    · have HK : Hid (Lp.rtake 3 (x :: r) = none) := by show _ = _; simp [Lp.rtake, hx1]
      have hx2 : (1 : Int) < (x.toNat : Int) := by omega
      go_enter Tryd.func48, Tryd.ntmps48
      go_wp2
      exact bodyPost_ret (v := .tuple #[.agg #[.int .u8 3, .int .i64 0, .string ⟨#[]⟩, .bool false], .slice none 0 0, .bool false]) (by simp [results, Tryd.results48, go_sem]) rfl (take_no ⟨3, 0, ⟨#[]⟩, false⟩ (HX.out _ _) HK.out)
end Go.Proofs.YthdnphnipfpdkaaDoor
