/-
  What row.take gives, of any bytes, at a text's kind and at truth's. Conditions: unicode/utf8's tables as laid; lengths as a slice can have.
-/
import Derived.Test.YthdnphnipfpdkaaDoorRowTake
namespace Go.Proofs.YthdnphnipfpdkaaDoor
open Go.RowKit

theorem rightB_text (T : List UInt8) : Lp.rightB 2 0 ⟨T.toArray⟩ false = (decide (T.length ≤ 60) && Lp.textOk T) := by
  unfold Lp.rightB
  simp [ByteArray.size]
theorem far4 {w4 : World} {g h o : Nat} (hne : h ≠ g) (u0 u1 u2 u3 : Value) :
    ((((w4.setCell ⟨g, 0, none⟩ u0).setCell ⟨g, 1, none⟩ u1).setCell ⟨g, 2, none⟩ u2).setCell ⟨g, 3, none⟩ u3).cell? ⟨h, o, none⟩ = w4.cell? ⟨h, o, none⟩ := by
  have e : ∀ (W : World) (j : Nat) (u : Value), (W.setCell ⟨g, j, none⟩ u).cell? ⟨h, o, none⟩ = W.cell? ⟨h, o, none⟩ := by
    intro W j u
    exact World.cell?_setCell_other _ _ _ _ (by intro q; injection q with q1; exact hne q1.symm)
  rw [e, e, e, e]
set_option maxRecDepth 100000 in
set_option maxHeartbeats 4000000 in
theorem take4_text_r0 (b off c : Nat) (x : UInt8) (r : List UInt8) (w : World) (h : Rds w (some ⟨b, off, none⟩) (bv (x :: r))) (p0 : w.cell? ⟨b, off, none⟩ = some (.int .u8 x.toNat)) (hc : r.length + 1 ≤ c) (hcm : r.length + 1 ≤ 1000000) (hT : Tabs w)
    (hxr : x.toNat ≤ r.length) (hok : Lp.textOk (r.take x.toNat) = true ∧ (r.take x.toNat).length ≤ 60) (hc1 : c = 1) :
    Calls Tryd.prog 48 #[.int .u8 2, .slice (some ⟨b, off, none⟩) (r.length + 1) c] w (TakePost w (some ⟨b, off, none⟩) (Lp.rtake 2 (x :: r))) := by
  have hb2 : ∀ o1 o2, Below w.heap.size w ((w.alloc o1).alloc o2) := fun o1 o2 => ((Below.refl w.heap.size w).alloc (Nat.le_refl _) o1).alloc (by simp) o2
  have HX := Lib.hid hb2
  clear hb2
  have hlt : b < w.heap.size := World.block_lt_of_cell? w _ p0
  have hxl := x.toNat_lt
  have el : ((r.length : Int) + 1 == 0) = false := by simp; omega
  have HKB : Hid (¬ (Lp.textOk (r.take x.toNat) = true ∧ (r.take x.toNat).length ≤ 60) → Lp.rtake 2 (x :: r) = none) := Lib.hid fun g => by
    have hl : (r.take x.toNat).length = x.toNat := by rw [List.length_take]; omega
    simp only [Lp.rtake]
    rw [if_neg (by decide), if_pos trivial, if_neg (fun q => g ⟨q.2.1, by rw [hl]; exact q.2.2⟩)]
  have HKY : Hid ((Lp.textOk (r.take x.toNat) = true ∧ (r.take x.toNat).length ≤ 60) → Lp.rtake 2 (x :: r) = some (Lp.vText (r.take x.toNat), r.drop x.toNat)) := Lib.hid fun g => by
    have hl : (r.take x.toNat).length = x.toNat := by rw [List.length_take]; omega
    simp only [Lp.rtake]
    rw [if_neg (by decide), if_pos trivial, if_pos ⟨hxr, g.1, by rw [← hl]; exact g.2⟩]
  have hrd := h.drop (1 + x.toNat) (cap := c) (by rw [bv_length, List.length_cons]; exact hc)
  have hdrop : (bv (x :: r)).drop (1 + x.toNat) = bv (r.drop x.toNat) := by rw [Nat.add_comm, bv_drop]; rfl
  rw [hdrop] at hrd
  have hr1 := h.drop 1 (cap := c) (by rw [bv_length, List.length_cons]; exact hc)
  have hr2 := Rds.take hr1 x.toNat
  have hdrop2 : ((bv (x :: r)).drop 1).take x.toNat = bv (r.take x.toNat) := by
    show (bv r).take _ = _
    rw [bv_take]
  rw [hdrop2] at hr2
  have hTl : Hid ((r.take x.toNat).length = x.toNat) := by show _ = _; rw [List.length_take]; omega
  have hres := box_alloc (heap_alloc_new w (.cells #[.int .u8 0, .int .i64 0, .string ⟨#[]⟩, .bool false] 36)) (.cells #[.int .u8 2, .int .i64 0, .string ⟨(r.take x.toNat).toArray⟩, .bool false] 36)
  have hxv := heap_alloc_new (w.alloc (.cells #[.int .u8 0, .int .i64 0, .string ⟨#[]⟩, .bool false] 36)) (.cells #[.int .u8 2, .int .i64 0, .string ⟨(r.take x.toNat).toArray⟩, .bool false] 36)
  have hsv : (w.alloc (.cells #[.int .u8 0, .int .i64 0, .string ⟨#[]⟩, .bool false] 36)).heap.size = w.heap.size + 1 := by simp
  rw [hsv] at hxv
  have hT3 := tabs_alloc (tabs_alloc hT (.cells #[.int .u8 0, .int .i64 0, .string ⟨#[]⟩, .bool false] 36)) (.cells #[.int .u8 2, .int .i64 0, .string ⟨(r.take x.toNat).toArray⟩, .bool false] 36)
  have hbw3 := HX.out (.cells #[.int .u8 0, .int .i64 0, .string ⟨#[]⟩, .bool false] 36) (.cells #[.int .u8 2, .int .i64 0, .string ⟨(r.take x.toNat).toArray⟩, .bool false] 36)
  have hrb := Lib.hid (rightB_text (r.take x.toNat))
  clear hsv hdrop hdrop2 hr1
  have HRL : Hid ((r.drop x.toNat).length = r.length - x.toNat) := by show _ = _; simp
  generalize r.drop x.toNat = R at *
  generalize r.take x.toNat = T at *
  generalize x.toNat = X at *
  have HK := Lib.hid (HKY.out hok)
  have HR : Hid (Lp.rightB 2 0 ⟨T.toArray⟩ false = true) := by show _ = _; rw [hrb.out]; simp [hok]
  clear HKY HKB hok hrb
  subst hc1
  obtain rfl : X = 0 := by omega
  rw [if_pos rfl] at hr2 hrd
  have hr0 : r.length = 0 := by omega
  have HR0 := Lib.hid hr0
  clear hr0
  have hcv := conv_rds 0 0 (by have := hTl.out; omega) (hr2.below (HX.out (.cells #[.int .u8 0, .int .i64 0, .string ⟨#[]⟩, .bool false] 36) (.cells #[.int .u8 2, .int .i64 0, .string ⟨#[]⟩, .bool false] 36)))
  go_enter Tryd.func48, Tryd.ntmps48
  go_wp2_with fail
  clear hcv
  generalize (w.alloc (.cells #[.int .u8 0, .int .i64 0, .string ⟨#[]⟩, .bool false] 36)).alloc (.cells #[.int .u8 2, .int .i64 0, .string ⟨T.toArray⟩, .bool false] 36) = w3 at *
  have hcx := box_cells hxv
  have hcr := box_cells hres
  have hz3 := hbw3.size
  have hwz : IntKind.i64.wrap 1 = 1 := IntWalk.i64_in _ (by omega)
  have hw0 : IntKind.i64.wrap (0 : Int) = (0 : Int) := IntWalk.i64_in _ (by omega)
  have hw1 : IntKind.i64.wrap (1 + (0 : Int)) = 1 + (0 : Int) := IntWalk.i64_in _ (by omega)
  have hw2 : (0 : Int) ≤ 1 + (0 : Int) := by omega
  have hw3 : (1 + (0 : Int)).toNat = 1 + 0 := by omega
  have hw4 : 1 + (0 : Int) ≤ (r.length : Int) + 1 := by omega
  have hgne : w.heap.size + 1 ≠ w.heap.size := by omega
  have hbne : b ≠ w.heap.size := by omega
  have p03 := (hbw3.cell (p := ⟨b, off, none⟩) hlt).trans p0
  go_region_held3 (fun w' => w'.cell? ⟨w.heap.size + 1, 0, none⟩ = some (.int .u8 2) ∧ w'.cell? ⟨w.heap.size + 1, 1, none⟩ = some (.int .i64 0) ∧ w'.cell? ⟨w.heap.size + 1, 2, none⟩ = some (.string ⟨T.toArray⟩) ∧ w'.cell? ⟨w.heap.size + 1, 3, none⟩ = some (.bool false) ∧ w'.cell? ⟨b, off, none⟩ = some (.int .u8 0))
    (first | (refine ⟨?_, ?_, ?_, ?_, ?_⟩; rw [far4 hgne]; exact hx4 0; rw [far4 hgne]; exact hx4 1; rw [far4 hgne]; exact hx4 2; rw [far4 hgne]; exact hx4 3; rw [far4 hbne]; exact p04) | exact ⟨hx4 0, hx4 1, hx4 2, hx4 3, p04⟩ | exact ⟨hcx 0, hcx 1, hcx 2, hcx 3, p03⟩)
    ((go_at_call 39; refine (right_at _ _ _ _ _ HR.out _ ?_ ?_).mono ?_
      · have := hTl.out; simp only [ByteArray.size, List.size_toArray]; omega
      · exact tabs_below hT3 (by repeat (first | exact Below.refl _ _ | apply Below.drew))
      rintro e w4 ⟨rfl, hb4⟩
      have hb4' := Below.trans (a := w3) (by repeat (first | exact Below.refl _ _ | apply Below.drew)) hb4
      have hx4 := box_cells (box_below hxv hb4')
      have hr4 := box_cells (box_below hres hb4')
      have hf4 := fun j => frozen_of_row w4 w.heap.size j _ _ (box_below hres hb4')
      have p04 := (hb4'.cell (p := ⟨b, off, none⟩) (World.block_lt_of_cell? w3 _ p03)).trans p03))
  go_wp2
  have hbE := ((((hbw3.trans (hb4'.mono hz3)).setCell (p := ⟨w.heap.size, 0, none⟩) (Nat.le_refl _) (.int .u8 2)).setCell (p := ⟨w.heap.size, 1, none⟩) (Nat.le_refl _) (.int .i64 0)).setCell (p := ⟨w.heap.size, 2, none⟩) (Nat.le_refl _) (.string ⟨T.toArray⟩)).setCell (p := ⟨w.heap.size, 3, none⟩) (Nat.le_refl _) (.bool false)
  exact bodyPost_ret (v := .tuple #[.agg #[.int .u8 2, .int .i64 0, .string ⟨T.toArray⟩, .bool false], .slice (some ⟨b, off, none⟩) 0 0, .bool true]) (by simp [results, Tryd.results48, go_sem, hr4]) rfl (take_yes (hB := ⟨_, _, _, rfl, rfl⟩) (v := Lp.vText T) hbE HK.out (by rw [HRL.out, HR0.out]) (by omega) (hrd.below hbE) (vtext_ok (by have := hTl.out; omega)))
set_option maxRecDepth 100000 in
set_option maxHeartbeats 4000000 in
theorem take4_text_r1 (b off c : Nat) (x : UInt8) (r : List UInt8) (w : World) (h : Rds w (some ⟨b, off, none⟩) (bv (x :: r))) (p0 : w.cell? ⟨b, off, none⟩ = some (.int .u8 x.toNat)) (hc : r.length + 1 ≤ c) (hcm : r.length + 1 ≤ 1000000) (hT : Tabs w)
    (hxr : x.toNat ≤ r.length) (hok : Lp.textOk (r.take x.toNat) = true ∧ (r.take x.toNat).length ≤ 60) (hc1 : ¬ c = 1) (hcX : c = 1 + x.toNat) :
    Calls Tryd.prog 48 #[.int .u8 2, .slice (some ⟨b, off, none⟩) (r.length + 1) c] w (TakePost w (some ⟨b, off, none⟩) (Lp.rtake 2 (x :: r))) := by
  have hb2 : ∀ o1 o2, Below w.heap.size w ((w.alloc o1).alloc o2) := fun o1 o2 => ((Below.refl w.heap.size w).alloc (Nat.le_refl _) o1).alloc (by simp) o2
  have HX := Lib.hid hb2
  clear hb2
  have hlt : b < w.heap.size := World.block_lt_of_cell? w _ p0
  have hxl := x.toNat_lt
  have el : ((r.length : Int) + 1 == 0) = false := by simp; omega
  have HKB : Hid (¬ (Lp.textOk (r.take x.toNat) = true ∧ (r.take x.toNat).length ≤ 60) → Lp.rtake 2 (x :: r) = none) := Lib.hid fun g => by
    have hl : (r.take x.toNat).length = x.toNat := by rw [List.length_take]; omega
    simp only [Lp.rtake]
    rw [if_neg (by decide), if_pos trivial, if_neg (fun q => g ⟨q.2.1, by rw [hl]; exact q.2.2⟩)]
  have HKY : Hid ((Lp.textOk (r.take x.toNat) = true ∧ (r.take x.toNat).length ≤ 60) → Lp.rtake 2 (x :: r) = some (Lp.vText (r.take x.toNat), r.drop x.toNat)) := Lib.hid fun g => by
    have hl : (r.take x.toNat).length = x.toNat := by rw [List.length_take]; omega
    simp only [Lp.rtake]
    rw [if_neg (by decide), if_pos trivial, if_pos ⟨hxr, g.1, by rw [← hl]; exact g.2⟩]
  have hrd := h.drop (1 + x.toNat) (cap := c) (by rw [bv_length, List.length_cons]; exact hc)
  have hdrop : (bv (x :: r)).drop (1 + x.toNat) = bv (r.drop x.toNat) := by rw [Nat.add_comm, bv_drop]; rfl
  rw [hdrop] at hrd
  have hr1 := h.drop 1 (cap := c) (by rw [bv_length, List.length_cons]; exact hc)
  have hr2 := Rds.take hr1 x.toNat
  have hdrop2 : ((bv (x :: r)).drop 1).take x.toNat = bv (r.take x.toNat) := by
    show (bv r).take _ = _
    rw [bv_take]
  rw [hdrop2] at hr2
  have hTl : Hid ((r.take x.toNat).length = x.toNat) := by show _ = _; rw [List.length_take]; omega
  have hres := box_alloc (heap_alloc_new w (.cells #[.int .u8 0, .int .i64 0, .string ⟨#[]⟩, .bool false] 36)) (.cells #[.int .u8 2, .int .i64 0, .string ⟨(r.take x.toNat).toArray⟩, .bool false] 36)
  have hxv := heap_alloc_new (w.alloc (.cells #[.int .u8 0, .int .i64 0, .string ⟨#[]⟩, .bool false] 36)) (.cells #[.int .u8 2, .int .i64 0, .string ⟨(r.take x.toNat).toArray⟩, .bool false] 36)
  have hsv : (w.alloc (.cells #[.int .u8 0, .int .i64 0, .string ⟨#[]⟩, .bool false] 36)).heap.size = w.heap.size + 1 := by simp
  rw [hsv] at hxv
  have hT3 := tabs_alloc (tabs_alloc hT (.cells #[.int .u8 0, .int .i64 0, .string ⟨#[]⟩, .bool false] 36)) (.cells #[.int .u8 2, .int .i64 0, .string ⟨(r.take x.toNat).toArray⟩, .bool false] 36)
  have hbw3 := HX.out (.cells #[.int .u8 0, .int .i64 0, .string ⟨#[]⟩, .bool false] 36) (.cells #[.int .u8 2, .int .i64 0, .string ⟨(r.take x.toNat).toArray⟩, .bool false] 36)
  have hrb := Lib.hid (rightB_text (r.take x.toNat))
  clear hsv hdrop hdrop2 hr1
  have HRL : Hid ((r.drop x.toNat).length = r.length - x.toNat) := by show _ = _; simp
  generalize r.drop x.toNat = R at *
  generalize r.take x.toNat = T at *
  generalize x.toNat = X at *
  have HK := Lib.hid (HKY.out hok)
  have HR : Hid (Lp.rightB 2 0 ⟨T.toArray⟩ false = true) := by show _ = _; rw [hrb.out]; simp [hok]
  clear HKY HKB hok hrb
  have hcb : (c == 1) = false := by simpa using hc1
  rw [if_neg hc1] at hr2
  simp only [Option.map_some, Nat.mul_one, addr_plus] at hr2
  have hcv := conv_rds X (c - 1) hTl.out.symm (hr2.below (HX.out (.cells #[.int .u8 0, .int .i64 0, .string ⟨#[]⟩, .bool false] 36) (.cells #[.int .u8 2, .int .i64 0, .string ⟨#[]⟩, .bool false] 36)))
  rw [if_pos hcX] at hrd
  subst hcX
  rw [Nat.add_sub_cancel_left] at hcv
  go_enter Tryd.func48, Tryd.ntmps48
  go_wp2_with fail
  clear hcv
  generalize (w.alloc (.cells #[.int .u8 0, .int .i64 0, .string ⟨#[]⟩, .bool false] 36)).alloc (.cells #[.int .u8 2, .int .i64 0, .string ⟨T.toArray⟩, .bool false] 36) = w3 at *
  have hcx := box_cells hxv
  have hcr := box_cells hres
  have hz3 := hbw3.size
  have hw0 : IntKind.i64.wrap (X : Int) = (X : Int) := IntWalk.i64_in _ (by omega)
  have hw1 : IntKind.i64.wrap (1 + (X : Int)) = 1 + (X : Int) := IntWalk.i64_in _ (by omega)
  have hw2 : (0 : Int) ≤ 1 + (X : Int) := by omega
  have hw3 : (1 + (X : Int)).toNat = 1 + X := by omega
  have hw4 : 1 + (X : Int) ≤ (r.length : Int) + 1 := by omega
  have hgne : w.heap.size + 1 ≠ w.heap.size := by omega
  have hbne : b ≠ w.heap.size := by omega
  have p03 := (hbw3.cell (p := ⟨b, off, none⟩) hlt).trans p0
  go_region_held3 (fun w' => w'.cell? ⟨w.heap.size + 1, 0, none⟩ = some (.int .u8 2) ∧ w'.cell? ⟨w.heap.size + 1, 1, none⟩ = some (.int .i64 0) ∧ w'.cell? ⟨w.heap.size + 1, 2, none⟩ = some (.string ⟨T.toArray⟩) ∧ w'.cell? ⟨w.heap.size + 1, 3, none⟩ = some (.bool false) ∧ w'.cell? ⟨b, off, none⟩ = some (.int .u8 X))
    (first | (refine ⟨?_, ?_, ?_, ?_, ?_⟩; rw [far4 hgne]; exact hx4 0; rw [far4 hgne]; exact hx4 1; rw [far4 hgne]; exact hx4 2; rw [far4 hgne]; exact hx4 3; rw [far4 hbne]; exact p04) | exact ⟨hx4 0, hx4 1, hx4 2, hx4 3, p04⟩ | exact ⟨hcx 0, hcx 1, hcx 2, hcx 3, p03⟩)
    ((go_at_call 39; refine (right_at _ _ _ _ _ HR.out _ ?_ ?_).mono ?_
      · have := hTl.out; simp only [ByteArray.size, List.size_toArray]; omega
      · exact tabs_below hT3 (by repeat (first | exact Below.refl _ _ | apply Below.drew))
      rintro e w4 ⟨rfl, hb4⟩
      have hb4' := Below.trans (a := w3) (by repeat (first | exact Below.refl _ _ | apply Below.drew)) hb4
      have hx4 := box_cells (box_below hxv hb4')
      have hr4 := box_cells (box_below hres hb4')
      have hf4 := fun j => frozen_of_row w4 w.heap.size j _ _ (box_below hres hb4')
      have p04 := (hb4'.cell (p := ⟨b, off, none⟩) (World.block_lt_of_cell? w3 _ p03)).trans p03))
  go_wp2
  have hbE := ((((hbw3.trans (hb4'.mono hz3)).setCell (p := ⟨w.heap.size, 0, none⟩) (Nat.le_refl _) (.int .u8 2)).setCell (p := ⟨w.heap.size, 1, none⟩) (Nat.le_refl _) (.int .i64 0)).setCell (p := ⟨w.heap.size, 2, none⟩) (Nat.le_refl _) (.string ⟨T.toArray⟩)).setCell (p := ⟨w.heap.size, 3, none⟩) (Nat.le_refl _) (.bool false)
  exact bodyPost_ret (v := .tuple #[.agg #[.int .u8 2, .int .i64 0, .string ⟨T.toArray⟩, .bool false], .slice (some ⟨b, off, none⟩) 0 0, .bool true]) (by simp [results, Tryd.results48, go_sem, hr4]) rfl (take_yes (hB := ⟨_, _, _, rfl, rfl⟩) (v := Lp.vText T) hbE HK.out (by rw [HRL.out]; omega) (by omega) (hrd.below hbE) (vtext_ok (by have := hTl.out; omega)))
set_option maxRecDepth 100000 in
set_option maxHeartbeats 4000000 in
theorem take4_text_r2 (b off c : Nat) (x : UInt8) (r : List UInt8) (w : World) (h : Rds w (some ⟨b, off, none⟩) (bv (x :: r))) (p0 : w.cell? ⟨b, off, none⟩ = some (.int .u8 x.toNat)) (hc : r.length + 1 ≤ c) (hcm : r.length + 1 ≤ 1000000) (hT : Tabs w)
    (hxr : x.toNat ≤ r.length) (hok : Lp.textOk (r.take x.toNat) = true ∧ (r.take x.toNat).length ≤ 60) (hc1 : ¬ c = 1) (hcX : ¬ c = 1 + x.toNat) :
    Calls Tryd.prog 48 #[.int .u8 2, .slice (some ⟨b, off, none⟩) (r.length + 1) c] w (TakePost w (some ⟨b, off, none⟩) (Lp.rtake 2 (x :: r))) := by
  have hb2 : ∀ o1 o2, Below w.heap.size w ((w.alloc o1).alloc o2) := fun o1 o2 => ((Below.refl w.heap.size w).alloc (Nat.le_refl _) o1).alloc (by simp) o2
  have HX := Lib.hid hb2
  clear hb2
  have hlt : b < w.heap.size := World.block_lt_of_cell? w _ p0
  have hxl := x.toNat_lt
  have el : ((r.length : Int) + 1 == 0) = false := by simp; omega
  have HKB : Hid (¬ (Lp.textOk (r.take x.toNat) = true ∧ (r.take x.toNat).length ≤ 60) → Lp.rtake 2 (x :: r) = none) := Lib.hid fun g => by
    have hl : (r.take x.toNat).length = x.toNat := by rw [List.length_take]; omega
    simp only [Lp.rtake]
    rw [if_neg (by decide), if_pos trivial, if_neg (fun q => g ⟨q.2.1, by rw [hl]; exact q.2.2⟩)]
  have HKY : Hid ((Lp.textOk (r.take x.toNat) = true ∧ (r.take x.toNat).length ≤ 60) → Lp.rtake 2 (x :: r) = some (Lp.vText (r.take x.toNat), r.drop x.toNat)) := Lib.hid fun g => by
    have hl : (r.take x.toNat).length = x.toNat := by rw [List.length_take]; omega
    simp only [Lp.rtake]
    rw [if_neg (by decide), if_pos trivial, if_pos ⟨hxr, g.1, by rw [← hl]; exact g.2⟩]
  have hrd := h.drop (1 + x.toNat) (cap := c) (by rw [bv_length, List.length_cons]; exact hc)
  have hdrop : (bv (x :: r)).drop (1 + x.toNat) = bv (r.drop x.toNat) := by rw [Nat.add_comm, bv_drop]; rfl
  rw [hdrop] at hrd
  have hr1 := h.drop 1 (cap := c) (by rw [bv_length, List.length_cons]; exact hc)
  have hr2 := Rds.take hr1 x.toNat
  have hdrop2 : ((bv (x :: r)).drop 1).take x.toNat = bv (r.take x.toNat) := by
    show (bv r).take _ = _
    rw [bv_take]
  rw [hdrop2] at hr2
  have hTl : Hid ((r.take x.toNat).length = x.toNat) := by show _ = _; rw [List.length_take]; omega
  have hres := box_alloc (heap_alloc_new w (.cells #[.int .u8 0, .int .i64 0, .string ⟨#[]⟩, .bool false] 36)) (.cells #[.int .u8 2, .int .i64 0, .string ⟨(r.take x.toNat).toArray⟩, .bool false] 36)
  have hxv := heap_alloc_new (w.alloc (.cells #[.int .u8 0, .int .i64 0, .string ⟨#[]⟩, .bool false] 36)) (.cells #[.int .u8 2, .int .i64 0, .string ⟨(r.take x.toNat).toArray⟩, .bool false] 36)
  have hsv : (w.alloc (.cells #[.int .u8 0, .int .i64 0, .string ⟨#[]⟩, .bool false] 36)).heap.size = w.heap.size + 1 := by simp
  rw [hsv] at hxv
  have hT3 := tabs_alloc (tabs_alloc hT (.cells #[.int .u8 0, .int .i64 0, .string ⟨#[]⟩, .bool false] 36)) (.cells #[.int .u8 2, .int .i64 0, .string ⟨(r.take x.toNat).toArray⟩, .bool false] 36)
  have hbw3 := HX.out (.cells #[.int .u8 0, .int .i64 0, .string ⟨#[]⟩, .bool false] 36) (.cells #[.int .u8 2, .int .i64 0, .string ⟨(r.take x.toNat).toArray⟩, .bool false] 36)
  have hrb := Lib.hid (rightB_text (r.take x.toNat))
  clear hsv hdrop hdrop2 hr1
  have HRL : Hid ((r.drop x.toNat).length = r.length - x.toNat) := by show _ = _; simp
  generalize r.drop x.toNat = R at *
  generalize r.take x.toNat = T at *
  generalize x.toNat = X at *
  have HK := Lib.hid (HKY.out hok)
  have HR : Hid (Lp.rightB 2 0 ⟨T.toArray⟩ false = true) := by show _ = _; rw [hrb.out]; simp [hok]
  clear HKY HKB hok hrb
  have hcb : (c == 1) = false := by simpa using hc1
  rw [if_neg hc1] at hr2
  simp only [Option.map_some, Nat.mul_one, addr_plus] at hr2
  have hcv := conv_rds X (c - 1) hTl.out.symm (hr2.below (HX.out (.cells #[.int .u8 0, .int .i64 0, .string ⟨#[]⟩, .bool false] 36) (.cells #[.int .u8 2, .int .i64 0, .string ⟨#[]⟩, .bool false] 36)))
  rw [if_neg hcX] at hrd
  simp only [Option.map_some, Nat.mul_one, addr_plus] at hrd
  go_enter Tryd.func48, Tryd.ntmps48
  go_wp2_with fail
  clear hcv
  generalize (w.alloc (.cells #[.int .u8 0, .int .i64 0, .string ⟨#[]⟩, .bool false] 36)).alloc (.cells #[.int .u8 2, .int .i64 0, .string ⟨T.toArray⟩, .bool false] 36) = w3 at *
  have hcx := box_cells hxv
  have hcr := box_cells hres
  have hz3 := hbw3.size
  have hw0 : IntKind.i64.wrap (X : Int) = (X : Int) := IntWalk.i64_in _ (by omega)
  have hw1 : IntKind.i64.wrap (1 + (X : Int)) = 1 + (X : Int) := IntWalk.i64_in _ (by omega)
  have hw2 : (0 : Int) ≤ 1 + (X : Int) := by omega
  have hw3 : (1 + (X : Int)).toNat = 1 + X := by omega
  have hw4 : 1 + (X : Int) ≤ (r.length : Int) + 1 := by omega
  have hgne : w.heap.size + 1 ≠ w.heap.size := by omega
  have hbne : b ≠ w.heap.size := by omega
  have p03 := (hbw3.cell (p := ⟨b, off, none⟩) hlt).trans p0
  go_region_held3 (fun w' => w'.cell? ⟨w.heap.size + 1, 0, none⟩ = some (.int .u8 2) ∧ w'.cell? ⟨w.heap.size + 1, 1, none⟩ = some (.int .i64 0) ∧ w'.cell? ⟨w.heap.size + 1, 2, none⟩ = some (.string ⟨T.toArray⟩) ∧ w'.cell? ⟨w.heap.size + 1, 3, none⟩ = some (.bool false) ∧ w'.cell? ⟨b, off, none⟩ = some (.int .u8 X))
    (first | (refine ⟨?_, ?_, ?_, ?_, ?_⟩; rw [far4 hgne]; exact hx4 0; rw [far4 hgne]; exact hx4 1; rw [far4 hgne]; exact hx4 2; rw [far4 hgne]; exact hx4 3; rw [far4 hbne]; exact p04) | exact ⟨hx4 0, hx4 1, hx4 2, hx4 3, p04⟩ | exact ⟨hcx 0, hcx 1, hcx 2, hcx 3, p03⟩)
    ((go_at_call 39; refine (right_at _ _ _ _ _ HR.out _ ?_ ?_).mono ?_
      · have := hTl.out; simp only [ByteArray.size, List.size_toArray]; omega
      · exact tabs_below hT3 (by repeat (first | exact Below.refl _ _ | apply Below.drew))
      rintro e w4 ⟨rfl, hb4⟩
      have hb4' := Below.trans (a := w3) (by repeat (first | exact Below.refl _ _ | apply Below.drew)) hb4
      have hx4 := box_cells (box_below hxv hb4')
      have hr4 := box_cells (box_below hres hb4')
      have hf4 := fun j => frozen_of_row w4 w.heap.size j _ _ (box_below hres hb4')
      have p04 := (hb4'.cell (p := ⟨b, off, none⟩) (World.block_lt_of_cell? w3 _ p03)).trans p03))
  go_wp2
  have hbE := ((((hbw3.trans (hb4'.mono hz3)).setCell (p := ⟨w.heap.size, 0, none⟩) (Nat.le_refl _) (.int .u8 2)).setCell (p := ⟨w.heap.size, 1, none⟩) (Nat.le_refl _) (.int .i64 0)).setCell (p := ⟨w.heap.size, 2, none⟩) (Nat.le_refl _) (.string ⟨T.toArray⟩)).setCell (p := ⟨w.heap.size, 3, none⟩) (Nat.le_refl _) (.bool false)
  exact bodyPost_ret (v := .tuple #[.agg #[.int .u8 2, .int .i64 0, .string ⟨T.toArray⟩, .bool false], .slice (some ⟨b, off + (1 + X), none⟩) (r.length + 1 - (1 + X)) (c - (1 + X)), .bool true]) (by simp [results, Tryd.results48, go_sem, hr4]) rfl (take_yes (hB := ⟨_, _, _, rfl, rfl⟩) (v := Lp.vText T) hbE HK.out (by rw [HRL.out]; omega) (by omega) (hrd.below hbE) (vtext_ok (by have := hTl.out; omega)))
set_option maxRecDepth 100000 in
set_option maxHeartbeats 4000000 in
theorem take4_text_n0 (b off c : Nat) (x : UInt8) (r : List UInt8) (w : World) (h : Rds w (some ⟨b, off, none⟩) (bv (x :: r))) (p0 : w.cell? ⟨b, off, none⟩ = some (.int .u8 x.toNat)) (hc : r.length + 1 ≤ c) (hcm : r.length + 1 ≤ 1000000) (hT : Tabs w)
    (hxr : x.toNat ≤ r.length) (hok : ¬ (Lp.textOk (r.take x.toNat) = true ∧ (r.take x.toNat).length ≤ 60)) (hc1 : c = 1) :
    Calls Tryd.prog 48 #[.int .u8 2, .slice (some ⟨b, off, none⟩) (r.length + 1) c] w (TakePost w (some ⟨b, off, none⟩) (Lp.rtake 2 (x :: r))) := by
  have hb2 : ∀ o1 o2, Below w.heap.size w ((w.alloc o1).alloc o2) := fun o1 o2 => ((Below.refl w.heap.size w).alloc (Nat.le_refl _) o1).alloc (by simp) o2
  have HX := Lib.hid hb2
  clear hb2
  have hlt : b < w.heap.size := World.block_lt_of_cell? w _ p0
  have hxl := x.toNat_lt
  have el : ((r.length : Int) + 1 == 0) = false := by simp; omega
  have HKB : Hid (¬ (Lp.textOk (r.take x.toNat) = true ∧ (r.take x.toNat).length ≤ 60) → Lp.rtake 2 (x :: r) = none) := Lib.hid fun g => by
    have hl : (r.take x.toNat).length = x.toNat := by rw [List.length_take]; omega
    simp only [Lp.rtake]
    rw [if_neg (by decide), if_pos trivial, if_neg (fun q => g ⟨q.2.1, by rw [hl]; exact q.2.2⟩)]
  have HKY : Hid ((Lp.textOk (r.take x.toNat) = true ∧ (r.take x.toNat).length ≤ 60) → Lp.rtake 2 (x :: r) = some (Lp.vText (r.take x.toNat), r.drop x.toNat)) := Lib.hid fun g => by
    have hl : (r.take x.toNat).length = x.toNat := by rw [List.length_take]; omega
    simp only [Lp.rtake]
    rw [if_neg (by decide), if_pos trivial, if_pos ⟨hxr, g.1, by rw [← hl]; exact g.2⟩]
  have hrd := h.drop (1 + x.toNat) (cap := c) (by rw [bv_length, List.length_cons]; exact hc)
  have hdrop : (bv (x :: r)).drop (1 + x.toNat) = bv (r.drop x.toNat) := by rw [Nat.add_comm, bv_drop]; rfl
  rw [hdrop] at hrd
  have hr1 := h.drop 1 (cap := c) (by rw [bv_length, List.length_cons]; exact hc)
  have hr2 := Rds.take hr1 x.toNat
  have hdrop2 : ((bv (x :: r)).drop 1).take x.toNat = bv (r.take x.toNat) := by
    show (bv r).take _ = _
    rw [bv_take]
  rw [hdrop2] at hr2
  have hTl : Hid ((r.take x.toNat).length = x.toNat) := by show _ = _; rw [List.length_take]; omega
  have hres := box_alloc (heap_alloc_new w (.cells #[.int .u8 0, .int .i64 0, .string ⟨#[]⟩, .bool false] 36)) (.cells #[.int .u8 2, .int .i64 0, .string ⟨(r.take x.toNat).toArray⟩, .bool false] 36)
  have hxv := heap_alloc_new (w.alloc (.cells #[.int .u8 0, .int .i64 0, .string ⟨#[]⟩, .bool false] 36)) (.cells #[.int .u8 2, .int .i64 0, .string ⟨(r.take x.toNat).toArray⟩, .bool false] 36)
  have hsv : (w.alloc (.cells #[.int .u8 0, .int .i64 0, .string ⟨#[]⟩, .bool false] 36)).heap.size = w.heap.size + 1 := by simp
  rw [hsv] at hxv
  have hT3 := tabs_alloc (tabs_alloc hT (.cells #[.int .u8 0, .int .i64 0, .string ⟨#[]⟩, .bool false] 36)) (.cells #[.int .u8 2, .int .i64 0, .string ⟨(r.take x.toNat).toArray⟩, .bool false] 36)
  have hbw3 := HX.out (.cells #[.int .u8 0, .int .i64 0, .string ⟨#[]⟩, .bool false] 36) (.cells #[.int .u8 2, .int .i64 0, .string ⟨(r.take x.toNat).toArray⟩, .bool false] 36)
  have hrb := Lib.hid (rightB_text (r.take x.toNat))
  clear hsv hdrop hdrop2 hr1
  have HRL : Hid ((r.drop x.toNat).length = r.length - x.toNat) := by show _ = _; simp
  generalize r.drop x.toNat = R at *
  generalize r.take x.toNat = T at *
  generalize x.toNat = X at *
  have HK := Lib.hid (HKB.out hok)
  have HR : Hid (Lp.rightB 2 0 ⟨T.toArray⟩ false = false) := by
    show _ = _
    rw [hrb.out, Bool.eq_false_iff]; intro g; simp only [Bool.and_eq_true, decide_eq_true_eq] at g; exact hok ⟨g.2, g.1⟩
  clear HKY HKB hok hrb
  subst hc1
  obtain rfl : X = 0 := by omega
  rw [if_pos rfl] at hr2 hrd
  have hr0 : r.length = 0 := by omega
  have HR0 := Lib.hid hr0
  clear hr0
  have hcv := conv_rds 0 0 (by have := hTl.out; omega) (hr2.below (HX.out (.cells #[.int .u8 0, .int .i64 0, .string ⟨#[]⟩, .bool false] 36) (.cells #[.int .u8 2, .int .i64 0, .string ⟨#[]⟩, .bool false] 36)))
  go_enter Tryd.func48, Tryd.ntmps48
  go_wp2_with fail
  clear hcv
  generalize (w.alloc (.cells #[.int .u8 0, .int .i64 0, .string ⟨#[]⟩, .bool false] 36)).alloc (.cells #[.int .u8 2, .int .i64 0, .string ⟨T.toArray⟩, .bool false] 36) = w3 at *
  have hcx := box_cells hxv
  have hcr := box_cells hres
  have hz3 := hbw3.size
  have hwz : IntKind.i64.wrap 1 = 1 := IntWalk.i64_in _ (by omega)
  have hw0 : IntKind.i64.wrap (0 : Int) = (0 : Int) := IntWalk.i64_in _ (by omega)
  have hw1 : IntKind.i64.wrap (1 + (0 : Int)) = 1 + (0 : Int) := IntWalk.i64_in _ (by omega)
  have hw2 : (0 : Int) ≤ 1 + (0 : Int) := by omega
  have hw3 : (1 + (0 : Int)).toNat = 1 + 0 := by omega
  have hw4 : 1 + (0 : Int) ≤ (r.length : Int) + 1 := by omega
  have hgne : w.heap.size + 1 ≠ w.heap.size := by omega
  have hbne : b ≠ w.heap.size := by omega
  have p03 := (hbw3.cell (p := ⟨b, off, none⟩) hlt).trans p0
  go_region_held3 (fun w' => w'.cell? ⟨w.heap.size + 1, 0, none⟩ = some (.int .u8 2) ∧ w'.cell? ⟨w.heap.size + 1, 1, none⟩ = some (.int .i64 0) ∧ w'.cell? ⟨w.heap.size + 1, 2, none⟩ = some (.string ⟨T.toArray⟩) ∧ w'.cell? ⟨w.heap.size + 1, 3, none⟩ = some (.bool false) ∧ w'.cell? ⟨b, off, none⟩ = some (.int .u8 0))
    (first | (refine ⟨?_, ?_, ?_, ?_, ?_⟩; rw [far4 hgne]; exact hx4 0; rw [far4 hgne]; exact hx4 1; rw [far4 hgne]; exact hx4 2; rw [far4 hgne]; exact hx4 3; rw [far4 hbne]; exact p04) | exact ⟨hx4 0, hx4 1, hx4 2, hx4 3, p04⟩ | exact ⟨hcx 0, hcx 1, hcx 2, hcx 3, p03⟩)
    ((go_at_call 39; refine (right_at _ _ _ _ _ HR.out _ ?_ ?_).mono ?_
      · have := hTl.out; simp only [ByteArray.size, List.size_toArray]; omega
      · exact tabs_below hT3 (by repeat (first | exact Below.refl _ _ | apply Below.drew))
      rintro e w4 ⟨rfl, hb4⟩
      have hb4' := Below.trans (a := w3) (by repeat (first | exact Below.refl _ _ | apply Below.drew)) hb4
      have hx4 := box_cells (box_below hxv hb4')
      have hr4 := box_cells (box_below hres hb4')
      have hf4 := fun j => frozen_of_row w4 w.heap.size j _ _ (box_below hres hb4')
      have p04 := (hb4'.cell (p := ⟨b, off, none⟩) (World.block_lt_of_cell? w3 _ p03)).trans p03))
  go_wp2
  have hbE := ((((hbw3.trans (hb4'.mono hz3)).setCell (p := ⟨w.heap.size, 0, none⟩) (Nat.le_refl _) (.int .u8 2)).setCell (p := ⟨w.heap.size, 1, none⟩) (Nat.le_refl _) (.int .i64 0)).setCell (p := ⟨w.heap.size, 2, none⟩) (Nat.le_refl _) (.string ⟨T.toArray⟩)).setCell (p := ⟨w.heap.size, 3, none⟩) (Nat.le_refl _) (.bool false)
  exact bodyPost_ret (v := .tuple #[.agg #[.int .u8 2, .int .i64 0, .string ⟨T.toArray⟩, .bool false], .slice (some ⟨b, off, none⟩) 0 0, .bool false]) (by simp [results, Tryd.results48, go_sem, hr4]) rfl (take_no (Lp.vText T) hbE HK.out)
set_option maxRecDepth 100000 in
set_option maxHeartbeats 4000000 in
theorem take4_text_n1 (b off c : Nat) (x : UInt8) (r : List UInt8) (w : World) (h : Rds w (some ⟨b, off, none⟩) (bv (x :: r))) (p0 : w.cell? ⟨b, off, none⟩ = some (.int .u8 x.toNat)) (hc : r.length + 1 ≤ c) (hcm : r.length + 1 ≤ 1000000) (hT : Tabs w)
    (hxr : x.toNat ≤ r.length) (hok : ¬ (Lp.textOk (r.take x.toNat) = true ∧ (r.take x.toNat).length ≤ 60)) (hc1 : ¬ c = 1) (hcX : c = 1 + x.toNat) :
    Calls Tryd.prog 48 #[.int .u8 2, .slice (some ⟨b, off, none⟩) (r.length + 1) c] w (TakePost w (some ⟨b, off, none⟩) (Lp.rtake 2 (x :: r))) := by
  have hb2 : ∀ o1 o2, Below w.heap.size w ((w.alloc o1).alloc o2) := fun o1 o2 => ((Below.refl w.heap.size w).alloc (Nat.le_refl _) o1).alloc (by simp) o2
  have HX := Lib.hid hb2
  clear hb2
  have hlt : b < w.heap.size := World.block_lt_of_cell? w _ p0
  have hxl := x.toNat_lt
  have el : ((r.length : Int) + 1 == 0) = false := by simp; omega
  have HKB : Hid (¬ (Lp.textOk (r.take x.toNat) = true ∧ (r.take x.toNat).length ≤ 60) → Lp.rtake 2 (x :: r) = none) := Lib.hid fun g => by
    have hl : (r.take x.toNat).length = x.toNat := by rw [List.length_take]; omega
    simp only [Lp.rtake]
    rw [if_neg (by decide), if_pos trivial, if_neg (fun q => g ⟨q.2.1, by rw [hl]; exact q.2.2⟩)]
  have HKY : Hid ((Lp.textOk (r.take x.toNat) = true ∧ (r.take x.toNat).length ≤ 60) → Lp.rtake 2 (x :: r) = some (Lp.vText (r.take x.toNat), r.drop x.toNat)) := Lib.hid fun g => by
    have hl : (r.take x.toNat).length = x.toNat := by rw [List.length_take]; omega
    simp only [Lp.rtake]
    rw [if_neg (by decide), if_pos trivial, if_pos ⟨hxr, g.1, by rw [← hl]; exact g.2⟩]
  have hrd := h.drop (1 + x.toNat) (cap := c) (by rw [bv_length, List.length_cons]; exact hc)
  have hdrop : (bv (x :: r)).drop (1 + x.toNat) = bv (r.drop x.toNat) := by rw [Nat.add_comm, bv_drop]; rfl
  rw [hdrop] at hrd
  have hr1 := h.drop 1 (cap := c) (by rw [bv_length, List.length_cons]; exact hc)
  have hr2 := Rds.take hr1 x.toNat
  have hdrop2 : ((bv (x :: r)).drop 1).take x.toNat = bv (r.take x.toNat) := by
    show (bv r).take _ = _
    rw [bv_take]
  rw [hdrop2] at hr2
  have hTl : Hid ((r.take x.toNat).length = x.toNat) := by show _ = _; rw [List.length_take]; omega
  have hres := box_alloc (heap_alloc_new w (.cells #[.int .u8 0, .int .i64 0, .string ⟨#[]⟩, .bool false] 36)) (.cells #[.int .u8 2, .int .i64 0, .string ⟨(r.take x.toNat).toArray⟩, .bool false] 36)
  have hxv := heap_alloc_new (w.alloc (.cells #[.int .u8 0, .int .i64 0, .string ⟨#[]⟩, .bool false] 36)) (.cells #[.int .u8 2, .int .i64 0, .string ⟨(r.take x.toNat).toArray⟩, .bool false] 36)
  have hsv : (w.alloc (.cells #[.int .u8 0, .int .i64 0, .string ⟨#[]⟩, .bool false] 36)).heap.size = w.heap.size + 1 := by simp
  rw [hsv] at hxv
  have hT3 := tabs_alloc (tabs_alloc hT (.cells #[.int .u8 0, .int .i64 0, .string ⟨#[]⟩, .bool false] 36)) (.cells #[.int .u8 2, .int .i64 0, .string ⟨(r.take x.toNat).toArray⟩, .bool false] 36)
  have hbw3 := HX.out (.cells #[.int .u8 0, .int .i64 0, .string ⟨#[]⟩, .bool false] 36) (.cells #[.int .u8 2, .int .i64 0, .string ⟨(r.take x.toNat).toArray⟩, .bool false] 36)
  have hrb := Lib.hid (rightB_text (r.take x.toNat))
  clear hsv hdrop hdrop2 hr1
  have HRL : Hid ((r.drop x.toNat).length = r.length - x.toNat) := by show _ = _; simp
  generalize r.drop x.toNat = R at *
  generalize r.take x.toNat = T at *
  generalize x.toNat = X at *
  have HK := Lib.hid (HKB.out hok)
  have HR : Hid (Lp.rightB 2 0 ⟨T.toArray⟩ false = false) := by
    show _ = _
    rw [hrb.out, Bool.eq_false_iff]; intro g; simp only [Bool.and_eq_true, decide_eq_true_eq] at g; exact hok ⟨g.2, g.1⟩
  clear HKY HKB hok hrb
  have hcb : (c == 1) = false := by simpa using hc1
  rw [if_neg hc1] at hr2
  simp only [Option.map_some, Nat.mul_one, addr_plus] at hr2
  have hcv := conv_rds X (c - 1) hTl.out.symm (hr2.below (HX.out (.cells #[.int .u8 0, .int .i64 0, .string ⟨#[]⟩, .bool false] 36) (.cells #[.int .u8 2, .int .i64 0, .string ⟨#[]⟩, .bool false] 36)))
  rw [if_pos hcX] at hrd
  subst hcX
  rw [Nat.add_sub_cancel_left] at hcv
  go_enter Tryd.func48, Tryd.ntmps48
  go_wp2_with fail
  clear hcv
  generalize (w.alloc (.cells #[.int .u8 0, .int .i64 0, .string ⟨#[]⟩, .bool false] 36)).alloc (.cells #[.int .u8 2, .int .i64 0, .string ⟨T.toArray⟩, .bool false] 36) = w3 at *
  have hcx := box_cells hxv
  have hcr := box_cells hres
  have hz3 := hbw3.size
  have hw0 : IntKind.i64.wrap (X : Int) = (X : Int) := IntWalk.i64_in _ (by omega)
  have hw1 : IntKind.i64.wrap (1 + (X : Int)) = 1 + (X : Int) := IntWalk.i64_in _ (by omega)
  have hw2 : (0 : Int) ≤ 1 + (X : Int) := by omega
  have hw3 : (1 + (X : Int)).toNat = 1 + X := by omega
  have hw4 : 1 + (X : Int) ≤ (r.length : Int) + 1 := by omega
  have hgne : w.heap.size + 1 ≠ w.heap.size := by omega
  have hbne : b ≠ w.heap.size := by omega
  have p03 := (hbw3.cell (p := ⟨b, off, none⟩) hlt).trans p0
  go_region_held3 (fun w' => w'.cell? ⟨w.heap.size + 1, 0, none⟩ = some (.int .u8 2) ∧ w'.cell? ⟨w.heap.size + 1, 1, none⟩ = some (.int .i64 0) ∧ w'.cell? ⟨w.heap.size + 1, 2, none⟩ = some (.string ⟨T.toArray⟩) ∧ w'.cell? ⟨w.heap.size + 1, 3, none⟩ = some (.bool false) ∧ w'.cell? ⟨b, off, none⟩ = some (.int .u8 X))
    (first | (refine ⟨?_, ?_, ?_, ?_, ?_⟩; rw [far4 hgne]; exact hx4 0; rw [far4 hgne]; exact hx4 1; rw [far4 hgne]; exact hx4 2; rw [far4 hgne]; exact hx4 3; rw [far4 hbne]; exact p04) | exact ⟨hx4 0, hx4 1, hx4 2, hx4 3, p04⟩ | exact ⟨hcx 0, hcx 1, hcx 2, hcx 3, p03⟩)
    ((go_at_call 39; refine (right_at _ _ _ _ _ HR.out _ ?_ ?_).mono ?_
      · have := hTl.out; simp only [ByteArray.size, List.size_toArray]; omega
      · exact tabs_below hT3 (by repeat (first | exact Below.refl _ _ | apply Below.drew))
      rintro e w4 ⟨rfl, hb4⟩
      have hb4' := Below.trans (a := w3) (by repeat (first | exact Below.refl _ _ | apply Below.drew)) hb4
      have hx4 := box_cells (box_below hxv hb4')
      have hr4 := box_cells (box_below hres hb4')
      have hf4 := fun j => frozen_of_row w4 w.heap.size j _ _ (box_below hres hb4')
      have p04 := (hb4'.cell (p := ⟨b, off, none⟩) (World.block_lt_of_cell? w3 _ p03)).trans p03))
  go_wp2
  have hbE := ((((hbw3.trans (hb4'.mono hz3)).setCell (p := ⟨w.heap.size, 0, none⟩) (Nat.le_refl _) (.int .u8 2)).setCell (p := ⟨w.heap.size, 1, none⟩) (Nat.le_refl _) (.int .i64 0)).setCell (p := ⟨w.heap.size, 2, none⟩) (Nat.le_refl _) (.string ⟨T.toArray⟩)).setCell (p := ⟨w.heap.size, 3, none⟩) (Nat.le_refl _) (.bool false)
  exact bodyPost_ret (v := .tuple #[.agg #[.int .u8 2, .int .i64 0, .string ⟨T.toArray⟩, .bool false], .slice (some ⟨b, off, none⟩) 0 0, .bool false]) (by simp [results, Tryd.results48, go_sem, hr4]) rfl (take_no (Lp.vText T) hbE HK.out)
set_option maxRecDepth 100000 in
set_option maxHeartbeats 4000000 in
theorem take4_text_n2 (b off c : Nat) (x : UInt8) (r : List UInt8) (w : World) (h : Rds w (some ⟨b, off, none⟩) (bv (x :: r))) (p0 : w.cell? ⟨b, off, none⟩ = some (.int .u8 x.toNat)) (hc : r.length + 1 ≤ c) (hcm : r.length + 1 ≤ 1000000) (hT : Tabs w)
    (hxr : x.toNat ≤ r.length) (hok : ¬ (Lp.textOk (r.take x.toNat) = true ∧ (r.take x.toNat).length ≤ 60)) (hc1 : ¬ c = 1) (hcX : ¬ c = 1 + x.toNat) :
    Calls Tryd.prog 48 #[.int .u8 2, .slice (some ⟨b, off, none⟩) (r.length + 1) c] w (TakePost w (some ⟨b, off, none⟩) (Lp.rtake 2 (x :: r))) := by
  have hb2 : ∀ o1 o2, Below w.heap.size w ((w.alloc o1).alloc o2) := fun o1 o2 => ((Below.refl w.heap.size w).alloc (Nat.le_refl _) o1).alloc (by simp) o2
  have HX := Lib.hid hb2
  clear hb2
  have hlt : b < w.heap.size := World.block_lt_of_cell? w _ p0
  have hxl := x.toNat_lt
  have el : ((r.length : Int) + 1 == 0) = false := by simp; omega
  have HKB : Hid (¬ (Lp.textOk (r.take x.toNat) = true ∧ (r.take x.toNat).length ≤ 60) → Lp.rtake 2 (x :: r) = none) := Lib.hid fun g => by
    have hl : (r.take x.toNat).length = x.toNat := by rw [List.length_take]; omega
    simp only [Lp.rtake]
    rw [if_neg (by decide), if_pos trivial, if_neg (fun q => g ⟨q.2.1, by rw [hl]; exact q.2.2⟩)]
  have HKY : Hid ((Lp.textOk (r.take x.toNat) = true ∧ (r.take x.toNat).length ≤ 60) → Lp.rtake 2 (x :: r) = some (Lp.vText (r.take x.toNat), r.drop x.toNat)) := Lib.hid fun g => by
    have hl : (r.take x.toNat).length = x.toNat := by rw [List.length_take]; omega
    simp only [Lp.rtake]
    rw [if_neg (by decide), if_pos trivial, if_pos ⟨hxr, g.1, by rw [← hl]; exact g.2⟩]
  have hrd := h.drop (1 + x.toNat) (cap := c) (by rw [bv_length, List.length_cons]; exact hc)
  have hdrop : (bv (x :: r)).drop (1 + x.toNat) = bv (r.drop x.toNat) := by rw [Nat.add_comm, bv_drop]; rfl
  rw [hdrop] at hrd
  have hr1 := h.drop 1 (cap := c) (by rw [bv_length, List.length_cons]; exact hc)
  have hr2 := Rds.take hr1 x.toNat
  have hdrop2 : ((bv (x :: r)).drop 1).take x.toNat = bv (r.take x.toNat) := by
    show (bv r).take _ = _
    rw [bv_take]
  rw [hdrop2] at hr2
  have hTl : Hid ((r.take x.toNat).length = x.toNat) := by show _ = _; rw [List.length_take]; omega
  have hres := box_alloc (heap_alloc_new w (.cells #[.int .u8 0, .int .i64 0, .string ⟨#[]⟩, .bool false] 36)) (.cells #[.int .u8 2, .int .i64 0, .string ⟨(r.take x.toNat).toArray⟩, .bool false] 36)
  have hxv := heap_alloc_new (w.alloc (.cells #[.int .u8 0, .int .i64 0, .string ⟨#[]⟩, .bool false] 36)) (.cells #[.int .u8 2, .int .i64 0, .string ⟨(r.take x.toNat).toArray⟩, .bool false] 36)
  have hsv : (w.alloc (.cells #[.int .u8 0, .int .i64 0, .string ⟨#[]⟩, .bool false] 36)).heap.size = w.heap.size + 1 := by simp
  rw [hsv] at hxv
  have hT3 := tabs_alloc (tabs_alloc hT (.cells #[.int .u8 0, .int .i64 0, .string ⟨#[]⟩, .bool false] 36)) (.cells #[.int .u8 2, .int .i64 0, .string ⟨(r.take x.toNat).toArray⟩, .bool false] 36)
  have hbw3 := HX.out (.cells #[.int .u8 0, .int .i64 0, .string ⟨#[]⟩, .bool false] 36) (.cells #[.int .u8 2, .int .i64 0, .string ⟨(r.take x.toNat).toArray⟩, .bool false] 36)
  have hrb := Lib.hid (rightB_text (r.take x.toNat))
  clear hsv hdrop hdrop2 hr1
  have HRL : Hid ((r.drop x.toNat).length = r.length - x.toNat) := by show _ = _; simp
  generalize r.drop x.toNat = R at *
  generalize r.take x.toNat = T at *
  generalize x.toNat = X at *
  have HK := Lib.hid (HKB.out hok)
  have HR : Hid (Lp.rightB 2 0 ⟨T.toArray⟩ false = false) := by
    show _ = _
    rw [hrb.out, Bool.eq_false_iff]; intro g; simp only [Bool.and_eq_true, decide_eq_true_eq] at g; exact hok ⟨g.2, g.1⟩
  clear HKY HKB hok hrb
  have hcb : (c == 1) = false := by simpa using hc1
  rw [if_neg hc1] at hr2
  simp only [Option.map_some, Nat.mul_one, addr_plus] at hr2
  have hcv := conv_rds X (c - 1) hTl.out.symm (hr2.below (HX.out (.cells #[.int .u8 0, .int .i64 0, .string ⟨#[]⟩, .bool false] 36) (.cells #[.int .u8 2, .int .i64 0, .string ⟨#[]⟩, .bool false] 36)))
  rw [if_neg hcX] at hrd
  simp only [Option.map_some, Nat.mul_one, addr_plus] at hrd
  go_enter Tryd.func48, Tryd.ntmps48
  go_wp2_with fail
  clear hcv
  generalize (w.alloc (.cells #[.int .u8 0, .int .i64 0, .string ⟨#[]⟩, .bool false] 36)).alloc (.cells #[.int .u8 2, .int .i64 0, .string ⟨T.toArray⟩, .bool false] 36) = w3 at *
  have hcx := box_cells hxv
  have hcr := box_cells hres
  have hz3 := hbw3.size
  have hw0 : IntKind.i64.wrap (X : Int) = (X : Int) := IntWalk.i64_in _ (by omega)
  have hw1 : IntKind.i64.wrap (1 + (X : Int)) = 1 + (X : Int) := IntWalk.i64_in _ (by omega)
  have hw2 : (0 : Int) ≤ 1 + (X : Int) := by omega
  have hw3 : (1 + (X : Int)).toNat = 1 + X := by omega
  have hw4 : 1 + (X : Int) ≤ (r.length : Int) + 1 := by omega
  have hgne : w.heap.size + 1 ≠ w.heap.size := by omega
  have hbne : b ≠ w.heap.size := by omega
  have p03 := (hbw3.cell (p := ⟨b, off, none⟩) hlt).trans p0
  go_region_held3 (fun w' => w'.cell? ⟨w.heap.size + 1, 0, none⟩ = some (.int .u8 2) ∧ w'.cell? ⟨w.heap.size + 1, 1, none⟩ = some (.int .i64 0) ∧ w'.cell? ⟨w.heap.size + 1, 2, none⟩ = some (.string ⟨T.toArray⟩) ∧ w'.cell? ⟨w.heap.size + 1, 3, none⟩ = some (.bool false) ∧ w'.cell? ⟨b, off, none⟩ = some (.int .u8 X))
    (first | (refine ⟨?_, ?_, ?_, ?_, ?_⟩; rw [far4 hgne]; exact hx4 0; rw [far4 hgne]; exact hx4 1; rw [far4 hgne]; exact hx4 2; rw [far4 hgne]; exact hx4 3; rw [far4 hbne]; exact p04) | exact ⟨hx4 0, hx4 1, hx4 2, hx4 3, p04⟩ | exact ⟨hcx 0, hcx 1, hcx 2, hcx 3, p03⟩)
    ((go_at_call 39; refine (right_at _ _ _ _ _ HR.out _ ?_ ?_).mono ?_
      · have := hTl.out; simp only [ByteArray.size, List.size_toArray]; omega
      · exact tabs_below hT3 (by repeat (first | exact Below.refl _ _ | apply Below.drew))
      rintro e w4 ⟨rfl, hb4⟩
      have hb4' := Below.trans (a := w3) (by repeat (first | exact Below.refl _ _ | apply Below.drew)) hb4
      have hx4 := box_cells (box_below hxv hb4')
      have hr4 := box_cells (box_below hres hb4')
      have hf4 := fun j => frozen_of_row w4 w.heap.size j _ _ (box_below hres hb4')
      have p04 := (hb4'.cell (p := ⟨b, off, none⟩) (World.block_lt_of_cell? w3 _ p03)).trans p03))
  go_wp2
  have hbE := ((((hbw3.trans (hb4'.mono hz3)).setCell (p := ⟨w.heap.size, 0, none⟩) (Nat.le_refl _) (.int .u8 2)).setCell (p := ⟨w.heap.size, 1, none⟩) (Nat.le_refl _) (.int .i64 0)).setCell (p := ⟨w.heap.size, 2, none⟩) (Nat.le_refl _) (.string ⟨T.toArray⟩)).setCell (p := ⟨w.heap.size, 3, none⟩) (Nat.le_refl _) (.bool false)
  exact bodyPost_ret (v := .tuple #[.agg #[.int .u8 2, .int .i64 0, .string ⟨T.toArray⟩, .bool false], .slice (some ⟨b, off + (1 + X), none⟩) (r.length + 1 - (1 + X)) (c - (1 + X)), .bool false]) (by simp [results, Tryd.results48, go_sem, hr4]) rfl (take_no (Lp.vText T) hbE HK.out)
set_option maxRecDepth 100000 in
set_option maxHeartbeats 4000000 in
theorem take4_text (A : Option Addr) (n c : Nat) (l : List UInt8) (hnl : n = l.length) (w : World) (h : Rds w A (bv l)) (hc : n ≤ c) (hcm : n ≤ 1000000) (hT : Tabs w) :
    Calls Tryd.prog 48 #[.int .u8 2, .slice A n c] w (TakePost w A (Lp.rtake 2 l)) := by
  subst hnl
  have hb2 : ∀ o1 o2, Below w.heap.size w ((w.alloc o1).alloc o2) := fun o1 o2 => ((Below.refl w.heap.size w).alloc (Nat.le_refl _) o1).alloc (by simp) o2
  have HX := Lib.hid hb2
  clear hb2
  rcases l with _ | ⟨x, r⟩
  · have HK : Hid (Lp.rtake 2 [] = none) := rfl
    go_enter Tryd.func48, Tryd.ntmps48
    go_wp2
    exact bodyPost_ret (v := .tuple #[.agg #[.int .u8 2, .int .i64 0, .string ⟨#[]⟩, .bool false], .slice none 0 0, .bool false]) (by simp [results, Tryd.results48, go_sem]) rfl (take_no ⟨2, 0, ⟨#[]⟩, false⟩ (HX.out _ _) HK.out)
  · obtain ⟨b, off, rfl, p0⟩ := h.at_ (k := 0) (u := .int .u8 x.toNat) rfl
    have hlt := World.block_lt_of_cell? w _ p0
    simp only [Nat.add_zero] at p0 hlt
    have hxl := x.toNat_lt
    have el : ((r.length : Int) + 1 == 0) = false := by simp; omega
    simp only [List.length_cons] at hc hcm ⊢
    by_cases hxr : x.toNat ≤ r.length
    · by_cases hok : Lp.textOk (r.take x.toNat) = true ∧ (r.take x.toNat).length ≤ 60
      · by_cases hc1 : c = 1
        · exact take4_text_r0 b off c x r w h p0 hc hcm hT hxr hok hc1
        · by_cases hcX : c = 1 + x.toNat
          · exact take4_text_r1 b off c x r w h p0 hc hcm hT hxr hok hc1 hcX
          · exact take4_text_r2 b off c x r w h p0 hc hcm hT hxr hok hc1 hcX
      · by_cases hc1 : c = 1
        · exact take4_text_n0 b off c x r w h p0 hc hcm hT hxr hok hc1
        · by_cases hcX : c = 1 + x.toNat
          · exact take4_text_n1 b off c x r w h p0 hc hcm hT hxr hok hc1 hcX
          · exact take4_text_n2 b off c x r w h p0 hc hcm hT hxr hok hc1 hcX
    · have HK : Hid (Lp.rtake 2 (x :: r) = none) := by show _ = _; simp [Lp.rtake, hxr]
      have h2 : (r.length : Int) + 1 < 1 + (x.toNat : Int) := by omega
      go_enter Tryd.func48, Tryd.ntmps48
      go_wp2
      exact bodyPost_ret (v := .tuple #[.agg #[.int .u8 2, .int .i64 0, .string ⟨#[]⟩, .bool false], .slice none 0 0, .bool false]) (by simp [results, Tryd.results48, go_sem]) rfl (take_no ⟨2, 0, ⟨#[]⟩, false⟩ (HX.out _ _) HK.out)
end Go.Proofs.YthdnphnipfpdkaaDoor
