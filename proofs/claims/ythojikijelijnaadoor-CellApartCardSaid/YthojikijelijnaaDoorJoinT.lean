/-
  What cell.join gives, of any two values that are truth or unknown, settled by true. No conditions.
-/
import Derived.Test.YthojikijelijnaaDoorCell6
namespace Go.Proofs.YthojikijelijnaaDoor
open Go.RowKit
attribute [local go_sem] ta_i_i ta_i_s ta_i_b ta1_i ta_s_i ta_s_s ta_s_b ta1_s ta_b_i ta_b_s ta_b_b ta1_b ta_n_i ta_n_s ta_n_b

set_option maxRecDepth 100000 in
set_option maxHeartbeats 4000000 in
theorem join_tt_true (i : Int) (s : ByteArray) (i' : Int) (s' : ByteArray) (w : World) :
    Calls Tryd.prog 36 #[.agg #[.int .u8 3, .int .i64 i, .string s, .bool true], .agg #[.int .u8 3, .int .i64 i', .string s', .bool true], .bool true] w (TruthPost (Lp.badT ⟨3, i, s, true⟩ ⟨3, i', s', true⟩) (Lp.joinN ⟨3, i, s, true⟩ ⟨3, i', s', true⟩ true) w) := by
  have H : Hid (Lp.badT ⟨3, i, s, true⟩ ⟨3, i', s', true⟩ = false) := Lib.hid (by unfold Lp.badT; rfl)
  have HN : Hid (Lp.joinN ⟨3, i, s, true⟩ ⟨3, i', s', true⟩ true = 2) := Lib.hid (by unfold Lp.joinN; rfl)
  have ht : [⟨3, i, s, true⟩, ⟨3, i', s', true⟩].all Lp.tr = true := by rw [two_tr, H.out]; rfl
  have HT := Lib.hid ht
  have hb0 := ba (ba (ba (ba (Below.refl w.heap.size w) (.cells #[.int .u8 3, .int .i64 i, .string s, .bool true] 24)) (.cells #[.int .u8 3, .int .i64 i', .string s', .bool true] 24)) (.cells #[.int .u8 0, .int .i64 0, .string ⟨#[]⟩, .bool false] 24)) (.cells #[.int .u8 3, .int .i64 i, .string s, .bool true, .int .u8 3, .int .i64 i', .string s', .bool true] 24)
  have hx0 : TwoBox w.heap.size 3 i s true 3 i' s' true ((((w.alloc (.cells #[.int .u8 3, .int .i64 i, .string s, .bool true] 24)).alloc (.cells #[.int .u8 3, .int .i64 i', .string s', .bool true] 24)).alloc (.cells #[.int .u8 0, .int .i64 0, .string ⟨#[]⟩, .bool false] 24)).alloc (.cells #[.int .u8 3, .int .i64 i, .string s, .bool true, .int .u8 3, .int .i64 i', .string s', .bool true] 24)) :=
    ((TwoBox.new w 3 i s true 3 i' s' true 24 24).below ((Below.refl _ _).alloc (Nat.le_refl _) _)).below ((Below.refl _ _).alloc (Nat.le_refl _) _)
  have hr0 : ((((w.alloc (.cells #[.int .u8 3, .int .i64 i, .string s, .bool true] 24)).alloc (.cells #[.int .u8 3, .int .i64 i', .string s', .bool true] 24)).alloc (.cells #[.int .u8 0, .int .i64 0, .string ⟨#[]⟩, .bool false] 24)).alloc (.cells #[.int .u8 3, .int .i64 i, .string s, .bool true, .int .u8 3, .int .i64 i', .string s', .bool true] 24)).heap[w.heap.size + 1 + 1]? = some (.cells #[.int .u8 0, .int .i64 0, .string ⟨#[]⟩, .bool false] 24 (0, 0)) := by
    refine box_alloc ?_ _
    have := heap_alloc_new ((w.alloc (.cells #[.int .u8 3, .int .i64 i, .string s, .bool true] 24)).alloc (.cells #[.int .u8 3, .int .i64 i', .string s', .bool true] 24)) (.cells #[.int .u8 0, .int .i64 0, .string ⟨#[]⟩, .bool false] 24)
    simpa using this
  have hrd : Rds ((((w.alloc (.cells #[.int .u8 3, .int .i64 i, .string s, .bool true] 24)).alloc (.cells #[.int .u8 3, .int .i64 i', .string s', .bool true] 24)).alloc (.cells #[.int .u8 0, .int .i64 0, .string ⟨#[]⟩, .bool false] 24)).alloc (.cells #[.int .u8 3, .int .i64 i, .string s, .bool true, .int .u8 3, .int .i64 i', .string s', .bool true] 24)) (some ⟨w.heap.size + 1 + 1 + 1, 0, none⟩) (Lp.vv [⟨3, i, s, true⟩, ⟨3, i', s', true⟩]) := by
    have e : (((w.alloc (.cells #[.int .u8 3, .int .i64 i, .string s, .bool true] 24)).alloc (.cells #[.int .u8 3, .int .i64 i', .string s', .bool true] 24)).alloc (.cells #[.int .u8 0, .int .i64 0, .string ⟨#[]⟩, .bool false] 24)).heap.size = w.heap.size + 1 + 1 + 1 := by simp
    have := rds_new (((w.alloc (.cells #[.int .u8 3, .int .i64 i, .string s, .bool true] 24)).alloc (.cells #[.int .u8 3, .int .i64 i', .string s', .bool true] 24)).alloc (.cells #[.int .u8 0, .int .i64 0, .string ⟨#[]⟩, .bool false] 24)) [.int .u8 3, .int .i64 i, .string s, .bool true, .int .u8 3, .int .i64 i', .string s', .bool true] 24
    rw [e] at this; exact this
  clear ht
  go_enter Tryd.func36, Tryd.ntmps36
  go_wp2_with fail
  refine (truths_two _ _ _ HT.out _ _ _ rfl _ hrd).mono ?_
  rintro e w1 ⟨rfl, hb1⟩
  have hr1 := box_below hr0 hb1
  have hx1 := hx0.below hb1
  have hx1' := hx1
  have k1 : Below w.heap.size w w1 := hb0.trans (hb1.mono (by simp; omega))
  clear hb0 hb1 hr0 hx0 hrd
  obtain ⟨f0, f1, f2, f3, f4, f5, f6, f7⟩ := hx1
  go_wp2_with fail
  refine (openb_3 _ _ _ _).mono ?_
  rintro e w2 ⟨rfl, hb2⟩
  have hr2 := box_below hr1 hb2
  have hx2 := hx1'.below hb2
  have k2 := k1.trans (hb2.mono k1.size)
  clear hb2 hr1 k1 hx1' f0 f1 f2 f3 f4 f5 f6 f7
  obtain ⟨f0, f1, f2, f3, f4, f5, f6, f7⟩ := hx2
  go_wp2_with fail
  refine (openb_3 _ _ _ _).mono ?_
  rintro e w3 ⟨rfl, hb3⟩
  have hr3 := box_below hr2 hb3
  have k3 := k2.trans (hb3.mono k2.size)
  have hc3 := box_cells hr3
  have hf3 := fun j => frozen_of_row w3 (w.heap.size + 1 + 1) j _ _ hr3
  clear hb3 hr2 k2 f0 f1 f2 f3 f4 f5 f6 f7
  clear hc3 hf3
  go_wp2_with fail
  refine (truthb _ _).mono ?_
  rintro e w4 ⟨rfl, hb4⟩
  have hr4 := box_below hr3 hb4
  have k4 := k3.trans (hb4.mono k3.size)
  have hc4 := box_cells hr4
  have hf4 := fun j => frozen_of_row w4 (w.heap.size + 1 + 1) j _ _ hr4
  have HCE := Lib.hid (box_cells (set4_same hr4 (.int .u8 3) (.int .i64 0) (.string ⟨#[]⟩) (.bool true)))
  have k5 := below_set4 k4 (g := w.heap.size + 1 + 1) (by omega) (.int .u8 3) (.int .i64 0) (.string ⟨#[]⟩) (.bool true)
  clear hb4 hr3 k3
  go_wp2
  have hcE := HCE.out
  exact bodyPost_ret (v := .tuple #[.agg #[.int .u8 3, .int .i64 0, .string ⟨#[]⟩, .bool true], .int .i64 0]) (by simp [results, Tryd.results36, go_sem, hcE]) rfl (truth_good H.out HN.out k5)
set_option maxRecDepth 100000 in
set_option maxHeartbeats 4000000 in
theorem join_tf_true (i : Int) (s : ByteArray) (i' : Int) (s' : ByteArray) (w : World) :
    Calls Tryd.prog 36 #[.agg #[.int .u8 3, .int .i64 i, .string s, .bool true], .agg #[.int .u8 3, .int .i64 i', .string s', .bool false], .bool true] w (TruthPost (Lp.badT ⟨3, i, s, true⟩ ⟨3, i', s', false⟩) (Lp.joinN ⟨3, i, s, true⟩ ⟨3, i', s', false⟩ true) w) := by
  have H : Hid (Lp.badT ⟨3, i, s, true⟩ ⟨3, i', s', false⟩ = false) := Lib.hid (by unfold Lp.badT; rfl)
  have HN : Hid (Lp.joinN ⟨3, i, s, true⟩ ⟨3, i', s', false⟩ true = 2) := Lib.hid (by unfold Lp.joinN; rfl)
  have ht : [⟨3, i, s, true⟩, ⟨3, i', s', false⟩].all Lp.tr = true := by rw [two_tr, H.out]; rfl
  have HT := Lib.hid ht
  have hb0 := ba (ba (ba (ba (Below.refl w.heap.size w) (.cells #[.int .u8 3, .int .i64 i, .string s, .bool true] 24)) (.cells #[.int .u8 3, .int .i64 i', .string s', .bool false] 24)) (.cells #[.int .u8 0, .int .i64 0, .string ⟨#[]⟩, .bool false] 24)) (.cells #[.int .u8 3, .int .i64 i, .string s, .bool true, .int .u8 3, .int .i64 i', .string s', .bool false] 24)
  have hx0 : TwoBox w.heap.size 3 i s true 3 i' s' false ((((w.alloc (.cells #[.int .u8 3, .int .i64 i, .string s, .bool true] 24)).alloc (.cells #[.int .u8 3, .int .i64 i', .string s', .bool false] 24)).alloc (.cells #[.int .u8 0, .int .i64 0, .string ⟨#[]⟩, .bool false] 24)).alloc (.cells #[.int .u8 3, .int .i64 i, .string s, .bool true, .int .u8 3, .int .i64 i', .string s', .bool false] 24)) :=
    ((TwoBox.new w 3 i s true 3 i' s' false 24 24).below ((Below.refl _ _).alloc (Nat.le_refl _) _)).below ((Below.refl _ _).alloc (Nat.le_refl _) _)
  have hr0 : ((((w.alloc (.cells #[.int .u8 3, .int .i64 i, .string s, .bool true] 24)).alloc (.cells #[.int .u8 3, .int .i64 i', .string s', .bool false] 24)).alloc (.cells #[.int .u8 0, .int .i64 0, .string ⟨#[]⟩, .bool false] 24)).alloc (.cells #[.int .u8 3, .int .i64 i, .string s, .bool true, .int .u8 3, .int .i64 i', .string s', .bool false] 24)).heap[w.heap.size + 1 + 1]? = some (.cells #[.int .u8 0, .int .i64 0, .string ⟨#[]⟩, .bool false] 24 (0, 0)) := by
    refine box_alloc ?_ _
    have := heap_alloc_new ((w.alloc (.cells #[.int .u8 3, .int .i64 i, .string s, .bool true] 24)).alloc (.cells #[.int .u8 3, .int .i64 i', .string s', .bool false] 24)) (.cells #[.int .u8 0, .int .i64 0, .string ⟨#[]⟩, .bool false] 24)
    simpa using this
  have hrd : Rds ((((w.alloc (.cells #[.int .u8 3, .int .i64 i, .string s, .bool true] 24)).alloc (.cells #[.int .u8 3, .int .i64 i', .string s', .bool false] 24)).alloc (.cells #[.int .u8 0, .int .i64 0, .string ⟨#[]⟩, .bool false] 24)).alloc (.cells #[.int .u8 3, .int .i64 i, .string s, .bool true, .int .u8 3, .int .i64 i', .string s', .bool false] 24)) (some ⟨w.heap.size + 1 + 1 + 1, 0, none⟩) (Lp.vv [⟨3, i, s, true⟩, ⟨3, i', s', false⟩]) := by
    have e : (((w.alloc (.cells #[.int .u8 3, .int .i64 i, .string s, .bool true] 24)).alloc (.cells #[.int .u8 3, .int .i64 i', .string s', .bool false] 24)).alloc (.cells #[.int .u8 0, .int .i64 0, .string ⟨#[]⟩, .bool false] 24)).heap.size = w.heap.size + 1 + 1 + 1 := by simp
    have := rds_new (((w.alloc (.cells #[.int .u8 3, .int .i64 i, .string s, .bool true] 24)).alloc (.cells #[.int .u8 3, .int .i64 i', .string s', .bool false] 24)).alloc (.cells #[.int .u8 0, .int .i64 0, .string ⟨#[]⟩, .bool false] 24)) [.int .u8 3, .int .i64 i, .string s, .bool true, .int .u8 3, .int .i64 i', .string s', .bool false] 24
    rw [e] at this; exact this
  clear ht
  go_enter Tryd.func36, Tryd.ntmps36
  go_wp2_with fail
  refine (truths_two _ _ _ HT.out _ _ _ rfl _ hrd).mono ?_
  rintro e w1 ⟨rfl, hb1⟩
  have hr1 := box_below hr0 hb1
  have hx1 := hx0.below hb1
  have hx1' := hx1
  have k1 : Below w.heap.size w w1 := hb0.trans (hb1.mono (by simp; omega))
  clear hb0 hb1 hr0 hx0 hrd
  obtain ⟨f0, f1, f2, f3, f4, f5, f6, f7⟩ := hx1
  go_wp2_with fail
  refine (openb_3 _ _ _ _).mono ?_
  rintro e w2 ⟨rfl, hb2⟩
  have hr2 := box_below hr1 hb2
  have hx2 := hx1'.below hb2
  have k2 := k1.trans (hb2.mono k1.size)
  clear hb2 hr1 k1 hx1' f0 f1 f2 f3 f4 f5 f6 f7
  obtain ⟨f0, f1, f2, f3, f4, f5, f6, f7⟩ := hx2
  go_wp2_with fail
  refine (openb_3 _ _ _ _).mono ?_
  rintro e w3 ⟨rfl, hb3⟩
  have hr3 := box_below hr2 hb3
  have k3 := k2.trans (hb3.mono k2.size)
  have hc3 := box_cells hr3
  have hf3 := fun j => frozen_of_row w3 (w.heap.size + 1 + 1) j _ _ hr3
  clear hb3 hr2 k2 f0 f1 f2 f3 f4 f5 f6 f7
  clear hc3 hf3
  go_wp2_with fail
  refine (truthb _ _).mono ?_
  rintro e w4 ⟨rfl, hb4⟩
  have hr4 := box_below hr3 hb4
  have k4 := k3.trans (hb4.mono k3.size)
  have hc4 := box_cells hr4
  have hf4 := fun j => frozen_of_row w4 (w.heap.size + 1 + 1) j _ _ hr4
  have HCE := Lib.hid (box_cells (set4_same hr4 (.int .u8 3) (.int .i64 0) (.string ⟨#[]⟩) (.bool true)))
  have k5 := below_set4 k4 (g := w.heap.size + 1 + 1) (by omega) (.int .u8 3) (.int .i64 0) (.string ⟨#[]⟩) (.bool true)
  clear hb4 hr3 k3
  go_wp2
  have hcE := HCE.out
  exact bodyPost_ret (v := .tuple #[.agg #[.int .u8 3, .int .i64 0, .string ⟨#[]⟩, .bool true], .int .i64 0]) (by simp [results, Tryd.results36, go_sem, hcE]) rfl (truth_good H.out HN.out k5)
set_option maxRecDepth 100000 in
set_option maxHeartbeats 4000000 in
theorem join_tn_true (i : Int) (s : ByteArray) (k' : Int) (i' : Int) (s' : ByteArray) (b' : Bool) (hk' : NoK k') (w : World) :
    Calls Tryd.prog 36 #[.agg #[.int .u8 3, .int .i64 i, .string s, .bool true], .agg #[.int .u8 k', .int .i64 i', .string s', .bool b'], .bool true] w (TruthPost (Lp.badT ⟨3, i, s, true⟩ ⟨k', i', s', b'⟩) (Lp.joinN ⟨3, i, s, true⟩ ⟨k', i', s', b'⟩ true) w) := by
  have H : Hid (Lp.badT ⟨3, i, s, true⟩ ⟨k', i', s', b'⟩ = false) := Lib.hid (by unfold Lp.badT; rw [tv_n b' hk']; rfl)
  have HN : Hid (Lp.joinN ⟨3, i, s, true⟩ ⟨k', i', s', b'⟩ true = 2) := Lib.hid (by unfold Lp.joinN; rw [tv_n b' hk']; rfl)
  have ht : [⟨3, i, s, true⟩, ⟨k', i', s', b'⟩].all Lp.tr = true := by rw [two_tr, H.out]; rfl
  have HT := Lib.hid ht
  have hb0 := ba (ba (ba (ba (Below.refl w.heap.size w) (.cells #[.int .u8 3, .int .i64 i, .string s, .bool true] 24)) (.cells #[.int .u8 k', .int .i64 i', .string s', .bool b'] 24)) (.cells #[.int .u8 0, .int .i64 0, .string ⟨#[]⟩, .bool false] 24)) (.cells #[.int .u8 3, .int .i64 i, .string s, .bool true, .int .u8 k', .int .i64 i', .string s', .bool b'] 24)
  have hx0 : TwoBox w.heap.size 3 i s true k' i' s' b' ((((w.alloc (.cells #[.int .u8 3, .int .i64 i, .string s, .bool true] 24)).alloc (.cells #[.int .u8 k', .int .i64 i', .string s', .bool b'] 24)).alloc (.cells #[.int .u8 0, .int .i64 0, .string ⟨#[]⟩, .bool false] 24)).alloc (.cells #[.int .u8 3, .int .i64 i, .string s, .bool true, .int .u8 k', .int .i64 i', .string s', .bool b'] 24)) :=
    ((TwoBox.new w 3 i s true k' i' s' b' 24 24).below ((Below.refl _ _).alloc (Nat.le_refl _) _)).below ((Below.refl _ _).alloc (Nat.le_refl _) _)
  have hr0 : ((((w.alloc (.cells #[.int .u8 3, .int .i64 i, .string s, .bool true] 24)).alloc (.cells #[.int .u8 k', .int .i64 i', .string s', .bool b'] 24)).alloc (.cells #[.int .u8 0, .int .i64 0, .string ⟨#[]⟩, .bool false] 24)).alloc (.cells #[.int .u8 3, .int .i64 i, .string s, .bool true, .int .u8 k', .int .i64 i', .string s', .bool b'] 24)).heap[w.heap.size + 1 + 1]? = some (.cells #[.int .u8 0, .int .i64 0, .string ⟨#[]⟩, .bool false] 24 (0, 0)) := by
    refine box_alloc ?_ _
    have := heap_alloc_new ((w.alloc (.cells #[.int .u8 3, .int .i64 i, .string s, .bool true] 24)).alloc (.cells #[.int .u8 k', .int .i64 i', .string s', .bool b'] 24)) (.cells #[.int .u8 0, .int .i64 0, .string ⟨#[]⟩, .bool false] 24)
    simpa using this
  have hrd : Rds ((((w.alloc (.cells #[.int .u8 3, .int .i64 i, .string s, .bool true] 24)).alloc (.cells #[.int .u8 k', .int .i64 i', .string s', .bool b'] 24)).alloc (.cells #[.int .u8 0, .int .i64 0, .string ⟨#[]⟩, .bool false] 24)).alloc (.cells #[.int .u8 3, .int .i64 i, .string s, .bool true, .int .u8 k', .int .i64 i', .string s', .bool b'] 24)) (some ⟨w.heap.size + 1 + 1 + 1, 0, none⟩) (Lp.vv [⟨3, i, s, true⟩, ⟨k', i', s', b'⟩]) := by
    have e : (((w.alloc (.cells #[.int .u8 3, .int .i64 i, .string s, .bool true] 24)).alloc (.cells #[.int .u8 k', .int .i64 i', .string s', .bool b'] 24)).alloc (.cells #[.int .u8 0, .int .i64 0, .string ⟨#[]⟩, .bool false] 24)).heap.size = w.heap.size + 1 + 1 + 1 := by simp
    have := rds_new (((w.alloc (.cells #[.int .u8 3, .int .i64 i, .string s, .bool true] 24)).alloc (.cells #[.int .u8 k', .int .i64 i', .string s', .bool b'] 24)).alloc (.cells #[.int .u8 0, .int .i64 0, .string ⟨#[]⟩, .bool false] 24)) [.int .u8 3, .int .i64 i, .string s, .bool true, .int .u8 k', .int .i64 i', .string s', .bool b'] 24
    rw [e] at this; exact this
  clear ht
  go_enter Tryd.func36, Tryd.ntmps36
  go_wp2_with fail
  refine (truths_two _ _ _ HT.out _ _ _ rfl _ hrd).mono ?_
  rintro e w1 ⟨rfl, hb1⟩
  have hr1 := box_below hr0 hb1
  have hx1 := hx0.below hb1
  have hx1' := hx1
  have k1 : Below w.heap.size w w1 := hb0.trans (hb1.mono (by simp; omega))
  clear hb0 hb1 hr0 hx0 hrd
  obtain ⟨f0, f1, f2, f3, f4, f5, f6, f7⟩ := hx1
  go_wp2_with fail
  refine (openb_3 _ _ _ _).mono ?_
  rintro e w2 ⟨rfl, hb2⟩
  have hr2 := box_below hr1 hb2
  have hx2 := hx1'.below hb2
  have k2 := k1.trans (hb2.mono k1.size)
  clear hb2 hr1 k1 hx1' f0 f1 f2 f3 f4 f5 f6 f7
  obtain ⟨f0, f1, f2, f3, f4, f5, f6, f7⟩ := hx2
  go_wp2_with fail
  refine (openb_n _ _ _ _ hk' _).mono ?_
  rintro e w3 ⟨rfl, hb3⟩
  have hr3 := box_below hr2 hb3
  have k3 := k2.trans (hb3.mono k2.size)
  have hc3 := box_cells hr3
  have hf3 := fun j => frozen_of_row w3 (w.heap.size + 1 + 1) j _ _ hr3
  clear hb3 hr2 k2 f0 f1 f2 f3 f4 f5 f6 f7
  clear hc3 hf3
  go_wp2_with fail
  refine (truthb _ _).mono ?_
  rintro e w4 ⟨rfl, hb4⟩
  have hr4 := box_below hr3 hb4
  have k4 := k3.trans (hb4.mono k3.size)
  have hc4 := box_cells hr4
  have hf4 := fun j => frozen_of_row w4 (w.heap.size + 1 + 1) j _ _ hr4
  have HCE := Lib.hid (box_cells (set4_same hr4 (.int .u8 3) (.int .i64 0) (.string ⟨#[]⟩) (.bool true)))
  have k5 := below_set4 k4 (g := w.heap.size + 1 + 1) (by omega) (.int .u8 3) (.int .i64 0) (.string ⟨#[]⟩) (.bool true)
  clear hb4 hr3 k3
  go_wp2
  have hcE := HCE.out
  exact bodyPost_ret (v := .tuple #[.agg #[.int .u8 3, .int .i64 0, .string ⟨#[]⟩, .bool true], .int .i64 0]) (by simp [results, Tryd.results36, go_sem, hcE]) rfl (truth_good H.out HN.out k5)
set_option maxRecDepth 100000 in
set_option maxHeartbeats 4000000 in
theorem join_ft_true (i : Int) (s : ByteArray) (i' : Int) (s' : ByteArray) (w : World) :
    Calls Tryd.prog 36 #[.agg #[.int .u8 3, .int .i64 i, .string s, .bool false], .agg #[.int .u8 3, .int .i64 i', .string s', .bool true], .bool true] w (TruthPost (Lp.badT ⟨3, i, s, false⟩ ⟨3, i', s', true⟩) (Lp.joinN ⟨3, i, s, false⟩ ⟨3, i', s', true⟩ true) w) := by
  have H : Hid (Lp.badT ⟨3, i, s, false⟩ ⟨3, i', s', true⟩ = false) := Lib.hid (by unfold Lp.badT; rfl)
  have HN : Hid (Lp.joinN ⟨3, i, s, false⟩ ⟨3, i', s', true⟩ true = 2) := Lib.hid (by unfold Lp.joinN; rfl)
  have ht : [⟨3, i, s, false⟩, ⟨3, i', s', true⟩].all Lp.tr = true := by rw [two_tr, H.out]; rfl
  have HT := Lib.hid ht
  have hb0 := ba (ba (ba (ba (Below.refl w.heap.size w) (.cells #[.int .u8 3, .int .i64 i, .string s, .bool false] 24)) (.cells #[.int .u8 3, .int .i64 i', .string s', .bool true] 24)) (.cells #[.int .u8 0, .int .i64 0, .string ⟨#[]⟩, .bool false] 24)) (.cells #[.int .u8 3, .int .i64 i, .string s, .bool false, .int .u8 3, .int .i64 i', .string s', .bool true] 24)
  have hx0 : TwoBox w.heap.size 3 i s false 3 i' s' true ((((w.alloc (.cells #[.int .u8 3, .int .i64 i, .string s, .bool false] 24)).alloc (.cells #[.int .u8 3, .int .i64 i', .string s', .bool true] 24)).alloc (.cells #[.int .u8 0, .int .i64 0, .string ⟨#[]⟩, .bool false] 24)).alloc (.cells #[.int .u8 3, .int .i64 i, .string s, .bool false, .int .u8 3, .int .i64 i', .string s', .bool true] 24)) :=
    ((TwoBox.new w 3 i s false 3 i' s' true 24 24).below ((Below.refl _ _).alloc (Nat.le_refl _) _)).below ((Below.refl _ _).alloc (Nat.le_refl _) _)
  have hr0 : ((((w.alloc (.cells #[.int .u8 3, .int .i64 i, .string s, .bool false] 24)).alloc (.cells #[.int .u8 3, .int .i64 i', .string s', .bool true] 24)).alloc (.cells #[.int .u8 0, .int .i64 0, .string ⟨#[]⟩, .bool false] 24)).alloc (.cells #[.int .u8 3, .int .i64 i, .string s, .bool false, .int .u8 3, .int .i64 i', .string s', .bool true] 24)).heap[w.heap.size + 1 + 1]? = some (.cells #[.int .u8 0, .int .i64 0, .string ⟨#[]⟩, .bool false] 24 (0, 0)) := by
    refine box_alloc ?_ _
    have := heap_alloc_new ((w.alloc (.cells #[.int .u8 3, .int .i64 i, .string s, .bool false] 24)).alloc (.cells #[.int .u8 3, .int .i64 i', .string s', .bool true] 24)) (.cells #[.int .u8 0, .int .i64 0, .string ⟨#[]⟩, .bool false] 24)
    simpa using this
  have hrd : Rds ((((w.alloc (.cells #[.int .u8 3, .int .i64 i, .string s, .bool false] 24)).alloc (.cells #[.int .u8 3, .int .i64 i', .string s', .bool true] 24)).alloc (.cells #[.int .u8 0, .int .i64 0, .string ⟨#[]⟩, .bool false] 24)).alloc (.cells #[.int .u8 3, .int .i64 i, .string s, .bool false, .int .u8 3, .int .i64 i', .string s', .bool true] 24)) (some ⟨w.heap.size + 1 + 1 + 1, 0, none⟩) (Lp.vv [⟨3, i, s, false⟩, ⟨3, i', s', true⟩]) := by
    have e : (((w.alloc (.cells #[.int .u8 3, .int .i64 i, .string s, .bool false] 24)).alloc (.cells #[.int .u8 3, .int .i64 i', .string s', .bool true] 24)).alloc (.cells #[.int .u8 0, .int .i64 0, .string ⟨#[]⟩, .bool false] 24)).heap.size = w.heap.size + 1 + 1 + 1 := by simp
    have := rds_new (((w.alloc (.cells #[.int .u8 3, .int .i64 i, .string s, .bool false] 24)).alloc (.cells #[.int .u8 3, .int .i64 i', .string s', .bool true] 24)).alloc (.cells #[.int .u8 0, .int .i64 0, .string ⟨#[]⟩, .bool false] 24)) [.int .u8 3, .int .i64 i, .string s, .bool false, .int .u8 3, .int .i64 i', .string s', .bool true] 24
    rw [e] at this; exact this
  clear ht
  go_enter Tryd.func36, Tryd.ntmps36
  go_wp2_with fail
  refine (truths_two _ _ _ HT.out _ _ _ rfl _ hrd).mono ?_
  rintro e w1 ⟨rfl, hb1⟩
  have hr1 := box_below hr0 hb1
  have hx1 := hx0.below hb1
  have hx1' := hx1
  have k1 : Below w.heap.size w w1 := hb0.trans (hb1.mono (by simp; omega))
  clear hb0 hb1 hr0 hx0 hrd
  obtain ⟨f0, f1, f2, f3, f4, f5, f6, f7⟩ := hx1
  go_wp2_with fail
  refine (openb_3 _ _ _ _).mono ?_
  rintro e w2 ⟨rfl, hb2⟩
  have hr2 := box_below hr1 hb2
  have hx2 := hx1'.below hb2
  have k2 := k1.trans (hb2.mono k1.size)
  clear hb2 hr1 k1 hx1' f0 f1 f2 f3 f4 f5 f6 f7
  obtain ⟨f0, f1, f2, f3, f4, f5, f6, f7⟩ := hx2
  go_wp2_with fail
  refine (openb_3 _ _ _ _).mono ?_
  rintro e w3 ⟨rfl, hb3⟩
  have hr3 := box_below hr2 hb3
  have k3 := k2.trans (hb3.mono k2.size)
  have hc3 := box_cells hr3
  have hf3 := fun j => frozen_of_row w3 (w.heap.size + 1 + 1) j _ _ hr3
  clear hb3 hr2 k2 f0 f1 f2 f3 f4 f5 f6 f7
  clear hc3 hf3
  go_wp2_with fail
  refine (truthb _ _).mono ?_
  rintro e w4 ⟨rfl, hb4⟩
  have hr4 := box_below hr3 hb4
  have k4 := k3.trans (hb4.mono k3.size)
  have hc4 := box_cells hr4
  have hf4 := fun j => frozen_of_row w4 (w.heap.size + 1 + 1) j _ _ hr4
  have HCE := Lib.hid (box_cells (set4_same hr4 (.int .u8 3) (.int .i64 0) (.string ⟨#[]⟩) (.bool true)))
  have k5 := below_set4 k4 (g := w.heap.size + 1 + 1) (by omega) (.int .u8 3) (.int .i64 0) (.string ⟨#[]⟩) (.bool true)
  clear hb4 hr3 k3
  go_wp2
  have hcE := HCE.out
  exact bodyPost_ret (v := .tuple #[.agg #[.int .u8 3, .int .i64 0, .string ⟨#[]⟩, .bool true], .int .i64 0]) (by simp [results, Tryd.results36, go_sem, hcE]) rfl (truth_good H.out HN.out k5)
set_option maxRecDepth 100000 in
set_option maxHeartbeats 4000000 in
theorem join_ff_true (i : Int) (s : ByteArray) (i' : Int) (s' : ByteArray) (w : World) :
    Calls Tryd.prog 36 #[.agg #[.int .u8 3, .int .i64 i, .string s, .bool false], .agg #[.int .u8 3, .int .i64 i', .string s', .bool false], .bool true] w (TruthPost (Lp.badT ⟨3, i, s, false⟩ ⟨3, i', s', false⟩) (Lp.joinN ⟨3, i, s, false⟩ ⟨3, i', s', false⟩ true) w) := by
  have H : Hid (Lp.badT ⟨3, i, s, false⟩ ⟨3, i', s', false⟩ = false) := Lib.hid (by unfold Lp.badT; rfl)
  have HN : Hid (Lp.joinN ⟨3, i, s, false⟩ ⟨3, i', s', false⟩ true = 0) := Lib.hid (by unfold Lp.joinN; rfl)
  have ht : [⟨3, i, s, false⟩, ⟨3, i', s', false⟩].all Lp.tr = true := by rw [two_tr, H.out]; rfl
  have HT := Lib.hid ht
  have hb0 := ba (ba (ba (ba (Below.refl w.heap.size w) (.cells #[.int .u8 3, .int .i64 i, .string s, .bool false] 24)) (.cells #[.int .u8 3, .int .i64 i', .string s', .bool false] 24)) (.cells #[.int .u8 0, .int .i64 0, .string ⟨#[]⟩, .bool false] 24)) (.cells #[.int .u8 3, .int .i64 i, .string s, .bool false, .int .u8 3, .int .i64 i', .string s', .bool false] 24)
  have hx0 : TwoBox w.heap.size 3 i s false 3 i' s' false ((((w.alloc (.cells #[.int .u8 3, .int .i64 i, .string s, .bool false] 24)).alloc (.cells #[.int .u8 3, .int .i64 i', .string s', .bool false] 24)).alloc (.cells #[.int .u8 0, .int .i64 0, .string ⟨#[]⟩, .bool false] 24)).alloc (.cells #[.int .u8 3, .int .i64 i, .string s, .bool false, .int .u8 3, .int .i64 i', .string s', .bool false] 24)) :=
    ((TwoBox.new w 3 i s false 3 i' s' false 24 24).below ((Below.refl _ _).alloc (Nat.le_refl _) _)).below ((Below.refl _ _).alloc (Nat.le_refl _) _)
  have hr0 : ((((w.alloc (.cells #[.int .u8 3, .int .i64 i, .string s, .bool false] 24)).alloc (.cells #[.int .u8 3, .int .i64 i', .string s', .bool false] 24)).alloc (.cells #[.int .u8 0, .int .i64 0, .string ⟨#[]⟩, .bool false] 24)).alloc (.cells #[.int .u8 3, .int .i64 i, .string s, .bool false, .int .u8 3, .int .i64 i', .string s', .bool false] 24)).heap[w.heap.size + 1 + 1]? = some (.cells #[.int .u8 0, .int .i64 0, .string ⟨#[]⟩, .bool false] 24 (0, 0)) := by
    refine box_alloc ?_ _
    have := heap_alloc_new ((w.alloc (.cells #[.int .u8 3, .int .i64 i, .string s, .bool false] 24)).alloc (.cells #[.int .u8 3, .int .i64 i', .string s', .bool false] 24)) (.cells #[.int .u8 0, .int .i64 0, .string ⟨#[]⟩, .bool false] 24)
    simpa using this
  have hrd : Rds ((((w.alloc (.cells #[.int .u8 3, .int .i64 i, .string s, .bool false] 24)).alloc (.cells #[.int .u8 3, .int .i64 i', .string s', .bool false] 24)).alloc (.cells #[.int .u8 0, .int .i64 0, .string ⟨#[]⟩, .bool false] 24)).alloc (.cells #[.int .u8 3, .int .i64 i, .string s, .bool false, .int .u8 3, .int .i64 i', .string s', .bool false] 24)) (some ⟨w.heap.size + 1 + 1 + 1, 0, none⟩) (Lp.vv [⟨3, i, s, false⟩, ⟨3, i', s', false⟩]) := by
    have e : (((w.alloc (.cells #[.int .u8 3, .int .i64 i, .string s, .bool false] 24)).alloc (.cells #[.int .u8 3, .int .i64 i', .string s', .bool false] 24)).alloc (.cells #[.int .u8 0, .int .i64 0, .string ⟨#[]⟩, .bool false] 24)).heap.size = w.heap.size + 1 + 1 + 1 := by simp
    have := rds_new (((w.alloc (.cells #[.int .u8 3, .int .i64 i, .string s, .bool false] 24)).alloc (.cells #[.int .u8 3, .int .i64 i', .string s', .bool false] 24)).alloc (.cells #[.int .u8 0, .int .i64 0, .string ⟨#[]⟩, .bool false] 24)) [.int .u8 3, .int .i64 i, .string s, .bool false, .int .u8 3, .int .i64 i', .string s', .bool false] 24
    rw [e] at this; exact this
  clear ht
  go_enter Tryd.func36, Tryd.ntmps36
  go_wp2_with fail
  refine (truths_two _ _ _ HT.out _ _ _ rfl _ hrd).mono ?_
  rintro e w1 ⟨rfl, hb1⟩
  have hr1 := box_below hr0 hb1
  have hx1 := hx0.below hb1
  have hx1' := hx1
  have k1 : Below w.heap.size w w1 := hb0.trans (hb1.mono (by simp; omega))
  clear hb0 hb1 hr0 hx0 hrd
  obtain ⟨f0, f1, f2, f3, f4, f5, f6, f7⟩ := hx1
  go_wp2_with fail
  refine (openb_3 _ _ _ _).mono ?_
  rintro e w2 ⟨rfl, hb2⟩
  have hr2 := box_below hr1 hb2
  have hx2 := hx1'.below hb2
  have k2 := k1.trans (hb2.mono k1.size)
  clear hb2 hr1 k1 hx1' f0 f1 f2 f3 f4 f5 f6 f7
  obtain ⟨f0, f1, f2, f3, f4, f5, f6, f7⟩ := hx2
  go_wp2_with fail
  refine (openb_3 _ _ _ _).mono ?_
  rintro e w3 ⟨rfl, hb3⟩
  have hr3 := box_below hr2 hb3
  have k3 := k2.trans (hb3.mono k2.size)
  have hc3 := box_cells hr3
  have hf3 := fun j => frozen_of_row w3 (w.heap.size + 1 + 1) j _ _ hr3
  clear hb3 hr2 k2 f0 f1 f2 f3 f4 f5 f6 f7
  clear hc3 hf3
  go_wp2_with fail
  refine (truthb _ _).mono ?_
  rintro e w4 ⟨rfl, hb4⟩
  have hr4 := box_below hr3 hb4
  have k4 := k3.trans (hb4.mono k3.size)
  have hc4 := box_cells hr4
  have hf4 := fun j => frozen_of_row w4 (w.heap.size + 1 + 1) j _ _ hr4
  have HCE := Lib.hid (box_cells (set4_same hr4 (.int .u8 3) (.int .i64 0) (.string ⟨#[]⟩) (.bool false)))
  have k5 := below_set4 k4 (g := w.heap.size + 1 + 1) (by omega) (.int .u8 3) (.int .i64 0) (.string ⟨#[]⟩) (.bool false)
  clear hb4 hr3 k3
  go_wp2
  have hcE := HCE.out
  exact bodyPost_ret (v := .tuple #[.agg #[.int .u8 3, .int .i64 0, .string ⟨#[]⟩, .bool false], .int .i64 0]) (by simp [results, Tryd.results36, go_sem, hcE]) rfl (truth_good H.out HN.out k5)
set_option maxRecDepth 100000 in
set_option maxHeartbeats 4000000 in
theorem join_fn_true (i : Int) (s : ByteArray) (k' : Int) (i' : Int) (s' : ByteArray) (b' : Bool) (hk' : NoK k') (w : World) :
    Calls Tryd.prog 36 #[.agg #[.int .u8 3, .int .i64 i, .string s, .bool false], .agg #[.int .u8 k', .int .i64 i', .string s', .bool b'], .bool true] w (TruthPost (Lp.badT ⟨3, i, s, false⟩ ⟨k', i', s', b'⟩) (Lp.joinN ⟨3, i, s, false⟩ ⟨k', i', s', b'⟩ true) w) := by
  have H : Hid (Lp.badT ⟨3, i, s, false⟩ ⟨k', i', s', b'⟩ = false) := Lib.hid (by unfold Lp.badT; rw [tv_n b' hk']; rfl)
  have HN : Hid (Lp.joinN ⟨3, i, s, false⟩ ⟨k', i', s', b'⟩ true = 1) := Lib.hid (by unfold Lp.joinN; rw [tv_n b' hk']; rfl)
  have ht : [⟨3, i, s, false⟩, ⟨k', i', s', b'⟩].all Lp.tr = true := by rw [two_tr, H.out]; rfl
  have HT := Lib.hid ht
  have hb0 := ba (ba (ba (ba (Below.refl w.heap.size w) (.cells #[.int .u8 3, .int .i64 i, .string s, .bool false] 24)) (.cells #[.int .u8 k', .int .i64 i', .string s', .bool b'] 24)) (.cells #[.int .u8 0, .int .i64 0, .string ⟨#[]⟩, .bool false] 24)) (.cells #[.int .u8 3, .int .i64 i, .string s, .bool false, .int .u8 k', .int .i64 i', .string s', .bool b'] 24)
  have hx0 : TwoBox w.heap.size 3 i s false k' i' s' b' ((((w.alloc (.cells #[.int .u8 3, .int .i64 i, .string s, .bool false] 24)).alloc (.cells #[.int .u8 k', .int .i64 i', .string s', .bool b'] 24)).alloc (.cells #[.int .u8 0, .int .i64 0, .string ⟨#[]⟩, .bool false] 24)).alloc (.cells #[.int .u8 3, .int .i64 i, .string s, .bool false, .int .u8 k', .int .i64 i', .string s', .bool b'] 24)) :=
    ((TwoBox.new w 3 i s false k' i' s' b' 24 24).below ((Below.refl _ _).alloc (Nat.le_refl _) _)).below ((Below.refl _ _).alloc (Nat.le_refl _) _)
  have hr0 : ((((w.alloc (.cells #[.int .u8 3, .int .i64 i, .string s, .bool false] 24)).alloc (.cells #[.int .u8 k', .int .i64 i', .string s', .bool b'] 24)).alloc (.cells #[.int .u8 0, .int .i64 0, .string ⟨#[]⟩, .bool false] 24)).alloc (.cells #[.int .u8 3, .int .i64 i, .string s, .bool false, .int .u8 k', .int .i64 i', .string s', .bool b'] 24)).heap[w.heap.size + 1 + 1]? = some (.cells #[.int .u8 0, .int .i64 0, .string ⟨#[]⟩, .bool false] 24 (0, 0)) := by
    refine box_alloc ?_ _
    have := heap_alloc_new ((w.alloc (.cells #[.int .u8 3, .int .i64 i, .string s, .bool false] 24)).alloc (.cells #[.int .u8 k', .int .i64 i', .string s', .bool b'] 24)) (.cells #[.int .u8 0, .int .i64 0, .string ⟨#[]⟩, .bool false] 24)
    simpa using this
  have hrd : Rds ((((w.alloc (.cells #[.int .u8 3, .int .i64 i, .string s, .bool false] 24)).alloc (.cells #[.int .u8 k', .int .i64 i', .string s', .bool b'] 24)).alloc (.cells #[.int .u8 0, .int .i64 0, .string ⟨#[]⟩, .bool false] 24)).alloc (.cells #[.int .u8 3, .int .i64 i, .string s, .bool false, .int .u8 k', .int .i64 i', .string s', .bool b'] 24)) (some ⟨w.heap.size + 1 + 1 + 1, 0, none⟩) (Lp.vv [⟨3, i, s, false⟩, ⟨k', i', s', b'⟩]) := by
    have e : (((w.alloc (.cells #[.int .u8 3, .int .i64 i, .string s, .bool false] 24)).alloc (.cells #[.int .u8 k', .int .i64 i', .string s', .bool b'] 24)).alloc (.cells #[.int .u8 0, .int .i64 0, .string ⟨#[]⟩, .bool false] 24)).heap.size = w.heap.size + 1 + 1 + 1 := by simp
    have := rds_new (((w.alloc (.cells #[.int .u8 3, .int .i64 i, .string s, .bool false] 24)).alloc (.cells #[.int .u8 k', .int .i64 i', .string s', .bool b'] 24)).alloc (.cells #[.int .u8 0, .int .i64 0, .string ⟨#[]⟩, .bool false] 24)) [.int .u8 3, .int .i64 i, .string s, .bool false, .int .u8 k', .int .i64 i', .string s', .bool b'] 24
    rw [e] at this; exact this
  clear ht
  go_enter Tryd.func36, Tryd.ntmps36
  go_wp2_with fail
  refine (truths_two _ _ _ HT.out _ _ _ rfl _ hrd).mono ?_
  rintro e w1 ⟨rfl, hb1⟩
  have hr1 := box_below hr0 hb1
  have hx1 := hx0.below hb1
  have hx1' := hx1
  have k1 : Below w.heap.size w w1 := hb0.trans (hb1.mono (by simp; omega))
  clear hb0 hb1 hr0 hx0 hrd
  obtain ⟨f0, f1, f2, f3, f4, f5, f6, f7⟩ := hx1
  go_wp2_with fail
  refine (openb_3 _ _ _ _).mono ?_
  rintro e w2 ⟨rfl, hb2⟩
  have hr2 := box_below hr1 hb2
  have hx2 := hx1'.below hb2
  have k2 := k1.trans (hb2.mono k1.size)
  clear hb2 hr1 k1 hx1' f0 f1 f2 f3 f4 f5 f6 f7
  obtain ⟨f0, f1, f2, f3, f4, f5, f6, f7⟩ := hx2
  go_wp2_with fail
  refine (openb_n _ _ _ _ hk' _).mono ?_
  rintro e w3 ⟨rfl, hb3⟩
  have hr3 := box_below hr2 hb3
  have k3 := k2.trans (hb3.mono k2.size)
  have hc3 := box_cells hr3
  have hf3 := fun j => frozen_of_row w3 (w.heap.size + 1 + 1) j _ _ hr3
  clear hb3 hr2 k2 f0 f1 f2 f3 f4 f5 f6 f7
  have HCE := Lib.hid (box_cells (set4_same hr3 (.int .u8 0) (.int .i64 0) (.string ⟨#[]⟩) (.bool false)))
  have k5 := below_set4 k3 (g := w.heap.size + 1 + 1) (by omega) (.int .u8 0) (.int .i64 0) (.string ⟨#[]⟩) (.bool false)
  go_wp2
  have hcE := HCE.out
  exact bodyPost_ret (v := .tuple #[.agg #[.int .u8 0, .int .i64 0, .string ⟨#[]⟩, .bool false], .int .i64 0]) (by simp [results, Tryd.results36, go_sem, hcE]) rfl (truth_good H.out HN.out k5)
set_option maxRecDepth 100000 in
set_option maxHeartbeats 4000000 in
theorem join_nt_true (k : Int) (i : Int) (s : ByteArray) (b : Bool) (hk : NoK k) (i' : Int) (s' : ByteArray) (w : World) :
    Calls Tryd.prog 36 #[.agg #[.int .u8 k, .int .i64 i, .string s, .bool b], .agg #[.int .u8 3, .int .i64 i', .string s', .bool true], .bool true] w (TruthPost (Lp.badT ⟨k, i, s, b⟩ ⟨3, i', s', true⟩) (Lp.joinN ⟨k, i, s, b⟩ ⟨3, i', s', true⟩ true) w) := by
  have H : Hid (Lp.badT ⟨k, i, s, b⟩ ⟨3, i', s', true⟩ = false) := Lib.hid (by unfold Lp.badT; rw [tv_n b hk]; rfl)
  have HN : Hid (Lp.joinN ⟨k, i, s, b⟩ ⟨3, i', s', true⟩ true = 2) := Lib.hid (by unfold Lp.joinN; rw [tv_n b hk]; rfl)
  have ht : [⟨k, i, s, b⟩, ⟨3, i', s', true⟩].all Lp.tr = true := by rw [two_tr, H.out]; rfl
  have HT := Lib.hid ht
  have hb0 := ba (ba (ba (ba (Below.refl w.heap.size w) (.cells #[.int .u8 k, .int .i64 i, .string s, .bool b] 24)) (.cells #[.int .u8 3, .int .i64 i', .string s', .bool true] 24)) (.cells #[.int .u8 0, .int .i64 0, .string ⟨#[]⟩, .bool false] 24)) (.cells #[.int .u8 k, .int .i64 i, .string s, .bool b, .int .u8 3, .int .i64 i', .string s', .bool true] 24)
  have hx0 : TwoBox w.heap.size k i s b 3 i' s' true ((((w.alloc (.cells #[.int .u8 k, .int .i64 i, .string s, .bool b] 24)).alloc (.cells #[.int .u8 3, .int .i64 i', .string s', .bool true] 24)).alloc (.cells #[.int .u8 0, .int .i64 0, .string ⟨#[]⟩, .bool false] 24)).alloc (.cells #[.int .u8 k, .int .i64 i, .string s, .bool b, .int .u8 3, .int .i64 i', .string s', .bool true] 24)) :=
    ((TwoBox.new w k i s b 3 i' s' true 24 24).below ((Below.refl _ _).alloc (Nat.le_refl _) _)).below ((Below.refl _ _).alloc (Nat.le_refl _) _)
  have hr0 : ((((w.alloc (.cells #[.int .u8 k, .int .i64 i, .string s, .bool b] 24)).alloc (.cells #[.int .u8 3, .int .i64 i', .string s', .bool true] 24)).alloc (.cells #[.int .u8 0, .int .i64 0, .string ⟨#[]⟩, .bool false] 24)).alloc (.cells #[.int .u8 k, .int .i64 i, .string s, .bool b, .int .u8 3, .int .i64 i', .string s', .bool true] 24)).heap[w.heap.size + 1 + 1]? = some (.cells #[.int .u8 0, .int .i64 0, .string ⟨#[]⟩, .bool false] 24 (0, 0)) := by
    refine box_alloc ?_ _
    have := heap_alloc_new ((w.alloc (.cells #[.int .u8 k, .int .i64 i, .string s, .bool b] 24)).alloc (.cells #[.int .u8 3, .int .i64 i', .string s', .bool true] 24)) (.cells #[.int .u8 0, .int .i64 0, .string ⟨#[]⟩, .bool false] 24)
    simpa using this
  have hrd : Rds ((((w.alloc (.cells #[.int .u8 k, .int .i64 i, .string s, .bool b] 24)).alloc (.cells #[.int .u8 3, .int .i64 i', .string s', .bool true] 24)).alloc (.cells #[.int .u8 0, .int .i64 0, .string ⟨#[]⟩, .bool false] 24)).alloc (.cells #[.int .u8 k, .int .i64 i, .string s, .bool b, .int .u8 3, .int .i64 i', .string s', .bool true] 24)) (some ⟨w.heap.size + 1 + 1 + 1, 0, none⟩) (Lp.vv [⟨k, i, s, b⟩, ⟨3, i', s', true⟩]) := by
    have e : (((w.alloc (.cells #[.int .u8 k, .int .i64 i, .string s, .bool b] 24)).alloc (.cells #[.int .u8 3, .int .i64 i', .string s', .bool true] 24)).alloc (.cells #[.int .u8 0, .int .i64 0, .string ⟨#[]⟩, .bool false] 24)).heap.size = w.heap.size + 1 + 1 + 1 := by simp
    have := rds_new (((w.alloc (.cells #[.int .u8 k, .int .i64 i, .string s, .bool b] 24)).alloc (.cells #[.int .u8 3, .int .i64 i', .string s', .bool true] 24)).alloc (.cells #[.int .u8 0, .int .i64 0, .string ⟨#[]⟩, .bool false] 24)) [.int .u8 k, .int .i64 i, .string s, .bool b, .int .u8 3, .int .i64 i', .string s', .bool true] 24
    rw [e] at this; exact this
  clear ht
  go_enter Tryd.func36, Tryd.ntmps36
  go_wp2_with fail
  refine (truths_two _ _ _ HT.out _ _ _ rfl _ hrd).mono ?_
  rintro e w1 ⟨rfl, hb1⟩
  have hr1 := box_below hr0 hb1
  have hx1 := hx0.below hb1
  have hx1' := hx1
  have k1 : Below w.heap.size w w1 := hb0.trans (hb1.mono (by simp; omega))
  clear hb0 hb1 hr0 hx0 hrd
  obtain ⟨f0, f1, f2, f3, f4, f5, f6, f7⟩ := hx1
  go_wp2_with fail
  refine (openb_n _ _ _ _ hk _).mono ?_
  rintro e w2 ⟨rfl, hb2⟩
  have hr2 := box_below hr1 hb2
  have hx2 := hx1'.below hb2
  have k2 := k1.trans (hb2.mono k1.size)
  clear hb2 hr1 k1 hx1' f0 f1 f2 f3 f4 f5 f6 f7
  obtain ⟨f0, f1, f2, f3, f4, f5, f6, f7⟩ := hx2
  go_wp2_with fail
  refine (openb_3 _ _ _ _).mono ?_
  rintro e w3 ⟨rfl, hb3⟩
  have hr3 := box_below hr2 hb3
  have k3 := k2.trans (hb3.mono k2.size)
  have hc3 := box_cells hr3
  have hf3 := fun j => frozen_of_row w3 (w.heap.size + 1 + 1) j _ _ hr3
  clear hb3 hr2 k2 f0 f1 f2 f3 f4 f5 f6 f7
  clear hc3 hf3
  go_wp2_with fail
  refine (truthb _ _).mono ?_
  rintro e w4 ⟨rfl, hb4⟩
  have hr4 := box_below hr3 hb4
  have k4 := k3.trans (hb4.mono k3.size)
  have hc4 := box_cells hr4
  have hf4 := fun j => frozen_of_row w4 (w.heap.size + 1 + 1) j _ _ hr4
  have HCE := Lib.hid (box_cells (set4_same hr4 (.int .u8 3) (.int .i64 0) (.string ⟨#[]⟩) (.bool true)))
  have k5 := below_set4 k4 (g := w.heap.size + 1 + 1) (by omega) (.int .u8 3) (.int .i64 0) (.string ⟨#[]⟩) (.bool true)
  clear hb4 hr3 k3
  go_wp2
  have hcE := HCE.out
  exact bodyPost_ret (v := .tuple #[.agg #[.int .u8 3, .int .i64 0, .string ⟨#[]⟩, .bool true], .int .i64 0]) (by simp [results, Tryd.results36, go_sem, hcE]) rfl (truth_good H.out HN.out k5)
set_option maxRecDepth 100000 in
set_option maxHeartbeats 4000000 in
theorem join_nf_true (k : Int) (i : Int) (s : ByteArray) (b : Bool) (hk : NoK k) (i' : Int) (s' : ByteArray) (w : World) :
    Calls Tryd.prog 36 #[.agg #[.int .u8 k, .int .i64 i, .string s, .bool b], .agg #[.int .u8 3, .int .i64 i', .string s', .bool false], .bool true] w (TruthPost (Lp.badT ⟨k, i, s, b⟩ ⟨3, i', s', false⟩) (Lp.joinN ⟨k, i, s, b⟩ ⟨3, i', s', false⟩ true) w) := by
  have H : Hid (Lp.badT ⟨k, i, s, b⟩ ⟨3, i', s', false⟩ = false) := Lib.hid (by unfold Lp.badT; rw [tv_n b hk]; rfl)
  have HN : Hid (Lp.joinN ⟨k, i, s, b⟩ ⟨3, i', s', false⟩ true = 1) := Lib.hid (by unfold Lp.joinN; rw [tv_n b hk]; rfl)
  have ht : [⟨k, i, s, b⟩, ⟨3, i', s', false⟩].all Lp.tr = true := by rw [two_tr, H.out]; rfl
  have HT := Lib.hid ht
  have hb0 := ba (ba (ba (ba (Below.refl w.heap.size w) (.cells #[.int .u8 k, .int .i64 i, .string s, .bool b] 24)) (.cells #[.int .u8 3, .int .i64 i', .string s', .bool false] 24)) (.cells #[.int .u8 0, .int .i64 0, .string ⟨#[]⟩, .bool false] 24)) (.cells #[.int .u8 k, .int .i64 i, .string s, .bool b, .int .u8 3, .int .i64 i', .string s', .bool false] 24)
  have hx0 : TwoBox w.heap.size k i s b 3 i' s' false ((((w.alloc (.cells #[.int .u8 k, .int .i64 i, .string s, .bool b] 24)).alloc (.cells #[.int .u8 3, .int .i64 i', .string s', .bool false] 24)).alloc (.cells #[.int .u8 0, .int .i64 0, .string ⟨#[]⟩, .bool false] 24)).alloc (.cells #[.int .u8 k, .int .i64 i, .string s, .bool b, .int .u8 3, .int .i64 i', .string s', .bool false] 24)) :=
    ((TwoBox.new w k i s b 3 i' s' false 24 24).below ((Below.refl _ _).alloc (Nat.le_refl _) _)).below ((Below.refl _ _).alloc (Nat.le_refl _) _)
  have hr0 : ((((w.alloc (.cells #[.int .u8 k, .int .i64 i, .string s, .bool b] 24)).alloc (.cells #[.int .u8 3, .int .i64 i', .string s', .bool false] 24)).alloc (.cells #[.int .u8 0, .int .i64 0, .string ⟨#[]⟩, .bool false] 24)).alloc (.cells #[.int .u8 k, .int .i64 i, .string s, .bool b, .int .u8 3, .int .i64 i', .string s', .bool false] 24)).heap[w.heap.size + 1 + 1]? = some (.cells #[.int .u8 0, .int .i64 0, .string ⟨#[]⟩, .bool false] 24 (0, 0)) := by
    refine box_alloc ?_ _
    have := heap_alloc_new ((w.alloc (.cells #[.int .u8 k, .int .i64 i, .string s, .bool b] 24)).alloc (.cells #[.int .u8 3, .int .i64 i', .string s', .bool false] 24)) (.cells #[.int .u8 0, .int .i64 0, .string ⟨#[]⟩, .bool false] 24)
    simpa using this
  have hrd : Rds ((((w.alloc (.cells #[.int .u8 k, .int .i64 i, .string s, .bool b] 24)).alloc (.cells #[.int .u8 3, .int .i64 i', .string s', .bool false] 24)).alloc (.cells #[.int .u8 0, .int .i64 0, .string ⟨#[]⟩, .bool false] 24)).alloc (.cells #[.int .u8 k, .int .i64 i, .string s, .bool b, .int .u8 3, .int .i64 i', .string s', .bool false] 24)) (some ⟨w.heap.size + 1 + 1 + 1, 0, none⟩) (Lp.vv [⟨k, i, s, b⟩, ⟨3, i', s', false⟩]) := by
    have e : (((w.alloc (.cells #[.int .u8 k, .int .i64 i, .string s, .bool b] 24)).alloc (.cells #[.int .u8 3, .int .i64 i', .string s', .bool false] 24)).alloc (.cells #[.int .u8 0, .int .i64 0, .string ⟨#[]⟩, .bool false] 24)).heap.size = w.heap.size + 1 + 1 + 1 := by simp
    have := rds_new (((w.alloc (.cells #[.int .u8 k, .int .i64 i, .string s, .bool b] 24)).alloc (.cells #[.int .u8 3, .int .i64 i', .string s', .bool false] 24)).alloc (.cells #[.int .u8 0, .int .i64 0, .string ⟨#[]⟩, .bool false] 24)) [.int .u8 k, .int .i64 i, .string s, .bool b, .int .u8 3, .int .i64 i', .string s', .bool false] 24
    rw [e] at this; exact this
  clear ht
  go_enter Tryd.func36, Tryd.ntmps36
  go_wp2_with fail
  refine (truths_two _ _ _ HT.out _ _ _ rfl _ hrd).mono ?_
  rintro e w1 ⟨rfl, hb1⟩
  have hr1 := box_below hr0 hb1
  have hx1 := hx0.below hb1
  have hx1' := hx1
  have k1 : Below w.heap.size w w1 := hb0.trans (hb1.mono (by simp; omega))
  clear hb0 hb1 hr0 hx0 hrd
  obtain ⟨f0, f1, f2, f3, f4, f5, f6, f7⟩ := hx1
  go_wp2_with fail
  refine (openb_n _ _ _ _ hk _).mono ?_
  rintro e w2 ⟨rfl, hb2⟩
  have hr2 := box_below hr1 hb2
  have hx2 := hx1'.below hb2
  have k2 := k1.trans (hb2.mono k1.size)
  clear hb2 hr1 k1 hx1' f0 f1 f2 f3 f4 f5 f6 f7
  obtain ⟨f0, f1, f2, f3, f4, f5, f6, f7⟩ := hx2
  go_wp2_with fail
  refine (openb_3 _ _ _ _).mono ?_
  rintro e w3 ⟨rfl, hb3⟩
  have hr3 := box_below hr2 hb3
  have k3 := k2.trans (hb3.mono k2.size)
  have hc3 := box_cells hr3
  have hf3 := fun j => frozen_of_row w3 (w.heap.size + 1 + 1) j _ _ hr3
  clear hb3 hr2 k2 f0 f1 f2 f3 f4 f5 f6 f7
  have HCE := Lib.hid (box_cells (set4_same hr3 (.int .u8 0) (.int .i64 0) (.string ⟨#[]⟩) (.bool false)))
  have k5 := below_set4 k3 (g := w.heap.size + 1 + 1) (by omega) (.int .u8 0) (.int .i64 0) (.string ⟨#[]⟩) (.bool false)
  go_wp2
  have hcE := HCE.out
  exact bodyPost_ret (v := .tuple #[.agg #[.int .u8 0, .int .i64 0, .string ⟨#[]⟩, .bool false], .int .i64 0]) (by simp [results, Tryd.results36, go_sem, hcE]) rfl (truth_good H.out HN.out k5)
set_option maxRecDepth 100000 in
set_option maxHeartbeats 4000000 in
theorem join_nn_true (k : Int) (i : Int) (s : ByteArray) (b : Bool) (hk : NoK k) (k' : Int) (i' : Int) (s' : ByteArray) (b' : Bool) (hk' : NoK k') (w : World) :
    Calls Tryd.prog 36 #[.agg #[.int .u8 k, .int .i64 i, .string s, .bool b], .agg #[.int .u8 k', .int .i64 i', .string s', .bool b'], .bool true] w (TruthPost (Lp.badT ⟨k, i, s, b⟩ ⟨k', i', s', b'⟩) (Lp.joinN ⟨k, i, s, b⟩ ⟨k', i', s', b'⟩ true) w) := by
  have H : Hid (Lp.badT ⟨k, i, s, b⟩ ⟨k', i', s', b'⟩ = false) := Lib.hid (by unfold Lp.badT; rw [tv_n b hk, tv_n b' hk']; rfl)
  have HN : Hid (Lp.joinN ⟨k, i, s, b⟩ ⟨k', i', s', b'⟩ true = 1) := Lib.hid (by unfold Lp.joinN; rw [tv_n b hk, tv_n b' hk']; rfl)
  have ht : [⟨k, i, s, b⟩, ⟨k', i', s', b'⟩].all Lp.tr = true := by rw [two_tr, H.out]; rfl
  have HT := Lib.hid ht
  have hb0 := ba (ba (ba (ba (Below.refl w.heap.size w) (.cells #[.int .u8 k, .int .i64 i, .string s, .bool b] 24)) (.cells #[.int .u8 k', .int .i64 i', .string s', .bool b'] 24)) (.cells #[.int .u8 0, .int .i64 0, .string ⟨#[]⟩, .bool false] 24)) (.cells #[.int .u8 k, .int .i64 i, .string s, .bool b, .int .u8 k', .int .i64 i', .string s', .bool b'] 24)
  have hx0 : TwoBox w.heap.size k i s b k' i' s' b' ((((w.alloc (.cells #[.int .u8 k, .int .i64 i, .string s, .bool b] 24)).alloc (.cells #[.int .u8 k', .int .i64 i', .string s', .bool b'] 24)).alloc (.cells #[.int .u8 0, .int .i64 0, .string ⟨#[]⟩, .bool false] 24)).alloc (.cells #[.int .u8 k, .int .i64 i, .string s, .bool b, .int .u8 k', .int .i64 i', .string s', .bool b'] 24)) :=
    ((TwoBox.new w k i s b k' i' s' b' 24 24).below ((Below.refl _ _).alloc (Nat.le_refl _) _)).below ((Below.refl _ _).alloc (Nat.le_refl _) _)
  have hr0 : ((((w.alloc (.cells #[.int .u8 k, .int .i64 i, .string s, .bool b] 24)).alloc (.cells #[.int .u8 k', .int .i64 i', .string s', .bool b'] 24)).alloc (.cells #[.int .u8 0, .int .i64 0, .string ⟨#[]⟩, .bool false] 24)).alloc (.cells #[.int .u8 k, .int .i64 i, .string s, .bool b, .int .u8 k', .int .i64 i', .string s', .bool b'] 24)).heap[w.heap.size + 1 + 1]? = some (.cells #[.int .u8 0, .int .i64 0, .string ⟨#[]⟩, .bool false] 24 (0, 0)) := by
    refine box_alloc ?_ _
    have := heap_alloc_new ((w.alloc (.cells #[.int .u8 k, .int .i64 i, .string s, .bool b] 24)).alloc (.cells #[.int .u8 k', .int .i64 i', .string s', .bool b'] 24)) (.cells #[.int .u8 0, .int .i64 0, .string ⟨#[]⟩, .bool false] 24)
    simpa using this
  have hrd : Rds ((((w.alloc (.cells #[.int .u8 k, .int .i64 i, .string s, .bool b] 24)).alloc (.cells #[.int .u8 k', .int .i64 i', .string s', .bool b'] 24)).alloc (.cells #[.int .u8 0, .int .i64 0, .string ⟨#[]⟩, .bool false] 24)).alloc (.cells #[.int .u8 k, .int .i64 i, .string s, .bool b, .int .u8 k', .int .i64 i', .string s', .bool b'] 24)) (some ⟨w.heap.size + 1 + 1 + 1, 0, none⟩) (Lp.vv [⟨k, i, s, b⟩, ⟨k', i', s', b'⟩]) := by
    have e : (((w.alloc (.cells #[.int .u8 k, .int .i64 i, .string s, .bool b] 24)).alloc (.cells #[.int .u8 k', .int .i64 i', .string s', .bool b'] 24)).alloc (.cells #[.int .u8 0, .int .i64 0, .string ⟨#[]⟩, .bool false] 24)).heap.size = w.heap.size + 1 + 1 + 1 := by simp
    have := rds_new (((w.alloc (.cells #[.int .u8 k, .int .i64 i, .string s, .bool b] 24)).alloc (.cells #[.int .u8 k', .int .i64 i', .string s', .bool b'] 24)).alloc (.cells #[.int .u8 0, .int .i64 0, .string ⟨#[]⟩, .bool false] 24)) [.int .u8 k, .int .i64 i, .string s, .bool b, .int .u8 k', .int .i64 i', .string s', .bool b'] 24
    rw [e] at this; exact this
  clear ht
  go_enter Tryd.func36, Tryd.ntmps36
  go_wp2_with fail
  refine (truths_two _ _ _ HT.out _ _ _ rfl _ hrd).mono ?_
  rintro e w1 ⟨rfl, hb1⟩
  have hr1 := box_below hr0 hb1
  have hx1 := hx0.below hb1
  have hx1' := hx1
  have k1 : Below w.heap.size w w1 := hb0.trans (hb1.mono (by simp; omega))
  clear hb0 hb1 hr0 hx0 hrd
  obtain ⟨f0, f1, f2, f3, f4, f5, f6, f7⟩ := hx1
  go_wp2_with fail
  refine (openb_n _ _ _ _ hk _).mono ?_
  rintro e w2 ⟨rfl, hb2⟩
  have hr2 := box_below hr1 hb2
  have hx2 := hx1'.below hb2
  have k2 := k1.trans (hb2.mono k1.size)
  clear hb2 hr1 k1 hx1' f0 f1 f2 f3 f4 f5 f6 f7
  obtain ⟨f0, f1, f2, f3, f4, f5, f6, f7⟩ := hx2
  go_wp2_with fail
  refine (openb_n _ _ _ _ hk' _).mono ?_
  rintro e w3 ⟨rfl, hb3⟩
  have hr3 := box_below hr2 hb3
  have k3 := k2.trans (hb3.mono k2.size)
  have hc3 := box_cells hr3
  have hf3 := fun j => frozen_of_row w3 (w.heap.size + 1 + 1) j _ _ hr3
  clear hb3 hr2 k2 f0 f1 f2 f3 f4 f5 f6 f7
  have HCE := Lib.hid (box_cells (set4_same hr3 (.int .u8 0) (.int .i64 0) (.string ⟨#[]⟩) (.bool false)))
  have k5 := below_set4 k3 (g := w.heap.size + 1 + 1) (by omega) (.int .u8 0) (.int .i64 0) (.string ⟨#[]⟩) (.bool false)
  go_wp2
  have hcE := HCE.out
  exact bodyPost_ret (v := .tuple #[.agg #[.int .u8 0, .int .i64 0, .string ⟨#[]⟩, .bool false], .int .i64 0]) (by simp [results, Tryd.results36, go_sem, hcE]) rfl (truth_good H.out HN.out k5)
theorem join_true (k i : Int) (s : ByteArray) (b : Bool) (k' i' : Int) (s' : ByteArray) (b' : Bool) (w : World) :
    Calls Tryd.prog 36 #[.agg #[.int .u8 k, .int .i64 i, .string s, .bool b], .agg #[.int .u8 k', .int .i64 i', .string s', .bool b'], .bool true] w (TruthPost (Lp.badT ⟨k, i, s, b⟩ ⟨k', i', s', b'⟩) (Lp.joinN ⟨k, i, s, b⟩ ⟨k', i', s', b'⟩ true) w) := by
  rcases Bool.eq_false_or_eq_true (Lp.badT ⟨k, i, s, b⟩ ⟨k', i', s', b'⟩) with hbad | hbad
  · exact join_bad k i s b k' i' s' b' true w hbad
  · rcases kcases k with rfl | rfl | rfl | hk
    · cases hbad
    · cases hbad
    · rcases kcases k' with rfl | rfl | rfl | hk'
      · cases b <;> cases hbad
      · cases b <;> cases hbad
      · cases b <;> cases b'
        · exact join_ff_true i s i' s' w
        · exact join_ft_true i s i' s' w
        · exact join_tf_true i s i' s' w
        · exact join_tt_true i s i' s' w
      · cases b
        · exact join_fn_true i s k' i' s' b' hk' w
        · exact join_tn_true i s k' i' s' b' hk' w
    · rcases kcases k' with rfl | rfl | rfl | hk'
      · unfold Lp.badT at hbad; rw [tv_n b hk] at hbad; cases hbad
      · unfold Lp.badT at hbad; rw [tv_n b hk] at hbad; cases hbad
      · cases b'
        · exact join_nf_true k i s b hk i' s' w
        · exact join_nt_true k i s b hk i' s' w
      · exact join_nn_true k i s b hk k' i' s' b' hk' w
end Go.Proofs.YthojikijelijnaaDoor
