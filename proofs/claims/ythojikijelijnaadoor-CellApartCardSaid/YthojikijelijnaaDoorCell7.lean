/-
  What cell's And, Or and Not give, and the document's Not, of any values. No conditions.
-/
import Derived.Test.YthojikijelijnaaDoorJoinF
import Derived.Test.YthojikijelijnaaDoorJoinT
namespace Go.Proofs.YthojikijelijnaaDoor
open Go.RowKit
attribute [local go_sem] ta_i_i ta_i_s ta_i_b ta1_i ta_s_i ta_s_s ta_s_b ta1_s ta_b_i ta_b_s ta_b_b ta1_b ta_n_i ta_n_s ta_n_b

theorem truth_at {bad : Bool} {n : Int} {w w' : World} {K E : Int} {B : Bool} (h1 : (if bad then 0 else Lp.bkK n) = K) (h2 : (if bad then false else Lp.bkB n) = B) (h3 : (if bad then 8 else 0) = E) (hb : Below w.heap.size w w') :
    TruthPost bad n w (.returned (.tuple #[.agg #[.int .u8 K, .int .i64 0, .string ⟨#[]⟩, .bool B], .int .i64 E])) w' := by
  subst h1 h2 h3; exact ⟨rfl, hb⟩
set_option maxRecDepth 100000 in
set_option maxHeartbeats 4000000 in
theorem cand_any (k i : Int) (s : ByteArray) (b : Bool) (k' i' : Int) (s' : ByteArray) (b' : Bool) (w : World) :
    Calls Tryd.prog 22 #[.agg #[.int .u8 k, .int .i64 i, .string s, .bool b], .agg #[.int .u8 k', .int .i64 i', .string s', .bool b']] w (TruthPost (Lp.badT ⟨k, i, s, b⟩ ⟨k', i', s', b'⟩) (Lp.joinN ⟨k, i, s, b⟩ ⟨k', i', s', b'⟩ false) w) := by
  have hb0 := ba (ba (ba (Below.refl w.heap.size w) (.cells #[.int .u8 k, .int .i64 i, .string s, .bool b] 24)) (.cells #[.int .u8 k', .int .i64 i', .string s', .bool b'] 24)) (.cells #[.int .u8 0, .int .i64 0, .string ⟨#[]⟩, .bool false] 24)
  have hr0 : (((w.alloc (.cells #[.int .u8 k, .int .i64 i, .string s, .bool b] 24)).alloc (.cells #[.int .u8 k', .int .i64 i', .string s', .bool b'] 24)).alloc (.cells #[.int .u8 0, .int .i64 0, .string ⟨#[]⟩, .bool false] 24)).heap[w.heap.size + 1 + 1]? = some (.cells #[.int .u8 0, .int .i64 0, .string ⟨#[]⟩, .bool false] 24 (0, 0)) := by
    have := heap_alloc_new ((w.alloc (.cells #[.int .u8 k, .int .i64 i, .string s, .bool b] 24)).alloc (.cells #[.int .u8 k', .int .i64 i', .string s', .bool b'] 24)) (.cells #[.int .u8 0, .int .i64 0, .string ⟨#[]⟩, .bool false] 24)
    simpa using this
  have HJ := Lib.hid (fun W => join_false k i s b k' i' s' b' W)
  obtain ⟨bad, hbad⟩ : ∃ bad, Lp.badT ⟨k, i, s, b⟩ ⟨k', i', s', b'⟩ = bad := ⟨_, rfl⟩
  obtain ⟨n, hn⟩ : ∃ n, Lp.joinN ⟨k, i, s, b⟩ ⟨k', i', s', b'⟩ false = n := ⟨_, rfl⟩
  rw [hbad, hn] at HJ ⊢
  clear hbad hn
  go_enter Tryd.func22, Tryd.ntmps22
  go_wp2_with fail
  refine (HJ.out _).mono ?_
  rintro e w1 ⟨rfl, hb1⟩
  obtain ⟨K, hK⟩ : ∃ K, (if bad then 0 else Lp.bkK n) = K := ⟨_, rfl⟩
  obtain ⟨B, hB⟩ : ∃ B, (if bad then false else Lp.bkB n) = B := ⟨_, rfl⟩
  obtain ⟨E, hE⟩ : ∃ E : Int, (if bad then 8 else 0) = E := ⟨_, rfl⟩
  rw [hK, hB, hE]
  have HK := Lib.hid hK
  have HB := Lib.hid hB
  have HE := Lib.hid hE
  clear hK hB hE
  have hr1 := box_below hr0 hb1
  have k1 : Below w.heap.size w w1 := hb0.trans (hb1.mono (by simp; omega))
  have hc1 := box_cells hr1
  have hf1 := fun j => frozen_of_row w1 (w.heap.size + 1 + 1) j _ _ hr1
  have HCE := Lib.hid (box_cells (set4_same hr1 (.int .u8 K) (.int .i64 0) (.string ⟨#[]⟩) (.bool B)))
  have k5 := below_set4 k1 (g := w.heap.size + 1 + 1) (by omega) (.int .u8 K) (.int .i64 0) (.string ⟨#[]⟩) (.bool B)
  clear hb0 hb1 hr0
  go_wp2
  have hcE := HCE.out
  exact bodyPost_ret (v := .tuple #[.agg #[.int .u8 K, .int .i64 0, .string ⟨#[]⟩, .bool B], .int .i64 E]) (by simp [results, Tryd.results22, go_sem, hcE]) rfl (truth_at HK.out HB.out HE.out k5)
set_option maxRecDepth 100000 in
set_option maxHeartbeats 4000000 in
theorem cor_any (k i : Int) (s : ByteArray) (b : Bool) (k' i' : Int) (s' : ByteArray) (b' : Bool) (w : World) :
    Calls Tryd.prog 25 #[.agg #[.int .u8 k, .int .i64 i, .string s, .bool b], .agg #[.int .u8 k', .int .i64 i', .string s', .bool b']] w (TruthPost (Lp.badT ⟨k, i, s, b⟩ ⟨k', i', s', b'⟩) (Lp.joinN ⟨k, i, s, b⟩ ⟨k', i', s', b'⟩ true) w) := by
  have hb0 := ba (ba (ba (Below.refl w.heap.size w) (.cells #[.int .u8 k, .int .i64 i, .string s, .bool b] 24)) (.cells #[.int .u8 k', .int .i64 i', .string s', .bool b'] 24)) (.cells #[.int .u8 0, .int .i64 0, .string ⟨#[]⟩, .bool false] 24)
  have hr0 : (((w.alloc (.cells #[.int .u8 k, .int .i64 i, .string s, .bool b] 24)).alloc (.cells #[.int .u8 k', .int .i64 i', .string s', .bool b'] 24)).alloc (.cells #[.int .u8 0, .int .i64 0, .string ⟨#[]⟩, .bool false] 24)).heap[w.heap.size + 1 + 1]? = some (.cells #[.int .u8 0, .int .i64 0, .string ⟨#[]⟩, .bool false] 24 (0, 0)) := by
    have := heap_alloc_new ((w.alloc (.cells #[.int .u8 k, .int .i64 i, .string s, .bool b] 24)).alloc (.cells #[.int .u8 k', .int .i64 i', .string s', .bool b'] 24)) (.cells #[.int .u8 0, .int .i64 0, .string ⟨#[]⟩, .bool false] 24)
    simpa using this
  have HJ := Lib.hid (fun W => join_true k i s b k' i' s' b' W)
  obtain ⟨bad, hbad⟩ : ∃ bad, Lp.badT ⟨k, i, s, b⟩ ⟨k', i', s', b'⟩ = bad := ⟨_, rfl⟩
  obtain ⟨n, hn⟩ : ∃ n, Lp.joinN ⟨k, i, s, b⟩ ⟨k', i', s', b'⟩ true = n := ⟨_, rfl⟩
  rw [hbad, hn] at HJ ⊢
  clear hbad hn
  go_enter Tryd.func25, Tryd.ntmps25
  go_wp2_with fail
  refine (HJ.out _).mono ?_
  rintro e w1 ⟨rfl, hb1⟩
  obtain ⟨K, hK⟩ : ∃ K, (if bad then 0 else Lp.bkK n) = K := ⟨_, rfl⟩
  obtain ⟨B, hB⟩ : ∃ B, (if bad then false else Lp.bkB n) = B := ⟨_, rfl⟩
  obtain ⟨E, hE⟩ : ∃ E : Int, (if bad then 8 else 0) = E := ⟨_, rfl⟩
  rw [hK, hB, hE]
  have HK := Lib.hid hK
  have HB := Lib.hid hB
  have HE := Lib.hid hE
  clear hK hB hE
  have hr1 := box_below hr0 hb1
  have k1 : Below w.heap.size w w1 := hb0.trans (hb1.mono (by simp; omega))
  have hc1 := box_cells hr1
  have hf1 := fun j => frozen_of_row w1 (w.heap.size + 1 + 1) j _ _ hr1
  have HCE := Lib.hid (box_cells (set4_same hr1 (.int .u8 K) (.int .i64 0) (.string ⟨#[]⟩) (.bool B)))
  have k5 := below_set4 k1 (g := w.heap.size + 1 + 1) (by omega) (.int .u8 K) (.int .i64 0) (.string ⟨#[]⟩) (.bool B)
  clear hb0 hb1 hr0
  go_wp2
  have hcE := HCE.out
  exact bodyPost_ret (v := .tuple #[.agg #[.int .u8 K, .int .i64 0, .string ⟨#[]⟩, .bool B], .int .i64 E]) (by simp [results, Tryd.results25, go_sem, hcE]) rfl (truth_at HK.out HB.out HE.out k5)
set_option maxRecDepth 100000 in
set_option maxHeartbeats 4000000 in
theorem cnot_bad (k : Int) (i : Int) (s : ByteArray) (b : Bool) (hk : k = 1 ∨ k = 2) (w : World) :
    Calls Tryd.prog 23 #[.agg #[.int .u8 k, .int .i64 i, .string s, .bool b]] w (TruthPost (decide (Lp.tw k b < 0)) (2 - Lp.tw k b) w) := by
  have H : Hid (decide (Lp.tw k b < 0) = true) := Lib.hid (by rcases hk with rfl | rfl <;> rfl)
  have HT : Hid ([(⟨k, i, s, b⟩ : Lp.V)].all Lp.tr = false) := Lib.hid (by rcases hk with rfl | rfl <;> rfl)
  have hb0 := ba (ba (ba (Below.refl w.heap.size w) (.cells #[.int .u8 k, .int .i64 i, .string s, .bool b] 24)) (.cells #[.int .u8 0, .int .i64 0, .string ⟨#[]⟩, .bool false] 24)) (.cells #[.int .u8 k, .int .i64 i, .string s, .bool b] 24)
  have hx0 : (((w.alloc (.cells #[.int .u8 k, .int .i64 i, .string s, .bool b] 24)).alloc (.cells #[.int .u8 0, .int .i64 0, .string ⟨#[]⟩, .bool false] 24)).alloc (.cells #[.int .u8 k, .int .i64 i, .string s, .bool b] 24)).heap[w.heap.size]? = some (.cells #[.int .u8 k, .int .i64 i, .string s, .bool b] 24 (0, 0)) := box_alloc (box_alloc (heap_alloc_new w _) _) _
  have hr0 : (((w.alloc (.cells #[.int .u8 k, .int .i64 i, .string s, .bool b] 24)).alloc (.cells #[.int .u8 0, .int .i64 0, .string ⟨#[]⟩, .bool false] 24)).alloc (.cells #[.int .u8 k, .int .i64 i, .string s, .bool b] 24)).heap[w.heap.size + 1]? = some (.cells #[.int .u8 0, .int .i64 0, .string ⟨#[]⟩, .bool false] 24 (0, 0)) := box_alloc (heap_new2 w _ _) _
  have hrd : Rds (((w.alloc (.cells #[.int .u8 k, .int .i64 i, .string s, .bool b] 24)).alloc (.cells #[.int .u8 0, .int .i64 0, .string ⟨#[]⟩, .bool false] 24)).alloc (.cells #[.int .u8 k, .int .i64 i, .string s, .bool b] 24)) (some ⟨w.heap.size + 1 + 1, 0, none⟩) (Lp.vv [⟨k, i, s, b⟩]) := by
    have e : ((w.alloc (.cells #[.int .u8 k, .int .i64 i, .string s, .bool b] 24)).alloc (.cells #[.int .u8 0, .int .i64 0, .string ⟨#[]⟩, .bool false] 24)).heap.size = w.heap.size + 1 + 1 := by simp
    have := rds_new ((w.alloc (.cells #[.int .u8 k, .int .i64 i, .string s, .bool b] 24)).alloc (.cells #[.int .u8 0, .int .i64 0, .string ⟨#[]⟩, .bool false] 24)) [.int .u8 k, .int .i64 i, .string s, .bool b] 24
    rw [e] at this; exact this
  go_enter Tryd.func23, Tryd.ntmps23
  go_wp2_with fail
  refine (truths_one _ _ HT.out _ _ _ rfl _ hrd).mono ?_
  rintro e w1 ⟨rfl, hb1⟩
  have hr1 := box_below hr0 hb1
  have hx1 := box_below hx0 hb1
  have hd1 := box_cells hx1
  have k1 : Below w.heap.size w w1 := hb0.trans (hb1.mono (by simp; omega))
  clear hb0 hb1 hr0 hx0 hrd
  have hc1 := box_cells hr1
  have hf1 := fun j => frozen_of_row w1 (w.heap.size + 1) j _ _ hr1
  have HCE := Lib.hid (box_cells (set4_same hr1 (.int .u8 0) (.int .i64 0) (.string ⟨#[]⟩) (.bool false)))
  have k5 := below_set4 k1 (g := w.heap.size + 1) (by omega) (.int .u8 0) (.int .i64 0) (.string ⟨#[]⟩) (.bool false)
  go_wp2
  have hcE := HCE.out
  exact bodyPost_ret (v := .tuple #[.agg #[.int .u8 0, .int .i64 0, .string ⟨#[]⟩, .bool false], .int .i64 8]) (by simp [results, Tryd.results23, go_sem, hcE]) rfl (truth_bad H.out k5)
set_option maxRecDepth 100000 in
set_option maxHeartbeats 4000000 in
theorem cnot_t (i : Int) (s : ByteArray) (w : World) :
    Calls Tryd.prog 23 #[.agg #[.int .u8 3, .int .i64 i, .string s, .bool true]] w (TruthPost (decide (Lp.tw 3 true < 0)) (2 - Lp.tw 3 true) w) := by
  have H : Hid (decide (Lp.tw 3 true < 0) = false) := Lib.hid (rfl)
  have HN : Hid (2 - Lp.tw 3 true = 0) := Lib.hid (rfl)
  have HT : Hid ([(⟨3, i, s, true⟩ : Lp.V)].all Lp.tr = true) := Lib.hid (rfl)
  have hb0 := ba (ba (ba (Below.refl w.heap.size w) (.cells #[.int .u8 3, .int .i64 i, .string s, .bool true] 24)) (.cells #[.int .u8 0, .int .i64 0, .string ⟨#[]⟩, .bool false] 24)) (.cells #[.int .u8 3, .int .i64 i, .string s, .bool true] 24)
  have hx0 : (((w.alloc (.cells #[.int .u8 3, .int .i64 i, .string s, .bool true] 24)).alloc (.cells #[.int .u8 0, .int .i64 0, .string ⟨#[]⟩, .bool false] 24)).alloc (.cells #[.int .u8 3, .int .i64 i, .string s, .bool true] 24)).heap[w.heap.size]? = some (.cells #[.int .u8 3, .int .i64 i, .string s, .bool true] 24 (0, 0)) := box_alloc (box_alloc (heap_alloc_new w _) _) _
  have hr0 : (((w.alloc (.cells #[.int .u8 3, .int .i64 i, .string s, .bool true] 24)).alloc (.cells #[.int .u8 0, .int .i64 0, .string ⟨#[]⟩, .bool false] 24)).alloc (.cells #[.int .u8 3, .int .i64 i, .string s, .bool true] 24)).heap[w.heap.size + 1]? = some (.cells #[.int .u8 0, .int .i64 0, .string ⟨#[]⟩, .bool false] 24 (0, 0)) := box_alloc (heap_new2 w _ _) _
  have hrd : Rds (((w.alloc (.cells #[.int .u8 3, .int .i64 i, .string s, .bool true] 24)).alloc (.cells #[.int .u8 0, .int .i64 0, .string ⟨#[]⟩, .bool false] 24)).alloc (.cells #[.int .u8 3, .int .i64 i, .string s, .bool true] 24)) (some ⟨w.heap.size + 1 + 1, 0, none⟩) (Lp.vv [⟨3, i, s, true⟩]) := by
    have e : ((w.alloc (.cells #[.int .u8 3, .int .i64 i, .string s, .bool true] 24)).alloc (.cells #[.int .u8 0, .int .i64 0, .string ⟨#[]⟩, .bool false] 24)).heap.size = w.heap.size + 1 + 1 := by simp
    have := rds_new ((w.alloc (.cells #[.int .u8 3, .int .i64 i, .string s, .bool true] 24)).alloc (.cells #[.int .u8 0, .int .i64 0, .string ⟨#[]⟩, .bool false] 24)) [.int .u8 3, .int .i64 i, .string s, .bool true] 24
    rw [e] at this; exact this
  go_enter Tryd.func23, Tryd.ntmps23
  go_wp2_with fail
  refine (truths_one _ _ HT.out _ _ _ rfl _ hrd).mono ?_
  rintro e w1 ⟨rfl, hb1⟩
  have hr1 := box_below hr0 hb1
  have hx1 := box_below hx0 hb1
  have hd1 := box_cells hx1
  have k1 : Below w.heap.size w w1 := hb0.trans (hb1.mono (by simp; omega))
  clear hb0 hb1 hr0 hx0 hrd
  go_wp2_with fail
  refine (openb_3 _ _ _ _).mono ?_
  rintro e w2 ⟨rfl, hb2⟩
  have hr2 := box_below hr1 hb2
  have k2 := k1.trans (hb2.mono k1.size)
  clear hb2 hr1 k1 hx1 hd1
  go_wp2_with fail
  refine (truthb _ _).mono ?_
  rintro e w3 ⟨rfl, hb3⟩
  have hr3 := box_below hr2 hb3
  have k3 := k2.trans (hb3.mono k2.size)
  clear hb3 hr2 k2
  have hc3 := box_cells hr3
  have hf3 := fun j => frozen_of_row w3 (w.heap.size + 1) j _ _ hr3
  have HCE := Lib.hid (box_cells (set4_same hr3 (.int .u8 3) (.int .i64 0) (.string ⟨#[]⟩) (.bool false)))
  have k5 := below_set4 k3 (g := w.heap.size + 1) (by omega) (.int .u8 3) (.int .i64 0) (.string ⟨#[]⟩) (.bool false)
  go_wp2
  have hcE := HCE.out
  exact bodyPost_ret (v := .tuple #[.agg #[.int .u8 3, .int .i64 0, .string ⟨#[]⟩, .bool false], .int .i64 0]) (by simp [results, Tryd.results23, go_sem, hcE]) rfl (truth_good H.out HN.out k5)
set_option maxRecDepth 100000 in
set_option maxHeartbeats 4000000 in
theorem cnot_f (i : Int) (s : ByteArray) (w : World) :
    Calls Tryd.prog 23 #[.agg #[.int .u8 3, .int .i64 i, .string s, .bool false]] w (TruthPost (decide (Lp.tw 3 false < 0)) (2 - Lp.tw 3 false) w) := by
  have H : Hid (decide (Lp.tw 3 false < 0) = false) := Lib.hid (rfl)
  have HN : Hid (2 - Lp.tw 3 false = 2) := Lib.hid (rfl)
  have HT : Hid ([(⟨3, i, s, false⟩ : Lp.V)].all Lp.tr = true) := Lib.hid (rfl)
  have hb0 := ba (ba (ba (Below.refl w.heap.size w) (.cells #[.int .u8 3, .int .i64 i, .string s, .bool false] 24)) (.cells #[.int .u8 0, .int .i64 0, .string ⟨#[]⟩, .bool false] 24)) (.cells #[.int .u8 3, .int .i64 i, .string s, .bool false] 24)
  have hx0 : (((w.alloc (.cells #[.int .u8 3, .int .i64 i, .string s, .bool false] 24)).alloc (.cells #[.int .u8 0, .int .i64 0, .string ⟨#[]⟩, .bool false] 24)).alloc (.cells #[.int .u8 3, .int .i64 i, .string s, .bool false] 24)).heap[w.heap.size]? = some (.cells #[.int .u8 3, .int .i64 i, .string s, .bool false] 24 (0, 0)) := box_alloc (box_alloc (heap_alloc_new w _) _) _
  have hr0 : (((w.alloc (.cells #[.int .u8 3, .int .i64 i, .string s, .bool false] 24)).alloc (.cells #[.int .u8 0, .int .i64 0, .string ⟨#[]⟩, .bool false] 24)).alloc (.cells #[.int .u8 3, .int .i64 i, .string s, .bool false] 24)).heap[w.heap.size + 1]? = some (.cells #[.int .u8 0, .int .i64 0, .string ⟨#[]⟩, .bool false] 24 (0, 0)) := box_alloc (heap_new2 w _ _) _
  have hrd : Rds (((w.alloc (.cells #[.int .u8 3, .int .i64 i, .string s, .bool false] 24)).alloc (.cells #[.int .u8 0, .int .i64 0, .string ⟨#[]⟩, .bool false] 24)).alloc (.cells #[.int .u8 3, .int .i64 i, .string s, .bool false] 24)) (some ⟨w.heap.size + 1 + 1, 0, none⟩) (Lp.vv [⟨3, i, s, false⟩]) := by
    have e : ((w.alloc (.cells #[.int .u8 3, .int .i64 i, .string s, .bool false] 24)).alloc (.cells #[.int .u8 0, .int .i64 0, .string ⟨#[]⟩, .bool false] 24)).heap.size = w.heap.size + 1 + 1 := by simp
    have := rds_new ((w.alloc (.cells #[.int .u8 3, .int .i64 i, .string s, .bool false] 24)).alloc (.cells #[.int .u8 0, .int .i64 0, .string ⟨#[]⟩, .bool false] 24)) [.int .u8 3, .int .i64 i, .string s, .bool false] 24
    rw [e] at this; exact this
  go_enter Tryd.func23, Tryd.ntmps23
  go_wp2_with fail
  refine (truths_one _ _ HT.out _ _ _ rfl _ hrd).mono ?_
  rintro e w1 ⟨rfl, hb1⟩
  have hr1 := box_below hr0 hb1
  have hx1 := box_below hx0 hb1
  have hd1 := box_cells hx1
  have k1 : Below w.heap.size w w1 := hb0.trans (hb1.mono (by simp; omega))
  clear hb0 hb1 hr0 hx0 hrd
  go_wp2_with fail
  refine (openb_3 _ _ _ _).mono ?_
  rintro e w2 ⟨rfl, hb2⟩
  have hr2 := box_below hr1 hb2
  have k2 := k1.trans (hb2.mono k1.size)
  clear hb2 hr1 k1 hx1 hd1
  go_wp2_with fail
  refine (truthb _ _).mono ?_
  rintro e w3 ⟨rfl, hb3⟩
  have hr3 := box_below hr2 hb3
  have k3 := k2.trans (hb3.mono k2.size)
  clear hb3 hr2 k2
  have hc3 := box_cells hr3
  have hf3 := fun j => frozen_of_row w3 (w.heap.size + 1) j _ _ hr3
  have HCE := Lib.hid (box_cells (set4_same hr3 (.int .u8 3) (.int .i64 0) (.string ⟨#[]⟩) (.bool true)))
  have k5 := below_set4 k3 (g := w.heap.size + 1) (by omega) (.int .u8 3) (.int .i64 0) (.string ⟨#[]⟩) (.bool true)
  go_wp2
  have hcE := HCE.out
  exact bodyPost_ret (v := .tuple #[.agg #[.int .u8 3, .int .i64 0, .string ⟨#[]⟩, .bool true], .int .i64 0]) (by simp [results, Tryd.results23, go_sem, hcE]) rfl (truth_good H.out HN.out k5)
set_option maxRecDepth 100000 in
set_option maxHeartbeats 4000000 in
theorem cnot_n (k : Int) (i : Int) (s : ByteArray) (b : Bool) (hk : NoK k) (w : World) :
    Calls Tryd.prog 23 #[.agg #[.int .u8 k, .int .i64 i, .string s, .bool b]] w (TruthPost (decide (Lp.tw k b < 0)) (2 - Lp.tw k b) w) := by
  have H : Hid (decide (Lp.tw k b < 0) = false) := Lib.hid (by rw [tv_n b hk]; rfl)
  have HN : Hid (2 - Lp.tw k b = 1) := Lib.hid (by rw [tv_n b hk]; rfl)
  have HT : Hid ([(⟨k, i, s, b⟩ : Lp.V)].all Lp.tr = true) := Lib.hid (by simp [tr_n hk])
  have hb0 := ba (ba (ba (Below.refl w.heap.size w) (.cells #[.int .u8 k, .int .i64 i, .string s, .bool b] 24)) (.cells #[.int .u8 0, .int .i64 0, .string ⟨#[]⟩, .bool false] 24)) (.cells #[.int .u8 k, .int .i64 i, .string s, .bool b] 24)
  have hx0 : (((w.alloc (.cells #[.int .u8 k, .int .i64 i, .string s, .bool b] 24)).alloc (.cells #[.int .u8 0, .int .i64 0, .string ⟨#[]⟩, .bool false] 24)).alloc (.cells #[.int .u8 k, .int .i64 i, .string s, .bool b] 24)).heap[w.heap.size]? = some (.cells #[.int .u8 k, .int .i64 i, .string s, .bool b] 24 (0, 0)) := box_alloc (box_alloc (heap_alloc_new w _) _) _
  have hr0 : (((w.alloc (.cells #[.int .u8 k, .int .i64 i, .string s, .bool b] 24)).alloc (.cells #[.int .u8 0, .int .i64 0, .string ⟨#[]⟩, .bool false] 24)).alloc (.cells #[.int .u8 k, .int .i64 i, .string s, .bool b] 24)).heap[w.heap.size + 1]? = some (.cells #[.int .u8 0, .int .i64 0, .string ⟨#[]⟩, .bool false] 24 (0, 0)) := box_alloc (heap_new2 w _ _) _
  have hrd : Rds (((w.alloc (.cells #[.int .u8 k, .int .i64 i, .string s, .bool b] 24)).alloc (.cells #[.int .u8 0, .int .i64 0, .string ⟨#[]⟩, .bool false] 24)).alloc (.cells #[.int .u8 k, .int .i64 i, .string s, .bool b] 24)) (some ⟨w.heap.size + 1 + 1, 0, none⟩) (Lp.vv [⟨k, i, s, b⟩]) := by
    have e : ((w.alloc (.cells #[.int .u8 k, .int .i64 i, .string s, .bool b] 24)).alloc (.cells #[.int .u8 0, .int .i64 0, .string ⟨#[]⟩, .bool false] 24)).heap.size = w.heap.size + 1 + 1 := by simp
    have := rds_new ((w.alloc (.cells #[.int .u8 k, .int .i64 i, .string s, .bool b] 24)).alloc (.cells #[.int .u8 0, .int .i64 0, .string ⟨#[]⟩, .bool false] 24)) [.int .u8 k, .int .i64 i, .string s, .bool b] 24
    rw [e] at this; exact this
  go_enter Tryd.func23, Tryd.ntmps23
  go_wp2_with fail
  refine (truths_one _ _ HT.out _ _ _ rfl _ hrd).mono ?_
  rintro e w1 ⟨rfl, hb1⟩
  have hr1 := box_below hr0 hb1
  have hx1 := box_below hx0 hb1
  have hd1 := box_cells hx1
  have k1 : Below w.heap.size w w1 := hb0.trans (hb1.mono (by simp; omega))
  clear hb0 hb1 hr0 hx0 hrd
  go_wp2_with fail
  refine (openb_n _ _ _ _ hk _).mono ?_
  rintro e w2 ⟨rfl, hb2⟩
  have hr2 := box_below hr1 hb2
  have k2 := k1.trans (hb2.mono k1.size)
  clear hb2 hr1 k1 hx1 hd1
  have hc2 := box_cells hr2
  have hf2 := fun j => frozen_of_row w2 (w.heap.size + 1) j _ _ hr2
  have HCE := Lib.hid (box_cells (set4_same hr2 (.int .u8 0) (.int .i64 0) (.string ⟨#[]⟩) (.bool false)))
  have k5 := below_set4 k2 (g := w.heap.size + 1) (by omega) (.int .u8 0) (.int .i64 0) (.string ⟨#[]⟩) (.bool false)
  go_wp2
  have hcE := HCE.out
  exact bodyPost_ret (v := .tuple #[.agg #[.int .u8 0, .int .i64 0, .string ⟨#[]⟩, .bool false], .int .i64 0]) (by simp [results, Tryd.results23, go_sem, hcE]) rfl (truth_good H.out HN.out k5)
theorem cnot_any (k i : Int) (s : ByteArray) (b : Bool) (w : World) :
    Calls Tryd.prog 23 #[.agg #[.int .u8 k, .int .i64 i, .string s, .bool b]] w (TruthPost (decide (Lp.tw k b < 0)) (2 - Lp.tw k b) w) := by
  rcases kcases k with rfl | rfl | rfl | hk
  · exact cnot_bad 1 i s b (.inl rfl) w
  · exact cnot_bad 2 i s b (.inr rfl) w
  · cases b
    · exact cnot_f i s w
    · exact cnot_t i s w
  · exact cnot_n k i s b hk w
set_option maxRecDepth 100000 in
set_option maxHeartbeats 4000000 in
theorem rnot_any (k i : Int) (s : ByteArray) (b : Bool) (w : World) :
    Calls Tryd.prog 27 #[.agg #[.int .u8 k, .int .i64 i, .string s, .bool b]] w (TruthPost (decide (Lp.three k b < 0)) (2 - Lp.three k b) w) := by
  have hb0 := ba (ba (Below.refl w.heap.size w) (.cells #[.int .u8 k, .int .i64 i, .string s, .bool b] 24)) (.cells #[.int .u8 0, .int .i64 0, .string ⟨#[]⟩, .bool false] 24)
  have hx0 : ((w.alloc (.cells #[.int .u8 k, .int .i64 i, .string s, .bool b] 24)).alloc (.cells #[.int .u8 0, .int .i64 0, .string ⟨#[]⟩, .bool false] 24)).heap[w.heap.size]? = some (.cells #[.int .u8 k, .int .i64 i, .string s, .bool b] 24 (0, 0)) := box_alloc (heap_alloc_new w _) _
  have hr0 : ((w.alloc (.cells #[.int .u8 k, .int .i64 i, .string s, .bool b] 24)).alloc (.cells #[.int .u8 0, .int .i64 0, .string ⟨#[]⟩, .bool false] 24)).heap[w.heap.size + 1]? = some (.cells #[.int .u8 0, .int .i64 0, .string ⟨#[]⟩, .bool false] 24 (0, 0)) := heap_new2 w _ _
  have h3 : -1 ≤ Lp.three k b ∧ Lp.three k b ≤ 2 := by unfold Lp.three; split; decide; split; split <;> decide; decide
  by_cases h1 : Lp.three k b < 0
  · have H := Lib.hid (show decide (Lp.three k b < 0) = true by simpa using h1)
    go_enter Tryd.func27, Tryd.ntmps27
    go_wp2_with fail
    refine (three_g _ _ _ _ _).mono ?_
    rintro e w1 ⟨rfl, hb1⟩
    have hr1 := box_below hr0 hb1
    have k1 : Below w.heap.size w w1 := hb0.trans (hb1.mono (by simp; omega))
    have hc1 := box_cells hr1
    have hf1 := fun j => frozen_of_row w1 (w.heap.size + 1) j _ _ hr1
    generalize Lp.three k b = T1 at *
    have HCE := Lib.hid (box_cells (set4_same hr1 (.int .u8 0) (.int .i64 0) (.string ⟨#[]⟩) (.bool false)))
    have k5 := below_set4 k1 (g := w.heap.size + 1) (by omega) (.int .u8 0) (.int .i64 0) (.string ⟨#[]⟩) (.bool false)
    clear hb0 hb1 hx0 hr0
    go_wp2
    have hcE := HCE.out
    exact bodyPost_ret (v := .tuple #[.agg #[.int .u8 0, .int .i64 0, .string ⟨#[]⟩, .bool false], .int .i64 8]) (by simp [results, Tryd.results27, go_sem, hcE]) rfl (truth_bad H.out k5)
  · have H := Lib.hid (show decide (Lp.three k b < 0) = false from decide_eq_false h1)
    have H3 := Lib.hid (fun W => three_g k i s b W)
    obtain ⟨T1, hT⟩ : ∃ T1, Lp.three k b = T1 := ⟨_, rfl⟩
    rw [hT] at H3 h3 h1 H ⊢
    clear hT
    have h1' : ¬ T1 < 0 := h1
    go_enter Tryd.func27, Tryd.ntmps27
    go_wp2_with fail
    refine (H3.out _).mono ?_
    rintro e w1 ⟨rfl, hb1⟩
    have hr1 := box_below hr0 hb1
    have hx1 := box_below hx0 hb1
    have k1 : Below w.heap.size w w1 := hb0.trans (hb1.mono (by simp; omega))
    have hd1 := box_cells hx1
    clear hb0 hb1 hx0 hr0
    go_wp2_with fail
    refine (H3.out _).mono ?_
    rintro e w2 ⟨rfl, hb2⟩
    have hr2 := box_below hr1 hb2
    have k2 := k1.trans (hb2.mono k1.size)
    clear hb2 hr1 k1 hx1 hd1
    go_wp2_with fail
    refine (back_g _ _).mono ?_
    rintro e w3 ⟨rfl, hb3⟩
    have hr3 := box_below hr2 hb3
    have k3 := k2.trans (hb3.mono k2.size)
    have hc3 := box_cells hr3
    have hf3 := fun j => frozen_of_row w3 (w.heap.size + 1) j _ _ hr3
    have HCE := Lib.hid (box_cells (set4_same hr3 (.int .u8 (Lp.bkK (2 - T1))) (.int .i64 0) (.string ⟨#[]⟩) (.bool (Lp.bkB (2 - T1)))))
    have k5 := below_set4 k3 (g := w.heap.size + 1) (by omega) (.int .u8 (Lp.bkK (2 - T1))) (.int .i64 0) (.string ⟨#[]⟩) (.bool (Lp.bkB (2 - T1)))
    clear hb3 hr2 k2
    go_wp2
    have hcE := HCE.out
    exact bodyPost_ret (v := .tuple #[.agg #[.int .u8 (Lp.bkK (2 - T1)), .int .i64 0, .string ⟨#[]⟩, .bool (Lp.bkB (2 - T1))], .int .i64 0]) (by simp [results, Tryd.results27, go_sem, hcE]) rfl (truth_good H.out rfl k5)
end Go.Proofs.YthojikijelijnaaDoor
