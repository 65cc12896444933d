/-
  What the document's And gives, of any two values. No conditions.
-/
import Derived.Test.YthojikijelijnaaDoorRefT
namespace Go.Proofs.YthojikijelijnaaDoor
open Go.RowKit

set_option maxRecDepth 100000 in
set_option maxHeartbeats 4000000 in
theorem rand_any (k i : Int) (s : ByteArray) (b : Bool) (k' i' : Int) (s' : ByteArray) (b' : Bool) (w : World) :
    Calls Tryd.prog 24 #[.agg #[.int .u8 k, .int .i64 i, .string s, .bool b], .agg #[.int .u8 k', .int .i64 i', .string s', .bool b']] w (TruthPost (Lp.bad2 k b k' b') (Lp.andK k b k' b') w) := by
  have hb0 := ba (ba (ba (Below.refl w.heap.size w) (.cells #[.int .u8 k, .int .i64 i, .string s, .bool b] 24)) (.cells #[.int .u8 k', .int .i64 i', .string s', .bool b'] 24)) (.cells #[.int .u8 0, .int .i64 0, .string ⟨#[]⟩, .bool false] 24)
  have hx0 : TwoBox w.heap.size k i s b k' i' s' b' (((w.alloc (.cells #[.int .u8 k, .int .i64 i, .string s, .bool b] 24)).alloc (.cells #[.int .u8 k', .int .i64 i', .string s', .bool b'] 24)).alloc (.cells #[.int .u8 0, .int .i64 0, .string ⟨#[]⟩, .bool false] 24)) := (TwoBox.new w k i s b k' i' s' b' 24 24).below ((Below.refl _ _).alloc (Nat.le_refl _) _)
  have hr0 : (((w.alloc (.cells #[.int .u8 k, .int .i64 i, .string s, .bool b] 24)).alloc (.cells #[.int .u8 k', .int .i64 i', .string s', .bool b'] 24)).alloc (.cells #[.int .u8 0, .int .i64 0, .string ⟨#[]⟩, .bool false] 24)).heap[w.heap.size + 1 + 1]? = some (.cells #[.int .u8 0, .int .i64 0, .string ⟨#[]⟩, .bool false] 24 (0, 0)) := by
    have := heap_alloc_new ((w.alloc (.cells #[.int .u8 k, .int .i64 i, .string s, .bool b] 24)).alloc (.cells #[.int .u8 k', .int .i64 i', .string s', .bool b'] 24)) (.cells #[.int .u8 0, .int .i64 0, .string ⟨#[]⟩, .bool false] 24)
    simpa using this
  by_cases h1 : Lp.three k b < 0
  · have H := Lib.hid (show Lp.bad2 k b k' b' = true by simp [Lp.bad2, h1])
    go_enter Tryd.func24, Tryd.ntmps24
    go_wp2_with fail
    refine (three_g _ _ _ _ _).mono ?_
    rintro e w1 ⟨rfl, hb1⟩
    have hr1 := box_below hr0 hb1
    have k1 := hb0.trans (hb1.mono (by simp; omega))
    have hc1 := box_cells hr1
    have hf1 := fun j => frozen_of_row w1 (w.heap.size + 1 + 1) j _ _ hr1
    have hcE := box_cells (set4_same hr1 (.int .u8 0) (.int .i64 0) (.string ⟨#[]⟩) (.bool false))
    have k5 := below_set4 k1 (g := w.heap.size + 1 + 1) (by omega) (.int .u8 0) (.int .i64 0) (.string ⟨#[]⟩) (.bool false)
    have HCE := Lib.hid hcE
    generalize Lp.three k b = T1 at *
    clear hb0 hb1 hx0 hr0 hcE
    go_wp2
    have hcE := HCE.out
    exact bodyPost_ret (v := .tuple #[.agg #[.int .u8 0, .int .i64 0, .string ⟨#[]⟩, .bool false], .int .i64 8]) (by simp [results, Tryd.results24, go_sem, hcE]) rfl (truth_bad H.out k5)
  · have hT1 : ¬ Lp.three k b < 0 := h1
    go_enter Tryd.func24, Tryd.ntmps24
    go_wp2_with fail
    refine (three_g _ _ _ _ _).mono ?_
    rintro e w1 ⟨rfl, hb1⟩
    have hr1 := box_below hr0 hb1
    have hx1 := hx0.below hb1
    have hx1' := hx1
    have k1 := hb0.trans (hb1.mono (by simp; omega))
    clear hb0 hb1 hx0 hr0
    obtain ⟨f0, f1, f2, f3, f4, f5, f6, f7⟩ := hx1
    by_cases h2 : Lp.three k' b' < 0
    · have H := Lib.hid (show Lp.bad2 k b k' b' = true by simp [Lp.bad2, h2])
      generalize Lp.three k b = T1 at *
      go_wp2_with fail
      refine (three_g _ _ _ _ _).mono ?_
      rintro e w2 ⟨rfl, hb2⟩
      have hr2 := box_below hr1 hb2
      have k2 := k1.trans (hb2.mono k1.size)
      have hc2 := box_cells hr2
      have hf2 := fun j => frozen_of_row w2 (w.heap.size + 1 + 1) j _ _ hr2
      have hcE := box_cells (set4_same hr2 (.int .u8 0) (.int .i64 0) (.string ⟨#[]⟩) (.bool false))
      have k5 := below_set4 k2 (g := w.heap.size + 1 + 1) (by omega) (.int .u8 0) (.int .i64 0) (.string ⟨#[]⟩) (.bool false)
      have HCE := Lib.hid hcE
      generalize Lp.three k' b' = T2 at *
      clear hcE hb2 hr1 k1 hx1'
      go_wp2
      have hcE := HCE.out
      exact bodyPost_ret (v := .tuple #[.agg #[.int .u8 0, .int .i64 0, .string ⟨#[]⟩, .bool false], .int .i64 8]) (by simp [results, Tryd.results24, go_sem, hcE]) rfl (truth_bad H.out k5)
    · have H := Lib.hid (show Lp.bad2 k b k' b' = false by unfold Lp.bad2; rw [decide_eq_false (show ¬ Lp.three k b < 0 by omega), decide_eq_false (show ¬ Lp.three k' b' < 0 by omega)]; rfl)
      go_wp2_with fail
      refine (three_g _ _ _ _ _).mono ?_
      rintro e w2 ⟨rfl, hb2⟩
      have hr2 := box_below hr1 hb2
      have hx2 := hx1'.below hb2
      have k2 := k1.trans (hb2.mono k1.size)
      clear hb2 hr1 k1 hx1' f0 f1 f2 f3 f4 f5 f6 f7
      have hg1 : w.heap.size + 1 + 1 ≠ w.heap.size := by omega
      have hg2 : w.heap.size + 1 + 1 ≠ w.heap.size + 1 := by omega
      go_wp2_with fail
      go_region_held3 (fun w' => w'.cell? ⟨w.heap.size, 0, none⟩ = some (.int .u8 k) ∧ w'.cell? ⟨w.heap.size, 1, none⟩ = some (.int .i64 i) ∧ w'.cell? ⟨w.heap.size, 2, none⟩ = some (.string s) ∧ w'.cell? ⟨w.heap.size, 3, none⟩ = some (.bool b) ∧
          w'.cell? ⟨w.heap.size + 1, 0, none⟩ = some (.int .u8 k') ∧ w'.cell? ⟨w.heap.size + 1, 1, none⟩ = some (.int .i64 i') ∧ w'.cell? ⟨w.heap.size + 1, 2, none⟩ = some (.string s') ∧ w'.cell? ⟨w.heap.size + 1, 3, none⟩ = some (.bool b'))
        (first | exact hx5 | exact hx4 | exact hx3 | exact hx2 | exact TwoBox.set4 hx5 hg1 hg2 _ _ _ _)
        (first
          | (go_at_call 40; refine (back_g _ _).mono ?_; rintro e w5 ⟨rfl, hb5⟩; have hx5 := (fun h => TwoBox.below h hb5) hx4; have hr5 := box_below (g := w.heap.size + 1 + 1) hr4 hb5; have hc5 := box_cells hr5; have hf5 := fun j => frozen_of_row w5 (w.heap.size + 1 + 1) j _ _ hr5)
          | (go_at_call 39; refine (three_g _ _ _ _ _).mono ?_; rintro e w4 ⟨rfl, hb4⟩; have hx4 := (fun h => TwoBox.below h hb4) hx3; have hr4 := box_below (g := w.heap.size + 1 + 1) hr3 hb4)
          | (go_at_call 39; refine (three_g _ _ _ _ _).mono ?_; rintro e w3 ⟨rfl, hb3⟩; have hx3 := (fun h => TwoBox.below h hb3) hx2; have hr3 := box_below (g := w.heap.size + 1 + 1) (box_drew hr2) hb3))
      all_goals
        have k3 : Below w.heap.size w w3 := k2.drew.trans (hb3.mono k2.size)
        have k4 : Below w.heap.size w w4 := k3.trans (hb4.mono k3.size)
        have k5 : Below w.heap.size w w5 := k4.trans (hb5.mono k4.size)
        have k6 := below_set4 k5 (g := w.heap.size + 1 + 1) (by omega) (.int .u8 (Lp.bkK (min (Lp.three k b) (Lp.three k' b')))) (.int .i64 0) (.string ⟨#[]⟩) (.bool (Lp.bkB (min (Lp.three k b) (Lp.three k' b'))))
        have hcE := box_cells (set4_same hr5 (.int .u8 (Lp.bkK (min (Lp.three k b) (Lp.three k' b')))) (.int .i64 0) (.string ⟨#[]⟩) (.bool (Lp.bkB (min (Lp.three k b) (Lp.three k' b')))))
        have HCE := Lib.hid hcE
        clear hcE hc5 hf5
        go_wp2
        have hcE := HCE.out
        exact bodyPost_ret (v := .tuple #[.agg #[.int .u8 (Lp.bkK (min (Lp.three k b) (Lp.three k' b'))), .int .i64 0, .string ⟨#[]⟩, .bool (Lp.bkB (min (Lp.three k b) (Lp.three k' b')))], .int .i64 0]) (by simp [results, Tryd.results24, go_sem, hcE]) rfl (truth_good H.out rfl k6)
end Go.Proofs.YthojikijelijnaaDoor
