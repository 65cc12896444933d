/-
  What cell.truths tells of a slice of values. No conditions but its length.
-/
import Derived.Test.YthojikijelijnaaDoorCell4
import Derived.Deep.LoopGhost
namespace Go.Proofs.YthojikijelijnaaDoor
open Go.RowKit
attribute [local go_sem] ta_i_i ta_i_s ta_i_b ta1_i ta_s_i ta_s_s ta_s_b ta1_s ta_b_i ta_b_s ta_b_b ta1_b ta_n_i ta_n_s ta_n_b

/-- The values that a slice holds. -/
def RdsV (w : World) (A : Option Addr) (l : List Lp.V) : Prop := Rds w A (Lp.vv l)
theorem RdsV.cells {w : World} {A : Option Addr} {l : List Lp.V} (h : RdsV w A l) {i : Nat} (hi : i < l.length) : ∃ b off, A = some ⟨b, off, none⟩ ∧
    w.cell? ⟨b, off + i * 4, none⟩ = some (.int .u8 l[i].k) ∧ w.cell? ⟨b, off + i * 4 + 1, none⟩ = some (.int .i64 l[i].i) ∧ w.cell? ⟨b, off + i * 4 + 2, none⟩ = some (.string l[i].s) ∧ w.cell? ⟨b, off + i * 4 + 3, none⟩ = some (.bool l[i].b) := by
  rcases h with h0 | ⟨b, off, rfl, hc⟩
  · have := Lp.vv_length l; rw [h0] at this; simp at this; omega
  · refine ⟨b, off, rfl, ?_, ?_, ?_, ?_⟩
    · exact hc (i * 4) _ (Lp.vv_at hi (j := 0) (by omega))
    · have := hc (i * 4 + 1) _ (Lp.vv_at hi (j := 1) (by omega)); rw [← Nat.add_assoc] at this; exact this
    · have := hc (i * 4 + 2) _ (Lp.vv_at hi (j := 2) (by omega)); rw [← Nat.add_assoc] at this; exact this
    · have := hc (i * 4 + 3) _ (Lp.vv_at hi (j := 3) (by omega)); rw [← Nat.add_assoc] at this; exact this
/-- May a value be truth? -/
def Lp.tr (v : Lp.V) : Bool := !Lp.isK v.k || v.k == 3
theorem tr_take {l : List Lp.V} {i : Nat} {v : Lp.V} (h : i < l.length) (hv : l[i] = v) (ha : (l.take i).all Lp.tr = true) (hr : Lp.tr v = true) : (l.take (i + 1)).all Lp.tr = true := by
  rw [List.take_succ_eq_append_getElem h, hv]; simp [ha, hr]
theorem tr_no {l : List Lp.V} {i : Nat} {v : Lp.V} (h : i < l.length) (hv : l[i] = v) (hr : Lp.tr v = false) : l.all Lp.tr = false := by
  rw [List.all_eq_false]; exact ⟨l[i], List.getElem_mem h, by rw [hv, hr]; simp⟩
set_option maxRecDepth 100000 in
set_option maxHeartbeats 4000000 in
theorem truths_any (A : Option Addr) (n c : Nat) (l : List Lp.V) (hnl : n = l.length) (w : World) (h : RdsV w A l) (hn : l.length ≤ 1073741824) :
    Calls Tryd.prog 37 #[.slice A n c] w fun e w' => e = .returned (.bool (l.all Lp.tr)) ∧ Below w.heap.size w w' := by
  subst hnl
  go_enter Tryd.func37, Tryd.ntmps37
  go_wp2_with fail
  go_loopg [4, 5, 6, 9] (l.length + 1) (fun gk _ _ _ s9 wr => ∃ (i : Nat), i ≤ l.length ∧ gk = l.length + 1 - i ∧ s9 = .int .i64 i ∧ Below w.heap.size w wr ∧ Hid ((l.take i).all Lp.tr = true))
  case atStart => exact ⟨0, by omega, by omega, rfl, Below.refl _ _, by rfl⟩
  case round =>
    obtain ⟨i, hle, rfl, rfl, hbw, HA⟩ := hrel
    have hsz := hbw.size
    by_cases hi : i < l.length
    · obtain ⟨b, off, rfl, q0, q1, q2, q3⟩ := RdsV.cells (Rds.below h hbw) hi
      generalize hvi : l[i] = v at *
      obtain ⟨k, vi, s, vb⟩ := v
      simp only at q0 q1 q2 q3
      have HV := Lib.hid hvi
      clear hvi
      rcases kcases k with rfl | rfl | rfl | hk
      · have HF := Lib.hid (tr_no hi HV.out rfl)
        go_wp2_with fail
        refine (openb_1 _ _ _ _).mono ?_
        rintro e w1 ⟨rfl, hb1⟩
        have k1 := (hbw.alloc hsz _).trans (hb1.mono (by simp; omega))
        have hc1 := box_cells (box_below (heap_alloc_new wr _) hb1)
        clear hb1 hbw
        go_wp2_with fail
        refine (openb_1 _ _ _ _).mono ?_
        rintro e w2 ⟨rfl, hb2⟩
        have k2 := k1.trans (hb2.mono k1.size)
        go_wp2
        go_ret
        exact ⟨by rw [HF.out]; rfl, k2⟩
      · have HF := Lib.hid (tr_no hi HV.out rfl)
        go_wp2_with fail
        refine (openb_2 _ _ _ _).mono ?_
        rintro e w1 ⟨rfl, hb1⟩
        have k1 := (hbw.alloc hsz _).trans (hb1.mono (by simp; omega))
        have hc1 := box_cells (box_below (heap_alloc_new wr _) hb1)
        clear hb1 hbw
        go_wp2_with fail
        refine (openb_2 _ _ _ _).mono ?_
        rintro e w2 ⟨rfl, hb2⟩
        have k2 := k1.trans (hb2.mono k1.size)
        go_wp2
        go_ret
        exact ⟨by rw [HF.out]; rfl, k2⟩
      · have HA2 := Lib.hid (tr_take hi HV.out HA.out rfl)
        go_wp2_with fail
        refine (openb_3 _ _ _ _).mono ?_
        rintro e w1 ⟨rfl, hb1⟩
        have k1 := (hbw.alloc hsz _).trans (hb1.mono (by simp; omega))
        clear hb1 hbw HA
        go_wp2
        go_roundg (l.length + 1 - (i + 1))
        case measure => omega
        case rel => exact ⟨i + 1, by omega, rfl, by go_num, k1, HA2⟩
      · have HA2 := Lib.hid (tr_take hi HV.out HA.out (by simp [Lp.tr, Lp.isK, hk.1, hk.2.1, hk.2.2]))
        go_wp2_with fail
        refine (openb_n _ _ _ _ hk _).mono ?_
        rintro e w1 ⟨rfl, hb1⟩
        have k1 := (hbw.alloc hsz _).trans (hb1.mono (by simp; omega))
        have hc1 := box_cells (box_below (heap_alloc_new wr _) hb1)
        clear hb1 hbw HA
        go_wp2_with fail
        refine (openb_n _ _ _ _ hk _).mono ?_
        rintro e w2 ⟨rfl, hb2⟩
        have k2 := k1.trans (hb2.mono k1.size)
        clear hb2 k1
        go_wp2
        go_roundg (l.length + 1 - (i + 1))
        case measure => omega
        case rel => exact ⟨i + 1, by omega, rfl, by go_num, k2, HA2⟩
    · have hi2 : i = l.length := by omega
      subst hi2
      have HT : Hid (l.all Lp.tr = true) := by have := HA.out; rw [List.take_length] at this; exact this
      clear HA
      go_wp2
      go_ret
      exact ⟨by rw [HT.out]; rfl, hbw⟩
end Go.Proofs.YthojikijelijnaaDoor
