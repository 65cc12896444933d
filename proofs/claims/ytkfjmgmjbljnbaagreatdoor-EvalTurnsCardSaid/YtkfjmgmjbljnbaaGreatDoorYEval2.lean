/-
 eval's column, compare. No conditions.
-/
import Derived.Test.YtkfjmgmjbljnbaaGreatDoorYEval1
set_option maxRecDepth 100000
set_option maxHeartbeats 8000000
namespace Go.Proofs.YtkfjmgmjbljnbaaGreatDoor
open Go.RowKit
theorem get_none {l : List Lp.V} {i : Nat} (h : ¬ i < l.length) : (l[i]?).getD Lp.nullV = ⟨0, 0, ⟨#[]⟩, false⟩ := by rw [List.getElem?_eq_none (by omega)]; rfl
theorem get_some {l : List Lp.V} {i : Nat} (h : i < l.length) : (l[i]?).getD Lp.nullV = l[i] := by rw [List.getElem?_eq_getElem h]; rfl
def VAt (w : World) (b o : Nat) (v : Lp.V) : Prop := w.cell? ⟨b, o, none⟩ = some (.int .u8 v.k) ∧ w.cell? ⟨b, o + 1, none⟩ = some (.int .i64 v.i) ∧ w.cell? ⟨b, o + 2, none⟩ = some (.string v.s) ∧ w.cell? ⟨b, o + 3, none⟩ = some (.bool v.b)
theorem VAt.below {w w' : World} {b o : Nat} {v : Lp.V} (h : VAt w b o v) (hb : Below w.heap.size w w') : VAt w' b o v := ⟨cell_belo h.1 hb, cell_belo h.2.1 hb, cell_belo h.2.2.1 hb, cell_belo h.2.2.2 hb⟩
theorem RdsV.vat {w : World} {A : Option Addr} {l : List Lp.V} (h : RdsV w A l) {i : Nat} (hi : i < l.length) : ∃ b off, A = some ⟨b, off, none⟩ ∧ VAt w b (off + i * 4) l[i] := RdsV.cells h hi
theorem column_any (f : Fr) (i : Nat) (w : World) (h : f.At w) :
 Calls Tryz.prog 81 #[f.val, .int .i64 i] w fun e w' => e = .returned (vv4 ((f.row[i]?).getD Lp.nullV)) ∧ Below w.heap.size w w' := by
 obtain ⟨⟨A, c, l⟩, A2, c2, R, gr⟩ := f
 have hb0 : Below w.heap.size w (w.alloc (.cells #[.slice A l.length c, .slice A2 R.length c2, .bool gr] 105)) := ba (Below.refl _ _) _
 have hb1 : ∀ o, Below w.heap.size w ((w.alloc (.cells #[.slice A l.length c, .slice A2 R.length c2, .bool gr] 105)).alloc o) := fun o => ba hb0 o
 obtain ⟨L, hL⟩ : ∃ L, Fr.row ⟨(A, c, l), A2, c2, R, gr⟩ = L := ⟨_, rfl⟩
 rw [hL]
 have hcase : (gr = false ∧ l = L) ∨ (gr = true ∧ R = [] ∧ l = L) ∨ ∃ A3 c3 R3, gr = true ∧ R = (A3, c3, L) :: R3 := by
  subst hL
  cases gr with
  | false => exact .inl ⟨rfl, rfl⟩
  | true => cases R with
    | nil => exact .inr (.inl ⟨rfl, rfl, rfl⟩)
    | cons x R3 => exact .inr (.inr ⟨x.1, x.2.1, R3, rfl, rfl⟩)
 simp only [Fr.val, RowV.val]
 obtain ⟨v, hv⟩ : ∃ v, (L[i]?).getD Lp.nullV = v := ⟨_, rfl⟩
 rw [hv]
 have hX : ∀ A3, RdsV w A3 L → i < L.length → ∃ b off, A3 = some ⟨b, off, none⟩ ∧ ∀ o, VAt ((w.alloc (.cells #[.slice A l.length c, .slice A2 R.length c2, .bool gr] 105)).alloc o) b (off + i * 4) v := by
  intro A3 h3 hi
  rw [← hv, get_some hi]
  obtain ⟨b, off, h4, h5⟩ := RdsV.vat h3 hi
  exact ⟨b, off, h4, fun o => h5.below (hb1 o)⟩
 have hY : ¬ i < L.length → v = ⟨0, 0, ⟨#[]⟩, false⟩ := fun hi => hv.symm.trans (get_none hi)
 have HL := Lib.hid hX
 have HY := Lib.hid hY
 have HH := Lib.hid h
 have HB := Lib.hid hb1
 clear hX hY h hL hb0 hb1 hv
 obtain ⟨k, vi, vs, vb⟩ := v
 unfold vv4
 rcases hcase with ⟨rfl, rfl⟩ | ⟨rfl, rfl, rfl⟩ | ⟨A3, c3, R3, rfl, rfl⟩
 ·by_cases hi : i < l.length
  ·obtain ⟨b, off, rfl, hq⟩ := HL.out A HH.out.1 hi
   obtain ⟨q0, q1, q2, q3⟩ := hq (.cells #[.int .u8 0, .int .i64 0, .string ⟨#[]⟩, .bool false] 31)
   clear HL HH HY hq
   go_enter Tryz.func81, Tryz.ntmps81
   go_wp2
   exact bodyPost_ret (v := .agg #[.int .u8 k, .int .i64 vi, .string vs, .bool vb]) (by simp [results, Tryz.results81, go_sem]) rfl ⟨rfl, HB.out _⟩
  ·have hv := HY.out hi
   injection hv with v1 v2 v3 v4
   subst v1 v2 v3 v4
   clear HL HH HY
   go_enter Tryz.func81, Tryz.ntmps81
   go_wp2
   exact bodyPost_ret (v := .agg #[.int .u8 0, .int .i64 0, .string ⟨#[]⟩, .bool false]) (by simp [results, Tryz.results81, go_sem]) rfl ⟨rfl, HB.out _⟩
 ·by_cases hi : i < l.length
  ·obtain ⟨b, off, rfl, hq⟩ := HL.out A HH.out.1 hi
   obtain ⟨q0, q1, q2, q3⟩ := hq (.cells #[.int .u8 0, .int .i64 0, .string ⟨#[]⟩, .bool false] 31)
   clear HL HH HY hq
   simp only [List.length_nil] at *
   go_enter Tryz.func81, Tryz.ntmps81
   go_wp2
   exact bodyPost_ret (v := .agg #[.int .u8 k, .int .i64 vi, .string vs, .bool vb]) (by simp [results, Tryz.results81, go_sem]) rfl ⟨rfl, HB.out _⟩
  ·have hv := HY.out hi
   injection hv with v1 v2 v3 v4
   subst v1 v2 v3 v4
   clear HL HH HY
   simp only [List.length_nil] at *
   go_enter Tryz.func81, Tryz.ntmps81
   go_wp2
   exact bodyPost_ret (v := .agg #[.int .u8 0, .int .i64 0, .string ⟨#[]⟩, .bool false]) (by simp [results, Tryz.results81, go_sem]) rfl ⟨rfl, HB.out _⟩
 ·obtain ⟨b2, off2, hA2, hc2⟩ := HH.out.2.1.at_ (k := 0) (u := .slice A3 L.length c3) rfl
  simp only [Nat.add_zero] at hc2
  simp only at hA2
  subst hA2
  have hl : (((A3, c3, L) : RowV) :: R3).length = R3.length + 1 := rfl
  have hcc : ∀ o, ((w.alloc (.cells #[.slice A l.length c, .slice (some ⟨b2, off2, none⟩) (R3.length + 1) c2, .bool true] 105)).alloc o).cell? ⟨b2, off2, none⟩ = some (.slice A3 L.length c3) := fun o => cell_belo hc2 (HB.out o)
  have h2 := HH.out.2.2 (A3, c3, L) (by simp)
  simp only [hl] at *
  by_cases hi : i < L.length
  ·obtain ⟨b, off, rfl, hq⟩ := HL.out A3 h2 hi
   obtain ⟨q0, q1, q2, q3⟩ := hq (.cells #[.int .u8 0, .int .i64 0, .string ⟨#[]⟩, .bool false] 31)
   have hd2 := hcc (.cells #[.int .u8 0, .int .i64 0, .string ⟨#[]⟩, .bool false] 31)
   clear HL HH HY hq hcc hc2 h2
   go_enter Tryz.func81, Tryz.ntmps81
   go_wp2
   exact bodyPost_ret (v := .agg #[.int .u8 k, .int .i64 vi, .string vs, .bool vb]) (by simp [results, Tryz.results81, go_sem]) rfl ⟨rfl, HB.out _⟩
  ·have hv := HY.out hi
   injection hv with v1 v2 v3 v4
   subst v1 v2 v3 v4
   have hd2 := hcc (.cells #[.int .u8 0, .int .i64 0, .string ⟨#[]⟩, .bool false] 31)
   clear HL HH HY hcc hc2 h2
   go_enter Tryz.func81, Tryz.ntmps81
   go_wp2
   exact bodyPost_ret (v := .agg #[.int .u8 0, .int .i64 0, .string ⟨#[]⟩, .bool false]) (by simp [results, Tryz.results81, go_sem]) rfl ⟨rfl, HB.out _⟩
theorem ecmp_any (op : List UInt8) (a b : Lp.V) (w : World) :
 Calls Tryz.prog 90 #[.string ⟨op.toArray⟩, vv4 a, vv4 b] w (EvPost (Lp.cmpX op a b) w) := by
 obtain ⟨hb0, q1, q2, q3, hz⟩ := w3_facts w a b
 obtain ⟨c, hc⟩ : ∃ c, Lp.cmpV a b = c := ⟨_, rfl⟩
 obtain ⟨B, hB⟩ : ∃ B, Lp.cmpB a b = B := ⟨_, rfl⟩
 obtain ⟨E, hE⟩ : ∃ E, Lp.cmpE a b = E := ⟨_, rfl⟩
 have hX : Lp.cmpX op a b = if E = 0 ∧ B = true then (Lp.truV (Lp.standsX op c), 0) else (Lp.nullV, E) := by subst hc hB hE; rfl
 have HX := Lib.hid hX
 have HC := Lib.hid (fun W => (compare_any a.k a.i a.s a.b b.k b.i b.s b.b W))
 unfold CmpPost at HC
 rw [show (⟨a.k, a.i, a.s, a.b⟩ : Lp.V) = a from rfl, show (⟨b.k, b.i, b.s, b.b⟩ : Lp.V) = b from rfl, hc, hB, hE] at HC
 clear hX hc hB hE
 unfold vv4
 have c1 := box_cells q1
 have c2 := box_cells q2
 unfold W3 at c1 c2
 have HW := Lib.hid (And.intro hb0 (And.intro q3 hz))
 clear hb0 q1 q2 q3 hz
 go_enter Tryz.func90, Tryz.ntmps90
 go_wp2_with fail
 refine (HC.out _).mono ?_
 rintro e w1 ⟨rfl, hb1⟩
 have hW := HW.out
 unfold W3 at hW
 have hr1 := box_below hW.2.1 hb1
 have k1 := hW.1.trans (hb1.mono hW.1.size)
 clear c1 c2 hb1 hW HC HW
 by_cases h0 : E = 0
 ·subst h0
  cases B with
  | true =>
    have HQ := Lib.hid (HX.out.trans (if_pos ⟨rfl, rfl⟩))
    clear HX
    obtain ⟨S, hS⟩ : ∃ S, Lp.standsX op c = S := ⟨_, rfl⟩
    rw [hS] at HQ
    have HS := Lib.hid (hS ▸ stands_any op c)
    clear hS
    go_wp2_with fail
    refine (HS.out _).mono ?_
    rintro e w2 ⟨rfl, rfl⟩
    go_wp2_with fail
    refine (etruth_any S _).mono ?_
    rintro e w3 ⟨rfl, rfl⟩
    have hr2 := box_alloc hr1 (.cells #[.int .u8 3, .int .i64 0, .string ⟨#[]⟩, .bool S] 31)
    have hb2 := ba k1 (.cells #[.int .u8 3, .int .i64 0, .string ⟨#[]⟩, .bool S] 31)
    have hc1 := box_cells hr2
    have hf1 := fun j => frozen_of_row _ _ j _ _ hr2
    have HCE := Lib.hid (box_cells (set4_same hr2 (.int .u8 3) (.int .i64 0) (.string ⟨#[]⟩) (.bool S)))
    have K5 := Lib.hid (below_set4 hb2 (g := w.heap.size + 1 + 1) (by omega) (.int .u8 3) (.int .i64 0) (.string ⟨#[]⟩) (.bool S))
    clear k1 hr1 hr2 hb2
    go_wp2
    have hcE := HCE.out
    exact bodyPost_ret (v := .tuple #[.agg #[.int .u8 3, .int .i64 0, .string ⟨#[]⟩, .bool S], .int .i64 0]) (by simp [results, Tryz.results90, go_sem, hcE]) rfl (EvPost.mk HQ.out K5.out)
  | false =>
    have HQ := Lib.hid (HX.out.trans (if_neg (fun h => by cases h.2)))
    have hc1 := box_cells hr1
    have hf1 := fun j => frozen_of_row _ _ j _ _ hr1
    have HCE := Lib.hid (box_cells (set4_same hr1 (.int .u8 0) (.int .i64 0) (.string ⟨#[]⟩) (.bool false)))
    have K5 := Lib.hid (below_set4 k1 (g := w.heap.size + 1 + 1) (by omega) (.int .u8 0) (.int .i64 0) (.string ⟨#[]⟩) (.bool false))
    clear k1 hr1 HX
    go_wp2
    have hcE := HCE.out
    exact bodyPost_ret (v := .tuple #[.agg #[.int .u8 0, .int .i64 0, .string ⟨#[]⟩, .bool false], .int .i64 0]) (by simp [results, Tryz.results90, go_sem, hcE]) rfl (EvPost.mk HQ.out K5.out)
 ·have e3 : (E == 0) = false := beq_eq_false_iff_ne.2 h0
  have e4 : (E != 0) = true := by rw [bne, e3]; rfl
  have HQ := Lib.hid (HX.out.trans (if_neg (fun h => h0 h.1)))
  have hc1 := box_cells hr1
  have hf1 := fun j => frozen_of_row _ _ j _ _ hr1
  have HCE := Lib.hid (box_cells (set4_same hr1 (.int .u8 0) (.int .i64 0) (.string ⟨#[]⟩) (.bool false)))
  have K5 := Lib.hid (below_set4 k1 (g := w.heap.size + 1 + 1) (by omega) (.int .u8 0) (.int .i64 0) (.string ⟨#[]⟩) (.bool false))
  clear k1 hr1 HX h0
  go_wp2
  have hcE := HCE.out
  exact bodyPost_ret (v := .tuple #[.agg #[.int .u8 0, .int .i64 0, .string ⟨#[]⟩, .bool false], .int .i64 E]) (by simp [results, Tryz.results90, go_sem, hcE]) rfl (EvPost.mk HQ.out K5.out)
end Go.Proofs.YtkfjmgmjbljnbaaGreatDoor
