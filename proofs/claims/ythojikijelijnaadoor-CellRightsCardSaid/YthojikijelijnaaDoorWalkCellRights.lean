/-
  The walk of CellRights: it returns true, of any value. Conditions: the listed tables as laid; internal/bytealg.MaxLen holds a number.
-/
import Derived.Test.YthojikijelijnaaDoorAwake2
import Derived.Test.YthojikijelijnaaDoorRef2Right
import Derived.Deep.DeepCutAuto
namespace Go.Proofs.YthojikijelijnaaDoor
open Go.RowKit

theorem box4 {w : World} {g : Nat} {t : TypeId} {a0 a1 a2 a3 : Value} (h : w.heap[g]? = some (.cells #[a0, a1, a2, a3] t (0, 0))) : w.cell? ⟨g, 0, none⟩ = some a0 ∧ w.cell? ⟨g, 1, none⟩ = some a1 ∧ w.cell? ⟨g, 2, none⟩ = some a2 ∧ w.cell? ⟨g, 3, none⟩ = some a3 :=
  ⟨box_cells h 0, box_cells h 1, box_cells h 2, box_cells h 3⟩
theorem cright_at (k i : Int) (s : ByteArray) (b r : Bool) (hr : Lp.rightB k i s b = r) (w : World) (hs : s.size ≤ 9223372036854775807) (hT : Tabs w) :
    Calls Tryd.prog 28 #[.agg #[.int .u8 k, .int .i64 i, .string s, .bool b]] w fun e w' => e = .returned (.bool r) ∧ Below w.heap.size w w' := by
  subst hr; exact right_any k i s b w hs hT
set_option maxRecDepth 100000 in
set_option maxHeartbeats 4000000 in
theorem cellRights_walk (k i : Int) (s : ByteArray) (b : Bool) (w : World) (hs : s.size ≤ 9223372036854775807) (h : Aw w) :
    Calls Tryd.prog 11 #[.agg #[.int .u8 k, .int .i64 i, .string s, .bool b]] w fun e w' => e = .returned (.bool true) ∧ Below w.heap.size w w' := by
  have hb0 : Below w.heap.size w (w.alloc (.cells #[.int .u8 k, .int .i64 i, .string s, .bool b] 24)) := (Below.refl _ _).alloc (Nat.le_refl _) _
  have hx0 := heap_alloc_new w (.cells #[.int .u8 k, .int .i64 i, .string s, .bool b] 24)
  go_enter Tryd.func11, Tryd.ntmps11
  go_wp2_with fail
  refine (awake2_any _ (aw_below h hb0)).mono ?_
  rintro e w1 ⟨rfl, hb1⟩
  have k1 := hb0.trans (hb1.mono (by simp))
  have hx1 := box_below hx0 hb1
  have hc1 := box_cells hx1
  have hT1 := (aw_below h k1).1
  have hf1 := fun j => frozen_of_row w1 w.heap.size j _ _ hx1
  have H := Lib.hid h
  clear hb0 hb1 hx0 h
  by_cases h100 : 100 < s.size
  · have h1 : (100 : Int) < (s.size : Int) := by omega
    have hx2 : (w1.setCell ⟨w.heap.size, 2, none⟩ (.string (s.extract 0 100))).heap[w.heap.size]? = some (.cells #[.int .u8 k, .int .i64 i, .string (s.extract 0 100), .bool b] 24 (0, 0)) := by
      simp [World.setCell, Array.getElem?_modify, hx1]
    have k2 : Below w.heap.size w (w1.setCell ⟨w.heap.size, 2, none⟩ (.string (s.extract 0 100))) := k1.setCell (p := ⟨w.heap.size, 2, none⟩) (Nat.le_refl _) _
    have hT2 := (aw_below H.out k2).1
    have hs2 : (s.extract 0 100).size ≤ 9223372036854775807 := by simp; omega
    go_upto_region 5 with fail
    clear hc1 hf1 hx1 k1 hT1
    generalize s.extract 0 100 = s2 at *
    generalize w1.setCell ⟨w.heap.size, 2, none⟩ (.string s2) = wx at *
    obtain ⟨r, hr⟩ : ∃ r, Lp.rightB k i s2 b = r := ⟨_, rfl⟩
    have HR := Lib.hid hr
    clear hr
    have hrr : (r == r) = true := by simp
    have hx1 := hx2
    have hT1 := hT2
    have k1 := k2
    have hX1 := box4 (box_drew hx1)
    clear hx2 hT2 k2
    go_wp2_with fail
    go_region_held3 (fun w' => w'.cell? ⟨w.heap.size, 0, none⟩ = some (.int .u8 k) ∧ w'.cell? ⟨w.heap.size, 1, none⟩ = some (.int .i64 i) ∧ w'.cell? ⟨w.heap.size, 2, none⟩ = some (.string s2) ∧ w'.cell? ⟨w.heap.size, 3, none⟩ = some (.bool b))
      (first | exact hX1 | exact hX2 | exact hX3)
      (first
        | (go_at_call 28; refine (cright_at _ _ _ _ _ HR.out _ hs2 ?_).mono ?_
           · exact tabs_below hT1 (by repeat (first | exact Below.refl _ _ | apply Below.drew))
           rintro e w2 ⟨rfl, hb2⟩
           have hx2 := box_below (box_drew hx1) hb2
           have hX2 := box4 hx2)
        | (go_at_call 13; refine (right2_at _ _ _ _ _ HR.out _ hs2).mono ?_; rintro e w3 ⟨rfl, hb3⟩; have hX3 := box4 (box_below hx2 hb3)))
    have k2 : Below w.heap.size w w2 := k1.drew.trans (hb2.mono k1.size)
    have k3 := k2.trans (hb3.mono k2.size)
    go_wp2
    go_ret
    exact ⟨rfl, k3⟩
  · have h1 : ¬ (100 : Int) < (s.size : Int) := by omega
    obtain ⟨r, hr⟩ : ∃ r, Lp.rightB k i s b = r := ⟨_, rfl⟩
    have HR := Lib.hid hr
    clear hr hf1
    have hrr : (r == r) = true := by simp
    have hs2 := hs
    have hX1 := box4 (box_drew hx1)
    go_wp2_with fail
    go_region_held3 (fun w' => w'.cell? ⟨w.heap.size, 0, none⟩ = some (.int .u8 k) ∧ w'.cell? ⟨w.heap.size, 1, none⟩ = some (.int .i64 i) ∧ w'.cell? ⟨w.heap.size, 2, none⟩ = some (.string s) ∧ w'.cell? ⟨w.heap.size, 3, none⟩ = some (.bool b))
      (first | exact hX1 | exact hX2 | exact hX3)
      (first
        | (go_at_call 28; refine (cright_at _ _ _ _ _ HR.out _ hs2 ?_).mono ?_
           · exact tabs_below hT1 (by repeat (first | exact Below.refl _ _ | apply Below.drew))
           rintro e w2 ⟨rfl, hb2⟩
           have hx2 := box_below (box_drew hx1) hb2
           have hX2 := box4 hx2)
        | (go_at_call 13; refine (right2_at _ _ _ _ _ HR.out _ hs2).mono ?_; rintro e w3 ⟨rfl, hb3⟩; have hX3 := box4 (box_below hx2 hb3)))
    have k2 : Below w.heap.size w w2 := k1.drew.trans (hb2.mono k1.size)
    have k3 := k2.trans (hb3.mono k2.size)
    go_wp2
    go_ret
    exact ⟨rfl, k3⟩
end Go.Proofs.YthojikijelijnaaDoor
