/-
  The walk of CellLiterals: it returns true, of any value. Conditions: the listed tables as laid; internal/bytealg.MaxLen holds a number.
-/
import Derived.Test.YthojikijelijnaaDoorCellW
import Derived.Test.YthojikijelijnaaDoorRLit
import Derived.Deep.RegionWith
namespace Go.Proofs.YthojikijelijnaaDoor
open Go.RowKit

theorem box4 {w : World} {g : Nat} {t : TypeId} {a0 a1 a2 a3 : Value} (h : w.heap[g]? = some (.cells #[a0, a1, a2, a3] t (0, 0))) : w.cell? ⟨g, 0, none⟩ = some a0 ∧ w.cell? ⟨g, 1, none⟩ = some a1 ∧ w.cell? ⟨g, 2, none⟩ = some a2 ∧ w.cell? ⟨g, 3, none⟩ = some a3 :=
  ⟨box_cells h 0, box_cells h 1, box_cells h 2, box_cells h 3⟩
theorem right_size {k i : Int} {s : ByteArray} {b : Bool} (h : Lp.rightB k i s b = true) : s.size ≤ 60 := by
  rcases right_class h with ⟨_, _, rfl, _⟩ | ⟨_, rfl, _⟩ | ⟨_, _, _, h⟩ | ⟨_, _, rfl⟩
  · decide
  · decide
  · exact h
  · decide
theorem str_self (s : ByteArray) : (s.toList == s.toList) = true := by simp
set_option maxRecDepth 100000 in
set_option maxHeartbeats 4000000 in
theorem cellLiterals_walk (k i : Int) (s : ByteArray) (b : Bool) (w : World) (ok : (⟨k, i, s, b⟩ : Lp.V).ok) (h : Aw w) :
    Calls Tryd.prog 3 #[.agg #[.int .u8 k, .int .i64 i, .string s, .bool b]] w fun e w' => e = .returned (.bool true) ∧ Below w.heap.size w w' := by
  have hb0 : Below w.heap.size w (w.alloc (.cells #[.int .u8 k, .int .i64 i, .string s, .bool b] 24)) := (Below.refl _ _).alloc (Nat.le_refl _) _
  have hx0 := heap_alloc_new w (.cells #[.int .u8 k, .int .i64 i, .string s, .bool b] 24)
  have H := Lib.hid h
  have hs := ok.1
  have hi := ok.2.1
  simp only at hs hi
  rcases Bool.eq_false_or_eq_true (Lp.rightB k i s b) with hr | hr
  · have R1 := Lib.hid (fun W => right2_at k i s b true hr W hs)
    have h60 := right_size hr
    obtain ⟨R, hR⟩ : ∃ R : ByteArray, (⟨(Lp.lit ⟨k, i, s, b⟩).toArray⟩ : ByteArray) = R := ⟨_, rfl⟩
    have hc := fun W (a : Aw W) => clit_any k i s b W hi (by omega) a.2.1 a.2.2
    have hl := fun W => rlit_any k i s b W hi (by omega)
    rw [hR] at hc hl
    have HC := Lib.hid hc
    have HL := Lib.hid hl
    have hss := str_self R
    clear hc hl hR h ok hs hi hr
    go_enter Tryd.func3, Tryd.ntmps3
    go_wp2_with fail
    refine (awake2_any _ (aw_below H.out hb0)).mono ?_
    rintro e w1 ⟨rfl, hb1⟩
    have k1 := hb0.trans (hb1.mono (by simp))
    have hx1 := box_below hx0 hb1
    have hX1 := box4 (box_drew hx1)
    have A1 : Aw w1.drew := aw_below H.out k1.drew
    clear hb0 hb1 hx0
    go_wp2_with fail
    go_region_held3 (fun w' => w'.cell? ⟨w.heap.size, 0, none⟩ = some (.int .u8 k) ∧ w'.cell? ⟨w.heap.size, 1, none⟩ = some (.int .i64 i) ∧ w'.cell? ⟨w.heap.size, 2, none⟩ = some (.string s) ∧ w'.cell? ⟨w.heap.size, 3, none⟩ = some (.bool b))
      (first | exact hX1 | exact hX4 | exact hX3 | exact hX2)
      (first
        | (go_at_call 13; refine (R1.out _).mono ?_; rintro e w2 ⟨rfl, hb2⟩; have hx2 := box_below (box_drew hx1) hb2; have hX2 := box4 hx2; have A2 := aw_below A1 hb2)
        | (go_at_call 14; refine (HC.out _ A2).mono ?_; rintro e w3 ⟨rfl, hb3⟩; have hx3 := box_below hx2 hb3; have hX3 := box4 hx3)
        | (go_at_call 15; refine (HL.out _).mono ?_; rintro e w4 ⟨rfl, hb4⟩; have hx4 := box_below hx3 hb4; have hX4 := box4 hx4))
    have k2 : Below w.heap.size w w2 := k1.drew.trans (hb2.mono k1.size)
    have k3 := k2.trans (hb3.mono k2.size)
    have k4 := k3.trans (hb4.mono k3.size)
    go_wp2
    go_ret
    exact ⟨rfl, k4⟩
  · have R1 := Lib.hid (fun W => right2_at k i s b false hr W hs)
    clear h ok hs hi hr
    go_enter Tryd.func3, Tryd.ntmps3
    go_wp2_with fail
    refine (awake2_any _ (aw_below H.out hb0)).mono ?_
    rintro e w1 ⟨rfl, hb1⟩
    have k1 := hb0.trans (hb1.mono (by simp))
    have hx1 := box_below hx0 hb1
    have hX1 := box4 (box_drew hx1)
    clear hb0 hb1 hx0
    go_wp2_with fail
    obtain ⟨f0, f1, f2, f3⟩ := hX1
    have g0 := box_cells hx1
    go_region_with (go_at_call 13; refine (R1.out _).mono ?_; rintro e w2 ⟨rfl, hb2⟩)
    all_goals
      have k2 : Below w.heap.size w w2 := k1.drew.trans (hb2.mono k1.size)
      go_wp2
      go_ret
      exact ⟨rfl, k2⟩
end Go.Proofs.YthojikijelijnaaDoor
