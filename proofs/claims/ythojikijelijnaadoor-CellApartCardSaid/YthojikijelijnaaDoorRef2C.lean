/-
  What lapidaryref02's place, Less and Same tell of values. No conditions.
-/
import Derived.Test.YthojikijelijnaaDoorMem
import Derived.Test.YthojikijelijnaaDoorPlainLess
import Derived.Deep.RegionHeld3
namespace Go.Proofs.YthojikijelijnaaDoor
open Go.RowKit

theorem place_any (k i : Int) (s : ByteArray) (b : Bool) (w : World) :
    Calls Tryd.prog 35 #[.agg #[.int .u8 k, .int .i64 i, .string s, .bool b]] w fun e w' => e = .returned (.int .i64 (Lp.place ⟨k, i, s, b⟩)) ∧ Below w.heap.size w w' := by
  have hb0 : ∀ o, Below w.heap.size w (w.alloc o) := fun o => (Below.refl _ _).alloc (Nat.le_refl _) o
  by_cases h3 : k = 3
  · subst h3
    cases b
    · go_enter Tryd.func35, Tryd.ntmps35
      go_wp2
      go_ret
      exact ⟨rfl, hb0 _⟩
    · go_enter Tryd.func35, Tryd.ntmps35
      go_wp2
      go_ret
      exact ⟨rfl, hb0 _⟩
  · by_cases h1 : k = 1
    · subst h1
      go_enter Tryd.func35, Tryd.ntmps35
      go_wp2
      go_ret
      exact ⟨rfl, hb0 _⟩
    · by_cases h2 : k = 2
      · subst h2
        go_enter Tryd.func35, Tryd.ntmps35
        go_wp2
        go_ret
        exact ⟨rfl, hb0 _⟩
      · have e : Lp.place ⟨k, i, s, b⟩ = 0 := by simp [Lp.place, h1, h2, h3]
        rw [e]
        have e1 : (k == 1) = false := by simpa using h1
        have e2 : (k == 2) = false := by simpa using h2
        have e3 : (k == 3) = false := by simpa using h3
        clear h1 h2 h3 e
        go_enter Tryd.func35, Tryd.ntmps35
        go_wp2
        go_ret
        exact ⟨rfl, hb0 _⟩

/-- The cells of two boxed values. -/
def TwoBox (g : Nat) (k i : Int) (s : ByteArray) (b : Bool) (k' i' : Int) (s' : ByteArray) (b' : Bool) (w : World) : Prop :=
  w.cell? ⟨g, 0, none⟩ = some (.int .u8 k) ∧ w.cell? ⟨g, 1, none⟩ = some (.int .i64 i) ∧ w.cell? ⟨g, 2, none⟩ = some (.string s) ∧ w.cell? ⟨g, 3, none⟩ = some (.bool b) ∧
  w.cell? ⟨g + 1, 0, none⟩ = some (.int .u8 k') ∧ w.cell? ⟨g + 1, 1, none⟩ = some (.int .i64 i') ∧ w.cell? ⟨g + 1, 2, none⟩ = some (.string s') ∧ w.cell? ⟨g + 1, 3, none⟩ = some (.bool b')
theorem TwoBox.below {g : Nat} {k i : Int} {s : ByteArray} {b : Bool} {k' i' : Int} {s' : ByteArray} {b' : Bool} {w w' : World} (h : TwoBox g k i s b k' i' s' b' w) (hb : Below w.heap.size w w') : TwoBox g k i s b k' i' s' b' w' := by
  have h1 : g < w.heap.size := World.block_lt_of_cell? w _ h.1
  have h2 : g + 1 < w.heap.size := World.block_lt_of_cell? w _ h.2.2.2.2.1
  have e1 : ∀ o, w'.cell? ⟨g, o, none⟩ = w.cell? ⟨g, o, none⟩ := fun o => hb.cell (p := ⟨g, o, none⟩) h1
  have e2 : ∀ o, w'.cell? ⟨g + 1, o, none⟩ = w.cell? ⟨g + 1, o, none⟩ := fun o => hb.cell (p := ⟨g + 1, o, none⟩) h2
  unfold TwoBox at *
  simp only [e1, e2]; exact h
theorem TwoBox.new (w : World) (k i : Int) (s : ByteArray) (b : Bool) (k' i' : Int) (s' : ByteArray) (b' : Bool) (t t' : TypeId) :
    TwoBox w.heap.size k i s b k' i' s' b' ((w.alloc (.cells #[.int .u8 k, .int .i64 i, .string s, .bool b] t)).alloc (.cells #[.int .u8 k', .int .i64 i', .string s', .bool b'] t')) := by
  have h1 := box_cells (box_alloc (heap_alloc_new w (.cells #[.int .u8 k, .int .i64 i, .string s, .bool b] t)) (.cells #[.int .u8 k', .int .i64 i', .string s', .bool b'] t'))
  have h2 := box_cells (heap_new2 w (.cells #[.int .u8 k, .int .i64 i, .string s, .bool b] t) (.cells #[.int .u8 k', .int .i64 i', .string s', .bool b'] t'))
  exact ⟨h1 0, h1 1, h1 2, h1 3, h2 0, h2 1, h2 2, h2 3⟩

set_option maxHeartbeats 4000000 in
theorem less2_ne (k i : Int) (s : ByteArray) (b : Bool) (k' i' : Int) (s' : ByteArray) (b' : Bool) (w : World) (hp : Lp.place ⟨k, i, s, b⟩ ≠ Lp.place ⟨k', i', s', b'⟩) :
    Calls Tryd.prog 20 #[.agg #[.int .u8 k, .int .i64 i, .string s, .bool b], .agg #[.int .u8 k', .int .i64 i', .string s', .bool b']] w
      fun e w' => e = .returned (.bool (Lp.vless ⟨k, i, s, b⟩ ⟨k', i', s', b'⟩)) ∧ Below w.heap.size w w' := by
  have ev : Lp.vless ⟨k, i, s, b⟩ ⟨k', i', s', b'⟩ = decide (Lp.place ⟨k, i, s, b⟩ < Lp.place ⟨k', i', s', b'⟩) := by unfold Lp.vless; rw [if_pos hp]
  rw [ev]
  have hb0 := ((Below.refl w.heap.size w).alloc (Nat.le_refl _) (.cells #[.int .u8 k, .int .i64 i, .string s, .bool b] 24)).alloc (by simp) (.cells #[.int .u8 k', .int .i64 i', .string s', .bool b'] 24)
  have hx0 := TwoBox.new w k i s b k' i' s' b' 24 24
  have hq : (Lp.place ⟨k, i, s, b⟩ == Lp.place ⟨k', i', s', b'⟩) = false := beq_eq_false_iff_ne.2 hp
  clear ev hp
  go_enter Tryd.func20, Tryd.ntmps20
  go_wp2_with fail
  go_region_held3 (fun w' => w'.cell? ⟨w.heap.size, 0, none⟩ = some (.int .u8 k) ∧ w'.cell? ⟨w.heap.size, 1, none⟩ = some (.int .i64 i) ∧ w'.cell? ⟨w.heap.size, 2, none⟩ = some (.string s) ∧ w'.cell? ⟨w.heap.size, 3, none⟩ = some (.bool b) ∧
      w'.cell? ⟨w.heap.size + 1, 0, none⟩ = some (.int .u8 k') ∧ w'.cell? ⟨w.heap.size + 1, 1, none⟩ = some (.int .i64 i') ∧ w'.cell? ⟨w.heap.size + 1, 2, none⟩ = some (.string s') ∧ w'.cell? ⟨w.heap.size + 1, 3, none⟩ = some (.bool b'))
    (first | go_keep | exact hx2 | exact hx1)
    (first
      | (go_at_call 35; refine (place_any _ _ _ _ _).mono ?_; rintro e w2 ⟨rfl, hb2⟩; have hx2 := (fun h => TwoBox.below h hb2) hx1)
      | (go_at_call 35; refine (place_any _ _ _ _ _).mono ?_; rintro e w1 ⟨rfl, hb1⟩; have hx1 := (fun h => TwoBox.below h hb1) hx0))
  go_wp2_with fail
  go_region_held3 (fun w' => w'.cell? ⟨w.heap.size, 0, none⟩ = some (.int .u8 k) ∧ w'.cell? ⟨w.heap.size, 1, none⟩ = some (.int .i64 i) ∧ w'.cell? ⟨w.heap.size, 2, none⟩ = some (.string s) ∧ w'.cell? ⟨w.heap.size, 3, none⟩ = some (.bool b) ∧
      w'.cell? ⟨w.heap.size + 1, 0, none⟩ = some (.int .u8 k') ∧ w'.cell? ⟨w.heap.size + 1, 1, none⟩ = some (.int .i64 i') ∧ w'.cell? ⟨w.heap.size + 1, 2, none⟩ = some (.string s') ∧ w'.cell? ⟨w.heap.size + 1, 3, none⟩ = some (.bool b'))
    (first | go_keep | exact hx4 | exact hx3)
    (first
      | (go_at_call 35; refine (place_any _ _ _ _ _).mono ?_; rintro e w4 ⟨rfl, hb4⟩; have hx4 := (fun h => TwoBox.below h hb4) hx3)
      | (go_at_call 35; refine (place_any _ _ _ _ _).mono ?_; rintro e w3 ⟨rfl, hb3⟩; have hx3 := (fun h => TwoBox.below h hb3) hx2))
  go_wp2
  go_ret
  have k1 : Below w.heap.size w w1 := hb0.drew.trans (hb1.mono (by simp; omega))
  have k2 : Below w.heap.size w w2 := k1.trans (hb2.mono k1.size)
  have k3 : Below w.heap.size w w3 := k2.drew.trans (hb3.mono k2.size)
  exact ⟨rfl, k3.trans (hb4.mono k3.size)⟩

set_option maxHeartbeats 4000000 in
theorem less2_eq (k i : Int) (s : ByteArray) (b : Bool) (k' i' : Int) (s' : ByteArray) (b' : Bool) (w : World) (hp : Lp.place ⟨k, i, s, b⟩ = Lp.place ⟨k', i', s', b'⟩) :
    Calls Tryd.prog 20 #[.agg #[.int .u8 k, .int .i64 i, .string s, .bool b], .agg #[.int .u8 k', .int .i64 i', .string s', .bool b']] w
      fun e w' => e = .returned (.bool (Lp.vless ⟨k, i, s, b⟩ ⟨k', i', s', b'⟩)) ∧ Below w.heap.size w w' := by
  have ev : Lp.vless ⟨k, i, s, b⟩ ⟨k', i', s', b'⟩ = ((decide (k = 1) && decide (i < i')) || (decide (k = 2) && Op.bytesLess s.toList s'.toList)) := by unfold Lp.vless; rw [if_neg (by simpa using hp), ByteArray.toList_eq, ByteArray.toList_eq]
  rw [ev]
  have hb0 := ((Below.refl w.heap.size w).alloc (Nat.le_refl _) (.cells #[.int .u8 k, .int .i64 i, .string s, .bool b] 24)).alloc (by simp) (.cells #[.int .u8 k', .int .i64 i', .string s', .bool b'] 24)
  have hx0 := TwoBox.new w k i s b k' i' s' b' 24 24
  have hq : (Lp.place ⟨k, i, s, b⟩ != Lp.place ⟨k', i', s', b'⟩) = false := by simp [hp]
  clear ev hp
  go_enter Tryd.func20, Tryd.ntmps20
  go_wp2_with fail
  go_region_held3 (fun w' => w'.cell? ⟨w.heap.size, 0, none⟩ = some (.int .u8 k) ∧ w'.cell? ⟨w.heap.size, 1, none⟩ = some (.int .i64 i) ∧ w'.cell? ⟨w.heap.size, 2, none⟩ = some (.string s) ∧ w'.cell? ⟨w.heap.size, 3, none⟩ = some (.bool b) ∧
      w'.cell? ⟨w.heap.size + 1, 0, none⟩ = some (.int .u8 k') ∧ w'.cell? ⟨w.heap.size + 1, 1, none⟩ = some (.int .i64 i') ∧ w'.cell? ⟨w.heap.size + 1, 2, none⟩ = some (.string s') ∧ w'.cell? ⟨w.heap.size + 1, 3, none⟩ = some (.bool b'))
    (first | go_keep | exact hx2 | exact hx1)
    (first
      | (go_at_call 35; refine (place_any _ _ _ _ _).mono ?_; rintro e w2 ⟨rfl, hb2⟩; have hx2 := (fun h => TwoBox.below h hb2) hx1)
      | (go_at_call 35; refine (place_any _ _ _ _ _).mono ?_; rintro e w1 ⟨rfl, hb1⟩; have hx1 := (fun h => TwoBox.below h hb1) hx0))
  obtain ⟨f0, f1, f2, f3, f4, f5, f6, f7⟩ := hx2
  have k1 : Below w.heap.size w w1 := hb0.drew.trans (hb1.mono (by simp; omega))
  have k2 : Below w.heap.size w w2 := k1.trans (hb2.mono k1.size)
  clear hb0 hb1 hb2 hx1 hx0 k1
  go_wp2
  all_goals
    go_ret
    exact ⟨by clear k2; simp_all [Lp.beqd], by exact k2⟩

theorem less2_any (k i : Int) (s : ByteArray) (b : Bool) (k' i' : Int) (s' : ByteArray) (b' : Bool) (w : World) :
    Calls Tryd.prog 20 #[.agg #[.int .u8 k, .int .i64 i, .string s, .bool b], .agg #[.int .u8 k', .int .i64 i', .string s', .bool b']] w
      fun e w' => e = .returned (.bool (Lp.vless ⟨k, i, s, b⟩ ⟨k', i', s', b'⟩)) ∧ Below w.heap.size w w' := by
  by_cases hp : Lp.place ⟨k, i, s, b⟩ = Lp.place ⟨k', i', s', b'⟩
  · exact less2_eq k i s b k' i' s' b' w hp
  · exact less2_ne k i s b k' i' s' b' w hp

set_option maxHeartbeats 2000000 in
theorem same2_any (k i : Int) (s : ByteArray) (b : Bool) (k' i' : Int) (s' : ByteArray) (b' : Bool) (w : World) :
    Calls Tryd.prog 16 #[.agg #[.int .u8 k, .int .i64 i, .string s, .bool b], .agg #[.int .u8 k', .int .i64 i', .string s', .bool b']] w
      fun e w' => e = .returned (.bool (Lp.vsame ⟨k, i, s, b⟩ ⟨k', i', s', b'⟩)) ∧ Below w.heap.size w w' := by
  have hb0 := ((Below.refl w.heap.size w).alloc (Nat.le_refl _) (.cells #[.int .u8 k, .int .i64 i, .string s, .bool b] 24)).alloc (by simp) (.cells #[.int .u8 k', .int .i64 i', .string s', .bool b'] 24)
  have hx0 := TwoBox.new w k i s b k' i' s' b' 24 24
  unfold Lp.vsame
  go_enter Tryd.func16, Tryd.ntmps16
  go_wp2_with fail
  refine (less2_any _ _ _ _ _ _ _ _ _).mono ?_
  rintro e w1 ⟨rfl, hb1⟩
  have hx1 := hx0.below hb1
  have k1 : Below w.heap.size w w1 := hb0.trans (hb1.mono (by simp; omega))
  clear hx0 hb1 hb0
  obtain ⟨f0, f1, f2, f3, f4, f5, f6, f7⟩ := hx1
  cases h1 : Lp.vless ⟨k, i, s, b⟩ ⟨k', i', s', b'⟩
  · have H1 := Lib.hid h1
    clear h1
    go_wp2_with fail
    refine (less2_any _ _ _ _ _ _ _ _ _).mono ?_
    rintro e w2 ⟨rfl, hb2⟩
    go_wp2
    go_ret
    exact ⟨by rw [H1.out]; rfl, k1.trans (hb2.mono k1.size)⟩
  · have H1 := Lib.hid h1
    clear h1
    go_wp2
    go_ret
    exact ⟨by rw [H1.out]; rfl, k1⟩

/-- The cells of two values in memory. -/
def TwoAt (g o g' o' : Nat) (k i : Int) (s : ByteArray) (b : Bool) (k' i' : Int) (s' : ByteArray) (b' : Bool) (w : World) : Prop :=
  w.cell? ⟨g, o, none⟩ = some (.int .u8 k) ∧ w.cell? ⟨g, o + 1, none⟩ = some (.int .i64 i) ∧ w.cell? ⟨g, o + 2, none⟩ = some (.string s) ∧ w.cell? ⟨g, o + 3, none⟩ = some (.bool b) ∧
  w.cell? ⟨g', o', none⟩ = some (.int .u8 k') ∧ w.cell? ⟨g', o' + 1, none⟩ = some (.int .i64 i') ∧ w.cell? ⟨g', o' + 2, none⟩ = some (.string s') ∧ w.cell? ⟨g', o' + 3, none⟩ = some (.bool b')
theorem TwoAt.below {g o g' o' : Nat} {k i : Int} {s : ByteArray} {b : Bool} {k' i' : Int} {s' : ByteArray} {b' : Bool} {w w' : World} (h : TwoAt g o g' o' k i s b k' i' s' b' w) (hb : Below w.heap.size w w') : TwoAt g o g' o' k i s b k' i' s' b' w' := by
  have h1 : g < w.heap.size := World.block_lt_of_cell? w _ h.1
  have h2 : g' < w.heap.size := World.block_lt_of_cell? w _ h.2.2.2.2.1
  have e1 : ∀ o, w'.cell? ⟨g, o, none⟩ = w.cell? ⟨g, o, none⟩ := fun o => hb.cell (p := ⟨g, o, none⟩) h1
  have e2 : ∀ o, w'.cell? ⟨g', o, none⟩ = w.cell? ⟨g', o, none⟩ := fun o => hb.cell (p := ⟨g', o, none⟩) h2
  unfold TwoAt at *
  simp only [e1, e2]; exact h
end Go.Proofs.YthojikijelijnaaDoor
