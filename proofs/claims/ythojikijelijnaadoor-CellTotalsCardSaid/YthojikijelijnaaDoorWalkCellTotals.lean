/-
  The walk of CellTotals: it returns true, of any two values. Conditions: the listed tables as laid; internal/bytealg.MaxLen holds a number.
-/
import Derived.Test.YthojikijelijnaaDoorCellW
namespace Go.Proofs.YthojikijelijnaaDoor
open Go.RowKit

theorem vless_self (u : Lp.V) : Lp.vless u u = false := by
  rw [vless_ord]
  have := vord_turn u u
  rw [decide_eq_false]; omega
theorem vsame_self (u : Lp.V) : Lp.vsame u u = true := by unfold Lp.vsame; rw [vless_self]; rfl
theorem TwoBox.two {g : Nat} {k i : Int} {s : ByteArray} {b : Bool} {k' i' : Int} {s' : ByteArray} {b' : Bool} {w : World} {t t' : TypeId} (h : w.heap[g]? = some (.cells #[.int .u8 k, .int .i64 i, .string s, .bool b] t (0, 0))) (h' : w.heap[g + 1]? = some (.cells #[.int .u8 k', .int .i64 i', .string s', .bool b'] t' (0, 0))) : TwoBox g k i s b k' i' s' b' w :=
  ⟨box_cells h 0, box_cells h 1, box_cells h 2, box_cells h 3, box_cells h' 0, box_cells h' 1, box_cells h' 2, box_cells h' 3⟩
set_option maxRecDepth 100000 in
set_option maxHeartbeats 4000000 in
theorem cellTotals_no1 (k i : Int) (s : ByteArray) (b : Bool) (k' i' : Int) (s' : ByteArray) (b' : Bool) (w : World) (hs : s.size ≤ 9223372036854775807) (hs' : s'.size ≤ 9223372036854775807) (hr : Lp.rightB k i s b = false) (h : Aw w) :
    Calls Tryd.prog 7 #[.agg #[.int .u8 k, .int .i64 i, .string s, .bool b], .agg #[.int .u8 k', .int .i64 i', .string s', .bool b']] w fun e w' => e = .returned (.bool true) ∧ Below w.heap.size w w' := by
  have k0 := ba (ba (Below.refl w.heap.size w) (.cells #[.int .u8 k, .int .i64 i, .string s, .bool b] 24)) (.cells #[.int .u8 k', .int .i64 i', .string s', .bool b'] 24)
  have x0 := box_alloc (heap_alloc_new w (.cells #[.int .u8 k, .int .i64 i, .string s, .bool b] 24)) (.cells #[.int .u8 k', .int .i64 i', .string s', .bool b'] 24)
  have x1 := heap_new2 w (.cells #[.int .u8 k, .int .i64 i, .string s, .bool b] 24) (.cells #[.int .u8 k', .int .i64 i', .string s', .bool b'] 24)
  have R1 := Lib.hid (fun W => right2_at k i s b false hr W hs)
  have R2 := Lib.hid (fun W => right2_at k' i' s' b' _ rfl W hs')
  have HH := Lib.hid h
  clear h hs hs' hr
  go_enter Tryd.func7, Tryd.ntmps7
  go_wp2_with fail
  refine (awake2_any _ (aw_below HH.out k0)).mono ?_
  rintro e v1 ⟨rfl, hb1⟩
  have x1_0 := box_below x0 hb1
  have x1_1 := box_below x1 hb1
  have k1 := k0.trans (hb1.mono k0.size)
  clear hb1 k0 x0 x1
  have c1_0 := box_cells x1_0
  have l1_0 := heap_lt x1_0
  have c1_1 := box_cells x1_1
  have l1_1 := heap_lt x1_1
  go_wp2_with fail
  refine (R1.out _).mono ?_
  rintro e v2 ⟨rfl, hb2⟩
  have x2_0 := box_below x1_0 hb2
  have x2_1 := box_below x1_1 hb2
  have k2 := k1.trans (hb2.mono k1.size)
  clear hb2 k1 x1_0 x1_1 c1_0 c1_1 l1_0 l1_1
  have c2_0 := box_cells x2_0
  have l2_0 := heap_lt x2_0
  have c2_1 := box_cells x2_1
  have l2_1 := heap_lt x2_1
  go_wp2
  go_ret
  exact ⟨rfl, k2⟩
set_option maxRecDepth 100000 in
set_option maxHeartbeats 4000000 in
theorem cellTotals_no2 (k i : Int) (s : ByteArray) (b : Bool) (k' i' : Int) (s' : ByteArray) (b' : Bool) (w : World) (hs : s.size ≤ 9223372036854775807) (hs' : s'.size ≤ 9223372036854775807) (hr : Lp.rightB k i s b = true) (hr' : Lp.rightB k' i' s' b' = false) (h : Aw w) :
    Calls Tryd.prog 7 #[.agg #[.int .u8 k, .int .i64 i, .string s, .bool b], .agg #[.int .u8 k', .int .i64 i', .string s', .bool b']] w fun e w' => e = .returned (.bool true) ∧ Below w.heap.size w w' := by
  have k0 := ba (ba (Below.refl w.heap.size w) (.cells #[.int .u8 k, .int .i64 i, .string s, .bool b] 24)) (.cells #[.int .u8 k', .int .i64 i', .string s', .bool b'] 24)
  have x0 := box_alloc (heap_alloc_new w (.cells #[.int .u8 k, .int .i64 i, .string s, .bool b] 24)) (.cells #[.int .u8 k', .int .i64 i', .string s', .bool b'] 24)
  have x1 := heap_new2 w (.cells #[.int .u8 k, .int .i64 i, .string s, .bool b] 24) (.cells #[.int .u8 k', .int .i64 i', .string s', .bool b'] 24)
  have R1 := Lib.hid (fun W => right2_at k i s b true hr W hs)
  have R2 := Lib.hid (fun W => right2_at k' i' s' b' false hr' W hs')
  have HH := Lib.hid h
  clear h hs hs' hr hr'
  go_enter Tryd.func7, Tryd.ntmps7
  go_wp2_with fail
  refine (awake2_any _ (aw_below HH.out k0)).mono ?_
  rintro e v1 ⟨rfl, hb1⟩
  have x1_0 := box_below x0 hb1
  have x1_1 := box_below x1 hb1
  have k1 := k0.trans (hb1.mono k0.size)
  clear hb1 k0 x0 x1
  have c1_0 := box_cells x1_0
  have l1_0 := heap_lt x1_0
  have c1_1 := box_cells x1_1
  have l1_1 := heap_lt x1_1
  go_wp2_with fail
  refine (R1.out _).mono ?_
  rintro e v2 ⟨rfl, hb2⟩
  have x2_0 := box_below x1_0 hb2
  have x2_1 := box_below x1_1 hb2
  have k2 := k1.trans (hb2.mono k1.size)
  clear hb2 k1 x1_0 x1_1 c1_0 c1_1 l1_0 l1_1
  have c2_0 := box_cells x2_0
  have l2_0 := heap_lt x2_0
  have c2_1 := box_cells x2_1
  have l2_1 := heap_lt x2_1
  go_wp2_with fail
  refine (R2.out _).mono ?_
  rintro e v3 ⟨rfl, hb3⟩
  have x3_0 := box_below x2_0 hb3
  have x3_1 := box_below x2_1 hb3
  have k3 := k2.trans (hb3.mono k2.size)
  clear hb3 k2 x2_0 x2_1 c2_0 c2_1 l2_0 l2_1
  have c3_0 := box_cells x3_0
  have l3_0 := heap_lt x3_0
  have c3_1 := box_cells x3_1
  have l3_1 := heap_lt x3_1
  go_wp2
  go_ret
  exact ⟨rfl, k3⟩
set_option maxRecDepth 100000 in
set_option maxHeartbeats 4000000 in
theorem cellTotals_tf (k i : Int) (s : ByteArray) (b : Bool) (k' i' : Int) (s' : ByteArray) (b' : Bool) (w : World) (hs : s.size ≤ 9223372036854775807) (hs' : s'.size ≤ 9223372036854775807) (hr : Lp.rightB k i s b = true) (hr' : Lp.rightB k' i' s' b' = true) (h1 : Lp.vless ⟨k, i, s, b⟩ ⟨k', i', s', b'⟩ = true) (h2 : Lp.vless ⟨k', i', s', b'⟩ ⟨k, i, s, b⟩ = false) (h : Aw w) :
    Calls Tryd.prog 7 #[.agg #[.int .u8 k, .int .i64 i, .string s, .bool b], .agg #[.int .u8 k', .int .i64 i', .string s', .bool b']] w fun e w' => e = .returned (.bool true) ∧ Below w.heap.size w w' := by
  have k0 := ba (ba (Below.refl w.heap.size w) (.cells #[.int .u8 k, .int .i64 i, .string s, .bool b] 24)) (.cells #[.int .u8 k', .int .i64 i', .string s', .bool b'] 24)
  have x0 := box_alloc (heap_alloc_new w (.cells #[.int .u8 k, .int .i64 i, .string s, .bool b] 24)) (.cells #[.int .u8 k', .int .i64 i', .string s', .bool b'] 24)
  have x1 := heap_new2 w (.cells #[.int .u8 k, .int .i64 i, .string s, .bool b] 24) (.cells #[.int .u8 k', .int .i64 i', .string s', .bool b'] 24)
  have R1 := Lib.hid (fun W => right2_at k i s b true hr W hs)
  have R2 := Lib.hid (fun W => right2_at k' i' s' b' true hr' W hs')
  have hc1 := fun W => cless_any k i s b k' i' s' b' W
  have hc2 := fun W => cless_any k' i' s' b' k i s b W
  have hc3 := fun W => csame_any k i s b k' i' s' b' W
  have hc4 := fun W => csame_any k i s b k i s b W
  have hc5 := fun W => cless_any k i s b k i s b W
  have h3 : Lp.vsame ⟨k, i, s, b⟩ ⟨k', i', s', b'⟩ = false := by unfold Lp.vsame; rw [h1, h2]; rfl
  rw [h1] at hc1
  rw [h2] at hc2
  rw [h3] at hc3
  rw [vsame_self] at hc4
  rw [vless_self] at hc5
  have C1 := Lib.hid hc1
  have C2 := Lib.hid hc2
  have C3 := Lib.hid hc3
  have C4 := Lib.hid hc4
  have C5 := Lib.hid hc5
  have HH := Lib.hid h
  clear h hs hs' hr hr' h1 h2 h3 hc1 hc2 hc3 hc4 hc5
  go_enter Tryd.func7, Tryd.ntmps7
  go_wp2_with fail
  refine (awake2_any _ (aw_below HH.out k0)).mono ?_
  rintro e v1 ⟨rfl, hb1⟩
  have x1_0 := box_below x0 hb1
  have x1_1 := box_below x1 hb1
  have k1 := k0.trans (hb1.mono k0.size)
  clear hb1 k0 x0 x1
  have c1_0 := box_cells x1_0
  have l1_0 := heap_lt x1_0
  have c1_1 := box_cells x1_1
  have l1_1 := heap_lt x1_1
  go_wp2_with fail
  refine (R1.out _).mono ?_
  rintro e v2 ⟨rfl, hb2⟩
  have x2_0 := box_below x1_0 hb2
  have x2_1 := box_below x1_1 hb2
  have k2 := k1.trans (hb2.mono k1.size)
  clear hb2 k1 x1_0 x1_1 c1_0 c1_1 l1_0 l1_1
  have c2_0 := box_cells x2_0
  have l2_0 := heap_lt x2_0
  have c2_1 := box_cells x2_1
  have l2_1 := heap_lt x2_1
  go_wp2_with fail
  refine (R2.out _).mono ?_
  rintro e v3 ⟨rfl, hb3⟩
  have x3_0 := box_below x2_0 hb3
  have x3_1 := box_below x2_1 hb3
  have k3 := k2.trans (hb3.mono k2.size)
  clear hb3 k2 x2_0 x2_1 c2_0 c2_1 l2_0 l2_1
  have c3_0 := box_cells x3_0
  have l3_0 := heap_lt x3_0
  have c3_1 := box_cells x3_1
  have l3_1 := heap_lt x3_1
  have hx0 := TwoBox.two x3_0 x3_1
  clear c3_0 l3_0 c3_1 l3_1
  have hxd : TwoBox w.heap.size k i s b k' i' s' b' v3.drew := hx0
  go_wp2_with fail
  go_region_held3 (fun w' => w'.cell? ⟨w.heap.size, 0, none⟩ = some (.int .u8 k) ∧ w'.cell? ⟨w.heap.size, 1, none⟩ = some (.int .i64 i) ∧ w'.cell? ⟨w.heap.size, 2, none⟩ = some (.string s) ∧ w'.cell? ⟨w.heap.size, 3, none⟩ = some (.bool b) ∧ w'.cell? ⟨w.heap.size + 1, 0, none⟩ = some (.int .u8 k') ∧ w'.cell? ⟨w.heap.size + 1, 1, none⟩ = some (.int .i64 i') ∧ w'.cell? ⟨w.heap.size + 1, 2, none⟩ = some (.string s') ∧ w'.cell? ⟨w.heap.size + 1, 3, none⟩ = some (.bool b'))
    (first | exact hxd | exact hx3 | exact hx2 | exact hx1 | exact (fun h => TwoBox.below h ((Below.refl _ _).alloc (Nat.le_refl _) _)) hx3)
    (first
      | (go_at_call 21; refine (C3.out _).mono ?_; rintro e u3 ⟨rfl, ha3⟩; have hx3 := (fun h => TwoBox.below h ha3) hx2)
      | (go_at_call 17; refine (C2.out _).mono ?_; rintro e u2 ⟨rfl, ha2⟩; have hx2 := (fun h => TwoBox.below h ha2) hx1)
      | (go_at_call 17; refine (C1.out _).mono ?_; rintro e u1 ⟨rfl, ha1⟩; have hx1 := (fun h => TwoBox.below h ha1) hxd))
  have k1x : Below w.heap.size w u1 := k3.drew.trans (ha1.mono k3.size)
  have k2x := k1x.trans (ha2.mono k1x.size)
  have k3x := k2x.trans (ha3.mono k2x.size)
  have k4x := ba k3x (.cells #[.bool true, .bool false, .bool false] 4)
  have hx4 : TwoBox w.heap.size k i s b k' i' s' b' (u3.alloc (.cells #[.bool true, .bool false, .bool false] 4)) := hx3.below ((Below.refl _ _).alloc (Nat.le_refl _) _)
  have hy4 := box_cells (heap_alloc_new u3 (.cells #[.bool true, .bool false, .bool false] 4))
  clear hx0 hxd hx1 hx2 hx3 ha1 ha2 ha3 k1x k2x k3x
  obtain ⟨f0, f1, f2, f3, f4, f5, f6, f7⟩ := hx4
  go_wp2_with fail
  go_loop [5, 7, 29] (fun s5 _ s29 => (s29 = .int .i64 0 ∧ s5 = .int .i64 0) ∨ (s29 = .int .i64 1 ∧ s5 = .int .i64 1) ∨ (s29 = .int .i64 2 ∧ s5 = .int .i64 1) ∨ (s29 = .int .i64 3 ∧ s5 = .int .i64 1)) (fun _ _ s29 => (4 - intOf s29).toNat)
  case atStart => exact .inl ⟨rfl, rfl⟩
  case round =>
    rcases hrel with ⟨rfl, rfl⟩ | ⟨rfl, rfl⟩ | ⟨rfl, rfl⟩ | ⟨rfl, rfl⟩
    · go_wp2
      go_round
      case rel => exact .inr (.inl ⟨rfl, rfl⟩)
      case measure => simp [intOf]
    · go_wp2
      go_round
      case rel => exact .inr (.inr (.inl ⟨rfl, rfl⟩))
      case measure => simp [intOf]
    · go_wp2
      go_round
      case rel => exact .inr (.inr (.inr ⟨rfl, rfl⟩))
      case measure => simp [intOf]
    · go_wp2_with fail
      refine (C4.out _).mono ?_
      rintro e u5 ⟨rfl, ha5⟩
      have k5x := k4x.trans (ha5.mono k4x.size)
      have g0 := (ha5.cell (p := ⟨w.heap.size, 0, none⟩) (World.block_lt_of_cell? _ _ f0)).trans f0
      have g1 := (ha5.cell (p := ⟨w.heap.size, 1, none⟩) (World.block_lt_of_cell? _ _ f1)).trans f1
      have g2 := (ha5.cell (p := ⟨w.heap.size, 2, none⟩) (World.block_lt_of_cell? _ _ f2)).trans f2
      have g3 := (ha5.cell (p := ⟨w.heap.size, 3, none⟩) (World.block_lt_of_cell? _ _ f3)).trans f3
      go_wp2_with fail
      refine (C5.out _).mono ?_
      rintro e u6 ⟨rfl, ha6⟩
      go_wp2
      go_ret
      exact ⟨rfl, k5x.trans (ha6.mono k5x.size)⟩
set_option maxRecDepth 100000 in
set_option maxHeartbeats 4000000 in
theorem cellTotals_ft (k i : Int) (s : ByteArray) (b : Bool) (k' i' : Int) (s' : ByteArray) (b' : Bool) (w : World) (hs : s.size ≤ 9223372036854775807) (hs' : s'.size ≤ 9223372036854775807) (hr : Lp.rightB k i s b = true) (hr' : Lp.rightB k' i' s' b' = true) (h1 : Lp.vless ⟨k, i, s, b⟩ ⟨k', i', s', b'⟩ = false) (h2 : Lp.vless ⟨k', i', s', b'⟩ ⟨k, i, s, b⟩ = true) (h : Aw w) :
    Calls Tryd.prog 7 #[.agg #[.int .u8 k, .int .i64 i, .string s, .bool b], .agg #[.int .u8 k', .int .i64 i', .string s', .bool b']] w fun e w' => e = .returned (.bool true) ∧ Below w.heap.size w w' := by
  have k0 := ba (ba (Below.refl w.heap.size w) (.cells #[.int .u8 k, .int .i64 i, .string s, .bool b] 24)) (.cells #[.int .u8 k', .int .i64 i', .string s', .bool b'] 24)
  have x0 := box_alloc (heap_alloc_new w (.cells #[.int .u8 k, .int .i64 i, .string s, .bool b] 24)) (.cells #[.int .u8 k', .int .i64 i', .string s', .bool b'] 24)
  have x1 := heap_new2 w (.cells #[.int .u8 k, .int .i64 i, .string s, .bool b] 24) (.cells #[.int .u8 k', .int .i64 i', .string s', .bool b'] 24)
  have R1 := Lib.hid (fun W => right2_at k i s b true hr W hs)
  have R2 := Lib.hid (fun W => right2_at k' i' s' b' true hr' W hs')
  have hc1 := fun W => cless_any k i s b k' i' s' b' W
  have hc2 := fun W => cless_any k' i' s' b' k i s b W
  have hc3 := fun W => csame_any k i s b k' i' s' b' W
  have hc4 := fun W => csame_any k i s b k i s b W
  have hc5 := fun W => cless_any k i s b k i s b W
  have h3 : Lp.vsame ⟨k, i, s, b⟩ ⟨k', i', s', b'⟩ = false := by unfold Lp.vsame; rw [h1, h2]; rfl
  rw [h1] at hc1
  rw [h2] at hc2
  rw [h3] at hc3
  rw [vsame_self] at hc4
  rw [vless_self] at hc5
  have C1 := Lib.hid hc1
  have C2 := Lib.hid hc2
  have C3 := Lib.hid hc3
  have C4 := Lib.hid hc4
  have C5 := Lib.hid hc5
  have HH := Lib.hid h
  clear h hs hs' hr hr' h1 h2 h3 hc1 hc2 hc3 hc4 hc5
  go_enter Tryd.func7, Tryd.ntmps7
  go_wp2_with fail
  refine (awake2_any _ (aw_below HH.out k0)).mono ?_
  rintro e v1 ⟨rfl, hb1⟩
  have x1_0 := box_below x0 hb1
  have x1_1 := box_below x1 hb1
  have k1 := k0.trans (hb1.mono k0.size)
  clear hb1 k0 x0 x1
  have c1_0 := box_cells x1_0
  have l1_0 := heap_lt x1_0
  have c1_1 := box_cells x1_1
  have l1_1 := heap_lt x1_1
  go_wp2_with fail
  refine (R1.out _).mono ?_
  rintro e v2 ⟨rfl, hb2⟩
  have x2_0 := box_below x1_0 hb2
  have x2_1 := box_below x1_1 hb2
  have k2 := k1.trans (hb2.mono k1.size)
  clear hb2 k1 x1_0 x1_1 c1_0 c1_1 l1_0 l1_1
  have c2_0 := box_cells x2_0
  have l2_0 := heap_lt x2_0
  have c2_1 := box_cells x2_1
  have l2_1 := heap_lt x2_1
  go_wp2_with fail
  refine (R2.out _).mono ?_
  rintro e v3 ⟨rfl, hb3⟩
  have x3_0 := box_below x2_0 hb3
  have x3_1 := box_below x2_1 hb3
  have k3 := k2.trans (hb3.mono k2.size)
  clear hb3 k2 x2_0 x2_1 c2_0 c2_1 l2_0 l2_1
  have c3_0 := box_cells x3_0
  have l3_0 := heap_lt x3_0
  have c3_1 := box_cells x3_1
  have l3_1 := heap_lt x3_1
  have hx0 := TwoBox.two x3_0 x3_1
  clear c3_0 l3_0 c3_1 l3_1
  have hxd : TwoBox w.heap.size k i s b k' i' s' b' v3.drew := hx0
  go_wp2_with fail
  go_region_held3 (fun w' => w'.cell? ⟨w.heap.size, 0, none⟩ = some (.int .u8 k) ∧ w'.cell? ⟨w.heap.size, 1, none⟩ = some (.int .i64 i) ∧ w'.cell? ⟨w.heap.size, 2, none⟩ = some (.string s) ∧ w'.cell? ⟨w.heap.size, 3, none⟩ = some (.bool b) ∧ w'.cell? ⟨w.heap.size + 1, 0, none⟩ = some (.int .u8 k') ∧ w'.cell? ⟨w.heap.size + 1, 1, none⟩ = some (.int .i64 i') ∧ w'.cell? ⟨w.heap.size + 1, 2, none⟩ = some (.string s') ∧ w'.cell? ⟨w.heap.size + 1, 3, none⟩ = some (.bool b'))
    (first | exact hxd | exact hx3 | exact hx2 | exact hx1 | exact (fun h => TwoBox.below h ((Below.refl _ _).alloc (Nat.le_refl _) _)) hx3)
    (first
      | (go_at_call 21; refine (C3.out _).mono ?_; rintro e u3 ⟨rfl, ha3⟩; have hx3 := (fun h => TwoBox.below h ha3) hx2)
      | (go_at_call 17; refine (C2.out _).mono ?_; rintro e u2 ⟨rfl, ha2⟩; have hx2 := (fun h => TwoBox.below h ha2) hx1)
      | (go_at_call 17; refine (C1.out _).mono ?_; rintro e u1 ⟨rfl, ha1⟩; have hx1 := (fun h => TwoBox.below h ha1) hxd))
  have k1x : Below w.heap.size w u1 := k3.drew.trans (ha1.mono k3.size)
  have k2x := k1x.trans (ha2.mono k1x.size)
  have k3x := k2x.trans (ha3.mono k2x.size)
  have k4x := ba k3x (.cells #[.bool false, .bool true, .bool false] 4)
  have hx4 : TwoBox w.heap.size k i s b k' i' s' b' (u3.alloc (.cells #[.bool false, .bool true, .bool false] 4)) := hx3.below ((Below.refl _ _).alloc (Nat.le_refl _) _)
  have hy4 := box_cells (heap_alloc_new u3 (.cells #[.bool false, .bool true, .bool false] 4))
  clear hx0 hxd hx1 hx2 hx3 ha1 ha2 ha3 k1x k2x k3x
  obtain ⟨f0, f1, f2, f3, f4, f5, f6, f7⟩ := hx4
  go_wp2_with fail
  go_loop [5, 7, 29] (fun s5 _ s29 => (s29 = .int .i64 0 ∧ s5 = .int .i64 0) ∨ (s29 = .int .i64 1 ∧ s5 = .int .i64 0) ∨ (s29 = .int .i64 2 ∧ s5 = .int .i64 1) ∨ (s29 = .int .i64 3 ∧ s5 = .int .i64 1)) (fun _ _ s29 => (4 - intOf s29).toNat)
  case atStart => exact .inl ⟨rfl, rfl⟩
  case round =>
    rcases hrel with ⟨rfl, rfl⟩ | ⟨rfl, rfl⟩ | ⟨rfl, rfl⟩ | ⟨rfl, rfl⟩
    · go_wp2
      go_round
      case rel => exact .inr (.inl ⟨rfl, rfl⟩)
      case measure => simp [intOf]
    · go_wp2
      go_round
      case rel => exact .inr (.inr (.inl ⟨rfl, rfl⟩))
      case measure => simp [intOf]
    · go_wp2
      go_round
      case rel => exact .inr (.inr (.inr ⟨rfl, rfl⟩))
      case measure => simp [intOf]
    · go_wp2_with fail
      refine (C4.out _).mono ?_
      rintro e u5 ⟨rfl, ha5⟩
      have k5x := k4x.trans (ha5.mono k4x.size)
      have g0 := (ha5.cell (p := ⟨w.heap.size, 0, none⟩) (World.block_lt_of_cell? _ _ f0)).trans f0
      have g1 := (ha5.cell (p := ⟨w.heap.size, 1, none⟩) (World.block_lt_of_cell? _ _ f1)).trans f1
      have g2 := (ha5.cell (p := ⟨w.heap.size, 2, none⟩) (World.block_lt_of_cell? _ _ f2)).trans f2
      have g3 := (ha5.cell (p := ⟨w.heap.size, 3, none⟩) (World.block_lt_of_cell? _ _ f3)).trans f3
      go_wp2_with fail
      refine (C5.out _).mono ?_
      rintro e u6 ⟨rfl, ha6⟩
      go_wp2
      go_ret
      exact ⟨rfl, k5x.trans (ha6.mono k5x.size)⟩
set_option maxRecDepth 100000 in
set_option maxHeartbeats 4000000 in
theorem cellTotals_ff (k i : Int) (s : ByteArray) (b : Bool) (k' i' : Int) (s' : ByteArray) (b' : Bool) (w : World) (hs : s.size ≤ 9223372036854775807) (hs' : s'.size ≤ 9223372036854775807) (hr : Lp.rightB k i s b = true) (hr' : Lp.rightB k' i' s' b' = true) (h1 : Lp.vless ⟨k, i, s, b⟩ ⟨k', i', s', b'⟩ = false) (h2 : Lp.vless ⟨k', i', s', b'⟩ ⟨k, i, s, b⟩ = false) (h : Aw w) :
    Calls Tryd.prog 7 #[.agg #[.int .u8 k, .int .i64 i, .string s, .bool b], .agg #[.int .u8 k', .int .i64 i', .string s', .bool b']] w fun e w' => e = .returned (.bool true) ∧ Below w.heap.size w w' := by
  have k0 := ba (ba (Below.refl w.heap.size w) (.cells #[.int .u8 k, .int .i64 i, .string s, .bool b] 24)) (.cells #[.int .u8 k', .int .i64 i', .string s', .bool b'] 24)
  have x0 := box_alloc (heap_alloc_new w (.cells #[.int .u8 k, .int .i64 i, .string s, .bool b] 24)) (.cells #[.int .u8 k', .int .i64 i', .string s', .bool b'] 24)
  have x1 := heap_new2 w (.cells #[.int .u8 k, .int .i64 i, .string s, .bool b] 24) (.cells #[.int .u8 k', .int .i64 i', .string s', .bool b'] 24)
  have R1 := Lib.hid (fun W => right2_at k i s b true hr W hs)
  have R2 := Lib.hid (fun W => right2_at k' i' s' b' true hr' W hs')
  have hc1 := fun W => cless_any k i s b k' i' s' b' W
  have hc2 := fun W => cless_any k' i' s' b' k i s b W
  have hc3 := fun W => csame_any k i s b k' i' s' b' W
  have hc4 := fun W => csame_any k i s b k i s b W
  have hc5 := fun W => cless_any k i s b k i s b W
  have h3 : Lp.vsame ⟨k, i, s, b⟩ ⟨k', i', s', b'⟩ = true := by unfold Lp.vsame; rw [h1, h2]; rfl
  rw [h1] at hc1
  rw [h2] at hc2
  rw [h3] at hc3
  rw [vsame_self] at hc4
  rw [vless_self] at hc5
  have C1 := Lib.hid hc1
  have C2 := Lib.hid hc2
  have C3 := Lib.hid hc3
  have C4 := Lib.hid hc4
  have C5 := Lib.hid hc5
  have HH := Lib.hid h
  clear h hs hs' hr hr' h1 h2 h3 hc1 hc2 hc3 hc4 hc5
  go_enter Tryd.func7, Tryd.ntmps7
  go_wp2_with fail
  refine (awake2_any _ (aw_below HH.out k0)).mono ?_
  rintro e v1 ⟨rfl, hb1⟩
  have x1_0 := box_below x0 hb1
  have x1_1 := box_below x1 hb1
  have k1 := k0.trans (hb1.mono k0.size)
  clear hb1 k0 x0 x1
  have c1_0 := box_cells x1_0
  have l1_0 := heap_lt x1_0
  have c1_1 := box_cells x1_1
  have l1_1 := heap_lt x1_1
  go_wp2_with fail
  refine (R1.out _).mono ?_
  rintro e v2 ⟨rfl, hb2⟩
  have x2_0 := box_below x1_0 hb2
  have x2_1 := box_below x1_1 hb2
  have k2 := k1.trans (hb2.mono k1.size)
  clear hb2 k1 x1_0 x1_1 c1_0 c1_1 l1_0 l1_1
  have c2_0 := box_cells x2_0
  have l2_0 := heap_lt x2_0
  have c2_1 := box_cells x2_1
  have l2_1 := heap_lt x2_1
  go_wp2_with fail
  refine (R2.out _).mono ?_
  rintro e v3 ⟨rfl, hb3⟩
  have x3_0 := box_below x2_0 hb3
  have x3_1 := box_below x2_1 hb3
  have k3 := k2.trans (hb3.mono k2.size)
  clear hb3 k2 x2_0 x2_1 c2_0 c2_1 l2_0 l2_1
  have c3_0 := box_cells x3_0
  have l3_0 := heap_lt x3_0
  have c3_1 := box_cells x3_1
  have l3_1 := heap_lt x3_1
  have hx0 := TwoBox.two x3_0 x3_1
  clear c3_0 l3_0 c3_1 l3_1
  have hxd : TwoBox w.heap.size k i s b k' i' s' b' v3.drew := hx0
  go_wp2_with fail
  go_region_held3 (fun w' => w'.cell? ⟨w.heap.size, 0, none⟩ = some (.int .u8 k) ∧ w'.cell? ⟨w.heap.size, 1, none⟩ = some (.int .i64 i) ∧ w'.cell? ⟨w.heap.size, 2, none⟩ = some (.string s) ∧ w'.cell? ⟨w.heap.size, 3, none⟩ = some (.bool b) ∧ w'.cell? ⟨w.heap.size + 1, 0, none⟩ = some (.int .u8 k') ∧ w'.cell? ⟨w.heap.size + 1, 1, none⟩ = some (.int .i64 i') ∧ w'.cell? ⟨w.heap.size + 1, 2, none⟩ = some (.string s') ∧ w'.cell? ⟨w.heap.size + 1, 3, none⟩ = some (.bool b'))
    (first | exact hxd | exact hx3 | exact hx2 | exact hx1 | exact (fun h => TwoBox.below h ((Below.refl _ _).alloc (Nat.le_refl _) _)) hx3)
    (first
      | (go_at_call 21; refine (C3.out _).mono ?_; rintro e u3 ⟨rfl, ha3⟩; have hx3 := (fun h => TwoBox.below h ha3) hx2)
      | (go_at_call 17; refine (C2.out _).mono ?_; rintro e u2 ⟨rfl, ha2⟩; have hx2 := (fun h => TwoBox.below h ha2) hx1)
      | (go_at_call 17; refine (C1.out _).mono ?_; rintro e u1 ⟨rfl, ha1⟩; have hx1 := (fun h => TwoBox.below h ha1) hxd))
  have k1x : Below w.heap.size w u1 := k3.drew.trans (ha1.mono k3.size)
  have k2x := k1x.trans (ha2.mono k1x.size)
  have k3x := k2x.trans (ha3.mono k2x.size)
  have k4x := ba k3x (.cells #[.bool false, .bool false, .bool true] 4)
  have hx4 : TwoBox w.heap.size k i s b k' i' s' b' (u3.alloc (.cells #[.bool false, .bool false, .bool true] 4)) := hx3.below ((Below.refl _ _).alloc (Nat.le_refl _) _)
  have hy4 := box_cells (heap_alloc_new u3 (.cells #[.bool false, .bool false, .bool true] 4))
  clear hx0 hxd hx1 hx2 hx3 ha1 ha2 ha3 k1x k2x k3x
  obtain ⟨f0, f1, f2, f3, f4, f5, f6, f7⟩ := hx4
  go_wp2_with fail
  go_loop [5, 7, 29] (fun s5 _ s29 => (s29 = .int .i64 0 ∧ s5 = .int .i64 0) ∨ (s29 = .int .i64 1 ∧ s5 = .int .i64 0) ∨ (s29 = .int .i64 2 ∧ s5 = .int .i64 0) ∨ (s29 = .int .i64 3 ∧ s5 = .int .i64 1)) (fun _ _ s29 => (4 - intOf s29).toNat)
  case atStart => exact .inl ⟨rfl, rfl⟩
  case round =>
    rcases hrel with ⟨rfl, rfl⟩ | ⟨rfl, rfl⟩ | ⟨rfl, rfl⟩ | ⟨rfl, rfl⟩
    · go_wp2
      go_round
      case rel => exact .inr (.inl ⟨rfl, rfl⟩)
      case measure => simp [intOf]
    · go_wp2
      go_round
      case rel => exact .inr (.inr (.inl ⟨rfl, rfl⟩))
      case measure => simp [intOf]
    · go_wp2
      go_round
      case rel => exact .inr (.inr (.inr ⟨rfl, rfl⟩))
      case measure => simp [intOf]
    · go_wp2_with fail
      refine (C4.out _).mono ?_
      rintro e u5 ⟨rfl, ha5⟩
      have k5x := k4x.trans (ha5.mono k4x.size)
      have g0 := (ha5.cell (p := ⟨w.heap.size, 0, none⟩) (World.block_lt_of_cell? _ _ f0)).trans f0
      have g1 := (ha5.cell (p := ⟨w.heap.size, 1, none⟩) (World.block_lt_of_cell? _ _ f1)).trans f1
      have g2 := (ha5.cell (p := ⟨w.heap.size, 2, none⟩) (World.block_lt_of_cell? _ _ f2)).trans f2
      have g3 := (ha5.cell (p := ⟨w.heap.size, 3, none⟩) (World.block_lt_of_cell? _ _ f3)).trans f3
      go_wp2_with fail
      refine (C5.out _).mono ?_
      rintro e u6 ⟨rfl, ha6⟩
      go_wp2
      go_ret
      exact ⟨rfl, k5x.trans (ha6.mono k5x.size)⟩
theorem cellTotals_walk (k i : Int) (s : ByteArray) (b : Bool) (k' i' : Int) (s' : ByteArray) (b' : Bool) (w : World) (hs : s.size ≤ 9223372036854775807) (hs' : s'.size ≤ 9223372036854775807) (h : Aw w) :
    Calls Tryd.prog 7 #[.agg #[.int .u8 k, .int .i64 i, .string s, .bool b], .agg #[.int .u8 k', .int .i64 i', .string s', .bool b']] w fun e w' => e = .returned (.bool true) ∧ Below w.heap.size w w' := by
  rcases Bool.eq_false_or_eq_true (Lp.rightB k i s b) with hr | hr
  · rcases Bool.eq_false_or_eq_true (Lp.rightB k' i' s' b') with hr' | hr'
    · rcases Bool.eq_false_or_eq_true (Lp.vless ⟨k, i, s, b⟩ ⟨k', i', s', b'⟩) with h1 | h1
      · exact cellTotals_tf k i s b k' i' s' b' w hs hs' hr hr' h1 (Lp.vless_not h1) h
      · rcases Bool.eq_false_or_eq_true (Lp.vless ⟨k', i', s', b'⟩ ⟨k, i, s, b⟩) with h2 | h2
        · exact cellTotals_ft k i s b k' i' s' b' w hs hs' hr hr' h1 h2 h
        · exact cellTotals_ff k i s b k' i' s' b' w hs hs' hr hr' h1 h2 h
    · exact cellTotals_no2 k i s b k' i' s' b' w hs hs' hr hr' h
  · exact cellTotals_no1 k i s b k' i' s' b' w hs hs' hr h
end Go.Proofs.YthojikijelijnaaDoor
