/-
  The walk of CellOrders: it returns true, of any two values. Conditions: the listed tables as laid; internal/bytealg.MaxLen holds a number.
-/
import Derived.Test.YthojikijelijnaaDoorCellW
import Derived.Test.YthojikijelijnaaDoorRefCmp
import Derived.Deep.RegionHeld3
namespace Go.Proofs.YthojikijelijnaaDoor
open Go.RowKit

theorem TwoBox.two {g : Nat} {k i : Int} {s : ByteArray} {b : Bool} {k' i' : Int} {s' : ByteArray} {b' : Bool} {w : World} {t t' : TypeId} (h : w.heap[g]? = some (.cells #[.int .u8 k, .int .i64 i, .string s, .bool b] t (0, 0))) (h' : w.heap[g + 1]? = some (.cells #[.int .u8 k', .int .i64 i', .string s', .bool b'] t' (0, 0))) : TwoBox g k i s b k' i' s' b' w :=
  ⟨box_cells h 0, box_cells h 1, box_cells h 2, box_cells h 3, box_cells h' 0, box_cells h' 1, box_cells h' 2, box_cells h' 3⟩
theorem right_isK {k i : Int} {s : ByteArray} {b : Bool} (h : Lp.rightB k i s b = true) : k = 0 ∨ Lp.isK k = true := by
  rcases right_class h with ⟨rfl, _⟩ | ⟨rfl, _⟩ | ⟨rfl, _⟩ | ⟨rfl, _⟩
  · exact .inl rfl
  · exact .inr rfl
  · exact .inr rfl
  · exact .inr rfl
set_option maxRecDepth 100000 in
set_option maxHeartbeats 4000000 in
theorem cellOrders_no1 (k i : Int) (s : ByteArray) (b : Bool) (k' i' : Int) (s' : ByteArray) (b' : Bool) (w : World) (hs : s.size ≤ 9223372036854775807) (hs' : s'.size ≤ 9223372036854775807) (hr : Lp.rightB k i s b = false) (h : Aw w) :
    Calls Tryd.prog 5 #[.agg #[.int .u8 k, .int .i64 i, .string s, .bool b], .agg #[.int .u8 k', .int .i64 i', .string s', .bool b']] w fun e w' => e = .returned (.bool true) ∧ Below w.heap.size w w' := by
  have k0 := ba (ba (Below.refl w.heap.size w) (.cells #[.int .u8 k, .int .i64 i, .string s, .bool b] 24)) (.cells #[.int .u8 k', .int .i64 i', .string s', .bool b'] 24)
  have x0 := box_alloc (heap_alloc_new w (.cells #[.int .u8 k, .int .i64 i, .string s, .bool b] 24)) (.cells #[.int .u8 k', .int .i64 i', .string s', .bool b'] 24)
  have x1 := heap_new2 w (.cells #[.int .u8 k, .int .i64 i, .string s, .bool b] 24) (.cells #[.int .u8 k', .int .i64 i', .string s', .bool b'] 24)
  have R1 := Lib.hid (fun W => right2_at k i s b false hr W hs)
  have R2 := Lib.hid (fun W => right2_at k' i' s' b' _ rfl W hs')
  obtain ⟨CV, hcv⟩ : ∃ x, Lp.cmpV ⟨k, i, s, b⟩ ⟨k', i', s', b'⟩ = x := ⟨_, rfl⟩
  obtain ⟨CB, hcb⟩ : ∃ x, Lp.cmpB ⟨k, i, s, b⟩ ⟨k', i', s', b'⟩ = x := ⟨_, rfl⟩
  obtain ⟨CE, hce⟩ : ∃ x, Lp.cmpE ⟨k, i, s, b⟩ ⟨k', i', s', b'⟩ = x := ⟨_, rfl⟩
  have hq : ∀ W, Calls Tryd.prog 18 #[.agg #[.int .u8 k, .int .i64 i, .string s, .bool b], .agg #[.int .u8 k', .int .i64 i', .string s', .bool b']] W fun e w' => e = .returned (.tuple #[.int .i64 CV, .bool CB, .int .i64 CE]) ∧ Below W.heap.size W w' := by
    subst hcv hcb hce; exact fun W => (compare_any k i s b k' i' s' b' W).mono fun _ _ g => g
  have Q := Lib.hid hq
  have c1 := fun W => cless_any k i s b k' i' s' b' W
  have C1 := Lib.hid c1
  have HH := Lib.hid h
  clear h hs hs' hq hcv hcb hce hr c1
  go_enter Tryd.func5, Tryd.ntmps5
  go_wp2_with fail
  refine (awake2_any _ (aw_below HH.out k0)).mono ?_
  rintro e v1 ⟨rfl, hb1⟩
  have x1_0 := box_below x0 hb1
  have x1_1 := box_below x1 hb1
  have k1 := k0.trans (hb1.mono k0.size)
  clear hb1 k0 x0 x1
  have c1_0 := box_cells x1_0
  have l1_0 := heap_lt x1_0
  have c1_1 := box_cells x1_1
  have l1_1 := heap_lt x1_1
  go_wp2_with fail
  refine (R1.out _).mono ?_
  rintro e v2 ⟨rfl, hb2⟩
  have x2_0 := box_below x1_0 hb2
  have x2_1 := box_below x1_1 hb2
  have k2 := k1.trans (hb2.mono k1.size)
  clear hb2 k1 x1_0 x1_1 c1_0 c1_1 l1_0 l1_1
  have c2_0 := box_cells x2_0
  have l2_0 := heap_lt x2_0
  have c2_1 := box_cells x2_1
  have l2_1 := heap_lt x2_1
  go_wp2_with fail
  refine (C1.out _).mono ?_
  rintro e v3 ⟨rfl, hb3⟩
  have x3_0 := box_below x2_0 hb3
  have x3_1 := box_below x2_1 hb3
  have k3 := k2.trans (hb3.mono k2.size)
  clear hb3 k2 x2_0 x2_1 c2_0 c2_1 l2_0 l2_1
  have c3_0 := box_cells x3_0
  have l3_0 := heap_lt x3_0
  have c3_1 := box_cells x3_1
  have l3_1 := heap_lt x3_1
  go_wp2_with fail
  refine (Q.out _).mono ?_
  rintro e v4 ⟨rfl, hb4⟩
  have x4_0 := box_below x3_0 hb4
  have x4_1 := box_below x3_1 hb4
  have k4 := k3.trans (hb4.mono k3.size)
  clear hb4 k3 x3_0 x3_1 c3_0 c3_1 l3_0 l3_1
  have c4_0 := box_cells x4_0
  have l4_0 := heap_lt x4_0
  have c4_1 := box_cells x4_1
  have l4_1 := heap_lt x4_1
  go_wp2
  go_ret
  exact ⟨rfl, k4⟩
set_option maxRecDepth 100000 in
set_option maxHeartbeats 4000000 in
theorem cellOrders_no2 (k i : Int) (s : ByteArray) (b : Bool) (k' i' : Int) (s' : ByteArray) (b' : Bool) (w : World) (hs : s.size ≤ 9223372036854775807) (hs' : s'.size ≤ 9223372036854775807) (hr : Lp.rightB k i s b = true) (hr' : Lp.rightB k' i' s' b' = false) (h : Aw w) :
    Calls Tryd.prog 5 #[.agg #[.int .u8 k, .int .i64 i, .string s, .bool b], .agg #[.int .u8 k', .int .i64 i', .string s', .bool b']] w fun e w' => e = .returned (.bool true) ∧ Below w.heap.size w w' := by
  have k0 := ba (ba (Below.refl w.heap.size w) (.cells #[.int .u8 k, .int .i64 i, .string s, .bool b] 24)) (.cells #[.int .u8 k', .int .i64 i', .string s', .bool b'] 24)
  have x0 := box_alloc (heap_alloc_new w (.cells #[.int .u8 k, .int .i64 i, .string s, .bool b] 24)) (.cells #[.int .u8 k', .int .i64 i', .string s', .bool b'] 24)
  have x1 := heap_new2 w (.cells #[.int .u8 k, .int .i64 i, .string s, .bool b] 24) (.cells #[.int .u8 k', .int .i64 i', .string s', .bool b'] 24)
  have R1 := Lib.hid (fun W => right2_at k i s b true hr W hs)
  have R2 := Lib.hid (fun W => right2_at k' i' s' b' false hr' W hs')
  obtain ⟨CV, hcv⟩ : ∃ x, Lp.cmpV ⟨k, i, s, b⟩ ⟨k', i', s', b'⟩ = x := ⟨_, rfl⟩
  obtain ⟨CB, hcb⟩ : ∃ x, Lp.cmpB ⟨k, i, s, b⟩ ⟨k', i', s', b'⟩ = x := ⟨_, rfl⟩
  obtain ⟨CE, hce⟩ : ∃ x, Lp.cmpE ⟨k, i, s, b⟩ ⟨k', i', s', b'⟩ = x := ⟨_, rfl⟩
  have hq : ∀ W, Calls Tryd.prog 18 #[.agg #[.int .u8 k, .int .i64 i, .string s, .bool b], .agg #[.int .u8 k', .int .i64 i', .string s', .bool b']] W fun e w' => e = .returned (.tuple #[.int .i64 CV, .bool CB, .int .i64 CE]) ∧ Below W.heap.size W w' := by
    subst hcv hcb hce; exact fun W => (compare_any k i s b k' i' s' b' W).mono fun _ _ g => g
  have Q := Lib.hid hq
  have c1 := fun W => cless_any k i s b k' i' s' b' W
  have C1 := Lib.hid c1
  have HH := Lib.hid h
  clear h hs hs' hq hcv hcb hce hr hr' c1
  go_enter Tryd.func5, Tryd.ntmps5
  go_wp2_with fail
  refine (awake2_any _ (aw_below HH.out k0)).mono ?_
  rintro e v1 ⟨rfl, hb1⟩
  have x1_0 := box_below x0 hb1
  have x1_1 := box_below x1 hb1
  have k1 := k0.trans (hb1.mono k0.size)
  clear hb1 k0 x0 x1
  have c1_0 := box_cells x1_0
  have l1_0 := heap_lt x1_0
  have c1_1 := box_cells x1_1
  have l1_1 := heap_lt x1_1
  go_wp2_with fail
  refine (R1.out _).mono ?_
  rintro e v2 ⟨rfl, hb2⟩
  have x2_0 := box_below x1_0 hb2
  have x2_1 := box_below x1_1 hb2
  have k2 := k1.trans (hb2.mono k1.size)
  clear hb2 k1 x1_0 x1_1 c1_0 c1_1 l1_0 l1_1
  have c2_0 := box_cells x2_0
  have l2_0 := heap_lt x2_0
  have c2_1 := box_cells x2_1
  have l2_1 := heap_lt x2_1
  go_wp2_with fail
  refine (R2.out _).mono ?_
  rintro e v3 ⟨rfl, hb3⟩
  have x3_0 := box_below x2_0 hb3
  have x3_1 := box_below x2_1 hb3
  have k3 := k2.trans (hb3.mono k2.size)
  clear hb3 k2 x2_0 x2_1 c2_0 c2_1 l2_0 l2_1
  have c3_0 := box_cells x3_0
  have l3_0 := heap_lt x3_0
  have c3_1 := box_cells x3_1
  have l3_1 := heap_lt x3_1
  go_wp2_with fail
  refine (C1.out _).mono ?_
  rintro e v4 ⟨rfl, hb4⟩
  have x4_0 := box_below x3_0 hb4
  have x4_1 := box_below x3_1 hb4
  have k4 := k3.trans (hb4.mono k3.size)
  clear hb4 k3 x3_0 x3_1 c3_0 c3_1 l3_0 l3_1
  have c4_0 := box_cells x4_0
  have l4_0 := heap_lt x4_0
  have c4_1 := box_cells x4_1
  have l4_1 := heap_lt x4_1
  go_wp2_with fail
  refine (Q.out _).mono ?_
  rintro e v5 ⟨rfl, hb5⟩
  have x5_0 := box_below x4_0 hb5
  have x5_1 := box_below x4_1 hb5
  have k5 := k4.trans (hb5.mono k4.size)
  clear hb5 k4 x4_0 x4_1 c4_0 c4_1 l4_0 l4_1
  have c5_0 := box_cells x5_0
  have l5_0 := heap_lt x5_0
  have c5_1 := box_cells x5_1
  have l5_1 := heap_lt x5_1
  go_wp2
  go_ret
  exact ⟨rfl, k5⟩
set_option maxRecDepth 100000 in
set_option maxHeartbeats 4000000 in
theorem cellOrders_lt (k i : Int) (s : ByteArray) (b : Bool) (k' i' : Int) (s' : ByteArray) (b' : Bool) (w : World) (hs : s.size ≤ 9223372036854775807) (hs' : s'.size ≤ 9223372036854775807) (hr : Lp.rightB k i s b = true) (hr' : Lp.rightB k' i' s' b' = true) (h1 : Lp.vless ⟨k, i, s, b⟩ ⟨k', i', s', b'⟩ = true) (h : Aw w) :
    Calls Tryd.prog 5 #[.agg #[.int .u8 k, .int .i64 i, .string s, .bool b], .agg #[.int .u8 k', .int .i64 i', .string s', .bool b']] w fun e w' => e = .returned (.bool true) ∧ Below w.heap.size w w' := by
  have k0 := ba (ba (Below.refl w.heap.size w) (.cells #[.int .u8 k, .int .i64 i, .string s, .bool b] 24)) (.cells #[.int .u8 k', .int .i64 i', .string s', .bool b'] 24)
  have x0 := box_alloc (heap_alloc_new w (.cells #[.int .u8 k, .int .i64 i, .string s, .bool b] 24)) (.cells #[.int .u8 k', .int .i64 i', .string s', .bool b'] 24)
  have x1 := heap_new2 w (.cells #[.int .u8 k, .int .i64 i, .string s, .bool b] 24) (.cells #[.int .u8 k', .int .i64 i', .string s', .bool b'] 24)
  have R1 := Lib.hid (fun W => right2_at k i s b true hr W hs)
  have R2 := Lib.hid (fun W => right2_at k' i' s' b' true hr' W hs')
  obtain ⟨CV, hcv⟩ : ∃ x, Lp.cmpV ⟨k, i, s, b⟩ ⟨k', i', s', b'⟩ = x := ⟨_, rfl⟩
  obtain ⟨CB, hcb⟩ : ∃ x, Lp.cmpB ⟨k, i, s, b⟩ ⟨k', i', s', b'⟩ = x := ⟨_, rfl⟩
  obtain ⟨CE, hce⟩ : ∃ x, Lp.cmpE ⟨k, i, s, b⟩ ⟨k', i', s', b'⟩ = x := ⟨_, rfl⟩
  have hq : ∀ W, Calls Tryd.prog 18 #[.agg #[.int .u8 k, .int .i64 i, .string s, .bool b], .agg #[.int .u8 k', .int .i64 i', .string s', .bool b']] W fun e w' => e = .returned (.tuple #[.int .i64 CV, .bool CB, .int .i64 CE]) ∧ Below W.heap.size W w' := by
    subst hcv hcb hce; exact fun W => (compare_any k i s b k' i' s' b' W).mono fun _ _ g => g
  have Q := Lib.hid hq
  have hq2 : ∀ W, Calls Tryd.prog 19 #[.agg #[.int .u8 k, .int .i64 i, .string s, .bool b], .agg #[.int .u8 k', .int .i64 i', .string s', .bool b']] W fun e w' => e = .returned (.tuple #[.int .i64 CV, .bool CB, .int .i64 CE]) ∧ Below W.heap.size W w' := by
    subst hcv hcb hce; exact fun W => (rcmp_any k i s b k' i' s' b' W (right_isK hr) (right_isK hr')).mono fun _ _ g => g
  have Q2 := Lib.hid hq2
  obtain ⟨SM, hsm⟩ : ∃ x, Lp.vsame ⟨k, i, s, b⟩ ⟨k', i', s', b'⟩ = x := ⟨_, rfl⟩
  have c1 := fun W => cless_any k i s b k' i' s' b' W
  have c2 := fun W => less2_any k i s b k' i' s' b' W
  have c3 := fun W => csame_any k i s b k' i' s' b' W
  have c4 := fun W => same2_any k i s b k' i' s' b' W
  rw [h1] at c1 c2
  rw [hsm] at c3 c4
  have C1 := Lib.hid c1
  have C2 := Lib.hid c2
  have C3 := Lib.hid c3
  have C4 := Lib.hid c4
  have c6 := fun W => cless_any k' i' s' b' k i s b W
  rw [Lp.vless_not h1] at c6
  have C6 := Lib.hid c6
  have HH := Lib.hid h
  clear h hs hs' hq hcv hcb hce hr hr' h1 hq2 hsm c1 c2 c3 c4 c6
  go_enter Tryd.func5, Tryd.ntmps5
  go_wp2_with fail
  refine (awake2_any _ (aw_below HH.out k0)).mono ?_
  rintro e v1 ⟨rfl, hb1⟩
  have x1_0 := box_below x0 hb1
  have x1_1 := box_below x1 hb1
  have k1 := k0.trans (hb1.mono k0.size)
  clear hb1 k0 x0 x1
  have c1_0 := box_cells x1_0
  have l1_0 := heap_lt x1_0
  have c1_1 := box_cells x1_1
  have l1_1 := heap_lt x1_1
  go_wp2_with fail
  refine (R1.out _).mono ?_
  rintro e v2 ⟨rfl, hb2⟩
  have x2_0 := box_below x1_0 hb2
  have x2_1 := box_below x1_1 hb2
  have k2 := k1.trans (hb2.mono k1.size)
  clear hb2 k1 x1_0 x1_1 c1_0 c1_1 l1_0 l1_1
  have c2_0 := box_cells x2_0
  have l2_0 := heap_lt x2_0
  have c2_1 := box_cells x2_1
  have l2_1 := heap_lt x2_1
  go_wp2_with fail
  refine (R2.out _).mono ?_
  rintro e v3 ⟨rfl, hb3⟩
  have x3_0 := box_below x2_0 hb3
  have x3_1 := box_below x2_1 hb3
  have k3 := k2.trans (hb3.mono k2.size)
  clear hb3 k2 x2_0 x2_1 c2_0 c2_1 l2_0 l2_1
  have c3_0 := box_cells x3_0
  have l3_0 := heap_lt x3_0
  have c3_1 := box_cells x3_1
  have l3_1 := heap_lt x3_1
  go_wp2_with fail
  refine (Q.out _).mono ?_
  rintro e v4 ⟨rfl, hb4⟩
  have x4_0 := box_below x3_0 hb4
  have x4_1 := box_below x3_1 hb4
  have k4 := k3.trans (hb4.mono k3.size)
  clear hb4 k3 x3_0 x3_1 c3_0 c3_1 l3_0 l3_1
  have c4_0 := box_cells x4_0
  have l4_0 := heap_lt x4_0
  have c4_1 := box_cells x4_1
  have l4_1 := heap_lt x4_1
  go_wp2_with fail
  refine (Q2.out _).mono ?_
  rintro e v5 ⟨rfl, hb5⟩
  have x5_0 := box_below x4_0 hb5
  have x5_1 := box_below x4_1 hb5
  have k5 := k4.trans (hb5.mono k4.size)
  clear hb5 k4 x4_0 x4_1 c4_0 c4_1 l4_0 l4_1
  have c5_0 := box_cells x5_0
  have l5_0 := heap_lt x5_0
  have c5_1 := box_cells x5_1
  have l5_1 := heap_lt x5_1
  have hx0 := TwoBox.two x5_0 x5_1
  clear c5_0 l5_0 c5_1 l5_1
  have hxd : TwoBox w.heap.size k i s b k' i' s' b' v5.drew := hx0
  go_wp2_with fail
  go_region_held3 (fun w' => w'.cell? ⟨w.heap.size, 0, none⟩ = some (.int .u8 k) ∧ w'.cell? ⟨w.heap.size, 1, none⟩ = some (.int .i64 i) ∧ w'.cell? ⟨w.heap.size, 2, none⟩ = some (.string s) ∧ w'.cell? ⟨w.heap.size, 3, none⟩ = some (.bool b) ∧ w'.cell? ⟨w.heap.size + 1, 0, none⟩ = some (.int .u8 k') ∧ w'.cell? ⟨w.heap.size + 1, 1, none⟩ = some (.int .i64 i') ∧ w'.cell? ⟨w.heap.size + 1, 2, none⟩ = some (.string s') ∧ w'.cell? ⟨w.heap.size + 1, 3, none⟩ = some (.bool b'))
    (first | exact hxd | exact hx6 | exact hx5 | exact hx4 | exact hx3 | exact hx2 | exact hx1)
    (first
      | (go_at_call 17; refine (C6.out _).mono ?_; rintro e u6 ⟨rfl, ha6⟩; have hx6 := (fun h => TwoBox.below h ha6) hx5)
      | (go_at_call 17; refine (C1.out _).mono ?_; rintro e u5 ⟨rfl, ha5⟩; have hx5 := (fun h => TwoBox.below h ha5) hx4)
      | (go_at_call 16; refine (C4.out _).mono ?_; rintro e u4 ⟨rfl, ha4⟩; have hx4 := (fun h => TwoBox.below h ha4) hx3)
      | (go_at_call 21; refine (C3.out _).mono ?_; rintro e u3 ⟨rfl, ha3⟩; have hx3 := (fun h => TwoBox.below h ha3) hx2)
      | (go_at_call 20; refine (C2.out _).mono ?_; rintro e u2 ⟨rfl, ha2⟩; have hx2 := (fun h => TwoBox.below h ha2) hx1)
      | (go_at_call 17; refine (C1.out _).mono ?_; rintro e u1 ⟨rfl, ha1⟩; have hx1 := (fun h => TwoBox.below h ha1) hxd))
  all_goals
    have q1 : Below w.heap.size w u1 := k5.drew.trans (ha1.mono k5.size)
    have q2 := q1.trans (ha2.mono q1.size)
    have q3 := q2.trans (ha3.mono q2.size)
    have q4 := q3.trans (ha4.mono q3.size)
    have q5 := q4.trans (ha5.mono q4.size)
    have q6 := q5.trans (ha6.mono q5.size)
    go_wp2
    go_ret
    exact ⟨by simp, q6⟩
set_option maxRecDepth 100000 in
set_option maxHeartbeats 4000000 in
theorem cellOrders_lf (k i : Int) (s : ByteArray) (b : Bool) (k' i' : Int) (s' : ByteArray) (b' : Bool) (w : World) (hs : s.size ≤ 9223372036854775807) (hs' : s'.size ≤ 9223372036854775807) (hr : Lp.rightB k i s b = true) (hr' : Lp.rightB k' i' s' b' = true) (h1 : Lp.vless ⟨k, i, s, b⟩ ⟨k', i', s', b'⟩ = false) (h : Aw w) :
    Calls Tryd.prog 5 #[.agg #[.int .u8 k, .int .i64 i, .string s, .bool b], .agg #[.int .u8 k', .int .i64 i', .string s', .bool b']] w fun e w' => e = .returned (.bool true) ∧ Below w.heap.size w w' := by
  have k0 := ba (ba (Below.refl w.heap.size w) (.cells #[.int .u8 k, .int .i64 i, .string s, .bool b] 24)) (.cells #[.int .u8 k', .int .i64 i', .string s', .bool b'] 24)
  have x0 := box_alloc (heap_alloc_new w (.cells #[.int .u8 k, .int .i64 i, .string s, .bool b] 24)) (.cells #[.int .u8 k', .int .i64 i', .string s', .bool b'] 24)
  have x1 := heap_new2 w (.cells #[.int .u8 k, .int .i64 i, .string s, .bool b] 24) (.cells #[.int .u8 k', .int .i64 i', .string s', .bool b'] 24)
  have R1 := Lib.hid (fun W => right2_at k i s b true hr W hs)
  have R2 := Lib.hid (fun W => right2_at k' i' s' b' true hr' W hs')
  obtain ⟨CV, hcv⟩ : ∃ x, Lp.cmpV ⟨k, i, s, b⟩ ⟨k', i', s', b'⟩ = x := ⟨_, rfl⟩
  obtain ⟨CB, hcb⟩ : ∃ x, Lp.cmpB ⟨k, i, s, b⟩ ⟨k', i', s', b'⟩ = x := ⟨_, rfl⟩
  obtain ⟨CE, hce⟩ : ∃ x, Lp.cmpE ⟨k, i, s, b⟩ ⟨k', i', s', b'⟩ = x := ⟨_, rfl⟩
  have hq : ∀ W, Calls Tryd.prog 18 #[.agg #[.int .u8 k, .int .i64 i, .string s, .bool b], .agg #[.int .u8 k', .int .i64 i', .string s', .bool b']] W fun e w' => e = .returned (.tuple #[.int .i64 CV, .bool CB, .int .i64 CE]) ∧ Below W.heap.size W w' := by
    subst hcv hcb hce; exact fun W => (compare_any k i s b k' i' s' b' W).mono fun _ _ g => g
  have Q := Lib.hid hq
  have hq2 : ∀ W, Calls Tryd.prog 19 #[.agg #[.int .u8 k, .int .i64 i, .string s, .bool b], .agg #[.int .u8 k', .int .i64 i', .string s', .bool b']] W fun e w' => e = .returned (.tuple #[.int .i64 CV, .bool CB, .int .i64 CE]) ∧ Below W.heap.size W w' := by
    subst hcv hcb hce; exact fun W => (rcmp_any k i s b k' i' s' b' W (right_isK hr) (right_isK hr')).mono fun _ _ g => g
  have Q2 := Lib.hid hq2
  obtain ⟨SM, hsm⟩ : ∃ x, Lp.vsame ⟨k, i, s, b⟩ ⟨k', i', s', b'⟩ = x := ⟨_, rfl⟩
  have c1 := fun W => cless_any k i s b k' i' s' b' W
  have c2 := fun W => less2_any k i s b k' i' s' b' W
  have c3 := fun W => csame_any k i s b k' i' s' b' W
  have c4 := fun W => same2_any k i s b k' i' s' b' W
  rw [h1] at c1 c2
  rw [hsm] at c3 c4
  have C1 := Lib.hid c1
  have C2 := Lib.hid c2
  have C3 := Lib.hid c3
  have C4 := Lib.hid c4
  have HH := Lib.hid h
  clear h hs hs' hq hcv hcb hce hr hr' h1 hq2 hsm c1 c2 c3 c4
  go_enter Tryd.func5, Tryd.ntmps5
  go_wp2_with fail
  refine (awake2_any _ (aw_below HH.out k0)).mono ?_
  rintro e v1 ⟨rfl, hb1⟩
  have x1_0 := box_below x0 hb1
  have x1_1 := box_below x1 hb1
  have k1 := k0.trans (hb1.mono k0.size)
  clear hb1 k0 x0 x1
  have c1_0 := box_cells x1_0
  have l1_0 := heap_lt x1_0
  have c1_1 := box_cells x1_1
  have l1_1 := heap_lt x1_1
  go_wp2_with fail
  refine (R1.out _).mono ?_
  rintro e v2 ⟨rfl, hb2⟩
  have x2_0 := box_below x1_0 hb2
  have x2_1 := box_below x1_1 hb2
  have k2 := k1.trans (hb2.mono k1.size)
  clear hb2 k1 x1_0 x1_1 c1_0 c1_1 l1_0 l1_1
  have c2_0 := box_cells x2_0
  have l2_0 := heap_lt x2_0
  have c2_1 := box_cells x2_1
  have l2_1 := heap_lt x2_1
  go_wp2_with fail
  refine (R2.out _).mono ?_
  rintro e v3 ⟨rfl, hb3⟩
  have x3_0 := box_below x2_0 hb3
  have x3_1 := box_below x2_1 hb3
  have k3 := k2.trans (hb3.mono k2.size)
  clear hb3 k2 x2_0 x2_1 c2_0 c2_1 l2_0 l2_1
  have c3_0 := box_cells x3_0
  have l3_0 := heap_lt x3_0
  have c3_1 := box_cells x3_1
  have l3_1 := heap_lt x3_1
  go_wp2_with fail
  refine (Q.out _).mono ?_
  rintro e v4 ⟨rfl, hb4⟩
  have x4_0 := box_below x3_0 hb4
  have x4_1 := box_below x3_1 hb4
  have k4 := k3.trans (hb4.mono k3.size)
  clear hb4 k3 x3_0 x3_1 c3_0 c3_1 l3_0 l3_1
  have c4_0 := box_cells x4_0
  have l4_0 := heap_lt x4_0
  have c4_1 := box_cells x4_1
  have l4_1 := heap_lt x4_1
  go_wp2_with fail
  refine (Q2.out _).mono ?_
  rintro e v5 ⟨rfl, hb5⟩
  have x5_0 := box_below x4_0 hb5
  have x5_1 := box_below x4_1 hb5
  have k5 := k4.trans (hb5.mono k4.size)
  clear hb5 k4 x4_0 x4_1 c4_0 c4_1 l4_0 l4_1
  have c5_0 := box_cells x5_0
  have l5_0 := heap_lt x5_0
  have c5_1 := box_cells x5_1
  have l5_1 := heap_lt x5_1
  have hx0 := TwoBox.two x5_0 x5_1
  clear c5_0 l5_0 c5_1 l5_1
  have hxd : TwoBox w.heap.size k i s b k' i' s' b' v5.drew := hx0
  go_wp2_with fail
  refine wp_region_held_drew (S := fun w' => w'.cell? ⟨w.heap.size, 0, none⟩ = some (.int .u8 k) ∧ w'.cell? ⟨w.heap.size, 1, none⟩ = some (.int .i64 i) ∧ w'.cell? ⟨w.heap.size, 2, none⟩ = some (.string s) ∧ w'.cell? ⟨w.heap.size, 3, none⟩ = some (.bool b) ∧ w'.cell? ⟨w.heap.size + 1, 0, none⟩ = some (.int .u8 k') ∧ w'.cell? ⟨w.heap.size + 1, 1, none⟩ = some (.int .i64 i') ∧ w'.cell? ⟨w.heap.size + 1, 2, none⟩ = some (.string s') ∧ w'.cell? ⟨w.heap.size + 1, 3, none⟩ = some (.bool b')) (by kernel_rfl) hxd (fun hHeld0 => ?_)
  refine wpAnyH_take (i := 0) (v := ?_) rfl (by kernel_rfl) (by kernel_rfl) (by kernel_rfl) (fun _ _ _ h => h) (Or.inl ⟨by rfl, ?_⟩) (by assumption) ?_
  rotate_left
  · intro w hSw; (try dsimp only at hSw); go_simp; try with_reducible rfl
  try simp only [List.getElem_toArray, List.getElem_cons_zero, Act.put, List.setIfInBounds_toArray, List.set_cons_zero, List.set_cons_succ]
  refine wpAnyH_take (i := 1) (v := ?_) rfl (by kernel_rfl) (by kernel_rfl) (by kernel_rfl) (fun _ _ _ h => h) (Or.inl ⟨by rfl, ?_⟩) (by assumption) ?_
  rotate_left
  · intro w hSw; (try dsimp only at hSw); go_simp; try with_reducible rfl
  try simp only [List.getElem_toArray, List.getElem_cons_succ, List.getElem_cons_zero, Act.put, List.setIfInBounds_toArray, List.set_cons_zero, List.set_cons_succ]
  refine wpAnyH_take (i := 3) (v := ?_) rfl (by kernel_rfl) (by kernel_rfl) (by kernel_rfl) (fun _ _ _ h => h) (Or.inl ⟨by rfl, ?_⟩) (by assumption) ?_
  rotate_left
  · intro w hSw; (try dsimp only at hSw); go_simp; try with_reducible rfl
  try simp only [List.getElem_toArray, List.getElem_cons_succ, List.getElem_cons_zero, Act.put, List.setIfInBounds_toArray, List.set_cons_zero, List.set_cons_succ]
  refine wpAnyH_take (i := 4) (v := ?_) rfl (by kernel_rfl) (by kernel_rfl) (by kernel_rfl) (fun _ _ _ h => h) (Or.inl ⟨by rfl, ?_⟩) (by assumption) ?_
  rotate_left
  · intro w hSw; (try dsimp only at hSw); go_simp; try with_reducible rfl
  try simp only [List.getElem_toArray, List.getElem_cons_succ, List.getElem_cons_zero, Act.put, List.setIfInBounds_toArray, List.set_cons_zero, List.set_cons_succ]
  refine wpAnyH_ready (rs := [2]) (by kernel_rfl) (by simp) ?_
  refine AllReadyH.cons rfl (fun K hK => ?_) AllReadyH.nil
  go_simp
  go_at_call 17
  refine (C1.out _).mono ?_
  rintro e u1 ⟨rfl, ha1⟩
  have hx1 := (fun h => TwoBox.below h ha1) hxd
  go_wp2_with fail
  refine hK.out _ _ ?_ (fun hHeld1 => ?_)
  · exact hx1
  clear hK K hHeld0
  try simp only [List.getElem_toArray, List.getElem_cons_succ, List.getElem_cons_zero, Act.put, List.setIfInBounds_toArray, List.set_cons_zero, List.set_cons_succ]
  refine wpAnyH_ready (rs := [5]) (by kernel_rfl) (by simp) ?_
  refine AllReadyH.cons rfl (fun K hK => ?_) AllReadyH.nil
  go_simp
  go_at_call 20
  refine (C2.out _).mono ?_
  rintro e u2 ⟨rfl, ha2⟩
  have hx2 := (fun h => TwoBox.below h ha2) hx1
  go_wp2_with fail
  refine hK.out _ _ ?_ (fun hHeld2 => ?_)
  · exact hx2
  clear hK K hHeld1
  try simp only [List.getElem_toArray, List.getElem_cons_succ, List.getElem_cons_zero, Act.put, List.setIfInBounds_toArray, List.set_cons_zero, List.set_cons_succ]
  refine wpAnyH_take (i := 6) (v := ?_) rfl (by kernel_rfl) (by kernel_rfl) (by kernel_rfl) (fun _ _ _ h => h) (Or.inl ⟨by rfl, ?_⟩) (by assumption) ?_
  rotate_left
  · intro w hSw; (try dsimp only at hSw); go_simp; try with_reducible rfl
  try simp only [List.getElem_toArray, List.getElem_cons_succ, List.getElem_cons_zero, Act.put, List.setIfInBounds_toArray, List.set_cons_zero, List.set_cons_succ]
  refine wpAnyH_take (i := 7) (v := ?_) rfl (by kernel_rfl) (by kernel_rfl) (by kernel_rfl) (fun _ _ _ h => h) (Or.inl ⟨by rfl, ?_⟩) (by assumption) ?_
  rotate_left
  · intro w hSw; (try dsimp only at hSw); go_simp; try with_reducible rfl
  try simp only [List.getElem_toArray, List.getElem_cons_succ, List.getElem_cons_zero, Act.put, List.setIfInBounds_toArray, List.set_cons_zero, List.set_cons_succ]
  refine wpAnyH_take (i := 8) (v := ?_) rfl (by kernel_rfl) (by kernel_rfl) (by kernel_rfl) (fun _ _ _ h => h) (Or.inl ⟨by rfl, ?_⟩) (by assumption) ?_
  rotate_left
  · intro w hSw; (try dsimp only at hSw); go_simp; try with_reducible rfl
  try simp only [List.getElem_toArray, List.getElem_cons_succ, List.getElem_cons_zero, Act.put, List.setIfInBounds_toArray, List.set_cons_zero, List.set_cons_succ]
  refine wpAnyH_take (i := 9) (v := ?_) rfl (by kernel_rfl) (by kernel_rfl) (by kernel_rfl) (fun _ _ _ h => h) (Or.inl ⟨by rfl, ?_⟩) (by assumption) ?_
  rotate_left
  · intro w hSw; (try dsimp only at hSw); go_simp; try with_reducible rfl
  try simp only [List.getElem_toArray, List.getElem_cons_succ, List.getElem_cons_zero, Act.put, List.setIfInBounds_toArray, List.set_cons_zero, List.set_cons_succ]
  refine wpAnyH_take (i := 11) (v := ?_) rfl (by kernel_rfl) (by kernel_rfl) (by kernel_rfl) (fun _ _ _ h => h) (Or.inl ⟨by rfl, ?_⟩) (by assumption) ?_
  rotate_left
  · intro w hSw; (try dsimp only at hSw); go_simp; try with_reducible rfl
  try simp only [List.getElem_toArray, List.getElem_cons_succ, List.getElem_cons_zero, Act.put, List.setIfInBounds_toArray, List.set_cons_zero, List.set_cons_succ]
  refine wpAnyH_take (i := 12) (v := ?_) rfl (by kernel_rfl) (by kernel_rfl) (by kernel_rfl) (fun _ _ _ h => h) (Or.inl ⟨by rfl, ?_⟩) (by assumption) ?_
  rotate_left
  · intro w hSw; (try dsimp only at hSw); go_simp; try with_reducible rfl
  try simp only [List.getElem_toArray, List.getElem_cons_succ, List.getElem_cons_zero, Act.put, List.setIfInBounds_toArray, List.set_cons_zero, List.set_cons_succ]
  refine wpAnyH_ready (rs := [10]) (by kernel_rfl) (by simp) ?_
  refine AllReadyH.cons rfl (fun K hK => ?_) AllReadyH.nil
  go_simp
  go_at_call 21
  refine (C3.out _).mono ?_
  rintro e u3 ⟨rfl, ha3⟩
  have hx3 := (fun h => TwoBox.below h ha3) hx2
  go_wp2_with fail
  refine hK.out _ _ ?_ (fun hHeld3 => ?_)
  · exact hx3
  clear hK K hHeld2
  try simp only [List.getElem_toArray, List.getElem_cons_succ, List.getElem_cons_zero, Act.put, List.setIfInBounds_toArray, List.set_cons_zero, List.set_cons_succ]
  refine wpAnyH_ready (rs := [13]) (by kernel_rfl) (by simp) ?_
  refine AllReadyH.cons rfl (fun K hK => ?_) AllReadyH.nil
  go_simp
  go_at_call 16
  refine (C4.out _).mono ?_
  rintro e u4 ⟨rfl, ha4⟩
  have hx4 := (fun h => TwoBox.below h ha4) hx3
  go_wp2_with fail
  refine hK.out _ _ ?_ (fun hHeld4 => ?_)
  · exact hx4
  clear hK K hHeld3
  try simp only [List.getElem_toArray, List.getElem_cons_succ, List.getElem_cons_zero, Act.put, List.setIfInBounds_toArray, List.set_cons_zero, List.set_cons_succ]
  refine wpAnyH_take (i := 14) (v := ?_) rfl (by kernel_rfl) (by kernel_rfl) (by kernel_rfl) (fun _ _ _ h => h) (Or.inl ⟨by rfl, ?_⟩) (by assumption) ?_
  rotate_left
  · intro w hSw; (try dsimp only at hSw); go_simp; try with_reducible rfl
  try simp only [List.getElem_toArray, List.getElem_cons_succ, List.getElem_cons_zero, Act.put, List.setIfInBounds_toArray, List.set_cons_zero, List.set_cons_succ]
  refine wpAnyH_take (i := 15) (v := ?_) rfl (by kernel_rfl) (by kernel_rfl) (by kernel_rfl) (fun _ _ _ h => h) (Or.inl ⟨by rfl, ?_⟩) (by assumption) ?_
  rotate_left
  · intro w hSw; (try dsimp only at hSw); go_simp; try with_reducible rfl
  try simp only [List.getElem_toArray, List.getElem_cons_succ, List.getElem_cons_zero, Act.put, List.setIfInBounds_toArray, List.set_cons_zero, List.set_cons_succ]
  refine wpAnyH_take (i := 16) (v := ?_) rfl (by kernel_rfl) (by kernel_rfl) (by kernel_rfl) (fun _ _ _ h => h) (Or.inl ⟨by rfl, ?_⟩) (by assumption) ?_
  rotate_left
  · intro w hSw; (try dsimp only at hSw); go_simp; try with_reducible rfl
  try simp only [List.getElem_toArray, List.getElem_cons_succ, List.getElem_cons_zero, Act.put, List.setIfInBounds_toArray, List.set_cons_zero, List.set_cons_succ]
  refine wpAnyH_take (i := 17) (v := ?_) rfl (by kernel_rfl) (by kernel_rfl) (by kernel_rfl) (fun _ _ _ h => h) (Or.inl ⟨by rfl, ?_⟩) (by assumption) ?_
  rotate_left
  · intro w hSw; (try dsimp only at hSw); go_simp; try with_reducible rfl
  try simp only [List.getElem_toArray, List.getElem_cons_succ, List.getElem_cons_zero, Act.put, List.setIfInBounds_toArray, List.set_cons_zero, List.set_cons_succ]
  refine wpAnyH_take (i := 18) (v := ?_) rfl (by kernel_rfl) (by kernel_rfl) (by kernel_rfl) (fun _ _ _ h => h) (Or.inl ⟨by rfl, ?_⟩) (by assumption) ?_
  rotate_left
  · intro w hSw; (try dsimp only at hSw); go_simp; try with_reducible rfl
  try simp only [List.getElem_toArray, List.getElem_cons_succ, List.getElem_cons_zero, Act.put, List.setIfInBounds_toArray, List.set_cons_zero, List.set_cons_succ]
  refine wpAnyH_take (i := 19) (v := ?_) rfl (by kernel_rfl) (by kernel_rfl) (by kernel_rfl) (fun _ _ _ h => h) (Or.inl ⟨by rfl, ?_⟩) (by assumption) ?_
  rotate_left
  · intro w hSw; (try dsimp only at hSw); go_simp; try with_reducible rfl
  try simp only [List.getElem_toArray, List.getElem_cons_succ, List.getElem_cons_zero, Act.put, List.setIfInBounds_toArray, List.set_cons_zero, List.set_cons_succ]
  refine wpAnyH_take (i := 20) (v := ?_) rfl (by kernel_rfl) (by kernel_rfl) (by kernel_rfl) (fun _ _ _ h => h) (Or.inl ⟨by rfl, ?_⟩) (by assumption) ?_
  rotate_left
  · intro w hSw; (try dsimp only at hSw); go_simp; try with_reducible rfl
  try simp only [List.getElem_toArray, List.getElem_cons_succ, List.getElem_cons_zero, Act.put, List.setIfInBounds_toArray, List.set_cons_zero, List.set_cons_succ]
  refine wpAnyH_take (i := 21) (v := ?_) rfl (by kernel_rfl) (by kernel_rfl) (by kernel_rfl) (fun _ _ _ h => h) (Or.inl ⟨by rfl, ?_⟩) (by assumption) ?_
  rotate_left
  · intro w hSw; (try dsimp only at hSw); go_simp; try with_reducible rfl
  try simp only [List.getElem_toArray, List.getElem_cons_succ, List.getElem_cons_zero, Act.put, List.setIfInBounds_toArray, List.set_cons_zero, List.set_cons_succ]
  refine wpAnyH_take (i := 22) (v := ?_) rfl (by kernel_rfl) (by kernel_rfl) (by kernel_rfl) (fun _ _ _ h => h) (Or.inl ⟨by rfl, ?_⟩) (by assumption) ?_
  rotate_left
  · intro w hSw; (try dsimp only at hSw); go_simp; try with_reducible rfl
  try simp only [List.getElem_toArray, List.getElem_cons_succ, List.getElem_cons_zero, Act.put, List.setIfInBounds_toArray, List.set_cons_zero, List.set_cons_succ]
  refine wpAnyH_take (i := 23) (v := ?_) rfl (by kernel_rfl) (by kernel_rfl) (by kernel_rfl) (fun _ _ _ h => h) (Or.inl ⟨by rfl, ?_⟩) (by assumption) ?_
  rotate_left
  · intro w hSw; (try dsimp only at hSw); go_simp; try with_reducible rfl
  try simp only [List.getElem_toArray, List.getElem_cons_succ, List.getElem_cons_zero, Act.put, List.setIfInBounds_toArray, List.set_cons_zero, List.set_cons_succ]
  refine wpAnyH_take (i := 24) (v := ?_) rfl (by kernel_rfl) (by kernel_rfl) (by kernel_rfl) (fun _ _ _ h => h) (Or.inl ⟨by rfl, ?_⟩) (by assumption) ?_
  rotate_left
  · intro w hSw; (try dsimp only at hSw); go_simp; try with_reducible rfl
  try simp only [List.getElem_toArray, List.getElem_cons_succ, List.getElem_cons_zero, Act.put, List.setIfInBounds_toArray, List.set_cons_zero, List.set_cons_succ]
  refine wpAnyH_take (i := 25) (v := ?_) rfl (by kernel_rfl) (by kernel_rfl) (by kernel_rfl) (fun _ _ _ h => h) (Or.inl ⟨by rfl, ?_⟩) (by assumption) ?_
  rotate_left
  · intro w hSw; (try dsimp only at hSw); go_simp; try with_reducible rfl
  try simp only [List.getElem_toArray, List.getElem_cons_succ, List.getElem_cons_zero, Act.put, List.setIfInBounds_toArray, List.set_cons_zero, List.set_cons_succ]
  refine wpAnyH_take (i := 26) (v := ?_) rfl (by kernel_rfl) (by kernel_rfl) (by kernel_rfl) (fun _ _ _ h => h) (Or.inl ⟨by rfl, ?_⟩) (by assumption) ?_
  rotate_left
  · intro w hSw; (try dsimp only at hSw); go_simp; try with_reducible rfl
  try simp only [List.getElem_toArray, List.getElem_cons_succ, List.getElem_cons_zero, Act.put, List.setIfInBounds_toArray, List.set_cons_zero, List.set_cons_succ]
  refine wpAnyH_take (i := 27) (v := ?_) rfl (by kernel_rfl) (by kernel_rfl) (by kernel_rfl) (fun _ _ _ h => h) (Or.inl ⟨by rfl, ?_⟩) (by assumption) ?_
  rotate_left
  · intro w hSw; (try dsimp only at hSw); go_simp; try with_reducible rfl
  try simp only [List.getElem_toArray, List.getElem_cons_succ, List.getElem_cons_zero, Act.put, List.setIfInBounds_toArray, List.set_cons_zero, List.set_cons_succ]
  refine wpAnyH_take (i := 28) (v := ?_) rfl (by kernel_rfl) (by kernel_rfl) (by kernel_rfl) (fun _ _ _ h => h) (Or.inl ⟨by rfl, ?_⟩) (by assumption) ?_
  rotate_left
  · intro w hSw; (try dsimp only at hSw); go_simp; try with_reducible rfl
  try simp only [List.getElem_toArray, List.getElem_cons_succ, List.getElem_cons_zero, Act.put, List.setIfInBounds_toArray, List.set_cons_zero, List.set_cons_succ]
  refine wpAnyH_take (i := 29) (v := ?_) rfl (by kernel_rfl) (by kernel_rfl) (by kernel_rfl) (fun _ _ _ h => h) (Or.inl ⟨by rfl, ?_⟩) (by assumption) ?_
  rotate_left
  · intro w hSw; (try dsimp only at hSw); go_simp; try with_reducible rfl
  try simp only [List.getElem_toArray, List.getElem_cons_succ, List.getElem_cons_zero, Act.put, List.setIfInBounds_toArray, List.set_cons_zero, List.set_cons_succ]
  refine wpAnyH_take (i := 30) (v := ?_) rfl (by kernel_rfl) (by kernel_rfl) (by kernel_rfl) (fun _ _ _ h => h) (Or.inl ⟨by rfl, ?_⟩) (by assumption) ?_
  rotate_left
  · intro w hSw; (try dsimp only at hSw); go_simp; try with_reducible rfl
  try simp only [List.getElem_toArray, List.getElem_cons_succ, List.getElem_cons_zero, Act.put, List.setIfInBounds_toArray, List.set_cons_zero, List.set_cons_succ]
  refine wpAnyH_take (i := 31) (v := ?_) rfl (by kernel_rfl) (by kernel_rfl) (by kernel_rfl) (fun _ _ _ h => h) (Or.inl ⟨by rfl, ?_⟩) (by assumption) ?_
  rotate_left
  · intro w hSw; (try dsimp only at hSw); go_simp; try with_reducible rfl
  try simp only [List.getElem_toArray, List.getElem_cons_succ, List.getElem_cons_zero, Act.put, List.setIfInBounds_toArray, List.set_cons_zero, List.set_cons_succ]
  refine wpAnyH_take (i := 32) (v := ?_) rfl (by kernel_rfl) (by kernel_rfl) (by kernel_rfl) (fun _ _ _ h => h) (Or.inl ⟨by rfl, ?_⟩) (by assumption) ?_
  rotate_left
  · intro w hSw; (try dsimp only at hSw); go_simp; try with_reducible rfl
  try simp only [List.getElem_toArray, List.getElem_cons_succ, List.getElem_cons_zero, Act.put, List.setIfInBounds_toArray, List.set_cons_zero, List.set_cons_succ]
  refine wpAnyH_take (i := 33) (v := ?_) rfl (by kernel_rfl) (by kernel_rfl) (by kernel_rfl) (fun _ _ _ h => h) (Or.inl ⟨by rfl, ?_⟩) (by assumption) ?_
  rotate_left
  · intro w hSw; (try dsimp only at hSw); go_simp; try with_reducible rfl
  try simp only [List.getElem_toArray, List.getElem_cons_succ, List.getElem_cons_zero, Act.put, List.setIfInBounds_toArray, List.set_cons_zero, List.set_cons_succ]
  refine wpAnyH_ready (rs := [34]) (by kernel_rfl) (by simp) ?_
  refine AllReadyH.cons rfl (fun K hK => ?_) AllReadyH.nil
  go_simp
  go_at_call 17
  refine (C1.out _).mono ?_
  rintro e u5 ⟨rfl, ha5⟩
  have hx5 := (fun h => TwoBox.below h ha5) hx4
  go_wp2_with fail
  refine hK.out _ _ ?_ (fun hHeld5 => ?_)
  · exact hx5
  clear hK K hHeld4
  try simp only [List.getElem_toArray, List.getElem_cons_succ, List.getElem_cons_zero, Act.put, List.setIfInBounds_toArray, List.set_cons_zero, List.set_cons_succ]
  refine wpAnyH_take (i := 35) (v := ?_) rfl (by kernel_rfl) (by kernel_rfl) (by kernel_rfl) (fun _ _ _ h => h) (Or.inl ⟨by rfl, ?_⟩) (by assumption) ?_
  rotate_left
  · intro w hSw; (try dsimp only at hSw); go_simp; try with_reducible rfl
  try simp only [List.getElem_toArray, List.getElem_cons_succ, List.getElem_cons_zero, Act.put, List.setIfInBounds_toArray, List.set_cons_zero, List.set_cons_succ]
  refine wpAnyH_take (i := 36) (v := undef) rfl (by kernel_rfl) (by kernel_rfl) (by kernel_rfl) (fun _ _ _ h => h) (Or.inr ⟨by rfl, rfl⟩) (by assumption) ?_
  try simp only [List.getElem_toArray, List.getElem_cons_succ, List.getElem_cons_zero, Act.put, List.setIfInBounds_toArray, List.set_cons_zero, List.set_cons_succ]
  refine wpAnyH_take (i := 37) (v := undef) rfl (by kernel_rfl) (by kernel_rfl) (by kernel_rfl) (fun _ _ _ h => h) (Or.inr ⟨by rfl, rfl⟩) (by assumption) ?_
  try simp only [List.getElem_toArray, List.getElem_cons_succ, List.getElem_cons_zero, Act.put, List.setIfInBounds_toArray, List.set_cons_zero, List.set_cons_succ]
  refine wpAnyH_take (i := 38) (v := undef) rfl (by kernel_rfl) (by kernel_rfl) (by kernel_rfl) (fun _ _ _ h => h) (Or.inr ⟨by rfl, rfl⟩) (by assumption) ?_
  try simp only [List.getElem_toArray, List.getElem_cons_succ, List.getElem_cons_zero, Act.put, List.setIfInBounds_toArray, List.set_cons_zero, List.set_cons_succ]
  refine wpAnyH_take (i := 39) (v := ?_) rfl (by kernel_rfl) (by kernel_rfl) (by kernel_rfl) (fun _ _ _ h => h) (Or.inl ⟨by rfl, ?_⟩) (by assumption) ?_
  rotate_left
  · intro w hSw; (try dsimp only at hSw); go_simp; try with_reducible rfl
  try simp only [List.getElem_toArray, List.getElem_cons_succ, List.getElem_cons_zero, Act.put, List.setIfInBounds_toArray, List.set_cons_zero, List.set_cons_succ]
  refine wpAnyH_take (i := 40) (v := ?_) rfl (by kernel_rfl) (by kernel_rfl) (by kernel_rfl) (fun _ _ _ h => h) (Or.inl ⟨by rfl, ?_⟩) (by assumption) ?_
  rotate_left
  · intro w hSw; (try dsimp only at hSw); go_simp; try with_reducible rfl
  try simp only [List.getElem_toArray, List.getElem_cons_succ, List.getElem_cons_zero, Act.put, List.setIfInBounds_toArray, List.set_cons_zero, List.set_cons_succ]
  refine wpAnyH_take (i := 41) (v := ?_) rfl (by kernel_rfl) (by kernel_rfl) (by kernel_rfl) (fun _ _ _ h => h) (Or.inl ⟨by rfl, ?_⟩) (by assumption) ?_
  rotate_left
  · intro w hSw; (try dsimp only at hSw); go_simp; try with_reducible rfl
  try simp only [List.getElem_toArray, List.getElem_cons_succ, List.getElem_cons_zero, Act.put, List.setIfInBounds_toArray, List.set_cons_zero, List.set_cons_succ]
  refine wpAnyH_take (i := 42) (v := ?_) rfl (by kernel_rfl) (by kernel_rfl) (by kernel_rfl) (fun _ _ _ h => h) (Or.inl ⟨by rfl, ?_⟩) (by assumption) ?_
  rotate_left
  · intro w hSw; (try dsimp only at hSw); go_simp; try with_reducible rfl
  try simp only [List.getElem_toArray, List.getElem_cons_succ, List.getElem_cons_zero, Act.put, List.setIfInBounds_toArray, List.set_cons_zero, List.set_cons_succ]
  refine wpAnyH_done (by kernel_rfl) ?_ _
  all_goals
    have q1 : Below w.heap.size w u1 := k5.drew.trans (ha1.mono k5.size)
    have q2 := q1.trans (ha2.mono q1.size)
    have q3 := q2.trans (ha3.mono q2.size)
    have q4 := q3.trans (ha4.mono q3.size)
    have q5 := q4.trans (ha5.mono q4.size)
    go_wp2
    go_ret
    exact ⟨by simp, q5⟩
theorem cellOrders_walk (k i : Int) (s : ByteArray) (b : Bool) (k' i' : Int) (s' : ByteArray) (b' : Bool) (w : World) (hs : s.size ≤ 9223372036854775807) (hs' : s'.size ≤ 9223372036854775807) (h : Aw w) :
    Calls Tryd.prog 5 #[.agg #[.int .u8 k, .int .i64 i, .string s, .bool b], .agg #[.int .u8 k', .int .i64 i', .string s', .bool b']] w fun e w' => e = .returned (.bool true) ∧ Below w.heap.size w w' := by
  rcases Bool.eq_false_or_eq_true (Lp.rightB k i s b) with hr | hr
  · rcases Bool.eq_false_or_eq_true (Lp.rightB k' i' s' b') with hr' | hr'
    · rcases Bool.eq_false_or_eq_true (Lp.vless ⟨k, i, s, b⟩ ⟨k', i', s', b'⟩) with h1 | h1
      · exact cellOrders_lt k i s b k' i' s' b' w hs hs' hr hr' h1 h
      · exact cellOrders_lf k i s b k' i' s' b' w hs hs' hr hr' h1 h
    · exact cellOrders_no2 k i s b k' i' s' b' w hs hs' hr hr' h
  · exact cellOrders_no1 k i s b k' i' s' b' w hs hs' hr h
end Go.Proofs.YthojikijelijnaaDoor
