/-
  The walk of CellSorts: it returns true, of any values. Conditions: the listed tables as laid; internal/bytealg.MaxLen holds a number.
-/
import Derived.Test.YthojikijelijnaaDoorCellW
import Derived.Test.YthojikijelijnaaDoorPlainSort
import Derived.Deep.RegionHeld3
namespace Go.Proofs.YthojikijelijnaaDoor
open Go.RowKit

def Three (g : Nat) (k i : Int) (s : ByteArray) (b : Bool) (k' i' : Int) (s' : ByteArray) (b' : Bool) (k'' i'' : Int) (s'' : ByteArray) (b'' : Bool) (w' : World) : Prop := w'.cell? ⟨g, 0, none⟩ = some (.int .u8 k) ∧ w'.cell? ⟨g, 1, none⟩ = some (.int .i64 i) ∧ w'.cell? ⟨g, 2, none⟩ = some (.string s) ∧ w'.cell? ⟨g, 3, none⟩ = some (.bool b) ∧ w'.cell? ⟨g + 1, 0, none⟩ = some (.int .u8 k') ∧ w'.cell? ⟨g + 1, 1, none⟩ = some (.int .i64 i') ∧ w'.cell? ⟨g + 1, 2, none⟩ = some (.string s') ∧ w'.cell? ⟨g + 1, 3, none⟩ = some (.bool b') ∧ w'.cell? ⟨g + 1 + 1, 0, none⟩ = some (.int .u8 k'') ∧ w'.cell? ⟨g + 1 + 1, 1, none⟩ = some (.int .i64 i'') ∧ w'.cell? ⟨g + 1 + 1, 2, none⟩ = some (.string s'') ∧ w'.cell? ⟨g + 1 + 1, 3, none⟩ = some (.bool b'')
theorem Three.below {g : Nat} {k i : Int} {s : ByteArray} {b : Bool} {k' i' : Int} {s' : ByteArray} {b' : Bool} {k'' i'' : Int} {s'' : ByteArray} {b'' : Bool} {w w' : World} (h : Three g k i s b k' i' s' b' k'' i'' s'' b'' w) (hb : Below w.heap.size w w') : Three g k i s b k' i' s' b' k'' i'' s'' b'' w' := by
  have h1 : g < w.heap.size := World.block_lt_of_cell? w _ h.1
  have h2 : g + 1 < w.heap.size := World.block_lt_of_cell? w _ h.2.2.2.2.1
  have h3 : g + 1 + 1 < w.heap.size := World.block_lt_of_cell? w _ h.2.2.2.2.2.2.2.2.1
  have e1 : ∀ o, w'.cell? ⟨g, o, none⟩ = w.cell? ⟨g, o, none⟩ := fun o => hb.cell (p := ⟨g, o, none⟩) h1
  have e2 : ∀ o, w'.cell? ⟨g + 1, o, none⟩ = w.cell? ⟨g + 1, o, none⟩ := fun o => hb.cell (p := ⟨g + 1, o, none⟩) h2
  have e3 : ∀ o, w'.cell? ⟨g + 1 + 1, o, none⟩ = w.cell? ⟨g + 1 + 1, o, none⟩ := fun o => hb.cell (p := ⟨g + 1 + 1, o, none⟩) h3
  unfold Three at *
  simp only [e1, e2, e3]; exact h
theorem Three.three {g : Nat} {k i : Int} {s : ByteArray} {b : Bool} {k' i' : Int} {s' : ByteArray} {b' : Bool} {k'' i'' : Int} {s'' : ByteArray} {b'' : Bool} {w : World} {t t' t'' : TypeId} (h : w.heap[g]? = some (.cells #[.int .u8 k, .int .i64 i, .string s, .bool b] t (0, 0))) (h' : w.heap[g + 1]? = some (.cells #[.int .u8 k', .int .i64 i', .string s', .bool b'] t' (0, 0))) (h'' : w.heap[g + 1 + 1]? = some (.cells #[.int .u8 k'', .int .i64 i'', .string s'', .bool b''] t'' (0, 0))) : Three g k i s b k' i' s' b' k'' i'' s'' b'' w :=
  ⟨box_cells h 0, box_cells h 1, box_cells h 2, box_cells h 3, box_cells h' 0, box_cells h' 1, box_cells h' 2, box_cells h' 3, box_cells h'' 0, box_cells h'' 1, box_cells h'' 2, box_cells h'' 3⟩
theorem heap_new3 (w : World) (a b c : Obj) : (((w.alloc a).alloc b).alloc c).heap[w.heap.size + 1 + 1]? = some c := by
  have h := heap_new2 (w.alloc a) b c
  rw [World.size_alloc] at h
  exact h
set_option maxRecDepth 100000 in
set_option maxHeartbeats 4000000 in
theorem cellSorts_no1 (k i : Int) (s : ByteArray) (b : Bool) (k' i' : Int) (s' : ByteArray) (b' : Bool) (k'' i'' : Int) (s'' : ByteArray) (b'' : Bool) (w : World) (hs : s.size ≤ 9223372036854775807) (hs' : s'.size ≤ 9223372036854775807) (hs'' : s''.size ≤ 9223372036854775807) (hr : Lp.rightB k i s b = false) (h : Aw w) :
    Calls Tryd.prog 6 #[.agg #[.int .u8 k, .int .i64 i, .string s, .bool b], .agg #[.int .u8 k', .int .i64 i', .string s', .bool b'], .agg #[.int .u8 k'', .int .i64 i'', .string s'', .bool b'']] w fun e w' => e = .returned (.bool true) ∧ Below w.heap.size w w' := by
  have k0 := ba (ba (ba (Below.refl w.heap.size w) (.cells #[.int .u8 k, .int .i64 i, .string s, .bool b] 24)) (.cells #[.int .u8 k', .int .i64 i', .string s', .bool b'] 24)) (.cells #[.int .u8 k'', .int .i64 i'', .string s'', .bool b''] 24)
  have x0 := box_alloc (box_alloc (heap_alloc_new w (.cells #[.int .u8 k, .int .i64 i, .string s, .bool b] 24)) (.cells #[.int .u8 k', .int .i64 i', .string s', .bool b'] 24)) (.cells #[.int .u8 k'', .int .i64 i'', .string s'', .bool b''] 24)
  have x1 := box_alloc (heap_new2 w (.cells #[.int .u8 k, .int .i64 i, .string s, .bool b] 24) (.cells #[.int .u8 k', .int .i64 i', .string s', .bool b'] 24)) (.cells #[.int .u8 k'', .int .i64 i'', .string s'', .bool b''] 24)
  have x2 := heap_new3 w (.cells #[.int .u8 k, .int .i64 i, .string s, .bool b] 24) (.cells #[.int .u8 k', .int .i64 i', .string s', .bool b'] 24) (.cells #[.int .u8 k'', .int .i64 i'', .string s'', .bool b''] 24)
  have R1 := Lib.hid (fun W => right2_at k i s b false hr W hs)
  have HH := Lib.hid h
  clear h hs hs' hs'' hr
  go_enter Tryd.func6, Tryd.ntmps6
  go_wp2_with fail
  refine (awake2_any _ (aw_below HH.out k0)).mono ?_
  rintro e v1 ⟨rfl, hb1⟩
  have x1_0 := box_below x0 hb1
  have x1_1 := box_below x1 hb1
  have x1_2 := box_below x2 hb1
  have k1 := k0.trans (hb1.mono k0.size)
  clear hb1 k0 x0 x1 x2
  have c1_0 := box_cells x1_0
  have l1_0 := heap_lt x1_0
  have c1_1 := box_cells x1_1
  have l1_1 := heap_lt x1_1
  have c1_2 := box_cells x1_2
  have l1_2 := heap_lt x1_2
  go_wp2_with fail
  refine (R1.out _).mono ?_
  rintro e v2 ⟨rfl, hb2⟩
  have x2_0 := box_below x1_0 hb2
  have x2_1 := box_below x1_1 hb2
  have x2_2 := box_below x1_2 hb2
  have k2 := k1.trans (hb2.mono k1.size)
  clear hb2 k1 x1_0 x1_1 x1_2 c1_0 c1_1 c1_2 l1_0 l1_1 l1_2
  have c2_0 := box_cells x2_0
  have l2_0 := heap_lt x2_0
  have c2_1 := box_cells x2_1
  have l2_1 := heap_lt x2_1
  have c2_2 := box_cells x2_2
  have l2_2 := heap_lt x2_2
  go_wp2
  go_ret
  exact ⟨rfl, k2⟩
set_option maxRecDepth 100000 in
set_option maxHeartbeats 4000000 in
theorem cellSorts_no2 (k i : Int) (s : ByteArray) (b : Bool) (k' i' : Int) (s' : ByteArray) (b' : Bool) (k'' i'' : Int) (s'' : ByteArray) (b'' : Bool) (w : World) (hs : s.size ≤ 9223372036854775807) (hs' : s'.size ≤ 9223372036854775807) (hs'' : s''.size ≤ 9223372036854775807) (hr : Lp.rightB k i s b = true) (hr' : Lp.rightB k' i' s' b' = false) (h : Aw w) :
    Calls Tryd.prog 6 #[.agg #[.int .u8 k, .int .i64 i, .string s, .bool b], .agg #[.int .u8 k', .int .i64 i', .string s', .bool b'], .agg #[.int .u8 k'', .int .i64 i'', .string s'', .bool b'']] w fun e w' => e = .returned (.bool true) ∧ Below w.heap.size w w' := by
  have k0 := ba (ba (ba (Below.refl w.heap.size w) (.cells #[.int .u8 k, .int .i64 i, .string s, .bool b] 24)) (.cells #[.int .u8 k', .int .i64 i', .string s', .bool b'] 24)) (.cells #[.int .u8 k'', .int .i64 i'', .string s'', .bool b''] 24)
  have x0 := box_alloc (box_alloc (heap_alloc_new w (.cells #[.int .u8 k, .int .i64 i, .string s, .bool b] 24)) (.cells #[.int .u8 k', .int .i64 i', .string s', .bool b'] 24)) (.cells #[.int .u8 k'', .int .i64 i'', .string s'', .bool b''] 24)
  have x1 := box_alloc (heap_new2 w (.cells #[.int .u8 k, .int .i64 i, .string s, .bool b] 24) (.cells #[.int .u8 k', .int .i64 i', .string s', .bool b'] 24)) (.cells #[.int .u8 k'', .int .i64 i'', .string s'', .bool b''] 24)
  have x2 := heap_new3 w (.cells #[.int .u8 k, .int .i64 i, .string s, .bool b] 24) (.cells #[.int .u8 k', .int .i64 i', .string s', .bool b'] 24) (.cells #[.int .u8 k'', .int .i64 i'', .string s'', .bool b''] 24)
  have R1 := Lib.hid (fun W => right2_at k i s b true hr W hs)
  have R2 := Lib.hid (fun W => right2_at k' i' s' b' false hr' W hs')
  have HH := Lib.hid h
  clear h hs hs' hs'' hr hr'
  go_enter Tryd.func6, Tryd.ntmps6
  go_wp2_with fail
  refine (awake2_any _ (aw_below HH.out k0)).mono ?_
  rintro e v1 ⟨rfl, hb1⟩
  have x1_0 := box_below x0 hb1
  have x1_1 := box_below x1 hb1
  have x1_2 := box_below x2 hb1
  have k1 := k0.trans (hb1.mono k0.size)
  clear hb1 k0 x0 x1 x2
  have c1_0 := box_cells x1_0
  have l1_0 := heap_lt x1_0
  have c1_1 := box_cells x1_1
  have l1_1 := heap_lt x1_1
  have c1_2 := box_cells x1_2
  have l1_2 := heap_lt x1_2
  go_wp2_with fail
  refine (R1.out _).mono ?_
  rintro e v2 ⟨rfl, hb2⟩
  have x2_0 := box_below x1_0 hb2
  have x2_1 := box_below x1_1 hb2
  have x2_2 := box_below x1_2 hb2
  have k2 := k1.trans (hb2.mono k1.size)
  clear hb2 k1 x1_0 x1_1 x1_2 c1_0 c1_1 c1_2 l1_0 l1_1 l1_2
  have c2_0 := box_cells x2_0
  have l2_0 := heap_lt x2_0
  have c2_1 := box_cells x2_1
  have l2_1 := heap_lt x2_1
  have c2_2 := box_cells x2_2
  have l2_2 := heap_lt x2_2
  go_wp2_with fail
  refine (R2.out _).mono ?_
  rintro e v3 ⟨rfl, hb3⟩
  have x3_0 := box_below x2_0 hb3
  have x3_1 := box_below x2_1 hb3
  have x3_2 := box_below x2_2 hb3
  have k3 := k2.trans (hb3.mono k2.size)
  clear hb3 k2 x2_0 x2_1 x2_2 c2_0 c2_1 c2_2 l2_0 l2_1 l2_2
  have c3_0 := box_cells x3_0
  have l3_0 := heap_lt x3_0
  have c3_1 := box_cells x3_1
  have l3_1 := heap_lt x3_1
  have c3_2 := box_cells x3_2
  have l3_2 := heap_lt x3_2
  go_wp2
  go_ret
  exact ⟨rfl, k3⟩
set_option maxRecDepth 100000 in
set_option maxHeartbeats 4000000 in
theorem cellSorts_no3 (k i : Int) (s : ByteArray) (b : Bool) (k' i' : Int) (s' : ByteArray) (b' : Bool) (k'' i'' : Int) (s'' : ByteArray) (b'' : Bool) (w : World) (hs : s.size ≤ 9223372036854775807) (hs' : s'.size ≤ 9223372036854775807) (hs'' : s''.size ≤ 9223372036854775807) (hr : Lp.rightB k i s b = true) (hr' : Lp.rightB k' i' s' b' = true) (hr'' : Lp.rightB k'' i'' s'' b'' = false) (h : Aw w) :
    Calls Tryd.prog 6 #[.agg #[.int .u8 k, .int .i64 i, .string s, .bool b], .agg #[.int .u8 k', .int .i64 i', .string s', .bool b'], .agg #[.int .u8 k'', .int .i64 i'', .string s'', .bool b'']] w fun e w' => e = .returned (.bool true) ∧ Below w.heap.size w w' := by
  have k0 := ba (ba (ba (Below.refl w.heap.size w) (.cells #[.int .u8 k, .int .i64 i, .string s, .bool b] 24)) (.cells #[.int .u8 k', .int .i64 i', .string s', .bool b'] 24)) (.cells #[.int .u8 k'', .int .i64 i'', .string s'', .bool b''] 24)
  have x0 := box_alloc (box_alloc (heap_alloc_new w (.cells #[.int .u8 k, .int .i64 i, .string s, .bool b] 24)) (.cells #[.int .u8 k', .int .i64 i', .string s', .bool b'] 24)) (.cells #[.int .u8 k'', .int .i64 i'', .string s'', .bool b''] 24)
  have x1 := box_alloc (heap_new2 w (.cells #[.int .u8 k, .int .i64 i, .string s, .bool b] 24) (.cells #[.int .u8 k', .int .i64 i', .string s', .bool b'] 24)) (.cells #[.int .u8 k'', .int .i64 i'', .string s'', .bool b''] 24)
  have x2 := heap_new3 w (.cells #[.int .u8 k, .int .i64 i, .string s, .bool b] 24) (.cells #[.int .u8 k', .int .i64 i', .string s', .bool b'] 24) (.cells #[.int .u8 k'', .int .i64 i'', .string s'', .bool b''] 24)
  have R1 := Lib.hid (fun W => right2_at k i s b true hr W hs)
  have R2 := Lib.hid (fun W => right2_at k' i' s' b' true hr' W hs')
  have R3 := Lib.hid (fun W => right2_at k'' i'' s'' b'' false hr'' W hs'')
  have HH := Lib.hid h
  clear h hs hs' hs'' hr hr' hr''
  go_enter Tryd.func6, Tryd.ntmps6
  go_wp2_with fail
  refine (awake2_any _ (aw_below HH.out k0)).mono ?_
  rintro e v1 ⟨rfl, hb1⟩
  have x1_0 := box_below x0 hb1
  have x1_1 := box_below x1 hb1
  have x1_2 := box_below x2 hb1
  have k1 := k0.trans (hb1.mono k0.size)
  clear hb1 k0 x0 x1 x2
  have c1_0 := box_cells x1_0
  have l1_0 := heap_lt x1_0
  have c1_1 := box_cells x1_1
  have l1_1 := heap_lt x1_1
  have c1_2 := box_cells x1_2
  have l1_2 := heap_lt x1_2
  go_wp2_with fail
  refine (R1.out _).mono ?_
  rintro e v2 ⟨rfl, hb2⟩
  have x2_0 := box_below x1_0 hb2
  have x2_1 := box_below x1_1 hb2
  have x2_2 := box_below x1_2 hb2
  have k2 := k1.trans (hb2.mono k1.size)
  clear hb2 k1 x1_0 x1_1 x1_2 c1_0 c1_1 c1_2 l1_0 l1_1 l1_2
  have c2_0 := box_cells x2_0
  have l2_0 := heap_lt x2_0
  have c2_1 := box_cells x2_1
  have l2_1 := heap_lt x2_1
  have c2_2 := box_cells x2_2
  have l2_2 := heap_lt x2_2
  go_wp2_with fail
  refine (R2.out _).mono ?_
  rintro e v3 ⟨rfl, hb3⟩
  have x3_0 := box_below x2_0 hb3
  have x3_1 := box_below x2_1 hb3
  have x3_2 := box_below x2_2 hb3
  have k3 := k2.trans (hb3.mono k2.size)
  clear hb3 k2 x2_0 x2_1 x2_2 c2_0 c2_1 c2_2 l2_0 l2_1 l2_2
  have c3_0 := box_cells x3_0
  have l3_0 := heap_lt x3_0
  have c3_1 := box_cells x3_1
  have l3_1 := heap_lt x3_1
  have c3_2 := box_cells x3_2
  have l3_2 := heap_lt x3_2
  go_wp2_with fail
  refine (R3.out _).mono ?_
  rintro e v4 ⟨rfl, hb4⟩
  have x4_0 := box_below x3_0 hb4
  have x4_1 := box_below x3_1 hb4
  have x4_2 := box_below x3_2 hb4
  have k4 := k3.trans (hb4.mono k3.size)
  clear hb4 k3 x3_0 x3_1 x3_2 c3_0 c3_1 c3_2 l3_0 l3_1 l3_2
  have c4_0 := box_cells x4_0
  have l4_0 := heap_lt x4_0
  have c4_1 := box_cells x4_1
  have l4_1 := heap_lt x4_1
  have c4_2 := box_cells x4_2
  have l4_2 := heap_lt x4_2
  go_wp2
  go_ret
  exact ⟨rfl, k4⟩
set_option maxRecDepth 100000 in
set_option maxHeartbeats 4000000 in
theorem cellSorts_f (k i : Int) (s : ByteArray) (b : Bool) (k' i' : Int) (s' : ByteArray) (b' : Bool) (k'' i'' : Int) (s'' : ByteArray) (b'' : Bool) (w : World) (hs : s.size ≤ 9223372036854775807) (hs' : s'.size ≤ 9223372036854775807) (hs'' : s''.size ≤ 9223372036854775807) (hr : Lp.rightB k i s b = true) (hr' : Lp.rightB k' i' s' b' = true) (hr'' : Lp.rightB k'' i'' s'' b'' = true) (ha : Lp.vless ⟨k, i, s, b⟩ ⟨k', i', s', b'⟩ = false) (hz : Lp.vsame ⟨k, i, s, b⟩ ⟨k', i', s', b'⟩ = false) (h : Aw w) :
    Calls Tryd.prog 6 #[.agg #[.int .u8 k, .int .i64 i, .string s, .bool b], .agg #[.int .u8 k', .int .i64 i', .string s', .bool b'], .agg #[.int .u8 k'', .int .i64 i'', .string s'', .bool b'']] w fun e w' => e = .returned (.bool true) ∧ Below w.heap.size w w' := by
  have k0 := ba (ba (ba (Below.refl w.heap.size w) (.cells #[.int .u8 k, .int .i64 i, .string s, .bool b] 24)) (.cells #[.int .u8 k', .int .i64 i', .string s', .bool b'] 24)) (.cells #[.int .u8 k'', .int .i64 i'', .string s'', .bool b''] 24)
  have x0 := box_alloc (box_alloc (heap_alloc_new w (.cells #[.int .u8 k, .int .i64 i, .string s, .bool b] 24)) (.cells #[.int .u8 k', .int .i64 i', .string s', .bool b'] 24)) (.cells #[.int .u8 k'', .int .i64 i'', .string s'', .bool b''] 24)
  have x1 := box_alloc (heap_new2 w (.cells #[.int .u8 k, .int .i64 i, .string s, .bool b] 24) (.cells #[.int .u8 k', .int .i64 i', .string s', .bool b'] 24)) (.cells #[.int .u8 k'', .int .i64 i'', .string s'', .bool b''] 24)
  have x2 := heap_new3 w (.cells #[.int .u8 k, .int .i64 i, .string s, .bool b] 24) (.cells #[.int .u8 k', .int .i64 i', .string s', .bool b'] 24) (.cells #[.int .u8 k'', .int .i64 i'', .string s'', .bool b''] 24)
  have R1 := Lib.hid (fun W => right2_at k i s b true hr W hs)
  have R2 := Lib.hid (fun W => right2_at k' i' s' b' true hr' W hs')
  have R3 := Lib.hid (fun W => right2_at k'' i'' s'' b'' true hr'' W hs'')
  have ca := fun W => cless_any k i s b k' i' s' b' W
  rw [ha] at ca
  have Ca := Lib.hid ca
  have cz := fun W => csame_any k i s b k' i' s' b' W
  rw [hz] at cz
  have Cz := Lib.hid cz
  have HH := Lib.hid h
  clear h hs hs' hs'' hr hr' hr'' ha ca hz cz
  go_enter Tryd.func6, Tryd.ntmps6
  go_wp2_with fail
  refine (awake2_any _ (aw_below HH.out k0)).mono ?_
  rintro e v1 ⟨rfl, hb1⟩
  have x1_0 := box_below x0 hb1
  have x1_1 := box_below x1 hb1
  have x1_2 := box_below x2 hb1
  have k1 := k0.trans (hb1.mono k0.size)
  clear hb1 k0 x0 x1 x2
  have c1_0 := box_cells x1_0
  have l1_0 := heap_lt x1_0
  have c1_1 := box_cells x1_1
  have l1_1 := heap_lt x1_1
  have c1_2 := box_cells x1_2
  have l1_2 := heap_lt x1_2
  go_wp2_with fail
  refine (R1.out _).mono ?_
  rintro e v2 ⟨rfl, hb2⟩
  have x2_0 := box_below x1_0 hb2
  have x2_1 := box_below x1_1 hb2
  have x2_2 := box_below x1_2 hb2
  have k2 := k1.trans (hb2.mono k1.size)
  clear hb2 k1 x1_0 x1_1 x1_2 c1_0 c1_1 c1_2 l1_0 l1_1 l1_2
  have c2_0 := box_cells x2_0
  have l2_0 := heap_lt x2_0
  have c2_1 := box_cells x2_1
  have l2_1 := heap_lt x2_1
  have c2_2 := box_cells x2_2
  have l2_2 := heap_lt x2_2
  go_wp2_with fail
  refine (R2.out _).mono ?_
  rintro e v3 ⟨rfl, hb3⟩
  have x3_0 := box_below x2_0 hb3
  have x3_1 := box_below x2_1 hb3
  have x3_2 := box_below x2_2 hb3
  have k3 := k2.trans (hb3.mono k2.size)
  clear hb3 k2 x2_0 x2_1 x2_2 c2_0 c2_1 c2_2 l2_0 l2_1 l2_2
  have c3_0 := box_cells x3_0
  have l3_0 := heap_lt x3_0
  have c3_1 := box_cells x3_1
  have l3_1 := heap_lt x3_1
  have c3_2 := box_cells x3_2
  have l3_2 := heap_lt x3_2
  go_wp2_with fail
  refine (R3.out _).mono ?_
  rintro e v4 ⟨rfl, hb4⟩
  have x4_0 := box_below x3_0 hb4
  have x4_1 := box_below x3_1 hb4
  have x4_2 := box_below x3_2 hb4
  have k4 := k3.trans (hb4.mono k3.size)
  clear hb4 k3 x3_0 x3_1 x3_2 c3_0 c3_1 c3_2 l3_0 l3_1 l3_2
  have c4_0 := box_cells x4_0
  have l4_0 := heap_lt x4_0
  have c4_1 := box_cells x4_1
  have l4_1 := heap_lt x4_1
  have c4_2 := box_cells x4_2
  have l4_2 := heap_lt x4_2
  go_wp2_with fail
  refine (Ca.out _).mono ?_
  rintro e v5 ⟨rfl, hb5⟩
  have x5_0 := box_below x4_0 hb5
  have x5_1 := box_below x4_1 hb5
  have x5_2 := box_below x4_2 hb5
  have k5 := k4.trans (hb5.mono k4.size)
  clear hb5 k4 x4_0 x4_1 x4_2 c4_0 c4_1 c4_2 l4_0 l4_1 l4_2
  have c5_0 := box_cells x5_0
  have l5_0 := heap_lt x5_0
  have c5_1 := box_cells x5_1
  have l5_1 := heap_lt x5_1
  have c5_2 := box_cells x5_2
  have l5_2 := heap_lt x5_2
  go_wp2_with fail
  have hxd : Three w.heap.size k i s b k' i' s' b' k'' i'' s'' b'' v5.drew := Three.three x5_0 x5_1 x5_2
  refine wp_region_held_drew (S := fun w' => w'.cell? ⟨w.heap.size, 0, none⟩ = some (.int .u8 k) ∧ w'.cell? ⟨w.heap.size, 1, none⟩ = some (.int .i64 i) ∧ w'.cell? ⟨w.heap.size, 2, none⟩ = some (.string s) ∧ w'.cell? ⟨w.heap.size, 3, none⟩ = some (.bool b) ∧ w'.cell? ⟨w.heap.size + 1, 0, none⟩ = some (.int .u8 k') ∧ w'.cell? ⟨w.heap.size + 1, 1, none⟩ = some (.int .i64 i') ∧ w'.cell? ⟨w.heap.size + 1, 2, none⟩ = some (.string s') ∧ w'.cell? ⟨w.heap.size + 1, 3, none⟩ = some (.bool b') ∧ w'.cell? ⟨w.heap.size + 1 + 1, 0, none⟩ = some (.int .u8 k'') ∧ w'.cell? ⟨w.heap.size + 1 + 1, 1, none⟩ = some (.int .i64 i'') ∧ w'.cell? ⟨w.heap.size + 1 + 1, 2, none⟩ = some (.string s'') ∧ w'.cell? ⟨w.heap.size + 1 + 1, 3, none⟩ = some (.bool b'')) (by kernel_rfl) hxd (fun hHeld => ?_)
  refine wpAnyH_take (i := 0) (v := ?_) rfl (by kernel_rfl) (by kernel_rfl) (by kernel_rfl) (fun _ _ _ h => h) (Or.inl ⟨by rfl, ?_⟩) (by assumption) ?_
  rotate_left
  · intro w hSw; (try dsimp only at hSw); go_simp; try with_reducible rfl
  try simp only [List.getElem_toArray, List.getElem_cons_succ, List.getElem_cons_zero, Act.put, List.setIfInBounds_toArray, List.set_cons_zero, List.set_cons_succ]
  refine wpAnyH_take (i := 1) (v := ?_) rfl (by kernel_rfl) (by kernel_rfl) (by kernel_rfl) (fun _ _ _ h => h) (Or.inl ⟨by rfl, ?_⟩) (by assumption) ?_
  rotate_left
  · intro w hSw; (try dsimp only at hSw); go_simp; try with_reducible rfl
  try simp only [List.getElem_toArray, List.getElem_cons_succ, List.getElem_cons_zero, Act.put, List.setIfInBounds_toArray, List.set_cons_zero, List.set_cons_succ]
  refine wpAnyH_ready (rs := [2]) (by kernel_rfl) (by simp) ?_
  refine AllReadyH.cons rfl (fun K hK => ?_) AllReadyH.nil
  go_simp
  go_at_call 21
  refine (Cz.out _).mono ?_
  rintro e u1 ⟨rfl, ha1⟩
  go_wp2_with fail
  refine hK.out _ _ ?_ (fun hHeld2 => ?_)
  · exact hxd.below ha1
  clear hK K hHeld
  try simp only [List.getElem_toArray, List.getElem_cons_succ, List.getElem_cons_zero, Act.put, List.setIfInBounds_toArray, List.set_cons_zero, List.set_cons_succ]
  refine wpAnyH_take (i := 3) (v := ?_) rfl (by kernel_rfl) (by kernel_rfl) (by kernel_rfl) (fun _ _ _ h => h) (Or.inl ⟨by rfl, ?_⟩) (by assumption) ?_
  rotate_left
  · intro w hSw; (try dsimp only at hSw); go_simp; try with_reducible rfl
  try simp only [List.getElem_toArray, List.getElem_cons_succ, List.getElem_cons_zero, Act.put, List.setIfInBounds_toArray, List.set_cons_zero, List.set_cons_succ]
  refine wpAnyH_take (i := 4) (v := ?_) rfl (by kernel_rfl) (by kernel_rfl) (by kernel_rfl) (fun _ _ _ h => h) (Or.inl ⟨by rfl, ?_⟩) (by assumption) ?_
  rotate_left
  · intro w hSw; (try dsimp only at hSw); go_simp; try with_reducible rfl
  try simp only [List.getElem_toArray, List.getElem_cons_succ, List.getElem_cons_zero, Act.put, List.setIfInBounds_toArray, List.set_cons_zero, List.set_cons_succ]
  refine wpAnyH_take (i := 5) (v := undef) rfl (by kernel_rfl) (by kernel_rfl) (by kernel_rfl) (fun _ _ _ h => h) (Or.inr ⟨by rfl, rfl⟩) (by assumption) ?_
  try simp only [List.getElem_toArray, List.getElem_cons_succ, List.getElem_cons_zero, Act.put, List.setIfInBounds_toArray, List.set_cons_zero, List.set_cons_succ]
  refine wpAnyH_take (i := 6) (v := undef) rfl (by kernel_rfl) (by kernel_rfl) (by kernel_rfl) (fun _ _ _ h => h) (Or.inr ⟨by rfl, rfl⟩) (by assumption) ?_
  try simp only [List.getElem_toArray, List.getElem_cons_succ, List.getElem_cons_zero, Act.put, List.setIfInBounds_toArray, List.set_cons_zero, List.set_cons_succ]
  refine wpAnyH_take (i := 8) (v := undef) rfl (by kernel_rfl) (by kernel_rfl) (by kernel_rfl) (fun _ _ _ h => h) (Or.inr ⟨by rfl, rfl⟩) (by assumption) ?_
  try simp only [List.getElem_toArray, List.getElem_cons_succ, List.getElem_cons_zero, Act.put, List.setIfInBounds_toArray, List.set_cons_zero, List.set_cons_succ]
  refine wpAnyH_take (i := 9) (v := undef) rfl (by kernel_rfl) (by kernel_rfl) (by kernel_rfl) (fun _ _ _ h => h) (Or.inr ⟨by rfl, rfl⟩) (by assumption) ?_
  try simp only [List.getElem_toArray, List.getElem_cons_succ, List.getElem_cons_zero, Act.put, List.setIfInBounds_toArray, List.set_cons_zero, List.set_cons_succ]
  refine wpAnyH_take (i := 7) (v := undef) rfl (by kernel_rfl) (by kernel_rfl) (by kernel_rfl) (fun _ _ _ h => h) (Or.inr ⟨by rfl, rfl⟩) (by assumption) ?_
  try simp only [List.getElem_toArray, List.getElem_cons_succ, List.getElem_cons_zero, Act.put, List.setIfInBounds_toArray, List.set_cons_zero, List.set_cons_succ]
  refine wpAnyH_take (i := 10) (v := undef) rfl (by kernel_rfl) (by kernel_rfl) (by kernel_rfl) (fun _ _ _ h => h) (Or.inr ⟨by rfl, rfl⟩) (by assumption) ?_
  try simp only [List.getElem_toArray, List.getElem_cons_succ, List.getElem_cons_zero, Act.put, List.setIfInBounds_toArray, List.set_cons_zero, List.set_cons_succ]
  refine wpAnyH_take (i := 11) (v := undef) rfl (by kernel_rfl) (by kernel_rfl) (by kernel_rfl) (fun _ _ _ h => h) (Or.inr ⟨by rfl, rfl⟩) (by assumption) ?_
  try simp only [List.getElem_toArray, List.getElem_cons_succ, List.getElem_cons_zero, Act.put, List.setIfInBounds_toArray, List.set_cons_zero, List.set_cons_succ]
  refine wpAnyH_take (i := 12) (v := undef) rfl (by kernel_rfl) (by kernel_rfl) (by kernel_rfl) (fun _ _ _ h => h) (Or.inr ⟨by rfl, rfl⟩) (by assumption) ?_
  try simp only [List.getElem_toArray, List.getElem_cons_succ, List.getElem_cons_zero, Act.put, List.setIfInBounds_toArray, List.set_cons_zero, List.set_cons_succ]
  refine wpAnyH_take (i := 13) (v := undef) rfl (by kernel_rfl) (by kernel_rfl) (by kernel_rfl) (fun _ _ _ h => h) (Or.inr ⟨by rfl, rfl⟩) (by assumption) ?_
  try simp only [List.getElem_toArray, List.getElem_cons_succ, List.getElem_cons_zero, Act.put, List.setIfInBounds_toArray, List.set_cons_zero, List.set_cons_succ]
  refine wpAnyH_take (i := 14) (v := undef) rfl (by kernel_rfl) (by kernel_rfl) (by kernel_rfl) (fun _ _ _ h => h) (Or.inr ⟨by rfl, rfl⟩) (by assumption) ?_
  try simp only [List.getElem_toArray, List.getElem_cons_succ, List.getElem_cons_zero, Act.put, List.setIfInBounds_toArray, List.set_cons_zero, List.set_cons_succ]
  refine wpAnyH_take (i := 16) (v := undef) rfl (by kernel_rfl) (by kernel_rfl) (by kernel_rfl) (fun _ _ _ h => h) (Or.inr ⟨by rfl, rfl⟩) (by assumption) ?_
  try simp only [List.getElem_toArray, List.getElem_cons_succ, List.getElem_cons_zero, Act.put, List.setIfInBounds_toArray, List.set_cons_zero, List.set_cons_succ]
  refine wpAnyH_take (i := 17) (v := undef) rfl (by kernel_rfl) (by kernel_rfl) (by kernel_rfl) (fun _ _ _ h => h) (Or.inr ⟨by rfl, rfl⟩) (by assumption) ?_
  try simp only [List.getElem_toArray, List.getElem_cons_succ, List.getElem_cons_zero, Act.put, List.setIfInBounds_toArray, List.set_cons_zero, List.set_cons_succ]
  refine wpAnyH_take (i := 15) (v := undef) rfl (by kernel_rfl) (by kernel_rfl) (by kernel_rfl) (fun _ _ _ h => h) (Or.inr ⟨by rfl, rfl⟩) (by assumption) ?_
  try simp only [List.getElem_toArray, List.getElem_cons_succ, List.getElem_cons_zero, Act.put, List.setIfInBounds_toArray, List.set_cons_zero, List.set_cons_succ]
  refine wpAnyH_take (i := 18) (v := undef) rfl (by kernel_rfl) (by kernel_rfl) (by kernel_rfl) (fun _ _ _ h => h) (Or.inr ⟨by rfl, rfl⟩) (by assumption) ?_
  try simp only [List.getElem_toArray, List.getElem_cons_succ, List.getElem_cons_zero, Act.put, List.setIfInBounds_toArray, List.set_cons_zero, List.set_cons_succ]
  refine wpAnyH_take (i := 19) (v := undef) rfl (by kernel_rfl) (by kernel_rfl) (by kernel_rfl) (fun _ _ _ h => h) (Or.inr ⟨by rfl, rfl⟩) (by assumption) ?_
  try simp only [List.getElem_toArray, List.getElem_cons_succ, List.getElem_cons_zero, Act.put, List.setIfInBounds_toArray, List.set_cons_zero, List.set_cons_succ]
  refine wpAnyH_take (i := 20) (v := undef) rfl (by kernel_rfl) (by kernel_rfl) (by kernel_rfl) (fun _ _ _ h => h) (Or.inr ⟨by rfl, rfl⟩) (by assumption) ?_
  try simp only [List.getElem_toArray, List.getElem_cons_succ, List.getElem_cons_zero, Act.put, List.setIfInBounds_toArray, List.set_cons_zero, List.set_cons_succ]
  refine wpAnyH_take (i := 21) (v := ?_) rfl (by kernel_rfl) (by kernel_rfl) (by kernel_rfl) (fun _ _ _ h => h) (Or.inl ⟨by rfl, ?_⟩) (by assumption) ?_
  rotate_left
  · intro w hSw; (try dsimp only at hSw); go_simp; try with_reducible rfl
  try simp only [List.getElem_toArray, List.getElem_cons_succ, List.getElem_cons_zero, Act.put, List.setIfInBounds_toArray, List.set_cons_zero, List.set_cons_succ]
  refine wpAnyH_take (i := 22) (v := ?_) rfl (by kernel_rfl) (by kernel_rfl) (by kernel_rfl) (fun _ _ _ h => h) (Or.inl ⟨by rfl, ?_⟩) (by assumption) ?_
  rotate_left
  · intro w hSw; (try dsimp only at hSw); go_simp; try with_reducible rfl
  try simp only [List.getElem_toArray, List.getElem_cons_succ, List.getElem_cons_zero, Act.put, List.setIfInBounds_toArray, List.set_cons_zero, List.set_cons_succ]
  refine wpAnyH_done (by kernel_rfl) ?_ _
  all_goals
    have kk : Below w.heap.size w u1 := k5.drew.trans (ha1.mono k5.size)
    go_wp2
    go_ret
    exact ⟨rfl, kk⟩
set_option maxRecDepth 100000 in
set_option maxHeartbeats 4000000 in
theorem cellSorts_tf (k i : Int) (s : ByteArray) (b : Bool) (k' i' : Int) (s' : ByteArray) (b' : Bool) (k'' i'' : Int) (s'' : ByteArray) (b'' : Bool) (w : World) (hs : s.size ≤ 9223372036854775807) (hs' : s'.size ≤ 9223372036854775807) (hs'' : s''.size ≤ 9223372036854775807) (hr : Lp.rightB k i s b = true) (hr' : Lp.rightB k' i' s' b' = true) (hr'' : Lp.rightB k'' i'' s'' b'' = true) (ha : Lp.vless ⟨k, i, s, b⟩ ⟨k', i', s', b'⟩ = true) (hb : Lp.vless ⟨k', i', s', b'⟩ ⟨k'', i'', s'', b''⟩ = false) (hz : Lp.vsame ⟨k, i, s, b⟩ ⟨k', i', s', b'⟩ = false) (h : Aw w) :
    Calls Tryd.prog 6 #[.agg #[.int .u8 k, .int .i64 i, .string s, .bool b], .agg #[.int .u8 k', .int .i64 i', .string s', .bool b'], .agg #[.int .u8 k'', .int .i64 i'', .string s'', .bool b'']] w fun e w' => e = .returned (.bool true) ∧ Below w.heap.size w w' := by
  have k0 := ba (ba (ba (Below.refl w.heap.size w) (.cells #[.int .u8 k, .int .i64 i, .string s, .bool b] 24)) (.cells #[.int .u8 k', .int .i64 i', .string s', .bool b'] 24)) (.cells #[.int .u8 k'', .int .i64 i'', .string s'', .bool b''] 24)
  have x0 := box_alloc (box_alloc (heap_alloc_new w (.cells #[.int .u8 k, .int .i64 i, .string s, .bool b] 24)) (.cells #[.int .u8 k', .int .i64 i', .string s', .bool b'] 24)) (.cells #[.int .u8 k'', .int .i64 i'', .string s'', .bool b''] 24)
  have x1 := box_alloc (heap_new2 w (.cells #[.int .u8 k, .int .i64 i, .string s, .bool b] 24) (.cells #[.int .u8 k', .int .i64 i', .string s', .bool b'] 24)) (.cells #[.int .u8 k'', .int .i64 i'', .string s'', .bool b''] 24)
  have x2 := heap_new3 w (.cells #[.int .u8 k, .int .i64 i, .string s, .bool b] 24) (.cells #[.int .u8 k', .int .i64 i', .string s', .bool b'] 24) (.cells #[.int .u8 k'', .int .i64 i'', .string s'', .bool b''] 24)
  have R1 := Lib.hid (fun W => right2_at k i s b true hr W hs)
  have R2 := Lib.hid (fun W => right2_at k' i' s' b' true hr' W hs')
  have R3 := Lib.hid (fun W => right2_at k'' i'' s'' b'' true hr'' W hs'')
  have ca := fun W => cless_any k i s b k' i' s' b' W
  rw [ha] at ca
  have Ca := Lib.hid ca
  have cb := fun W => cless_any k' i' s' b' k'' i'' s'' b'' W
  rw [hb] at cb
  have Cb := Lib.hid cb
  have cz := fun W => csame_any k i s b k' i' s' b' W
  rw [hz] at cz
  have Cz := Lib.hid cz
  have HH := Lib.hid h
  clear h hs hs' hs'' hr hr' hr'' ha ca hb cb hz cz
  go_enter Tryd.func6, Tryd.ntmps6
  go_wp2_with fail
  refine (awake2_any _ (aw_below HH.out k0)).mono ?_
  rintro e v1 ⟨rfl, hb1⟩
  have x1_0 := box_below x0 hb1
  have x1_1 := box_below x1 hb1
  have x1_2 := box_below x2 hb1
  have k1 := k0.trans (hb1.mono k0.size)
  clear hb1 k0 x0 x1 x2
  have c1_0 := box_cells x1_0
  have l1_0 := heap_lt x1_0
  have c1_1 := box_cells x1_1
  have l1_1 := heap_lt x1_1
  have c1_2 := box_cells x1_2
  have l1_2 := heap_lt x1_2
  go_wp2_with fail
  refine (R1.out _).mono ?_
  rintro e v2 ⟨rfl, hb2⟩
  have x2_0 := box_below x1_0 hb2
  have x2_1 := box_below x1_1 hb2
  have x2_2 := box_below x1_2 hb2
  have k2 := k1.trans (hb2.mono k1.size)
  clear hb2 k1 x1_0 x1_1 x1_2 c1_0 c1_1 c1_2 l1_0 l1_1 l1_2
  have c2_0 := box_cells x2_0
  have l2_0 := heap_lt x2_0
  have c2_1 := box_cells x2_1
  have l2_1 := heap_lt x2_1
  have c2_2 := box_cells x2_2
  have l2_2 := heap_lt x2_2
  go_wp2_with fail
  refine (R2.out _).mono ?_
  rintro e v3 ⟨rfl, hb3⟩
  have x3_0 := box_below x2_0 hb3
  have x3_1 := box_below x2_1 hb3
  have x3_2 := box_below x2_2 hb3
  have k3 := k2.trans (hb3.mono k2.size)
  clear hb3 k2 x2_0 x2_1 x2_2 c2_0 c2_1 c2_2 l2_0 l2_1 l2_2
  have c3_0 := box_cells x3_0
  have l3_0 := heap_lt x3_0
  have c3_1 := box_cells x3_1
  have l3_1 := heap_lt x3_1
  have c3_2 := box_cells x3_2
  have l3_2 := heap_lt x3_2
  go_wp2_with fail
  refine (R3.out _).mono ?_
  rintro e v4 ⟨rfl, hb4⟩
  have x4_0 := box_below x3_0 hb4
  have x4_1 := box_below x3_1 hb4
  have x4_2 := box_below x3_2 hb4
  have k4 := k3.trans (hb4.mono k3.size)
  clear hb4 k3 x3_0 x3_1 x3_2 c3_0 c3_1 c3_2 l3_0 l3_1 l3_2
  have c4_0 := box_cells x4_0
  have l4_0 := heap_lt x4_0
  have c4_1 := box_cells x4_1
  have l4_1 := heap_lt x4_1
  have c4_2 := box_cells x4_2
  have l4_2 := heap_lt x4_2
  go_wp2_with fail
  refine (Ca.out _).mono ?_
  rintro e v5 ⟨rfl, hb5⟩
  have x5_0 := box_below x4_0 hb5
  have x5_1 := box_below x4_1 hb5
  have x5_2 := box_below x4_2 hb5
  have k5 := k4.trans (hb5.mono k4.size)
  clear hb5 k4 x4_0 x4_1 x4_2 c4_0 c4_1 c4_2 l4_0 l4_1 l4_2
  have c5_0 := box_cells x5_0
  have l5_0 := heap_lt x5_0
  have c5_1 := box_cells x5_1
  have l5_1 := heap_lt x5_1
  have c5_2 := box_cells x5_2
  have l5_2 := heap_lt x5_2
  go_wp2_with fail
  refine (Cb.out _).mono ?_
  rintro e v6 ⟨rfl, hb6⟩
  have x6_0 := box_below x5_0 hb6
  have x6_1 := box_below x5_1 hb6
  have x6_2 := box_below x5_2 hb6
  have k6 := k5.trans (hb6.mono k5.size)
  clear hb6 k5 x5_0 x5_1 x5_2 c5_0 c5_1 c5_2 l5_0 l5_1 l5_2
  have c6_0 := box_cells x6_0
  have l6_0 := heap_lt x6_0
  have c6_1 := box_cells x6_1
  have l6_1 := heap_lt x6_1
  have c6_2 := box_cells x6_2
  have l6_2 := heap_lt x6_2
  go_wp2_with fail
  have hxd : Three w.heap.size k i s b k' i' s' b' k'' i'' s'' b'' v6.drew := Three.three x6_0 x6_1 x6_2
  refine wp_region_held_drew (S := fun w' => w'.cell? ⟨w.heap.size, 0, none⟩ = some (.int .u8 k) ∧ w'.cell? ⟨w.heap.size, 1, none⟩ = some (.int .i64 i) ∧ w'.cell? ⟨w.heap.size, 2, none⟩ = some (.string s) ∧ w'.cell? ⟨w.heap.size, 3, none⟩ = some (.bool b) ∧ w'.cell? ⟨w.heap.size + 1, 0, none⟩ = some (.int .u8 k') ∧ w'.cell? ⟨w.heap.size + 1, 1, none⟩ = some (.int .i64 i') ∧ w'.cell? ⟨w.heap.size + 1, 2, none⟩ = some (.string s') ∧ w'.cell? ⟨w.heap.size + 1, 3, none⟩ = some (.bool b') ∧ w'.cell? ⟨w.heap.size + 1 + 1, 0, none⟩ = some (.int .u8 k'') ∧ w'.cell? ⟨w.heap.size + 1 + 1, 1, none⟩ = some (.int .i64 i'') ∧ w'.cell? ⟨w.heap.size + 1 + 1, 2, none⟩ = some (.string s'') ∧ w'.cell? ⟨w.heap.size + 1 + 1, 3, none⟩ = some (.bool b'')) (by kernel_rfl) hxd (fun hHeld => ?_)
  refine wpAnyH_take (i := 0) (v := ?_) rfl (by kernel_rfl) (by kernel_rfl) (by kernel_rfl) (fun _ _ _ h => h) (Or.inl ⟨by rfl, ?_⟩) (by assumption) ?_
  rotate_left
  · intro w hSw; (try dsimp only at hSw); go_simp; try with_reducible rfl
  try simp only [List.getElem_toArray, List.getElem_cons_succ, List.getElem_cons_zero, Act.put, List.setIfInBounds_toArray, List.set_cons_zero, List.set_cons_succ]
  refine wpAnyH_take (i := 1) (v := ?_) rfl (by kernel_rfl) (by kernel_rfl) (by kernel_rfl) (fun _ _ _ h => h) (Or.inl ⟨by rfl, ?_⟩) (by assumption) ?_
  rotate_left
  · intro w hSw; (try dsimp only at hSw); go_simp; try with_reducible rfl
  try simp only [List.getElem_toArray, List.getElem_cons_succ, List.getElem_cons_zero, Act.put, List.setIfInBounds_toArray, List.set_cons_zero, List.set_cons_succ]
  refine wpAnyH_ready (rs := [2]) (by kernel_rfl) (by simp) ?_
  refine AllReadyH.cons rfl (fun K hK => ?_) AllReadyH.nil
  go_simp
  go_at_call 21
  refine (Cz.out _).mono ?_
  rintro e u1 ⟨rfl, ha1⟩
  go_wp2_with fail
  refine hK.out _ _ ?_ (fun hHeld2 => ?_)
  · exact hxd.below ha1
  clear hK K hHeld
  try simp only [List.getElem_toArray, List.getElem_cons_succ, List.getElem_cons_zero, Act.put, List.setIfInBounds_toArray, List.set_cons_zero, List.set_cons_succ]
  refine wpAnyH_take (i := 3) (v := ?_) rfl (by kernel_rfl) (by kernel_rfl) (by kernel_rfl) (fun _ _ _ h => h) (Or.inl ⟨by rfl, ?_⟩) (by assumption) ?_
  rotate_left
  · intro w hSw; (try dsimp only at hSw); go_simp; try with_reducible rfl
  try simp only [List.getElem_toArray, List.getElem_cons_succ, List.getElem_cons_zero, Act.put, List.setIfInBounds_toArray, List.set_cons_zero, List.set_cons_succ]
  refine wpAnyH_take (i := 4) (v := ?_) rfl (by kernel_rfl) (by kernel_rfl) (by kernel_rfl) (fun _ _ _ h => h) (Or.inl ⟨by rfl, ?_⟩) (by assumption) ?_
  rotate_left
  · intro w hSw; (try dsimp only at hSw); go_simp; try with_reducible rfl
  try simp only [List.getElem_toArray, List.getElem_cons_succ, List.getElem_cons_zero, Act.put, List.setIfInBounds_toArray, List.set_cons_zero, List.set_cons_succ]
  refine wpAnyH_take (i := 5) (v := undef) rfl (by kernel_rfl) (by kernel_rfl) (by kernel_rfl) (fun _ _ _ h => h) (Or.inr ⟨by rfl, rfl⟩) (by assumption) ?_
  try simp only [List.getElem_toArray, List.getElem_cons_succ, List.getElem_cons_zero, Act.put, List.setIfInBounds_toArray, List.set_cons_zero, List.set_cons_succ]
  refine wpAnyH_take (i := 6) (v := undef) rfl (by kernel_rfl) (by kernel_rfl) (by kernel_rfl) (fun _ _ _ h => h) (Or.inr ⟨by rfl, rfl⟩) (by assumption) ?_
  try simp only [List.getElem_toArray, List.getElem_cons_succ, List.getElem_cons_zero, Act.put, List.setIfInBounds_toArray, List.set_cons_zero, List.set_cons_succ]
  refine wpAnyH_take (i := 8) (v := undef) rfl (by kernel_rfl) (by kernel_rfl) (by kernel_rfl) (fun _ _ _ h => h) (Or.inr ⟨by rfl, rfl⟩) (by assumption) ?_
  try simp only [List.getElem_toArray, List.getElem_cons_succ, List.getElem_cons_zero, Act.put, List.setIfInBounds_toArray, List.set_cons_zero, List.set_cons_succ]
  refine wpAnyH_take (i := 9) (v := undef) rfl (by kernel_rfl) (by kernel_rfl) (by kernel_rfl) (fun _ _ _ h => h) (Or.inr ⟨by rfl, rfl⟩) (by assumption) ?_
  try simp only [List.getElem_toArray, List.getElem_cons_succ, List.getElem_cons_zero, Act.put, List.setIfInBounds_toArray, List.set_cons_zero, List.set_cons_succ]
  refine wpAnyH_take (i := 7) (v := undef) rfl (by kernel_rfl) (by kernel_rfl) (by kernel_rfl) (fun _ _ _ h => h) (Or.inr ⟨by rfl, rfl⟩) (by assumption) ?_
  try simp only [List.getElem_toArray, List.getElem_cons_succ, List.getElem_cons_zero, Act.put, List.setIfInBounds_toArray, List.set_cons_zero, List.set_cons_succ]
  refine wpAnyH_take (i := 10) (v := undef) rfl (by kernel_rfl) (by kernel_rfl) (by kernel_rfl) (fun _ _ _ h => h) (Or.inr ⟨by rfl, rfl⟩) (by assumption) ?_
  try simp only [List.getElem_toArray, List.getElem_cons_succ, List.getElem_cons_zero, Act.put, List.setIfInBounds_toArray, List.set_cons_zero, List.set_cons_succ]
  refine wpAnyH_take (i := 11) (v := undef) rfl (by kernel_rfl) (by kernel_rfl) (by kernel_rfl) (fun _ _ _ h => h) (Or.inr ⟨by rfl, rfl⟩) (by assumption) ?_
  try simp only [List.getElem_toArray, List.getElem_cons_succ, List.getElem_cons_zero, Act.put, List.setIfInBounds_toArray, List.set_cons_zero, List.set_cons_succ]
  refine wpAnyH_take (i := 12) (v := undef) rfl (by kernel_rfl) (by kernel_rfl) (by kernel_rfl) (fun _ _ _ h => h) (Or.inr ⟨by rfl, rfl⟩) (by assumption) ?_
  try simp only [List.getElem_toArray, List.getElem_cons_succ, List.getElem_cons_zero, Act.put, List.setIfInBounds_toArray, List.set_cons_zero, List.set_cons_succ]
  refine wpAnyH_take (i := 13) (v := undef) rfl (by kernel_rfl) (by kernel_rfl) (by kernel_rfl) (fun _ _ _ h => h) (Or.inr ⟨by rfl, rfl⟩) (by assumption) ?_
  try simp only [List.getElem_toArray, List.getElem_cons_succ, List.getElem_cons_zero, Act.put, List.setIfInBounds_toArray, List.set_cons_zero, List.set_cons_succ]
  refine wpAnyH_take (i := 14) (v := undef) rfl (by kernel_rfl) (by kernel_rfl) (by kernel_rfl) (fun _ _ _ h => h) (Or.inr ⟨by rfl, rfl⟩) (by assumption) ?_
  try simp only [List.getElem_toArray, List.getElem_cons_succ, List.getElem_cons_zero, Act.put, List.setIfInBounds_toArray, List.set_cons_zero, List.set_cons_succ]
  refine wpAnyH_take (i := 16) (v := undef) rfl (by kernel_rfl) (by kernel_rfl) (by kernel_rfl) (fun _ _ _ h => h) (Or.inr ⟨by rfl, rfl⟩) (by assumption) ?_
  try simp only [List.getElem_toArray, List.getElem_cons_succ, List.getElem_cons_zero, Act.put, List.setIfInBounds_toArray, List.set_cons_zero, List.set_cons_succ]
  refine wpAnyH_take (i := 17) (v := undef) rfl (by kernel_rfl) (by kernel_rfl) (by kernel_rfl) (fun _ _ _ h => h) (Or.inr ⟨by rfl, rfl⟩) (by assumption) ?_
  try simp only [List.getElem_toArray, List.getElem_cons_succ, List.getElem_cons_zero, Act.put, List.setIfInBounds_toArray, List.set_cons_zero, List.set_cons_succ]
  refine wpAnyH_take (i := 15) (v := undef) rfl (by kernel_rfl) (by kernel_rfl) (by kernel_rfl) (fun _ _ _ h => h) (Or.inr ⟨by rfl, rfl⟩) (by assumption) ?_
  try simp only [List.getElem_toArray, List.getElem_cons_succ, List.getElem_cons_zero, Act.put, List.setIfInBounds_toArray, List.set_cons_zero, List.set_cons_succ]
  refine wpAnyH_take (i := 18) (v := undef) rfl (by kernel_rfl) (by kernel_rfl) (by kernel_rfl) (fun _ _ _ h => h) (Or.inr ⟨by rfl, rfl⟩) (by assumption) ?_
  try simp only [List.getElem_toArray, List.getElem_cons_succ, List.getElem_cons_zero, Act.put, List.setIfInBounds_toArray, List.set_cons_zero, List.set_cons_succ]
  refine wpAnyH_take (i := 19) (v := undef) rfl (by kernel_rfl) (by kernel_rfl) (by kernel_rfl) (fun _ _ _ h => h) (Or.inr ⟨by rfl, rfl⟩) (by assumption) ?_
  try simp only [List.getElem_toArray, List.getElem_cons_succ, List.getElem_cons_zero, Act.put, List.setIfInBounds_toArray, List.set_cons_zero, List.set_cons_succ]
  refine wpAnyH_take (i := 20) (v := undef) rfl (by kernel_rfl) (by kernel_rfl) (by kernel_rfl) (fun _ _ _ h => h) (Or.inr ⟨by rfl, rfl⟩) (by assumption) ?_
  try simp only [List.getElem_toArray, List.getElem_cons_succ, List.getElem_cons_zero, Act.put, List.setIfInBounds_toArray, List.set_cons_zero, List.set_cons_succ]
  refine wpAnyH_take (i := 21) (v := ?_) rfl (by kernel_rfl) (by kernel_rfl) (by kernel_rfl) (fun _ _ _ h => h) (Or.inl ⟨by rfl, ?_⟩) (by assumption) ?_
  rotate_left
  · intro w hSw; (try dsimp only at hSw); go_simp; try with_reducible rfl
  try simp only [List.getElem_toArray, List.getElem_cons_succ, List.getElem_cons_zero, Act.put, List.setIfInBounds_toArray, List.set_cons_zero, List.set_cons_succ]
  refine wpAnyH_take (i := 22) (v := ?_) rfl (by kernel_rfl) (by kernel_rfl) (by kernel_rfl) (fun _ _ _ h => h) (Or.inl ⟨by rfl, ?_⟩) (by assumption) ?_
  rotate_left
  · intro w hSw; (try dsimp only at hSw); go_simp; try with_reducible rfl
  try simp only [List.getElem_toArray, List.getElem_cons_succ, List.getElem_cons_zero, Act.put, List.setIfInBounds_toArray, List.set_cons_zero, List.set_cons_succ]
  refine wpAnyH_done (by kernel_rfl) ?_ _
  all_goals
    have kk : Below w.heap.size w u1 := k6.drew.trans (ha1.mono k6.size)
    go_wp2
    go_ret
    exact ⟨rfl, kk⟩
set_option maxRecDepth 100000 in
set_option maxHeartbeats 4000000 in
theorem cellSorts_tt (k i : Int) (s : ByteArray) (b : Bool) (k' i' : Int) (s' : ByteArray) (b' : Bool) (k'' i'' : Int) (s'' : ByteArray) (b'' : Bool) (w : World) (hs : s.size ≤ 9223372036854775807) (hs' : s'.size ≤ 9223372036854775807) (hs'' : s''.size ≤ 9223372036854775807) (hr : Lp.rightB k i s b = true) (hr' : Lp.rightB k' i' s' b' = true) (hr'' : Lp.rightB k'' i'' s'' b'' = true) (ha : Lp.vless ⟨k, i, s, b⟩ ⟨k', i', s', b'⟩ = true) (hb : Lp.vless ⟨k', i', s', b'⟩ ⟨k'', i'', s'', b''⟩ = true) (hc : Lp.vless ⟨k, i, s, b⟩ ⟨k'', i'', s'', b''⟩ = true) (hz : Lp.vsame ⟨k, i, s, b⟩ ⟨k', i', s', b'⟩ = false) (h : Aw w) :
    Calls Tryd.prog 6 #[.agg #[.int .u8 k, .int .i64 i, .string s, .bool b], .agg #[.int .u8 k', .int .i64 i', .string s', .bool b'], .agg #[.int .u8 k'', .int .i64 i'', .string s'', .bool b'']] w fun e w' => e = .returned (.bool true) ∧ Below w.heap.size w w' := by
  have k0 := ba (ba (ba (Below.refl w.heap.size w) (.cells #[.int .u8 k, .int .i64 i, .string s, .bool b] 24)) (.cells #[.int .u8 k', .int .i64 i', .string s', .bool b'] 24)) (.cells #[.int .u8 k'', .int .i64 i'', .string s'', .bool b''] 24)
  have x0 := box_alloc (box_alloc (heap_alloc_new w (.cells #[.int .u8 k, .int .i64 i, .string s, .bool b] 24)) (.cells #[.int .u8 k', .int .i64 i', .string s', .bool b'] 24)) (.cells #[.int .u8 k'', .int .i64 i'', .string s'', .bool b''] 24)
  have x1 := box_alloc (heap_new2 w (.cells #[.int .u8 k, .int .i64 i, .string s, .bool b] 24) (.cells #[.int .u8 k', .int .i64 i', .string s', .bool b'] 24)) (.cells #[.int .u8 k'', .int .i64 i'', .string s'', .bool b''] 24)
  have x2 := heap_new3 w (.cells #[.int .u8 k, .int .i64 i, .string s, .bool b] 24) (.cells #[.int .u8 k', .int .i64 i', .string s', .bool b'] 24) (.cells #[.int .u8 k'', .int .i64 i'', .string s'', .bool b''] 24)
  have R1 := Lib.hid (fun W => right2_at k i s b true hr W hs)
  have R2 := Lib.hid (fun W => right2_at k' i' s' b' true hr' W hs')
  have R3 := Lib.hid (fun W => right2_at k'' i'' s'' b'' true hr'' W hs'')
  have ca := fun W => cless_any k i s b k' i' s' b' W
  rw [ha] at ca
  have Ca := Lib.hid ca
  have cb := fun W => cless_any k' i' s' b' k'' i'' s'' b'' W
  rw [hb] at cb
  have Cb := Lib.hid cb
  have cc := fun W => cless_any k i s b k'' i'' s'' b'' W
  rw [hc] at cc
  have Cc := Lib.hid cc
  have cz := fun W => csame_any k i s b k' i' s' b' W
  rw [hz] at cz
  have Cz := Lib.hid cz
  have HH := Lib.hid h
  clear h hs hs' hs'' hr hr' hr'' ha ca hb cb hc cc hz cz
  go_enter Tryd.func6, Tryd.ntmps6
  go_wp2_with fail
  refine (awake2_any _ (aw_below HH.out k0)).mono ?_
  rintro e v1 ⟨rfl, hb1⟩
  have x1_0 := box_below x0 hb1
  have x1_1 := box_below x1 hb1
  have x1_2 := box_below x2 hb1
  have k1 := k0.trans (hb1.mono k0.size)
  clear hb1 k0 x0 x1 x2
  have c1_0 := box_cells x1_0
  have l1_0 := heap_lt x1_0
  have c1_1 := box_cells x1_1
  have l1_1 := heap_lt x1_1
  have c1_2 := box_cells x1_2
  have l1_2 := heap_lt x1_2
  go_wp2_with fail
  refine (R1.out _).mono ?_
  rintro e v2 ⟨rfl, hb2⟩
  have x2_0 := box_below x1_0 hb2
  have x2_1 := box_below x1_1 hb2
  have x2_2 := box_below x1_2 hb2
  have k2 := k1.trans (hb2.mono k1.size)
  clear hb2 k1 x1_0 x1_1 x1_2 c1_0 c1_1 c1_2 l1_0 l1_1 l1_2
  have c2_0 := box_cells x2_0
  have l2_0 := heap_lt x2_0
  have c2_1 := box_cells x2_1
  have l2_1 := heap_lt x2_1
  have c2_2 := box_cells x2_2
  have l2_2 := heap_lt x2_2
  go_wp2_with fail
  refine (R2.out _).mono ?_
  rintro e v3 ⟨rfl, hb3⟩
  have x3_0 := box_below x2_0 hb3
  have x3_1 := box_below x2_1 hb3
  have x3_2 := box_below x2_2 hb3
  have k3 := k2.trans (hb3.mono k2.size)
  clear hb3 k2 x2_0 x2_1 x2_2 c2_0 c2_1 c2_2 l2_0 l2_1 l2_2
  have c3_0 := box_cells x3_0
  have l3_0 := heap_lt x3_0
  have c3_1 := box_cells x3_1
  have l3_1 := heap_lt x3_1
  have c3_2 := box_cells x3_2
  have l3_2 := heap_lt x3_2
  go_wp2_with fail
  refine (R3.out _).mono ?_
  rintro e v4 ⟨rfl, hb4⟩
  have x4_0 := box_below x3_0 hb4
  have x4_1 := box_below x3_1 hb4
  have x4_2 := box_below x3_2 hb4
  have k4 := k3.trans (hb4.mono k3.size)
  clear hb4 k3 x3_0 x3_1 x3_2 c3_0 c3_1 c3_2 l3_0 l3_1 l3_2
  have c4_0 := box_cells x4_0
  have l4_0 := heap_lt x4_0
  have c4_1 := box_cells x4_1
  have l4_1 := heap_lt x4_1
  have c4_2 := box_cells x4_2
  have l4_2 := heap_lt x4_2
  go_wp2_with fail
  refine (Ca.out _).mono ?_
  rintro e v5 ⟨rfl, hb5⟩
  have x5_0 := box_below x4_0 hb5
  have x5_1 := box_below x4_1 hb5
  have x5_2 := box_below x4_2 hb5
  have k5 := k4.trans (hb5.mono k4.size)
  clear hb5 k4 x4_0 x4_1 x4_2 c4_0 c4_1 c4_2 l4_0 l4_1 l4_2
  have c5_0 := box_cells x5_0
  have l5_0 := heap_lt x5_0
  have c5_1 := box_cells x5_1
  have l5_1 := heap_lt x5_1
  have c5_2 := box_cells x5_2
  have l5_2 := heap_lt x5_2
  go_wp2_with fail
  refine (Cb.out _).mono ?_
  rintro e v6 ⟨rfl, hb6⟩
  have x6_0 := box_below x5_0 hb6
  have x6_1 := box_below x5_1 hb6
  have x6_2 := box_below x5_2 hb6
  have k6 := k5.trans (hb6.mono k5.size)
  clear hb6 k5 x5_0 x5_1 x5_2 c5_0 c5_1 c5_2 l5_0 l5_1 l5_2
  have c6_0 := box_cells x6_0
  have l6_0 := heap_lt x6_0
  have c6_1 := box_cells x6_1
  have l6_1 := heap_lt x6_1
  have c6_2 := box_cells x6_2
  have l6_2 := heap_lt x6_2
  go_wp2_with fail
  refine (Cc.out _).mono ?_
  rintro e v7 ⟨rfl, hb7⟩
  have x7_0 := box_below x6_0 hb7
  have x7_1 := box_below x6_1 hb7
  have x7_2 := box_below x6_2 hb7
  have k7 := k6.trans (hb7.mono k6.size)
  clear hb7 k6 x6_0 x6_1 x6_2 c6_0 c6_1 c6_2 l6_0 l6_1 l6_2
  have c7_0 := box_cells x7_0
  have l7_0 := heap_lt x7_0
  have c7_1 := box_cells x7_1
  have l7_1 := heap_lt x7_1
  have c7_2 := box_cells x7_2
  have l7_2 := heap_lt x7_2
  go_wp2_with fail
  have hxd : Three w.heap.size k i s b k' i' s' b' k'' i'' s'' b'' v7.drew := Three.three x7_0 x7_1 x7_2
  refine wp_region_held_drew (S := fun w' => w'.cell? ⟨w.heap.size, 0, none⟩ = some (.int .u8 k) ∧ w'.cell? ⟨w.heap.size, 1, none⟩ = some (.int .i64 i) ∧ w'.cell? ⟨w.heap.size, 2, none⟩ = some (.string s) ∧ w'.cell? ⟨w.heap.size, 3, none⟩ = some (.bool b) ∧ w'.cell? ⟨w.heap.size + 1, 0, none⟩ = some (.int .u8 k') ∧ w'.cell? ⟨w.heap.size + 1, 1, none⟩ = some (.int .i64 i') ∧ w'.cell? ⟨w.heap.size + 1, 2, none⟩ = some (.string s') ∧ w'.cell? ⟨w.heap.size + 1, 3, none⟩ = some (.bool b') ∧ w'.cell? ⟨w.heap.size + 1 + 1, 0, none⟩ = some (.int .u8 k'') ∧ w'.cell? ⟨w.heap.size + 1 + 1, 1, none⟩ = some (.int .i64 i'') ∧ w'.cell? ⟨w.heap.size + 1 + 1, 2, none⟩ = some (.string s'') ∧ w'.cell? ⟨w.heap.size + 1 + 1, 3, none⟩ = some (.bool b'')) (by kernel_rfl) hxd (fun hHeld => ?_)
  refine wpAnyH_take (i := 0) (v := ?_) rfl (by kernel_rfl) (by kernel_rfl) (by kernel_rfl) (fun _ _ _ h => h) (Or.inl ⟨by rfl, ?_⟩) (by assumption) ?_
  rotate_left
  · intro w hSw; (try dsimp only at hSw); go_simp; try with_reducible rfl
  try simp only [List.getElem_toArray, List.getElem_cons_succ, List.getElem_cons_zero, Act.put, List.setIfInBounds_toArray, List.set_cons_zero, List.set_cons_succ]
  refine wpAnyH_take (i := 1) (v := ?_) rfl (by kernel_rfl) (by kernel_rfl) (by kernel_rfl) (fun _ _ _ h => h) (Or.inl ⟨by rfl, ?_⟩) (by assumption) ?_
  rotate_left
  · intro w hSw; (try dsimp only at hSw); go_simp; try with_reducible rfl
  try simp only [List.getElem_toArray, List.getElem_cons_succ, List.getElem_cons_zero, Act.put, List.setIfInBounds_toArray, List.set_cons_zero, List.set_cons_succ]
  refine wpAnyH_ready (rs := [2]) (by kernel_rfl) (by simp) ?_
  refine AllReadyH.cons rfl (fun K hK => ?_) AllReadyH.nil
  go_simp
  go_at_call 21
  refine (Cz.out _).mono ?_
  rintro e u1 ⟨rfl, ha1⟩
  go_wp2_with fail
  refine hK.out _ _ ?_ (fun hHeld2 => ?_)
  · exact hxd.below ha1
  clear hK K hHeld
  try simp only [List.getElem_toArray, List.getElem_cons_succ, List.getElem_cons_zero, Act.put, List.setIfInBounds_toArray, List.set_cons_zero, List.set_cons_succ]
  refine wpAnyH_take (i := 3) (v := ?_) rfl (by kernel_rfl) (by kernel_rfl) (by kernel_rfl) (fun _ _ _ h => h) (Or.inl ⟨by rfl, ?_⟩) (by assumption) ?_
  rotate_left
  · intro w hSw; (try dsimp only at hSw); go_simp; try with_reducible rfl
  try simp only [List.getElem_toArray, List.getElem_cons_succ, List.getElem_cons_zero, Act.put, List.setIfInBounds_toArray, List.set_cons_zero, List.set_cons_succ]
  refine wpAnyH_take (i := 4) (v := ?_) rfl (by kernel_rfl) (by kernel_rfl) (by kernel_rfl) (fun _ _ _ h => h) (Or.inl ⟨by rfl, ?_⟩) (by assumption) ?_
  rotate_left
  · intro w hSw; (try dsimp only at hSw); go_simp; try with_reducible rfl
  try simp only [List.getElem_toArray, List.getElem_cons_succ, List.getElem_cons_zero, Act.put, List.setIfInBounds_toArray, List.set_cons_zero, List.set_cons_succ]
  refine wpAnyH_take (i := 5) (v := undef) rfl (by kernel_rfl) (by kernel_rfl) (by kernel_rfl) (fun _ _ _ h => h) (Or.inr ⟨by rfl, rfl⟩) (by assumption) ?_
  try simp only [List.getElem_toArray, List.getElem_cons_succ, List.getElem_cons_zero, Act.put, List.setIfInBounds_toArray, List.set_cons_zero, List.set_cons_succ]
  refine wpAnyH_take (i := 6) (v := undef) rfl (by kernel_rfl) (by kernel_rfl) (by kernel_rfl) (fun _ _ _ h => h) (Or.inr ⟨by rfl, rfl⟩) (by assumption) ?_
  try simp only [List.getElem_toArray, List.getElem_cons_succ, List.getElem_cons_zero, Act.put, List.setIfInBounds_toArray, List.set_cons_zero, List.set_cons_succ]
  refine wpAnyH_take (i := 8) (v := undef) rfl (by kernel_rfl) (by kernel_rfl) (by kernel_rfl) (fun _ _ _ h => h) (Or.inr ⟨by rfl, rfl⟩) (by assumption) ?_
  try simp only [List.getElem_toArray, List.getElem_cons_succ, List.getElem_cons_zero, Act.put, List.setIfInBounds_toArray, List.set_cons_zero, List.set_cons_succ]
  refine wpAnyH_take (i := 9) (v := undef) rfl (by kernel_rfl) (by kernel_rfl) (by kernel_rfl) (fun _ _ _ h => h) (Or.inr ⟨by rfl, rfl⟩) (by assumption) ?_
  try simp only [List.getElem_toArray, List.getElem_cons_succ, List.getElem_cons_zero, Act.put, List.setIfInBounds_toArray, List.set_cons_zero, List.set_cons_succ]
  refine wpAnyH_take (i := 7) (v := undef) rfl (by kernel_rfl) (by kernel_rfl) (by kernel_rfl) (fun _ _ _ h => h) (Or.inr ⟨by rfl, rfl⟩) (by assumption) ?_
  try simp only [List.getElem_toArray, List.getElem_cons_succ, List.getElem_cons_zero, Act.put, List.setIfInBounds_toArray, List.set_cons_zero, List.set_cons_succ]
  refine wpAnyH_take (i := 10) (v := undef) rfl (by kernel_rfl) (by kernel_rfl) (by kernel_rfl) (fun _ _ _ h => h) (Or.inr ⟨by rfl, rfl⟩) (by assumption) ?_
  try simp only [List.getElem_toArray, List.getElem_cons_succ, List.getElem_cons_zero, Act.put, List.setIfInBounds_toArray, List.set_cons_zero, List.set_cons_succ]
  refine wpAnyH_take (i := 11) (v := undef) rfl (by kernel_rfl) (by kernel_rfl) (by kernel_rfl) (fun _ _ _ h => h) (Or.inr ⟨by rfl, rfl⟩) (by assumption) ?_
  try simp only [List.getElem_toArray, List.getElem_cons_succ, List.getElem_cons_zero, Act.put, List.setIfInBounds_toArray, List.set_cons_zero, List.set_cons_succ]
  refine wpAnyH_take (i := 12) (v := undef) rfl (by kernel_rfl) (by kernel_rfl) (by kernel_rfl) (fun _ _ _ h => h) (Or.inr ⟨by rfl, rfl⟩) (by assumption) ?_
  try simp only [List.getElem_toArray, List.getElem_cons_succ, List.getElem_cons_zero, Act.put, List.setIfInBounds_toArray, List.set_cons_zero, List.set_cons_succ]
  refine wpAnyH_take (i := 13) (v := undef) rfl (by kernel_rfl) (by kernel_rfl) (by kernel_rfl) (fun _ _ _ h => h) (Or.inr ⟨by rfl, rfl⟩) (by assumption) ?_
  try simp only [List.getElem_toArray, List.getElem_cons_succ, List.getElem_cons_zero, Act.put, List.setIfInBounds_toArray, List.set_cons_zero, List.set_cons_succ]
  refine wpAnyH_take (i := 14) (v := undef) rfl (by kernel_rfl) (by kernel_rfl) (by kernel_rfl) (fun _ _ _ h => h) (Or.inr ⟨by rfl, rfl⟩) (by assumption) ?_
  try simp only [List.getElem_toArray, List.getElem_cons_succ, List.getElem_cons_zero, Act.put, List.setIfInBounds_toArray, List.set_cons_zero, List.set_cons_succ]
  refine wpAnyH_take (i := 16) (v := undef) rfl (by kernel_rfl) (by kernel_rfl) (by kernel_rfl) (fun _ _ _ h => h) (Or.inr ⟨by rfl, rfl⟩) (by assumption) ?_
  try simp only [List.getElem_toArray, List.getElem_cons_succ, List.getElem_cons_zero, Act.put, List.setIfInBounds_toArray, List.set_cons_zero, List.set_cons_succ]
  refine wpAnyH_take (i := 17) (v := undef) rfl (by kernel_rfl) (by kernel_rfl) (by kernel_rfl) (fun _ _ _ h => h) (Or.inr ⟨by rfl, rfl⟩) (by assumption) ?_
  try simp only [List.getElem_toArray, List.getElem_cons_succ, List.getElem_cons_zero, Act.put, List.setIfInBounds_toArray, List.set_cons_zero, List.set_cons_succ]
  refine wpAnyH_take (i := 15) (v := undef) rfl (by kernel_rfl) (by kernel_rfl) (by kernel_rfl) (fun _ _ _ h => h) (Or.inr ⟨by rfl, rfl⟩) (by assumption) ?_
  try simp only [List.getElem_toArray, List.getElem_cons_succ, List.getElem_cons_zero, Act.put, List.setIfInBounds_toArray, List.set_cons_zero, List.set_cons_succ]
  refine wpAnyH_take (i := 18) (v := undef) rfl (by kernel_rfl) (by kernel_rfl) (by kernel_rfl) (fun _ _ _ h => h) (Or.inr ⟨by rfl, rfl⟩) (by assumption) ?_
  try simp only [List.getElem_toArray, List.getElem_cons_succ, List.getElem_cons_zero, Act.put, List.setIfInBounds_toArray, List.set_cons_zero, List.set_cons_succ]
  refine wpAnyH_take (i := 19) (v := undef) rfl (by kernel_rfl) (by kernel_rfl) (by kernel_rfl) (fun _ _ _ h => h) (Or.inr ⟨by rfl, rfl⟩) (by assumption) ?_
  try simp only [List.getElem_toArray, List.getElem_cons_succ, List.getElem_cons_zero, Act.put, List.setIfInBounds_toArray, List.set_cons_zero, List.set_cons_succ]
  refine wpAnyH_take (i := 20) (v := undef) rfl (by kernel_rfl) (by kernel_rfl) (by kernel_rfl) (fun _ _ _ h => h) (Or.inr ⟨by rfl, rfl⟩) (by assumption) ?_
  try simp only [List.getElem_toArray, List.getElem_cons_succ, List.getElem_cons_zero, Act.put, List.setIfInBounds_toArray, List.set_cons_zero, List.set_cons_succ]
  refine wpAnyH_take (i := 21) (v := ?_) rfl (by kernel_rfl) (by kernel_rfl) (by kernel_rfl) (fun _ _ _ h => h) (Or.inl ⟨by rfl, ?_⟩) (by assumption) ?_
  rotate_left
  · intro w hSw; (try dsimp only at hSw); go_simp; try with_reducible rfl
  try simp only [List.getElem_toArray, List.getElem_cons_succ, List.getElem_cons_zero, Act.put, List.setIfInBounds_toArray, List.set_cons_zero, List.set_cons_succ]
  refine wpAnyH_take (i := 22) (v := ?_) rfl (by kernel_rfl) (by kernel_rfl) (by kernel_rfl) (fun _ _ _ h => h) (Or.inl ⟨by rfl, ?_⟩) (by assumption) ?_
  rotate_left
  · intro w hSw; (try dsimp only at hSw); go_simp; try with_reducible rfl
  try simp only [List.getElem_toArray, List.getElem_cons_succ, List.getElem_cons_zero, Act.put, List.setIfInBounds_toArray, List.set_cons_zero, List.set_cons_succ]
  refine wpAnyH_done (by kernel_rfl) ?_ _
  all_goals
    have kk : Below w.heap.size w u1 := k7.drew.trans (ha1.mono k7.size)
    go_wp2
    go_ret
    exact ⟨rfl, kk⟩
set_option maxRecDepth 100000 in
set_option maxHeartbeats 4000000 in
theorem cellSorts_stt (k i : Int) (s : ByteArray) (b : Bool) (k' i' : Int) (s' : ByteArray) (b' : Bool) (k'' i'' : Int) (s'' : ByteArray) (b'' : Bool) (w : World) (hs : s.size ≤ 9223372036854775807) (hs' : s'.size ≤ 9223372036854775807) (hs'' : s''.size ≤ 9223372036854775807) (hr : Lp.rightB k i s b = true) (hr' : Lp.rightB k' i' s' b' = true) (hr'' : Lp.rightB k'' i'' s'' b'' = true) (ha : Lp.vless ⟨k, i, s, b⟩ ⟨k', i', s', b'⟩ = false) (hz : Lp.vsame ⟨k, i, s, b⟩ ⟨k', i', s', b'⟩ = true) (hut : Lp.vless ⟨k, i, s, b⟩ ⟨k'', i'', s'', b''⟩ = true) (hvt : Lp.vless ⟨k', i', s', b'⟩ ⟨k'', i'', s'', b''⟩ = true) (htu : Lp.vless ⟨k'', i'', s'', b''⟩ ⟨k, i, s, b⟩ = true) (htv : Lp.vless ⟨k'', i'', s'', b''⟩ ⟨k', i', s', b'⟩ = true) (h : Aw w) :
    Calls Tryd.prog 6 #[.agg #[.int .u8 k, .int .i64 i, .string s, .bool b], .agg #[.int .u8 k', .int .i64 i', .string s', .bool b'], .agg #[.int .u8 k'', .int .i64 i'', .string s'', .bool b'']] w fun e w' => e = .returned (.bool true) ∧ Below w.heap.size w w' := by
  have k0 := ba (ba (ba (Below.refl w.heap.size w) (.cells #[.int .u8 k, .int .i64 i, .string s, .bool b] 24)) (.cells #[.int .u8 k', .int .i64 i', .string s', .bool b'] 24)) (.cells #[.int .u8 k'', .int .i64 i'', .string s'', .bool b''] 24)
  have x0 := box_alloc (box_alloc (heap_alloc_new w (.cells #[.int .u8 k, .int .i64 i, .string s, .bool b] 24)) (.cells #[.int .u8 k', .int .i64 i', .string s', .bool b'] 24)) (.cells #[.int .u8 k'', .int .i64 i'', .string s'', .bool b''] 24)
  have x1 := box_alloc (heap_new2 w (.cells #[.int .u8 k, .int .i64 i, .string s, .bool b] 24) (.cells #[.int .u8 k', .int .i64 i', .string s', .bool b'] 24)) (.cells #[.int .u8 k'', .int .i64 i'', .string s'', .bool b''] 24)
  have x2 := heap_new3 w (.cells #[.int .u8 k, .int .i64 i, .string s, .bool b] 24) (.cells #[.int .u8 k', .int .i64 i', .string s', .bool b'] 24) (.cells #[.int .u8 k'', .int .i64 i'', .string s'', .bool b''] 24)
  have R1 := Lib.hid (fun W => right2_at k i s b true hr W hs)
  have R2 := Lib.hid (fun W => right2_at k' i' s' b' true hr' W hs')
  have R3 := Lib.hid (fun W => right2_at k'' i'' s'' b'' true hr'' W hs'')
  have ca := fun W => cless_any k i s b k' i' s' b' W
  rw [ha] at ca
  have Ca := Lib.hid ca
  have cz := fun W => csame_any k i s b k' i' s' b' W
  rw [hz] at cz
  have Cz := Lib.hid cz
  have cut := fun W => cless_any k i s b k'' i'' s'' b'' W
  rw [hut] at cut
  have Cut := Lib.hid cut
  have cvt := fun W => cless_any k' i' s' b' k'' i'' s'' b'' W
  rw [hvt] at cvt
  have Cvt := Lib.hid cvt
  have ctu := fun W => cless_any k'' i'' s'' b'' k i s b W
  rw [htu] at ctu
  have Ctu := Lib.hid ctu
  have ctv := fun W => cless_any k'' i'' s'' b'' k' i' s' b' W
  rw [htv] at ctv
  have Ctv := Lib.hid ctv
  have HH := Lib.hid h
  clear h hs hs' hs'' hr hr' hr'' ha ca hz cz hut cut hvt cvt htu ctu htv ctv
  go_enter Tryd.func6, Tryd.ntmps6
  go_wp2_with fail
  refine (awake2_any _ (aw_below HH.out k0)).mono ?_
  rintro e v1 ⟨rfl, hb1⟩
  have x1_0 := box_below x0 hb1
  have x1_1 := box_below x1 hb1
  have x1_2 := box_below x2 hb1
  have k1 := k0.trans (hb1.mono k0.size)
  clear hb1 k0 x0 x1 x2
  have c1_0 := box_cells x1_0
  have l1_0 := heap_lt x1_0
  have c1_1 := box_cells x1_1
  have l1_1 := heap_lt x1_1
  have c1_2 := box_cells x1_2
  have l1_2 := heap_lt x1_2
  go_wp2_with fail
  refine (R1.out _).mono ?_
  rintro e v2 ⟨rfl, hb2⟩
  have x2_0 := box_below x1_0 hb2
  have x2_1 := box_below x1_1 hb2
  have x2_2 := box_below x1_2 hb2
  have k2 := k1.trans (hb2.mono k1.size)
  clear hb2 k1 x1_0 x1_1 x1_2 c1_0 c1_1 c1_2 l1_0 l1_1 l1_2
  have c2_0 := box_cells x2_0
  have l2_0 := heap_lt x2_0
  have c2_1 := box_cells x2_1
  have l2_1 := heap_lt x2_1
  have c2_2 := box_cells x2_2
  have l2_2 := heap_lt x2_2
  go_wp2_with fail
  refine (R2.out _).mono ?_
  rintro e v3 ⟨rfl, hb3⟩
  have x3_0 := box_below x2_0 hb3
  have x3_1 := box_below x2_1 hb3
  have x3_2 := box_below x2_2 hb3
  have k3 := k2.trans (hb3.mono k2.size)
  clear hb3 k2 x2_0 x2_1 x2_2 c2_0 c2_1 c2_2 l2_0 l2_1 l2_2
  have c3_0 := box_cells x3_0
  have l3_0 := heap_lt x3_0
  have c3_1 := box_cells x3_1
  have l3_1 := heap_lt x3_1
  have c3_2 := box_cells x3_2
  have l3_2 := heap_lt x3_2
  go_wp2_with fail
  refine (R3.out _).mono ?_
  rintro e v4 ⟨rfl, hb4⟩
  have x4_0 := box_below x3_0 hb4
  have x4_1 := box_below x3_1 hb4
  have x4_2 := box_below x3_2 hb4
  have k4 := k3.trans (hb4.mono k3.size)
  clear hb4 k3 x3_0 x3_1 x3_2 c3_0 c3_1 c3_2 l3_0 l3_1 l3_2
  have c4_0 := box_cells x4_0
  have l4_0 := heap_lt x4_0
  have c4_1 := box_cells x4_1
  have l4_1 := heap_lt x4_1
  have c4_2 := box_cells x4_2
  have l4_2 := heap_lt x4_2
  go_wp2_with fail
  refine (Ca.out _).mono ?_
  rintro e v5 ⟨rfl, hb5⟩
  have x5_0 := box_below x4_0 hb5
  have x5_1 := box_below x4_1 hb5
  have x5_2 := box_below x4_2 hb5
  have k5 := k4.trans (hb5.mono k4.size)
  clear hb5 k4 x4_0 x4_1 x4_2 c4_0 c4_1 c4_2 l4_0 l4_1 l4_2
  have c5_0 := box_cells x5_0
  have l5_0 := heap_lt x5_0
  have c5_1 := box_cells x5_1
  have l5_1 := heap_lt x5_1
  have c5_2 := box_cells x5_2
  have l5_2 := heap_lt x5_2
  have hx0 := Three.three x5_0 x5_1 x5_2
  clear c5_0 l5_0 c5_1 l5_1 c5_2 l5_2
  have hxd : Three w.heap.size k i s b k' i' s' b' k'' i'' s'' b'' v5.drew := hx0
  go_wp2_with fail
  go_region_held3 (fun w' => w'.cell? ⟨w.heap.size, 0, none⟩ = some (.int .u8 k) ∧ w'.cell? ⟨w.heap.size, 1, none⟩ = some (.int .i64 i) ∧ w'.cell? ⟨w.heap.size, 2, none⟩ = some (.string s) ∧ w'.cell? ⟨w.heap.size, 3, none⟩ = some (.bool b) ∧ w'.cell? ⟨w.heap.size + 1, 0, none⟩ = some (.int .u8 k') ∧ w'.cell? ⟨w.heap.size + 1, 1, none⟩ = some (.int .i64 i') ∧ w'.cell? ⟨w.heap.size + 1, 2, none⟩ = some (.string s') ∧ w'.cell? ⟨w.heap.size + 1, 3, none⟩ = some (.bool b') ∧ w'.cell? ⟨w.heap.size + 1 + 1, 0, none⟩ = some (.int .u8 k'') ∧ w'.cell? ⟨w.heap.size + 1 + 1, 1, none⟩ = some (.int .i64 i'') ∧ w'.cell? ⟨w.heap.size + 1 + 1, 2, none⟩ = some (.string s'') ∧ w'.cell? ⟨w.heap.size + 1 + 1, 3, none⟩ = some (.bool b''))
    (first | exact hxd | exact hx5 | exact hx4 | exact hx3 | exact hx2 | exact hx1)
    (first
      | (go_at_call 17; refine (Ctv.out _).mono ?_; rintro e u5 ⟨rfl, ha5⟩; have hx5 := (fun h => Three.below h ha5) hx4)
      | (go_at_call 17; refine (Ctu.out _).mono ?_; rintro e u4 ⟨rfl, ha4⟩; have hx4 := (fun h => Three.below h ha4) hx3)
      | (go_at_call 17; refine (Cvt.out _).mono ?_; rintro e u3 ⟨rfl, ha3⟩; have hx3 := (fun h => Three.below h ha3) hx2)
      | (go_at_call 17; refine (Cut.out _).mono ?_; rintro e u2 ⟨rfl, ha2⟩; have hx2 := (fun h => Three.below h ha2) hx1)
      | (go_at_call 21; refine (Cz.out _).mono ?_; rintro e u1 ⟨rfl, ha1⟩; have hx1 := (fun h => Three.below h ha1) hxd))
  have q1 : Below w.heap.size w u1 := k5.drew.trans (ha1.mono k5.size)
  have q2 := q1.trans (ha2.mono q1.size)
  have q3 := q2.trans (ha3.mono q2.size)
  have q4 := q3.trans (ha4.mono q3.size)
  have q5 := q4.trans (ha5.mono q4.size)
  go_wp2
  go_ret
  exact ⟨rfl, q5⟩
set_option maxRecDepth 100000 in
set_option maxHeartbeats 4000000 in
theorem cellSorts_stf (k i : Int) (s : ByteArray) (b : Bool) (k' i' : Int) (s' : ByteArray) (b' : Bool) (k'' i'' : Int) (s'' : ByteArray) (b'' : Bool) (w : World) (hs : s.size ≤ 9223372036854775807) (hs' : s'.size ≤ 9223372036854775807) (hs'' : s''.size ≤ 9223372036854775807) (hr : Lp.rightB k i s b = true) (hr' : Lp.rightB k' i' s' b' = true) (hr'' : Lp.rightB k'' i'' s'' b'' = true) (ha : Lp.vless ⟨k, i, s, b⟩ ⟨k', i', s', b'⟩ = false) (hz : Lp.vsame ⟨k, i, s, b⟩ ⟨k', i', s', b'⟩ = true) (hut : Lp.vless ⟨k, i, s, b⟩ ⟨k'', i'', s'', b''⟩ = true) (hvt : Lp.vless ⟨k', i', s', b'⟩ ⟨k'', i'', s'', b''⟩ = true) (htu : Lp.vless ⟨k'', i'', s'', b''⟩ ⟨k, i, s, b⟩ = false) (htv : Lp.vless ⟨k'', i'', s'', b''⟩ ⟨k', i', s', b'⟩ = false) (h : Aw w) :
    Calls Tryd.prog 6 #[.agg #[.int .u8 k, .int .i64 i, .string s, .bool b], .agg #[.int .u8 k', .int .i64 i', .string s', .bool b'], .agg #[.int .u8 k'', .int .i64 i'', .string s'', .bool b'']] w fun e w' => e = .returned (.bool true) ∧ Below w.heap.size w w' := by
  have k0 := ba (ba (ba (Below.refl w.heap.size w) (.cells #[.int .u8 k, .int .i64 i, .string s, .bool b] 24)) (.cells #[.int .u8 k', .int .i64 i', .string s', .bool b'] 24)) (.cells #[.int .u8 k'', .int .i64 i'', .string s'', .bool b''] 24)
  have x0 := box_alloc (box_alloc (heap_alloc_new w (.cells #[.int .u8 k, .int .i64 i, .string s, .bool b] 24)) (.cells #[.int .u8 k', .int .i64 i', .string s', .bool b'] 24)) (.cells #[.int .u8 k'', .int .i64 i'', .string s'', .bool b''] 24)
  have x1 := box_alloc (heap_new2 w (.cells #[.int .u8 k, .int .i64 i, .string s, .bool b] 24) (.cells #[.int .u8 k', .int .i64 i', .string s', .bool b'] 24)) (.cells #[.int .u8 k'', .int .i64 i'', .string s'', .bool b''] 24)
  have x2 := heap_new3 w (.cells #[.int .u8 k, .int .i64 i, .string s, .bool b] 24) (.cells #[.int .u8 k', .int .i64 i', .string s', .bool b'] 24) (.cells #[.int .u8 k'', .int .i64 i'', .string s'', .bool b''] 24)
  have R1 := Lib.hid (fun W => right2_at k i s b true hr W hs)
  have R2 := Lib.hid (fun W => right2_at k' i' s' b' true hr' W hs')
  have R3 := Lib.hid (fun W => right2_at k'' i'' s'' b'' true hr'' W hs'')
  have ca := fun W => cless_any k i s b k' i' s' b' W
  rw [ha] at ca
  have Ca := Lib.hid ca
  have cz := fun W => csame_any k i s b k' i' s' b' W
  rw [hz] at cz
  have Cz := Lib.hid cz
  have cut := fun W => cless_any k i s b k'' i'' s'' b'' W
  rw [hut] at cut
  have Cut := Lib.hid cut
  have cvt := fun W => cless_any k' i' s' b' k'' i'' s'' b'' W
  rw [hvt] at cvt
  have Cvt := Lib.hid cvt
  have ctu := fun W => cless_any k'' i'' s'' b'' k i s b W
  rw [htu] at ctu
  have Ctu := Lib.hid ctu
  have ctv := fun W => cless_any k'' i'' s'' b'' k' i' s' b' W
  rw [htv] at ctv
  have Ctv := Lib.hid ctv
  have HH := Lib.hid h
  clear h hs hs' hs'' hr hr' hr'' ha ca hz cz hut cut hvt cvt htu ctu htv ctv
  go_enter Tryd.func6, Tryd.ntmps6
  go_wp2_with fail
  refine (awake2_any _ (aw_below HH.out k0)).mono ?_
  rintro e v1 ⟨rfl, hb1⟩
  have x1_0 := box_below x0 hb1
  have x1_1 := box_below x1 hb1
  have x1_2 := box_below x2 hb1
  have k1 := k0.trans (hb1.mono k0.size)
  clear hb1 k0 x0 x1 x2
  have c1_0 := box_cells x1_0
  have l1_0 := heap_lt x1_0
  have c1_1 := box_cells x1_1
  have l1_1 := heap_lt x1_1
  have c1_2 := box_cells x1_2
  have l1_2 := heap_lt x1_2
  go_wp2_with fail
  refine (R1.out _).mono ?_
  rintro e v2 ⟨rfl, hb2⟩
  have x2_0 := box_below x1_0 hb2
  have x2_1 := box_below x1_1 hb2
  have x2_2 := box_below x1_2 hb2
  have k2 := k1.trans (hb2.mono k1.size)
  clear hb2 k1 x1_0 x1_1 x1_2 c1_0 c1_1 c1_2 l1_0 l1_1 l1_2
  have c2_0 := box_cells x2_0
  have l2_0 := heap_lt x2_0
  have c2_1 := box_cells x2_1
  have l2_1 := heap_lt x2_1
  have c2_2 := box_cells x2_2
  have l2_2 := heap_lt x2_2
  go_wp2_with fail
  refine (R2.out _).mono ?_
  rintro e v3 ⟨rfl, hb3⟩
  have x3_0 := box_below x2_0 hb3
  have x3_1 := box_below x2_1 hb3
  have x3_2 := box_below x2_2 hb3
  have k3 := k2.trans (hb3.mono k2.size)
  clear hb3 k2 x2_0 x2_1 x2_2 c2_0 c2_1 c2_2 l2_0 l2_1 l2_2
  have c3_0 := box_cells x3_0
  have l3_0 := heap_lt x3_0
  have c3_1 := box_cells x3_1
  have l3_1 := heap_lt x3_1
  have c3_2 := box_cells x3_2
  have l3_2 := heap_lt x3_2
  go_wp2_with fail
  refine (R3.out _).mono ?_
  rintro e v4 ⟨rfl, hb4⟩
  have x4_0 := box_below x3_0 hb4
  have x4_1 := box_below x3_1 hb4
  have x4_2 := box_below x3_2 hb4
  have k4 := k3.trans (hb4.mono k3.size)
  clear hb4 k3 x3_0 x3_1 x3_2 c3_0 c3_1 c3_2 l3_0 l3_1 l3_2
  have c4_0 := box_cells x4_0
  have l4_0 := heap_lt x4_0
  have c4_1 := box_cells x4_1
  have l4_1 := heap_lt x4_1
  have c4_2 := box_cells x4_2
  have l4_2 := heap_lt x4_2
  go_wp2_with fail
  refine (Ca.out _).mono ?_
  rintro e v5 ⟨rfl, hb5⟩
  have x5_0 := box_below x4_0 hb5
  have x5_1 := box_below x4_1 hb5
  have x5_2 := box_below x4_2 hb5
  have k5 := k4.trans (hb5.mono k4.size)
  clear hb5 k4 x4_0 x4_1 x4_2 c4_0 c4_1 c4_2 l4_0 l4_1 l4_2
  have c5_0 := box_cells x5_0
  have l5_0 := heap_lt x5_0
  have c5_1 := box_cells x5_1
  have l5_1 := heap_lt x5_1
  have c5_2 := box_cells x5_2
  have l5_2 := heap_lt x5_2
  have hx0 := Three.three x5_0 x5_1 x5_2
  clear c5_0 l5_0 c5_1 l5_1 c5_2 l5_2
  have hxd : Three w.heap.size k i s b k' i' s' b' k'' i'' s'' b'' v5.drew := hx0
  go_wp2_with fail
  go_region_held3 (fun w' => w'.cell? ⟨w.heap.size, 0, none⟩ = some (.int .u8 k) ∧ w'.cell? ⟨w.heap.size, 1, none⟩ = some (.int .i64 i) ∧ w'.cell? ⟨w.heap.size, 2, none⟩ = some (.string s) ∧ w'.cell? ⟨w.heap.size, 3, none⟩ = some (.bool b) ∧ w'.cell? ⟨w.heap.size + 1, 0, none⟩ = some (.int .u8 k') ∧ w'.cell? ⟨w.heap.size + 1, 1, none⟩ = some (.int .i64 i') ∧ w'.cell? ⟨w.heap.size + 1, 2, none⟩ = some (.string s') ∧ w'.cell? ⟨w.heap.size + 1, 3, none⟩ = some (.bool b') ∧ w'.cell? ⟨w.heap.size + 1 + 1, 0, none⟩ = some (.int .u8 k'') ∧ w'.cell? ⟨w.heap.size + 1 + 1, 1, none⟩ = some (.int .i64 i'') ∧ w'.cell? ⟨w.heap.size + 1 + 1, 2, none⟩ = some (.string s'') ∧ w'.cell? ⟨w.heap.size + 1 + 1, 3, none⟩ = some (.bool b''))
    (first | exact hxd | exact hx5 | exact hx4 | exact hx3 | exact hx2 | exact hx1)
    (first
      | (go_at_call 17; refine (Ctv.out _).mono ?_; rintro e u5 ⟨rfl, ha5⟩; have hx5 := (fun h => Three.below h ha5) hx4)
      | (go_at_call 17; refine (Ctu.out _).mono ?_; rintro e u4 ⟨rfl, ha4⟩; have hx4 := (fun h => Three.below h ha4) hx3)
      | (go_at_call 17; refine (Cvt.out _).mono ?_; rintro e u3 ⟨rfl, ha3⟩; have hx3 := (fun h => Three.below h ha3) hx2)
      | (go_at_call 17; refine (Cut.out _).mono ?_; rintro e u2 ⟨rfl, ha2⟩; have hx2 := (fun h => Three.below h ha2) hx1)
      | (go_at_call 21; refine (Cz.out _).mono ?_; rintro e u1 ⟨rfl, ha1⟩; have hx1 := (fun h => Three.below h ha1) hxd))
  have q1 : Below w.heap.size w u1 := k5.drew.trans (ha1.mono k5.size)
  have q2 := q1.trans (ha2.mono q1.size)
  have q3 := q2.trans (ha3.mono q2.size)
  have q4 := q3.trans (ha4.mono q3.size)
  have q5 := q4.trans (ha5.mono q4.size)
  go_wp2
  go_ret
  exact ⟨rfl, q5⟩
set_option maxRecDepth 100000 in
set_option maxHeartbeats 4000000 in
theorem cellSorts_sft (k i : Int) (s : ByteArray) (b : Bool) (k' i' : Int) (s' : ByteArray) (b' : Bool) (k'' i'' : Int) (s'' : ByteArray) (b'' : Bool) (w : World) (hs : s.size ≤ 9223372036854775807) (hs' : s'.size ≤ 9223372036854775807) (hs'' : s''.size ≤ 9223372036854775807) (hr : Lp.rightB k i s b = true) (hr' : Lp.rightB k' i' s' b' = true) (hr'' : Lp.rightB k'' i'' s'' b'' = true) (ha : Lp.vless ⟨k, i, s, b⟩ ⟨k', i', s', b'⟩ = false) (hz : Lp.vsame ⟨k, i, s, b⟩ ⟨k', i', s', b'⟩ = true) (hut : Lp.vless ⟨k, i, s, b⟩ ⟨k'', i'', s'', b''⟩ = false) (hvt : Lp.vless ⟨k', i', s', b'⟩ ⟨k'', i'', s'', b''⟩ = false) (htu : Lp.vless ⟨k'', i'', s'', b''⟩ ⟨k, i, s, b⟩ = true) (htv : Lp.vless ⟨k'', i'', s'', b''⟩ ⟨k', i', s', b'⟩ = true) (h : Aw w) :
    Calls Tryd.prog 6 #[.agg #[.int .u8 k, .int .i64 i, .string s, .bool b], .agg #[.int .u8 k', .int .i64 i', .string s', .bool b'], .agg #[.int .u8 k'', .int .i64 i'', .string s'', .bool b'']] w fun e w' => e = .returned (.bool true) ∧ Below w.heap.size w w' := by
  have k0 := ba (ba (ba (Below.refl w.heap.size w) (.cells #[.int .u8 k, .int .i64 i, .string s, .bool b] 24)) (.cells #[.int .u8 k', .int .i64 i', .string s', .bool b'] 24)) (.cells #[.int .u8 k'', .int .i64 i'', .string s'', .bool b''] 24)
  have x0 := box_alloc (box_alloc (heap_alloc_new w (.cells #[.int .u8 k, .int .i64 i, .string s, .bool b] 24)) (.cells #[.int .u8 k', .int .i64 i', .string s', .bool b'] 24)) (.cells #[.int .u8 k'', .int .i64 i'', .string s'', .bool b''] 24)
  have x1 := box_alloc (heap_new2 w (.cells #[.int .u8 k, .int .i64 i, .string s, .bool b] 24) (.cells #[.int .u8 k', .int .i64 i', .string s', .bool b'] 24)) (.cells #[.int .u8 k'', .int .i64 i'', .string s'', .bool b''] 24)
  have x2 := heap_new3 w (.cells #[.int .u8 k, .int .i64 i, .string s, .bool b] 24) (.cells #[.int .u8 k', .int .i64 i', .string s', .bool b'] 24) (.cells #[.int .u8 k'', .int .i64 i'', .string s'', .bool b''] 24)
  have R1 := Lib.hid (fun W => right2_at k i s b true hr W hs)
  have R2 := Lib.hid (fun W => right2_at k' i' s' b' true hr' W hs')
  have R3 := Lib.hid (fun W => right2_at k'' i'' s'' b'' true hr'' W hs'')
  have ca := fun W => cless_any k i s b k' i' s' b' W
  rw [ha] at ca
  have Ca := Lib.hid ca
  have cz := fun W => csame_any k i s b k' i' s' b' W
  rw [hz] at cz
  have Cz := Lib.hid cz
  have cut := fun W => cless_any k i s b k'' i'' s'' b'' W
  rw [hut] at cut
  have Cut := Lib.hid cut
  have cvt := fun W => cless_any k' i' s' b' k'' i'' s'' b'' W
  rw [hvt] at cvt
  have Cvt := Lib.hid cvt
  have ctu := fun W => cless_any k'' i'' s'' b'' k i s b W
  rw [htu] at ctu
  have Ctu := Lib.hid ctu
  have ctv := fun W => cless_any k'' i'' s'' b'' k' i' s' b' W
  rw [htv] at ctv
  have Ctv := Lib.hid ctv
  have HH := Lib.hid h
  clear h hs hs' hs'' hr hr' hr'' ha ca hz cz hut cut hvt cvt htu ctu htv ctv
  go_enter Tryd.func6, Tryd.ntmps6
  go_wp2_with fail
  refine (awake2_any _ (aw_below HH.out k0)).mono ?_
  rintro e v1 ⟨rfl, hb1⟩
  have x1_0 := box_below x0 hb1
  have x1_1 := box_below x1 hb1
  have x1_2 := box_below x2 hb1
  have k1 := k0.trans (hb1.mono k0.size)
  clear hb1 k0 x0 x1 x2
  have c1_0 := box_cells x1_0
  have l1_0 := heap_lt x1_0
  have c1_1 := box_cells x1_1
  have l1_1 := heap_lt x1_1
  have c1_2 := box_cells x1_2
  have l1_2 := heap_lt x1_2
  go_wp2_with fail
  refine (R1.out _).mono ?_
  rintro e v2 ⟨rfl, hb2⟩
  have x2_0 := box_below x1_0 hb2
  have x2_1 := box_below x1_1 hb2
  have x2_2 := box_below x1_2 hb2
  have k2 := k1.trans (hb2.mono k1.size)
  clear hb2 k1 x1_0 x1_1 x1_2 c1_0 c1_1 c1_2 l1_0 l1_1 l1_2
  have c2_0 := box_cells x2_0
  have l2_0 := heap_lt x2_0
  have c2_1 := box_cells x2_1
  have l2_1 := heap_lt x2_1
  have c2_2 := box_cells x2_2
  have l2_2 := heap_lt x2_2
  go_wp2_with fail
  refine (R2.out _).mono ?_
  rintro e v3 ⟨rfl, hb3⟩
  have x3_0 := box_below x2_0 hb3
  have x3_1 := box_below x2_1 hb3
  have x3_2 := box_below x2_2 hb3
  have k3 := k2.trans (hb3.mono k2.size)
  clear hb3 k2 x2_0 x2_1 x2_2 c2_0 c2_1 c2_2 l2_0 l2_1 l2_2
  have c3_0 := box_cells x3_0
  have l3_0 := heap_lt x3_0
  have c3_1 := box_cells x3_1
  have l3_1 := heap_lt x3_1
  have c3_2 := box_cells x3_2
  have l3_2 := heap_lt x3_2
  go_wp2_with fail
  refine (R3.out _).mono ?_
  rintro e v4 ⟨rfl, hb4⟩
  have x4_0 := box_below x3_0 hb4
  have x4_1 := box_below x3_1 hb4
  have x4_2 := box_below x3_2 hb4
  have k4 := k3.trans (hb4.mono k3.size)
  clear hb4 k3 x3_0 x3_1 x3_2 c3_0 c3_1 c3_2 l3_0 l3_1 l3_2
  have c4_0 := box_cells x4_0
  have l4_0 := heap_lt x4_0
  have c4_1 := box_cells x4_1
  have l4_1 := heap_lt x4_1
  have c4_2 := box_cells x4_2
  have l4_2 := heap_lt x4_2
  go_wp2_with fail
  refine (Ca.out _).mono ?_
  rintro e v5 ⟨rfl, hb5⟩
  have x5_0 := box_below x4_0 hb5
  have x5_1 := box_below x4_1 hb5
  have x5_2 := box_below x4_2 hb5
  have k5 := k4.trans (hb5.mono k4.size)
  clear hb5 k4 x4_0 x4_1 x4_2 c4_0 c4_1 c4_2 l4_0 l4_1 l4_2
  have c5_0 := box_cells x5_0
  have l5_0 := heap_lt x5_0
  have c5_1 := box_cells x5_1
  have l5_1 := heap_lt x5_1
  have c5_2 := box_cells x5_2
  have l5_2 := heap_lt x5_2
  have hx0 := Three.three x5_0 x5_1 x5_2
  clear c5_0 l5_0 c5_1 l5_1 c5_2 l5_2
  have hxd : Three w.heap.size k i s b k' i' s' b' k'' i'' s'' b'' v5.drew := hx0
  go_wp2_with fail
  go_region_held3 (fun w' => w'.cell? ⟨w.heap.size, 0, none⟩ = some (.int .u8 k) ∧ w'.cell? ⟨w.heap.size, 1, none⟩ = some (.int .i64 i) ∧ w'.cell? ⟨w.heap.size, 2, none⟩ = some (.string s) ∧ w'.cell? ⟨w.heap.size, 3, none⟩ = some (.bool b) ∧ w'.cell? ⟨w.heap.size + 1, 0, none⟩ = some (.int .u8 k') ∧ w'.cell? ⟨w.heap.size + 1, 1, none⟩ = some (.int .i64 i') ∧ w'.cell? ⟨w.heap.size + 1, 2, none⟩ = some (.string s') ∧ w'.cell? ⟨w.heap.size + 1, 3, none⟩ = some (.bool b') ∧ w'.cell? ⟨w.heap.size + 1 + 1, 0, none⟩ = some (.int .u8 k'') ∧ w'.cell? ⟨w.heap.size + 1 + 1, 1, none⟩ = some (.int .i64 i'') ∧ w'.cell? ⟨w.heap.size + 1 + 1, 2, none⟩ = some (.string s'') ∧ w'.cell? ⟨w.heap.size + 1 + 1, 3, none⟩ = some (.bool b''))
    (first | exact hxd | exact hx5 | exact hx4 | exact hx3 | exact hx2 | exact hx1)
    (first
      | (go_at_call 17; refine (Ctv.out _).mono ?_; rintro e u5 ⟨rfl, ha5⟩; have hx5 := (fun h => Three.below h ha5) hx4)
      | (go_at_call 17; refine (Ctu.out _).mono ?_; rintro e u4 ⟨rfl, ha4⟩; have hx4 := (fun h => Three.below h ha4) hx3)
      | (go_at_call 17; refine (Cvt.out _).mono ?_; rintro e u3 ⟨rfl, ha3⟩; have hx3 := (fun h => Three.below h ha3) hx2)
      | (go_at_call 17; refine (Cut.out _).mono ?_; rintro e u2 ⟨rfl, ha2⟩; have hx2 := (fun h => Three.below h ha2) hx1)
      | (go_at_call 21; refine (Cz.out _).mono ?_; rintro e u1 ⟨rfl, ha1⟩; have hx1 := (fun h => Three.below h ha1) hxd))
  have q1 : Below w.heap.size w u1 := k5.drew.trans (ha1.mono k5.size)
  have q2 := q1.trans (ha2.mono q1.size)
  have q3 := q2.trans (ha3.mono q2.size)
  have q4 := q3.trans (ha4.mono q3.size)
  have q5 := q4.trans (ha5.mono q4.size)
  go_wp2
  go_ret
  exact ⟨rfl, q5⟩
set_option maxRecDepth 100000 in
set_option maxHeartbeats 4000000 in
theorem cellSorts_sff (k i : Int) (s : ByteArray) (b : Bool) (k' i' : Int) (s' : ByteArray) (b' : Bool) (k'' i'' : Int) (s'' : ByteArray) (b'' : Bool) (w : World) (hs : s.size ≤ 9223372036854775807) (hs' : s'.size ≤ 9223372036854775807) (hs'' : s''.size ≤ 9223372036854775807) (hr : Lp.rightB k i s b = true) (hr' : Lp.rightB k' i' s' b' = true) (hr'' : Lp.rightB k'' i'' s'' b'' = true) (ha : Lp.vless ⟨k, i, s, b⟩ ⟨k', i', s', b'⟩ = false) (hz : Lp.vsame ⟨k, i, s, b⟩ ⟨k', i', s', b'⟩ = true) (hut : Lp.vless ⟨k, i, s, b⟩ ⟨k'', i'', s'', b''⟩ = false) (hvt : Lp.vless ⟨k', i', s', b'⟩ ⟨k'', i'', s'', b''⟩ = false) (htu : Lp.vless ⟨k'', i'', s'', b''⟩ ⟨k, i, s, b⟩ = false) (htv : Lp.vless ⟨k'', i'', s'', b''⟩ ⟨k', i', s', b'⟩ = false) (h : Aw w) :
    Calls Tryd.prog 6 #[.agg #[.int .u8 k, .int .i64 i, .string s, .bool b], .agg #[.int .u8 k', .int .i64 i', .string s', .bool b'], .agg #[.int .u8 k'', .int .i64 i'', .string s'', .bool b'']] w fun e w' => e = .returned (.bool true) ∧ Below w.heap.size w w' := by
  have k0 := ba (ba (ba (Below.refl w.heap.size w) (.cells #[.int .u8 k, .int .i64 i, .string s, .bool b] 24)) (.cells #[.int .u8 k', .int .i64 i', .string s', .bool b'] 24)) (.cells #[.int .u8 k'', .int .i64 i'', .string s'', .bool b''] 24)
  have x0 := box_alloc (box_alloc (heap_alloc_new w (.cells #[.int .u8 k, .int .i64 i, .string s, .bool b] 24)) (.cells #[.int .u8 k', .int .i64 i', .string s', .bool b'] 24)) (.cells #[.int .u8 k'', .int .i64 i'', .string s'', .bool b''] 24)
  have x1 := box_alloc (heap_new2 w (.cells #[.int .u8 k, .int .i64 i, .string s, .bool b] 24) (.cells #[.int .u8 k', .int .i64 i', .string s', .bool b'] 24)) (.cells #[.int .u8 k'', .int .i64 i'', .string s'', .bool b''] 24)
  have x2 := heap_new3 w (.cells #[.int .u8 k, .int .i64 i, .string s, .bool b] 24) (.cells #[.int .u8 k', .int .i64 i', .string s', .bool b'] 24) (.cells #[.int .u8 k'', .int .i64 i'', .string s'', .bool b''] 24)
  have R1 := Lib.hid (fun W => right2_at k i s b true hr W hs)
  have R2 := Lib.hid (fun W => right2_at k' i' s' b' true hr' W hs')
  have R3 := Lib.hid (fun W => right2_at k'' i'' s'' b'' true hr'' W hs'')
  have ca := fun W => cless_any k i s b k' i' s' b' W
  rw [ha] at ca
  have Ca := Lib.hid ca
  have cz := fun W => csame_any k i s b k' i' s' b' W
  rw [hz] at cz
  have Cz := Lib.hid cz
  have cut := fun W => cless_any k i s b k'' i'' s'' b'' W
  rw [hut] at cut
  have Cut := Lib.hid cut
  have cvt := fun W => cless_any k' i' s' b' k'' i'' s'' b'' W
  rw [hvt] at cvt
  have Cvt := Lib.hid cvt
  have ctu := fun W => cless_any k'' i'' s'' b'' k i s b W
  rw [htu] at ctu
  have Ctu := Lib.hid ctu
  have ctv := fun W => cless_any k'' i'' s'' b'' k' i' s' b' W
  rw [htv] at ctv
  have Ctv := Lib.hid ctv
  have HH := Lib.hid h
  clear h hs hs' hs'' hr hr' hr'' ha ca hz cz hut cut hvt cvt htu ctu htv ctv
  go_enter Tryd.func6, Tryd.ntmps6
  go_wp2_with fail
  refine (awake2_any _ (aw_below HH.out k0)).mono ?_
  rintro e v1 ⟨rfl, hb1⟩
  have x1_0 := box_below x0 hb1
  have x1_1 := box_below x1 hb1
  have x1_2 := box_below x2 hb1
  have k1 := k0.trans (hb1.mono k0.size)
  clear hb1 k0 x0 x1 x2
  have c1_0 := box_cells x1_0
  have l1_0 := heap_lt x1_0
  have c1_1 := box_cells x1_1
  have l1_1 := heap_lt x1_1
  have c1_2 := box_cells x1_2
  have l1_2 := heap_lt x1_2
  go_wp2_with fail
  refine (R1.out _).mono ?_
  rintro e v2 ⟨rfl, hb2⟩
  have x2_0 := box_below x1_0 hb2
  have x2_1 := box_below x1_1 hb2
  have x2_2 := box_below x1_2 hb2
  have k2 := k1.trans (hb2.mono k1.size)
  clear hb2 k1 x1_0 x1_1 x1_2 c1_0 c1_1 c1_2 l1_0 l1_1 l1_2
  have c2_0 := box_cells x2_0
  have l2_0 := heap_lt x2_0
  have c2_1 := box_cells x2_1
  have l2_1 := heap_lt x2_1
  have c2_2 := box_cells x2_2
  have l2_2 := heap_lt x2_2
  go_wp2_with fail
  refine (R2.out _).mono ?_
  rintro e v3 ⟨rfl, hb3⟩
  have x3_0 := box_below x2_0 hb3
  have x3_1 := box_below x2_1 hb3
  have x3_2 := box_below x2_2 hb3
  have k3 := k2.trans (hb3.mono k2.size)
  clear hb3 k2 x2_0 x2_1 x2_2 c2_0 c2_1 c2_2 l2_0 l2_1 l2_2
  have c3_0 := box_cells x3_0
  have l3_0 := heap_lt x3_0
  have c3_1 := box_cells x3_1
  have l3_1 := heap_lt x3_1
  have c3_2 := box_cells x3_2
  have l3_2 := heap_lt x3_2
  go_wp2_with fail
  refine (R3.out _).mono ?_
  rintro e v4 ⟨rfl, hb4⟩
  have x4_0 := box_below x3_0 hb4
  have x4_1 := box_below x3_1 hb4
  have x4_2 := box_below x3_2 hb4
  have k4 := k3.trans (hb4.mono k3.size)
  clear hb4 k3 x3_0 x3_1 x3_2 c3_0 c3_1 c3_2 l3_0 l3_1 l3_2
  have c4_0 := box_cells x4_0
  have l4_0 := heap_lt x4_0
  have c4_1 := box_cells x4_1
  have l4_1 := heap_lt x4_1
  have c4_2 := box_cells x4_2
  have l4_2 := heap_lt x4_2
  go_wp2_with fail
  refine (Ca.out _).mono ?_
  rintro e v5 ⟨rfl, hb5⟩
  have x5_0 := box_below x4_0 hb5
  have x5_1 := box_below x4_1 hb5
  have x5_2 := box_below x4_2 hb5
  have k5 := k4.trans (hb5.mono k4.size)
  clear hb5 k4 x4_0 x4_1 x4_2 c4_0 c4_1 c4_2 l4_0 l4_1 l4_2
  have c5_0 := box_cells x5_0
  have l5_0 := heap_lt x5_0
  have c5_1 := box_cells x5_1
  have l5_1 := heap_lt x5_1
  have c5_2 := box_cells x5_2
  have l5_2 := heap_lt x5_2
  have hx0 := Three.three x5_0 x5_1 x5_2
  clear c5_0 l5_0 c5_1 l5_1 c5_2 l5_2
  have hxd : Three w.heap.size k i s b k' i' s' b' k'' i'' s'' b'' v5.drew := hx0
  go_wp2_with fail
  go_region_held3 (fun w' => w'.cell? ⟨w.heap.size, 0, none⟩ = some (.int .u8 k) ∧ w'.cell? ⟨w.heap.size, 1, none⟩ = some (.int .i64 i) ∧ w'.cell? ⟨w.heap.size, 2, none⟩ = some (.string s) ∧ w'.cell? ⟨w.heap.size, 3, none⟩ = some (.bool b) ∧ w'.cell? ⟨w.heap.size + 1, 0, none⟩ = some (.int .u8 k') ∧ w'.cell? ⟨w.heap.size + 1, 1, none⟩ = some (.int .i64 i') ∧ w'.cell? ⟨w.heap.size + 1, 2, none⟩ = some (.string s') ∧ w'.cell? ⟨w.heap.size + 1, 3, none⟩ = some (.bool b') ∧ w'.cell? ⟨w.heap.size + 1 + 1, 0, none⟩ = some (.int .u8 k'') ∧ w'.cell? ⟨w.heap.size + 1 + 1, 1, none⟩ = some (.int .i64 i'') ∧ w'.cell? ⟨w.heap.size + 1 + 1, 2, none⟩ = some (.string s'') ∧ w'.cell? ⟨w.heap.size + 1 + 1, 3, none⟩ = some (.bool b''))
    (first | exact hxd | exact hx5 | exact hx4 | exact hx3 | exact hx2 | exact hx1)
    (first
      | (go_at_call 17; refine (Ctv.out _).mono ?_; rintro e u5 ⟨rfl, ha5⟩; have hx5 := (fun h => Three.below h ha5) hx4)
      | (go_at_call 17; refine (Ctu.out _).mono ?_; rintro e u4 ⟨rfl, ha4⟩; have hx4 := (fun h => Three.below h ha4) hx3)
      | (go_at_call 17; refine (Cvt.out _).mono ?_; rintro e u3 ⟨rfl, ha3⟩; have hx3 := (fun h => Three.below h ha3) hx2)
      | (go_at_call 17; refine (Cut.out _).mono ?_; rintro e u2 ⟨rfl, ha2⟩; have hx2 := (fun h => Three.below h ha2) hx1)
      | (go_at_call 21; refine (Cz.out _).mono ?_; rintro e u1 ⟨rfl, ha1⟩; have hx1 := (fun h => Three.below h ha1) hxd))
  have q1 : Below w.heap.size w u1 := k5.drew.trans (ha1.mono k5.size)
  have q2 := q1.trans (ha2.mono q1.size)
  have q3 := q2.trans (ha3.mono q2.size)
  have q4 := q3.trans (ha4.mono q3.size)
  have q5 := q4.trans (ha5.mono q4.size)
  go_wp2
  go_ret
  exact ⟨rfl, q5⟩
theorem cellSorts_walk (k i : Int) (s : ByteArray) (b : Bool) (k' i' : Int) (s' : ByteArray) (b' : Bool) (k'' i'' : Int) (s'' : ByteArray) (b'' : Bool) (w : World) (hs : s.size ≤ 9223372036854775807) (hs' : s'.size ≤ 9223372036854775807) (hs'' : s''.size ≤ 9223372036854775807) (h : Aw w) :
    Calls Tryd.prog 6 #[.agg #[.int .u8 k, .int .i64 i, .string s, .bool b], .agg #[.int .u8 k', .int .i64 i', .string s', .bool b'], .agg #[.int .u8 k'', .int .i64 i'', .string s'', .bool b'']] w fun e w' => e = .returned (.bool true) ∧ Below w.heap.size w w' := by
  rcases Bool.eq_false_or_eq_true (Lp.rightB k i s b) with hr | hr
  · rcases Bool.eq_false_or_eq_true (Lp.rightB k' i' s' b') with hr' | hr'
    · rcases Bool.eq_false_or_eq_true (Lp.rightB k'' i'' s'' b'') with hr'' | hr''
      · rcases Bool.eq_false_or_eq_true (Lp.vless ⟨k, i, s, b⟩ ⟨k', i', s', b'⟩) with h1 | h1
        · have hs0 : Lp.vsame ⟨k, i, s, b⟩ ⟨k', i', s', b'⟩ = false := by unfold Lp.vsame; rw [h1]; rfl
          rcases Bool.eq_false_or_eq_true (Lp.vless ⟨k', i', s', b'⟩ ⟨k'', i'', s'', b''⟩) with h2 | h2
          · exact cellSorts_tt k i s b k' i' s' b' k'' i'' s'' b'' w hs hs' hs'' hr hr' hr'' h1 h2 (Lp.vless_trans h1 h2) hs0 h
          · exact cellSorts_tf k i s b k' i' s' b' k'' i'' s'' b'' w hs hs' hs'' hr hr' hr'' h1 h2 hs0 h
        · rcases Bool.eq_false_or_eq_true (Lp.vsame ⟨k, i, s, b⟩ ⟨k', i', s', b'⟩) with h2 | h2
          · have g := Lp.vless_same ⟨k'', i'', s'', b''⟩ h2
            rcases Bool.eq_false_or_eq_true (Lp.vless ⟨k, i, s, b⟩ ⟨k'', i'', s'', b''⟩) with h3 | h3 <;> rcases Bool.eq_false_or_eq_true (Lp.vless ⟨k'', i'', s'', b''⟩ ⟨k, i, s, b⟩) with h4 | h4
            · exact cellSorts_stt k i s b k' i' s' b' k'' i'' s'' b'' w hs hs' hs'' hr hr' hr'' h1 h2 h3 (g.1.symm.trans h3) h4 (g.2.symm.trans h4) h
            · exact cellSorts_stf k i s b k' i' s' b' k'' i'' s'' b'' w hs hs' hs'' hr hr' hr'' h1 h2 h3 (g.1.symm.trans h3) h4 (g.2.symm.trans h4) h
            · exact cellSorts_sft k i s b k' i' s' b' k'' i'' s'' b'' w hs hs' hs'' hr hr' hr'' h1 h2 h3 (g.1.symm.trans h3) h4 (g.2.symm.trans h4) h
            · exact cellSorts_sff k i s b k' i' s' b' k'' i'' s'' b'' w hs hs' hs'' hr hr' hr'' h1 h2 h3 (g.1.symm.trans h3) h4 (g.2.symm.trans h4) h
          · exact cellSorts_f k i s b k' i' s' b' k'' i'' s'' b'' w hs hs' hs'' hr hr' hr'' h1 h2 h
      · exact cellSorts_no3 k i s b k' i' s' b' k'' i'' s'' b'' w hs hs' hs'' hr hr' hr'' h
    · exact cellSorts_no2 k i s b k' i' s' b' k'' i'' s'' b'' w hs hs' hs'' hr hr' h
  · exact cellSorts_no1 k i s b k' i' s' b' k'' i'' s'' b'' w hs hs' hs'' hr h
end Go.Proofs.YthojikijelijnaaDoor
