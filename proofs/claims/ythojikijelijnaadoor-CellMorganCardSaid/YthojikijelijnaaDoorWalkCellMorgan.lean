/-
  The walk of CellMorgan: it returns true, of any values. Conditions: the listed tables as laid; internal/bytealg.MaxLen holds a number.
-/
import Derived.Test.YthojikijelijnaaDoorCellV
namespace Go.Proofs.YthojikijelijnaaDoor
open Go.RowKit

set_option maxRecDepth 100000 in
set_option maxHeartbeats 4000000 in
theorem cellMorgan_no1 (k i : Int) (s : ByteArray) (b : Bool) (k' i' : Int) (s' : ByteArray) (b' : Bool) (w : World) (hs : s.size ≤ 9223372036854775807) (hs' : s'.size ≤ 9223372036854775807) (hr : Lp.rightB k i s b = false) (h : Aw w) :
    Calls Tryd.prog 9 #[.agg #[.int .u8 k, .int .i64 i, .string s, .bool b], .agg #[.int .u8 k', .int .i64 i', .string s', .bool b']] w fun e w' => e = .returned (.bool true) ∧ Below w.heap.size w w' := by
  have k0 := ba (ba (Below.refl w.heap.size w) (.cells #[.int .u8 k, .int .i64 i, .string s, .bool b] 24)) (.cells #[.int .u8 k', .int .i64 i', .string s', .bool b'] 24)
  have x0 := box_alloc (heap_alloc_new w (.cells #[.int .u8 k, .int .i64 i, .string s, .bool b] 24)) (.cells #[.int .u8 k', .int .i64 i', .string s', .bool b'] 24)
  have x1 := heap_new2 w (.cells #[.int .u8 k, .int .i64 i, .string s, .bool b] 24) (.cells #[.int .u8 k', .int .i64 i', .string s', .bool b'] 24)
  have R1 := Lib.hid (fun W => right2_at k i s b false hr W hs)
  have R2 := Lib.hid (fun W => right2_at k' i' s' b' _ rfl W hs')
  have HH := Lib.hid h
  clear h hr hs hs'
  go_enter Tryd.func9, Tryd.ntmps9
  go_wp2_with fail
  refine (awake2_any _ (aw_below HH.out k0)).mono ?_
  rintro e v1 ⟨rfl, hb1⟩
  have x1_0 := box_below x0 hb1
  have x1_1 := box_below x1 hb1
  have k1 := k0.trans (hb1.mono k0.size)
  clear hb1 k0 x0 x1
  have c1_0 := box_cells x1_0
  have l1_0 := heap_lt x1_0
  have c1_1 := box_cells x1_1
  have l1_1 := heap_lt x1_1
  go_wp2_with fail
  refine (R1.out _).mono ?_
  rintro e v2 ⟨rfl, hb2⟩
  have x2_0 := box_below x1_0 hb2
  have x2_1 := box_below x1_1 hb2
  have k2 := k1.trans (hb2.mono k1.size)
  clear hb2 k1 x1_0 x1_1 c1_0 c1_1 l1_0 l1_1
  have c2_0 := box_cells x2_0
  have l2_0 := heap_lt x2_0
  have c2_1 := box_cells x2_1
  have l2_1 := heap_lt x2_1
  go_wp2
  go_ret
  exact ⟨rfl, k2⟩
set_option maxRecDepth 100000 in
set_option maxHeartbeats 4000000 in
theorem cellMorgan_no2 (k i : Int) (s : ByteArray) (b : Bool) (k' i' : Int) (s' : ByteArray) (b' : Bool) (w : World) (hs : s.size ≤ 9223372036854775807) (hs' : s'.size ≤ 9223372036854775807) (hr : Lp.rightB k i s b = true) (hr' : Lp.rightB k' i' s' b' = false) (h : Aw w) :
    Calls Tryd.prog 9 #[.agg #[.int .u8 k, .int .i64 i, .string s, .bool b], .agg #[.int .u8 k', .int .i64 i', .string s', .bool b']] w fun e w' => e = .returned (.bool true) ∧ Below w.heap.size w w' := by
  have k0 := ba (ba (Below.refl w.heap.size w) (.cells #[.int .u8 k, .int .i64 i, .string s, .bool b] 24)) (.cells #[.int .u8 k', .int .i64 i', .string s', .bool b'] 24)
  have x0 := box_alloc (heap_alloc_new w (.cells #[.int .u8 k, .int .i64 i, .string s, .bool b] 24)) (.cells #[.int .u8 k', .int .i64 i', .string s', .bool b'] 24)
  have x1 := heap_new2 w (.cells #[.int .u8 k, .int .i64 i, .string s, .bool b] 24) (.cells #[.int .u8 k', .int .i64 i', .string s', .bool b'] 24)
  have R1 := Lib.hid (fun W => right2_at k i s b true hr W hs)
  have R2 := Lib.hid (fun W => right2_at k' i' s' b' false hr' W hs')
  have HH := Lib.hid h
  clear h hr hr' hs hs'
  go_enter Tryd.func9, Tryd.ntmps9
  go_wp2_with fail
  refine (awake2_any _ (aw_below HH.out k0)).mono ?_
  rintro e v1 ⟨rfl, hb1⟩
  have x1_0 := box_below x0 hb1
  have x1_1 := box_below x1 hb1
  have k1 := k0.trans (hb1.mono k0.size)
  clear hb1 k0 x0 x1
  have c1_0 := box_cells x1_0
  have l1_0 := heap_lt x1_0
  have c1_1 := box_cells x1_1
  have l1_1 := heap_lt x1_1
  go_wp2_with fail
  refine (R1.out _).mono ?_
  rintro e v2 ⟨rfl, hb2⟩
  have x2_0 := box_below x1_0 hb2
  have x2_1 := box_below x1_1 hb2
  have k2 := k1.trans (hb2.mono k1.size)
  clear hb2 k1 x1_0 x1_1 c1_0 c1_1 l1_0 l1_1
  have c2_0 := box_cells x2_0
  have l2_0 := heap_lt x2_0
  have c2_1 := box_cells x2_1
  have l2_1 := heap_lt x2_1
  go_wp2_with fail
  refine (R2.out _).mono ?_
  rintro e v3 ⟨rfl, hb3⟩
  have x3_0 := box_below x2_0 hb3
  have x3_1 := box_below x2_1 hb3
  have k3 := k2.trans (hb3.mono k2.size)
  clear hb3 k2 x2_0 x2_1 c2_0 c2_1 l2_0 l2_1
  have c3_0 := box_cells x3_0
  have l3_0 := heap_lt x3_0
  have c3_1 := box_cells x3_1
  have l3_1 := heap_lt x3_1
  go_wp2
  go_ret
  exact ⟨rfl, k3⟩
set_option maxRecDepth 100000 in
set_option maxHeartbeats 4000000 in
theorem cellMorgan_bad (k i : Int) (s : ByteArray) (b : Bool) (k' i' : Int) (s' : ByteArray) (b' : Bool) (w : World) (hs : s.size ≤ 9223372036854775807) (hs' : s'.size ≤ 9223372036854775807) (hr : Lp.rightB k i s b = true) (hr' : Lp.rightB k' i' s' b' = true) (hbad : Lp.badT ⟨k, i, s, b⟩ ⟨k', i', s', b'⟩ = true) (h : Aw w) :
    Calls Tryd.prog 9 #[.agg #[.int .u8 k, .int .i64 i, .string s, .bool b], .agg #[.int .u8 k', .int .i64 i', .string s', .bool b']] w fun e w' => e = .returned (.bool true) ∧ Below w.heap.size w w' := by
  have k0 := ba (ba (Below.refl w.heap.size w) (.cells #[.int .u8 k, .int .i64 i, .string s, .bool b] 24)) (.cells #[.int .u8 k', .int .i64 i', .string s', .bool b'] 24)
  have x0 := box_alloc (heap_alloc_new w (.cells #[.int .u8 k, .int .i64 i, .string s, .bool b] 24)) (.cells #[.int .u8 k', .int .i64 i', .string s', .bool b'] 24)
  have x1 := heap_new2 w (.cells #[.int .u8 k, .int .i64 i, .string s, .bool b] 24) (.cells #[.int .u8 k', .int .i64 i', .string s', .bool b'] 24)
  have R1 := Lib.hid (fun W => right2_at k i s b true hr W hs)
  have R2 := Lib.hid (fun W => right2_at k' i' s' b' true hr' W hs')
  have CB := Lib.hid (vand_bad k i s b k' i' s' b' hbad)
  have HH := Lib.hid h
  clear h hr hr' hs hs' hbad
  go_enter Tryd.func9, Tryd.ntmps9
  go_wp2_with fail
  refine (awake2_any _ (aw_below HH.out k0)).mono ?_
  rintro e v1 ⟨rfl, hb1⟩
  have x1_0 := box_below x0 hb1
  have x1_1 := box_below x1 hb1
  have k1 := k0.trans (hb1.mono k0.size)
  clear hb1 k0 x0 x1
  have c1_0 := box_cells x1_0
  have l1_0 := heap_lt x1_0
  have c1_1 := box_cells x1_1
  have l1_1 := heap_lt x1_1
  go_wp2_with fail
  refine (R1.out _).mono ?_
  rintro e v2 ⟨rfl, hb2⟩
  have x2_0 := box_below x1_0 hb2
  have x2_1 := box_below x1_1 hb2
  have k2 := k1.trans (hb2.mono k1.size)
  clear hb2 k1 x1_0 x1_1 c1_0 c1_1 l1_0 l1_1
  have c2_0 := box_cells x2_0
  have l2_0 := heap_lt x2_0
  have c2_1 := box_cells x2_1
  have l2_1 := heap_lt x2_1
  go_wp2_with fail
  refine (R2.out _).mono ?_
  rintro e v3 ⟨rfl, hb3⟩
  have x3_0 := box_below x2_0 hb3
  have x3_1 := box_below x2_1 hb3
  have k3 := k2.trans (hb3.mono k2.size)
  clear hb3 k2 x2_0 x2_1 c2_0 c2_1 l2_0 l2_1
  have c3_0 := box_cells x3_0
  have l3_0 := heap_lt x3_0
  have c3_1 := box_cells x3_1
  have l3_1 := heap_lt x3_1
  go_wp2_with fail
  refine (CB.out _).mono ?_
  rintro e v4 ⟨rfl, hb4⟩
  have x4_0 := box_below x3_0 hb4
  have x4_1 := box_below x3_1 hb4
  have k4 := k3.trans (hb4.mono k3.size)
  clear hb4 k3 x3_0 x3_1 c3_0 c3_1 l3_0 l3_1
  have c4_0 := box_cells x4_0
  have l4_0 := heap_lt x4_0
  have c4_1 := box_cells x4_1
  have l4_1 := heap_lt x4_1
  have y4_0 := box_alloc x4_0 (.cells #[.int .u8 0, .int .i64 0, .string ⟨#[]⟩, .bool false] 24)
  have y4_1 := box_alloc x4_1 (.cells #[.int .u8 0, .int .i64 0, .string ⟨#[]⟩, .bool false] 24)
  have y4_2 := heap_alloc_new v4 (.cells #[.int .u8 0, .int .i64 0, .string ⟨#[]⟩, .bool false] 24)
  have q4 := ba k4 (.cells #[.int .u8 0, .int .i64 0, .string ⟨#[]⟩, .bool false] 24)
  clear k4 x4_0 x4_1
  go_wp2
  go_ret
  exact ⟨rfl, q4⟩
set_option maxRecDepth 100000 in
set_option maxHeartbeats 4000000 in
theorem cellMorgan_nn (w : World) (h : Aw w) :
    Calls Tryd.prog 9 #[.agg #[.int .u8 0, .int .i64 0, .string ⟨#[]⟩, .bool false], .agg #[.int .u8 0, .int .i64 0, .string ⟨#[]⟩, .bool false]] w fun e w' => e = .returned (.bool true) ∧ Below w.heap.size w w' := by
  have k0 := ba (ba (Below.refl w.heap.size w) (.cells #[.int .u8 0, .int .i64 0, .string ⟨#[]⟩, .bool false] 24)) (.cells #[.int .u8 0, .int .i64 0, .string ⟨#[]⟩, .bool false] 24)
  have x0 := box_alloc (heap_alloc_new w (.cells #[.int .u8 0, .int .i64 0, .string ⟨#[]⟩, .bool false] 24)) (.cells #[.int .u8 0, .int .i64 0, .string ⟨#[]⟩, .bool false] 24)
  have x1 := heap_new2 w (.cells #[.int .u8 0, .int .i64 0, .string ⟨#[]⟩, .bool false] 24) (.cells #[.int .u8 0, .int .i64 0, .string ⟨#[]⟩, .bool false] 24)
  have R1 := Lib.hid (fun W => right2_at 0 0 ⟨#[]⟩ false true rfl W (by decide))
  have R2 := Lib.hid (fun W => right2_at 0 0 ⟨#[]⟩ false true rfl W (by decide))
  have HH := Lib.hid h
  clear h
  go_enter Tryd.func9, Tryd.ntmps9
  go_wp2_with fail
  refine (awake2_any _ (aw_below HH.out k0)).mono ?_
  rintro e v1 ⟨rfl, hb1⟩
  have x1_0 := box_below x0 hb1
  have x1_1 := box_below x1 hb1
  have k1 := k0.trans (hb1.mono k0.size)
  clear hb1 k0 x0 x1
  have c1_0 := box_cells x1_0
  have l1_0 := heap_lt x1_0
  have c1_1 := box_cells x1_1
  have l1_1 := heap_lt x1_1
  go_wp2_with fail
  refine (R1.out _).mono ?_
  rintro e v2 ⟨rfl, hb2⟩
  have x2_0 := box_below x1_0 hb2
  have x2_1 := box_below x1_1 hb2
  have k2 := k1.trans (hb2.mono k1.size)
  clear hb2 k1 x1_0 x1_1 c1_0 c1_1 l1_0 l1_1
  have c2_0 := box_cells x2_0
  have l2_0 := heap_lt x2_0
  have c2_1 := box_cells x2_1
  have l2_1 := heap_lt x2_1
  go_wp2_with fail
  refine (R2.out _).mono ?_
  rintro e v3 ⟨rfl, hb3⟩
  have x3_0 := box_below x2_0 hb3
  have x3_1 := box_below x2_1 hb3
  have k3 := k2.trans (hb3.mono k2.size)
  clear hb3 k2 x2_0 x2_1 c2_0 c2_1 l2_0 l2_1
  have c3_0 := box_cells x3_0
  have l3_0 := heap_lt x3_0
  have c3_1 := box_cells x3_1
  have l3_1 := heap_lt x3_1
  go_wp2_with fail
  refine (vand_nn _).mono ?_
  rintro e v4 ⟨rfl, hb4⟩
  have x4_0 := box_below x3_0 hb4
  have x4_1 := box_below x3_1 hb4
  have k4 := k3.trans (hb4.mono k3.size)
  clear hb4 k3 x3_0 x3_1 c3_0 c3_1 l3_0 l3_1
  have c4_0 := box_cells x4_0
  have l4_0 := heap_lt x4_0
  have c4_1 := box_cells x4_1
  have l4_1 := heap_lt x4_1
  have y4_0 := box_alloc x4_0 (.cells #[.int .u8 0, .int .i64 0, .string ⟨#[]⟩, .bool false] 24)
  have y4_1 := box_alloc x4_1 (.cells #[.int .u8 0, .int .i64 0, .string ⟨#[]⟩, .bool false] 24)
  have y4_2 := heap_alloc_new v4 (.cells #[.int .u8 0, .int .i64 0, .string ⟨#[]⟩, .bool false] 24)
  have q4 := ba k4 (.cells #[.int .u8 0, .int .i64 0, .string ⟨#[]⟩, .bool false] 24)
  clear k4 x4_0 x4_1
  go_wp2_with fail
  refine (vnot_n _).mono ?_
  rintro e v5 ⟨rfl, hb5⟩
  have x5_0 := box_below y4_0 hb5
  have x5_1 := box_below y4_1 hb5
  have x5_2 := box_below y4_2 hb5
  have k5 := q4.trans (hb5.mono q4.size)
  clear hb5 q4 y4_0 y4_1 y4_2 c4_0 c4_1 l4_0 l4_1
  have c5_0 := box_cells x5_0
  have l5_0 := heap_lt x5_0
  have c5_1 := box_cells x5_1
  have l5_1 := heap_lt x5_1
  have c5_2 := box_cells x5_2
  have l5_2 := heap_lt x5_2
  have y5_0 := box_alloc x5_0 (.cells #[.int .u8 0, .int .i64 0, .string ⟨#[]⟩, .bool false] 24)
  have y5_1 := box_alloc x5_1 (.cells #[.int .u8 0, .int .i64 0, .string ⟨#[]⟩, .bool false] 24)
  have y5_2 := box_alloc x5_2 (.cells #[.int .u8 0, .int .i64 0, .string ⟨#[]⟩, .bool false] 24)
  have y5_3 := heap_alloc_new v5 (.cells #[.int .u8 0, .int .i64 0, .string ⟨#[]⟩, .bool false] 24)
  have q5 := ba k5 (.cells #[.int .u8 0, .int .i64 0, .string ⟨#[]⟩, .bool false] 24)
  clear k5 x5_0 x5_1 x5_2
  go_wp2_with fail
  refine (vnot_n _).mono ?_
  rintro e v6 ⟨rfl, hb6⟩
  have x6_0 := box_below y5_0 hb6
  have x6_1 := box_below y5_1 hb6
  have x6_2 := box_below y5_2 hb6
  have x6_3 := box_below y5_3 hb6
  have k6 := q5.trans (hb6.mono q5.size)
  clear hb6 q5 y5_0 y5_1 y5_2 y5_3 c5_0 c5_1 c5_2 l5_0 l5_1 l5_2
  have c6_0 := box_cells x6_0
  have l6_0 := heap_lt x6_0
  have c6_1 := box_cells x6_1
  have l6_1 := heap_lt x6_1
  have c6_2 := box_cells x6_2
  have l6_2 := heap_lt x6_2
  have c6_3 := box_cells x6_3
  have l6_3 := heap_lt x6_3
  have y6_0 := box_alloc x6_0 (.cells #[.int .u8 0, .int .i64 0, .string ⟨#[]⟩, .bool false] 24)
  have y6_1 := box_alloc x6_1 (.cells #[.int .u8 0, .int .i64 0, .string ⟨#[]⟩, .bool false] 24)
  have y6_2 := box_alloc x6_2 (.cells #[.int .u8 0, .int .i64 0, .string ⟨#[]⟩, .bool false] 24)
  have y6_3 := box_alloc x6_3 (.cells #[.int .u8 0, .int .i64 0, .string ⟨#[]⟩, .bool false] 24)
  have y6_4 := heap_alloc_new v6 (.cells #[.int .u8 0, .int .i64 0, .string ⟨#[]⟩, .bool false] 24)
  have q6 := ba k6 (.cells #[.int .u8 0, .int .i64 0, .string ⟨#[]⟩, .bool false] 24)
  clear k6 x6_0 x6_1 x6_2 x6_3
  go_wp2_with fail
  refine (vnot_n _).mono ?_
  rintro e v7 ⟨rfl, hb7⟩
  have x7_0 := box_below y6_0 hb7
  have x7_1 := box_below y6_1 hb7
  have x7_2 := box_below y6_2 hb7
  have x7_3 := box_below y6_3 hb7
  have x7_4 := box_below y6_4 hb7
  have k7 := q6.trans (hb7.mono q6.size)
  clear hb7 q6 y6_0 y6_1 y6_2 y6_3 y6_4 c6_0 c6_1 c6_2 c6_3 l6_0 l6_1 l6_2 l6_3
  have c7_0 := box_cells x7_0
  have l7_0 := heap_lt x7_0
  have c7_1 := box_cells x7_1
  have l7_1 := heap_lt x7_1
  have c7_2 := box_cells x7_2
  have l7_2 := heap_lt x7_2
  have c7_3 := box_cells x7_3
  have l7_3 := heap_lt x7_3
  have c7_4 := box_cells x7_4
  have l7_4 := heap_lt x7_4
  have y7_0 := box_alloc x7_0 (.cells #[.int .u8 0, .int .i64 0, .string ⟨#[]⟩, .bool false] 24)
  have y7_1 := box_alloc x7_1 (.cells #[.int .u8 0, .int .i64 0, .string ⟨#[]⟩, .bool false] 24)
  have y7_2 := box_alloc x7_2 (.cells #[.int .u8 0, .int .i64 0, .string ⟨#[]⟩, .bool false] 24)
  have y7_3 := box_alloc x7_3 (.cells #[.int .u8 0, .int .i64 0, .string ⟨#[]⟩, .bool false] 24)
  have y7_4 := box_alloc x7_4 (.cells #[.int .u8 0, .int .i64 0, .string ⟨#[]⟩, .bool false] 24)
  have y7_5 := heap_alloc_new v7 (.cells #[.int .u8 0, .int .i64 0, .string ⟨#[]⟩, .bool false] 24)
  have q7 := ba k7 (.cells #[.int .u8 0, .int .i64 0, .string ⟨#[]⟩, .bool false] 24)
  clear k7 x7_0 x7_1 x7_2 x7_3 x7_4
  go_wp2_with fail
  refine (vor_nn _).mono ?_
  rintro e v8 ⟨rfl, hb8⟩
  have x8_0 := box_below y7_0 hb8
  have x8_1 := box_below y7_1 hb8
  have x8_2 := box_below y7_2 hb8
  have x8_3 := box_below y7_3 hb8
  have x8_4 := box_below y7_4 hb8
  have x8_5 := box_below y7_5 hb8
  have k8 := q7.trans (hb8.mono q7.size)
  clear hb8 q7 y7_0 y7_1 y7_2 y7_3 y7_4 y7_5 c7_0 c7_1 c7_2 c7_3 c7_4 l7_0 l7_1 l7_2 l7_3 l7_4
  have c8_0 := box_cells x8_0
  have l8_0 := heap_lt x8_0
  have c8_1 := box_cells x8_1
  have l8_1 := heap_lt x8_1
  have c8_2 := box_cells x8_2
  have l8_2 := heap_lt x8_2
  have c8_3 := box_cells x8_3
  have l8_3 := heap_lt x8_3
  have c8_4 := box_cells x8_4
  have l8_4 := heap_lt x8_4
  have c8_5 := box_cells x8_5
  have l8_5 := heap_lt x8_5
  have y8_0 := box_alloc x8_0 (.cells #[.int .u8 0, .int .i64 0, .string ⟨#[]⟩, .bool false] 24)
  have y8_1 := box_alloc x8_1 (.cells #[.int .u8 0, .int .i64 0, .string ⟨#[]⟩, .bool false] 24)
  have y8_2 := box_alloc x8_2 (.cells #[.int .u8 0, .int .i64 0, .string ⟨#[]⟩, .bool false] 24)
  have y8_3 := box_alloc x8_3 (.cells #[.int .u8 0, .int .i64 0, .string ⟨#[]⟩, .bool false] 24)
  have y8_4 := box_alloc x8_4 (.cells #[.int .u8 0, .int .i64 0, .string ⟨#[]⟩, .bool false] 24)
  have y8_5 := box_alloc x8_5 (.cells #[.int .u8 0, .int .i64 0, .string ⟨#[]⟩, .bool false] 24)
  have y8_6 := heap_alloc_new v8 (.cells #[.int .u8 0, .int .i64 0, .string ⟨#[]⟩, .bool false] 24)
  have q8 := ba k8 (.cells #[.int .u8 0, .int .i64 0, .string ⟨#[]⟩, .bool false] 24)
  clear k8 x8_0 x8_1 x8_2 x8_3 x8_4 x8_5
  go_wp2
  go_ret
  exact ⟨rfl, q8⟩
set_option maxRecDepth 100000 in
set_option maxHeartbeats 4000000 in
theorem cellMorgan_nt (w : World) (h : Aw w) :
    Calls Tryd.prog 9 #[.agg #[.int .u8 0, .int .i64 0, .string ⟨#[]⟩, .bool false], .agg #[.int .u8 3, .int .i64 0, .string ⟨#[]⟩, .bool true]] w fun e w' => e = .returned (.bool true) ∧ Below w.heap.size w w' := by
  have k0 := ba (ba (Below.refl w.heap.size w) (.cells #[.int .u8 0, .int .i64 0, .string ⟨#[]⟩, .bool false] 24)) (.cells #[.int .u8 3, .int .i64 0, .string ⟨#[]⟩, .bool true] 24)
  have x0 := box_alloc (heap_alloc_new w (.cells #[.int .u8 0, .int .i64 0, .string ⟨#[]⟩, .bool false] 24)) (.cells #[.int .u8 3, .int .i64 0, .string ⟨#[]⟩, .bool true] 24)
  have x1 := heap_new2 w (.cells #[.int .u8 0, .int .i64 0, .string ⟨#[]⟩, .bool false] 24) (.cells #[.int .u8 3, .int .i64 0, .string ⟨#[]⟩, .bool true] 24)
  have R1 := Lib.hid (fun W => right2_at 0 0 ⟨#[]⟩ false true rfl W (by decide))
  have R2 := Lib.hid (fun W => right2_at 3 0 ⟨#[]⟩ true true rfl W (by decide))
  have HH := Lib.hid h
  clear h
  go_enter Tryd.func9, Tryd.ntmps9
  go_wp2_with fail
  refine (awake2_any _ (aw_below HH.out k0)).mono ?_
  rintro e v1 ⟨rfl, hb1⟩
  have x1_0 := box_below x0 hb1
  have x1_1 := box_below x1 hb1
  have k1 := k0.trans (hb1.mono k0.size)
  clear hb1 k0 x0 x1
  have c1_0 := box_cells x1_0
  have l1_0 := heap_lt x1_0
  have c1_1 := box_cells x1_1
  have l1_1 := heap_lt x1_1
  go_wp2_with fail
  refine (R1.out _).mono ?_
  rintro e v2 ⟨rfl, hb2⟩
  have x2_0 := box_below x1_0 hb2
  have x2_1 := box_below x1_1 hb2
  have k2 := k1.trans (hb2.mono k1.size)
  clear hb2 k1 x1_0 x1_1 c1_0 c1_1 l1_0 l1_1
  have c2_0 := box_cells x2_0
  have l2_0 := heap_lt x2_0
  have c2_1 := box_cells x2_1
  have l2_1 := heap_lt x2_1
  go_wp2_with fail
  refine (R2.out _).mono ?_
  rintro e v3 ⟨rfl, hb3⟩
  have x3_0 := box_below x2_0 hb3
  have x3_1 := box_below x2_1 hb3
  have k3 := k2.trans (hb3.mono k2.size)
  clear hb3 k2 x2_0 x2_1 c2_0 c2_1 l2_0 l2_1
  have c3_0 := box_cells x3_0
  have l3_0 := heap_lt x3_0
  have c3_1 := box_cells x3_1
  have l3_1 := heap_lt x3_1
  go_wp2_with fail
  refine (vand_nt _).mono ?_
  rintro e v4 ⟨rfl, hb4⟩
  have x4_0 := box_below x3_0 hb4
  have x4_1 := box_below x3_1 hb4
  have k4 := k3.trans (hb4.mono k3.size)
  clear hb4 k3 x3_0 x3_1 c3_0 c3_1 l3_0 l3_1
  have c4_0 := box_cells x4_0
  have l4_0 := heap_lt x4_0
  have c4_1 := box_cells x4_1
  have l4_1 := heap_lt x4_1
  have y4_0 := box_alloc x4_0 (.cells #[.int .u8 0, .int .i64 0, .string ⟨#[]⟩, .bool false] 24)
  have y4_1 := box_alloc x4_1 (.cells #[.int .u8 0, .int .i64 0, .string ⟨#[]⟩, .bool false] 24)
  have y4_2 := heap_alloc_new v4 (.cells #[.int .u8 0, .int .i64 0, .string ⟨#[]⟩, .bool false] 24)
  have q4 := ba k4 (.cells #[.int .u8 0, .int .i64 0, .string ⟨#[]⟩, .bool false] 24)
  clear k4 x4_0 x4_1
  go_wp2_with fail
  refine (vnot_n _).mono ?_
  rintro e v5 ⟨rfl, hb5⟩
  have x5_0 := box_below y4_0 hb5
  have x5_1 := box_below y4_1 hb5
  have x5_2 := box_below y4_2 hb5
  have k5 := q4.trans (hb5.mono q4.size)
  clear hb5 q4 y4_0 y4_1 y4_2 c4_0 c4_1 l4_0 l4_1
  have c5_0 := box_cells x5_0
  have l5_0 := heap_lt x5_0
  have c5_1 := box_cells x5_1
  have l5_1 := heap_lt x5_1
  have c5_2 := box_cells x5_2
  have l5_2 := heap_lt x5_2
  have y5_0 := box_alloc x5_0 (.cells #[.int .u8 0, .int .i64 0, .string ⟨#[]⟩, .bool false] 24)
  have y5_1 := box_alloc x5_1 (.cells #[.int .u8 0, .int .i64 0, .string ⟨#[]⟩, .bool false] 24)
  have y5_2 := box_alloc x5_2 (.cells #[.int .u8 0, .int .i64 0, .string ⟨#[]⟩, .bool false] 24)
  have y5_3 := heap_alloc_new v5 (.cells #[.int .u8 0, .int .i64 0, .string ⟨#[]⟩, .bool false] 24)
  have q5 := ba k5 (.cells #[.int .u8 0, .int .i64 0, .string ⟨#[]⟩, .bool false] 24)
  clear k5 x5_0 x5_1 x5_2
  go_wp2_with fail
  refine (vnot_n _).mono ?_
  rintro e v6 ⟨rfl, hb6⟩
  have x6_0 := box_below y5_0 hb6
  have x6_1 := box_below y5_1 hb6
  have x6_2 := box_below y5_2 hb6
  have x6_3 := box_below y5_3 hb6
  have k6 := q5.trans (hb6.mono q5.size)
  clear hb6 q5 y5_0 y5_1 y5_2 y5_3 c5_0 c5_1 c5_2 l5_0 l5_1 l5_2
  have c6_0 := box_cells x6_0
  have l6_0 := heap_lt x6_0
  have c6_1 := box_cells x6_1
  have l6_1 := heap_lt x6_1
  have c6_2 := box_cells x6_2
  have l6_2 := heap_lt x6_2
  have c6_3 := box_cells x6_3
  have l6_3 := heap_lt x6_3
  have y6_0 := box_alloc x6_0 (.cells #[.int .u8 0, .int .i64 0, .string ⟨#[]⟩, .bool false] 24)
  have y6_1 := box_alloc x6_1 (.cells #[.int .u8 0, .int .i64 0, .string ⟨#[]⟩, .bool false] 24)
  have y6_2 := box_alloc x6_2 (.cells #[.int .u8 0, .int .i64 0, .string ⟨#[]⟩, .bool false] 24)
  have y6_3 := box_alloc x6_3 (.cells #[.int .u8 0, .int .i64 0, .string ⟨#[]⟩, .bool false] 24)
  have y6_4 := heap_alloc_new v6 (.cells #[.int .u8 0, .int .i64 0, .string ⟨#[]⟩, .bool false] 24)
  have q6 := ba k6 (.cells #[.int .u8 0, .int .i64 0, .string ⟨#[]⟩, .bool false] 24)
  clear k6 x6_0 x6_1 x6_2 x6_3
  go_wp2_with fail
  refine (vnot_t _).mono ?_
  rintro e v7 ⟨rfl, hb7⟩
  have x7_0 := box_below y6_0 hb7
  have x7_1 := box_below y6_1 hb7
  have x7_2 := box_below y6_2 hb7
  have x7_3 := box_below y6_3 hb7
  have x7_4 := box_below y6_4 hb7
  have k7 := q6.trans (hb7.mono q6.size)
  clear hb7 q6 y6_0 y6_1 y6_2 y6_3 y6_4 c6_0 c6_1 c6_2 c6_3 l6_0 l6_1 l6_2 l6_3
  have c7_0 := box_cells x7_0
  have l7_0 := heap_lt x7_0
  have c7_1 := box_cells x7_1
  have l7_1 := heap_lt x7_1
  have c7_2 := box_cells x7_2
  have l7_2 := heap_lt x7_2
  have c7_3 := box_cells x7_3
  have l7_3 := heap_lt x7_3
  have c7_4 := box_cells x7_4
  have l7_4 := heap_lt x7_4
  have y7_0 := box_alloc x7_0 (.cells #[.int .u8 3, .int .i64 0, .string ⟨#[]⟩, .bool false] 24)
  have y7_1 := box_alloc x7_1 (.cells #[.int .u8 3, .int .i64 0, .string ⟨#[]⟩, .bool false] 24)
  have y7_2 := box_alloc x7_2 (.cells #[.int .u8 3, .int .i64 0, .string ⟨#[]⟩, .bool false] 24)
  have y7_3 := box_alloc x7_3 (.cells #[.int .u8 3, .int .i64 0, .string ⟨#[]⟩, .bool false] 24)
  have y7_4 := box_alloc x7_4 (.cells #[.int .u8 3, .int .i64 0, .string ⟨#[]⟩, .bool false] 24)
  have y7_5 := heap_alloc_new v7 (.cells #[.int .u8 3, .int .i64 0, .string ⟨#[]⟩, .bool false] 24)
  have q7 := ba k7 (.cells #[.int .u8 3, .int .i64 0, .string ⟨#[]⟩, .bool false] 24)
  clear k7 x7_0 x7_1 x7_2 x7_3 x7_4
  go_wp2_with fail
  refine (vor_nf _).mono ?_
  rintro e v8 ⟨rfl, hb8⟩
  have x8_0 := box_below y7_0 hb8
  have x8_1 := box_below y7_1 hb8
  have x8_2 := box_below y7_2 hb8
  have x8_3 := box_below y7_3 hb8
  have x8_4 := box_below y7_4 hb8
  have x8_5 := box_below y7_5 hb8
  have k8 := q7.trans (hb8.mono q7.size)
  clear hb8 q7 y7_0 y7_1 y7_2 y7_3 y7_4 y7_5 c7_0 c7_1 c7_2 c7_3 c7_4 l7_0 l7_1 l7_2 l7_3 l7_4
  have c8_0 := box_cells x8_0
  have l8_0 := heap_lt x8_0
  have c8_1 := box_cells x8_1
  have l8_1 := heap_lt x8_1
  have c8_2 := box_cells x8_2
  have l8_2 := heap_lt x8_2
  have c8_3 := box_cells x8_3
  have l8_3 := heap_lt x8_3
  have c8_4 := box_cells x8_4
  have l8_4 := heap_lt x8_4
  have c8_5 := box_cells x8_5
  have l8_5 := heap_lt x8_5
  have y8_0 := box_alloc x8_0 (.cells #[.int .u8 0, .int .i64 0, .string ⟨#[]⟩, .bool false] 24)
  have y8_1 := box_alloc x8_1 (.cells #[.int .u8 0, .int .i64 0, .string ⟨#[]⟩, .bool false] 24)
  have y8_2 := box_alloc x8_2 (.cells #[.int .u8 0, .int .i64 0, .string ⟨#[]⟩, .bool false] 24)
  have y8_3 := box_alloc x8_3 (.cells #[.int .u8 0, .int .i64 0, .string ⟨#[]⟩, .bool false] 24)
  have y8_4 := box_alloc x8_4 (.cells #[.int .u8 0, .int .i64 0, .string ⟨#[]⟩, .bool false] 24)
  have y8_5 := box_alloc x8_5 (.cells #[.int .u8 0, .int .i64 0, .string ⟨#[]⟩, .bool false] 24)
  have y8_6 := heap_alloc_new v8 (.cells #[.int .u8 0, .int .i64 0, .string ⟨#[]⟩, .bool false] 24)
  have q8 := ba k8 (.cells #[.int .u8 0, .int .i64 0, .string ⟨#[]⟩, .bool false] 24)
  clear k8 x8_0 x8_1 x8_2 x8_3 x8_4 x8_5
  go_wp2
  go_ret
  exact ⟨rfl, q8⟩
set_option maxRecDepth 100000 in
set_option maxHeartbeats 4000000 in
theorem cellMorgan_nf (w : World) (h : Aw w) :
    Calls Tryd.prog 9 #[.agg #[.int .u8 0, .int .i64 0, .string ⟨#[]⟩, .bool false], .agg #[.int .u8 3, .int .i64 0, .string ⟨#[]⟩, .bool false]] w fun e w' => e = .returned (.bool true) ∧ Below w.heap.size w w' := by
  have k0 := ba (ba (Below.refl w.heap.size w) (.cells #[.int .u8 0, .int .i64 0, .string ⟨#[]⟩, .bool false] 24)) (.cells #[.int .u8 3, .int .i64 0, .string ⟨#[]⟩, .bool false] 24)
  have x0 := box_alloc (heap_alloc_new w (.cells #[.int .u8 0, .int .i64 0, .string ⟨#[]⟩, .bool false] 24)) (.cells #[.int .u8 3, .int .i64 0, .string ⟨#[]⟩, .bool false] 24)
  have x1 := heap_new2 w (.cells #[.int .u8 0, .int .i64 0, .string ⟨#[]⟩, .bool false] 24) (.cells #[.int .u8 3, .int .i64 0, .string ⟨#[]⟩, .bool false] 24)
  have R1 := Lib.hid (fun W => right2_at 0 0 ⟨#[]⟩ false true rfl W (by decide))
  have R2 := Lib.hid (fun W => right2_at 3 0 ⟨#[]⟩ false true rfl W (by decide))
  have HH := Lib.hid h
  clear h
  go_enter Tryd.func9, Tryd.ntmps9
  go_wp2_with fail
  refine (awake2_any _ (aw_below HH.out k0)).mono ?_
  rintro e v1 ⟨rfl, hb1⟩
  have x1_0 := box_below x0 hb1
  have x1_1 := box_below x1 hb1
  have k1 := k0.trans (hb1.mono k0.size)
  clear hb1 k0 x0 x1
  have c1_0 := box_cells x1_0
  have l1_0 := heap_lt x1_0
  have c1_1 := box_cells x1_1
  have l1_1 := heap_lt x1_1
  go_wp2_with fail
  refine (R1.out _).mono ?_
  rintro e v2 ⟨rfl, hb2⟩
  have x2_0 := box_below x1_0 hb2
  have x2_1 := box_below x1_1 hb2
  have k2 := k1.trans (hb2.mono k1.size)
  clear hb2 k1 x1_0 x1_1 c1_0 c1_1 l1_0 l1_1
  have c2_0 := box_cells x2_0
  have l2_0 := heap_lt x2_0
  have c2_1 := box_cells x2_1
  have l2_1 := heap_lt x2_1
  go_wp2_with fail
  refine (R2.out _).mono ?_
  rintro e v3 ⟨rfl, hb3⟩
  have x3_0 := box_below x2_0 hb3
  have x3_1 := box_below x2_1 hb3
  have k3 := k2.trans (hb3.mono k2.size)
  clear hb3 k2 x2_0 x2_1 c2_0 c2_1 l2_0 l2_1
  have c3_0 := box_cells x3_0
  have l3_0 := heap_lt x3_0
  have c3_1 := box_cells x3_1
  have l3_1 := heap_lt x3_1
  go_wp2_with fail
  refine (vand_nf _).mono ?_
  rintro e v4 ⟨rfl, hb4⟩
  have x4_0 := box_below x3_0 hb4
  have x4_1 := box_below x3_1 hb4
  have k4 := k3.trans (hb4.mono k3.size)
  clear hb4 k3 x3_0 x3_1 c3_0 c3_1 l3_0 l3_1
  have c4_0 := box_cells x4_0
  have l4_0 := heap_lt x4_0
  have c4_1 := box_cells x4_1
  have l4_1 := heap_lt x4_1
  have y4_0 := box_alloc x4_0 (.cells #[.int .u8 3, .int .i64 0, .string ⟨#[]⟩, .bool false] 24)
  have y4_1 := box_alloc x4_1 (.cells #[.int .u8 3, .int .i64 0, .string ⟨#[]⟩, .bool false] 24)
  have y4_2 := heap_alloc_new v4 (.cells #[.int .u8 3, .int .i64 0, .string ⟨#[]⟩, .bool false] 24)
  have q4 := ba k4 (.cells #[.int .u8 3, .int .i64 0, .string ⟨#[]⟩, .bool false] 24)
  clear k4 x4_0 x4_1
  go_wp2_with fail
  refine (vnot_f _).mono ?_
  rintro e v5 ⟨rfl, hb5⟩
  have x5_0 := box_below y4_0 hb5
  have x5_1 := box_below y4_1 hb5
  have x5_2 := box_below y4_2 hb5
  have k5 := q4.trans (hb5.mono q4.size)
  clear hb5 q4 y4_0 y4_1 y4_2 c4_0 c4_1 l4_0 l4_1
  have c5_0 := box_cells x5_0
  have l5_0 := heap_lt x5_0
  have c5_1 := box_cells x5_1
  have l5_1 := heap_lt x5_1
  have c5_2 := box_cells x5_2
  have l5_2 := heap_lt x5_2
  have y5_0 := box_alloc x5_0 (.cells #[.int .u8 3, .int .i64 0, .string ⟨#[]⟩, .bool true] 24)
  have y5_1 := box_alloc x5_1 (.cells #[.int .u8 3, .int .i64 0, .string ⟨#[]⟩, .bool true] 24)
  have y5_2 := box_alloc x5_2 (.cells #[.int .u8 3, .int .i64 0, .string ⟨#[]⟩, .bool true] 24)
  have y5_3 := heap_alloc_new v5 (.cells #[.int .u8 3, .int .i64 0, .string ⟨#[]⟩, .bool true] 24)
  have q5 := ba k5 (.cells #[.int .u8 3, .int .i64 0, .string ⟨#[]⟩, .bool true] 24)
  clear k5 x5_0 x5_1 x5_2
  go_wp2_with fail
  refine (vnot_n _).mono ?_
  rintro e v6 ⟨rfl, hb6⟩
  have x6_0 := box_below y5_0 hb6
  have x6_1 := box_below y5_1 hb6
  have x6_2 := box_below y5_2 hb6
  have x6_3 := box_below y5_3 hb6
  have k6 := q5.trans (hb6.mono q5.size)
  clear hb6 q5 y5_0 y5_1 y5_2 y5_3 c5_0 c5_1 c5_2 l5_0 l5_1 l5_2
  have c6_0 := box_cells x6_0
  have l6_0 := heap_lt x6_0
  have c6_1 := box_cells x6_1
  have l6_1 := heap_lt x6_1
  have c6_2 := box_cells x6_2
  have l6_2 := heap_lt x6_2
  have c6_3 := box_cells x6_3
  have l6_3 := heap_lt x6_3
  have y6_0 := box_alloc x6_0 (.cells #[.int .u8 0, .int .i64 0, .string ⟨#[]⟩, .bool false] 24)
  have y6_1 := box_alloc x6_1 (.cells #[.int .u8 0, .int .i64 0, .string ⟨#[]⟩, .bool false] 24)
  have y6_2 := box_alloc x6_2 (.cells #[.int .u8 0, .int .i64 0, .string ⟨#[]⟩, .bool false] 24)
  have y6_3 := box_alloc x6_3 (.cells #[.int .u8 0, .int .i64 0, .string ⟨#[]⟩, .bool false] 24)
  have y6_4 := heap_alloc_new v6 (.cells #[.int .u8 0, .int .i64 0, .string ⟨#[]⟩, .bool false] 24)
  have q6 := ba k6 (.cells #[.int .u8 0, .int .i64 0, .string ⟨#[]⟩, .bool false] 24)
  clear k6 x6_0 x6_1 x6_2 x6_3
  go_wp2_with fail
  refine (vnot_f _).mono ?_
  rintro e v7 ⟨rfl, hb7⟩
  have x7_0 := box_below y6_0 hb7
  have x7_1 := box_below y6_1 hb7
  have x7_2 := box_below y6_2 hb7
  have x7_3 := box_below y6_3 hb7
  have x7_4 := box_below y6_4 hb7
  have k7 := q6.trans (hb7.mono q6.size)
  clear hb7 q6 y6_0 y6_1 y6_2 y6_3 y6_4 c6_0 c6_1 c6_2 c6_3 l6_0 l6_1 l6_2 l6_3
  have c7_0 := box_cells x7_0
  have l7_0 := heap_lt x7_0
  have c7_1 := box_cells x7_1
  have l7_1 := heap_lt x7_1
  have c7_2 := box_cells x7_2
  have l7_2 := heap_lt x7_2
  have c7_3 := box_cells x7_3
  have l7_3 := heap_lt x7_3
  have c7_4 := box_cells x7_4
  have l7_4 := heap_lt x7_4
  have y7_0 := box_alloc x7_0 (.cells #[.int .u8 3, .int .i64 0, .string ⟨#[]⟩, .bool true] 24)
  have y7_1 := box_alloc x7_1 (.cells #[.int .u8 3, .int .i64 0, .string ⟨#[]⟩, .bool true] 24)
  have y7_2 := box_alloc x7_2 (.cells #[.int .u8 3, .int .i64 0, .string ⟨#[]⟩, .bool true] 24)
  have y7_3 := box_alloc x7_3 (.cells #[.int .u8 3, .int .i64 0, .string ⟨#[]⟩, .bool true] 24)
  have y7_4 := box_alloc x7_4 (.cells #[.int .u8 3, .int .i64 0, .string ⟨#[]⟩, .bool true] 24)
  have y7_5 := heap_alloc_new v7 (.cells #[.int .u8 3, .int .i64 0, .string ⟨#[]⟩, .bool true] 24)
  have q7 := ba k7 (.cells #[.int .u8 3, .int .i64 0, .string ⟨#[]⟩, .bool true] 24)
  clear k7 x7_0 x7_1 x7_2 x7_3 x7_4
  go_wp2_with fail
  refine (vor_nt _).mono ?_
  rintro e v8 ⟨rfl, hb8⟩
  have x8_0 := box_below y7_0 hb8
  have x8_1 := box_below y7_1 hb8
  have x8_2 := box_below y7_2 hb8
  have x8_3 := box_below y7_3 hb8
  have x8_4 := box_below y7_4 hb8
  have x8_5 := box_below y7_5 hb8
  have k8 := q7.trans (hb8.mono q7.size)
  clear hb8 q7 y7_0 y7_1 y7_2 y7_3 y7_4 y7_5 c7_0 c7_1 c7_2 c7_3 c7_4 l7_0 l7_1 l7_2 l7_3 l7_4
  have c8_0 := box_cells x8_0
  have l8_0 := heap_lt x8_0
  have c8_1 := box_cells x8_1
  have l8_1 := heap_lt x8_1
  have c8_2 := box_cells x8_2
  have l8_2 := heap_lt x8_2
  have c8_3 := box_cells x8_3
  have l8_3 := heap_lt x8_3
  have c8_4 := box_cells x8_4
  have l8_4 := heap_lt x8_4
  have c8_5 := box_cells x8_5
  have l8_5 := heap_lt x8_5
  have y8_0 := box_alloc x8_0 (.cells #[.int .u8 3, .int .i64 0, .string ⟨#[]⟩, .bool true] 24)
  have y8_1 := box_alloc x8_1 (.cells #[.int .u8 3, .int .i64 0, .string ⟨#[]⟩, .bool true] 24)
  have y8_2 := box_alloc x8_2 (.cells #[.int .u8 3, .int .i64 0, .string ⟨#[]⟩, .bool true] 24)
  have y8_3 := box_alloc x8_3 (.cells #[.int .u8 3, .int .i64 0, .string ⟨#[]⟩, .bool true] 24)
  have y8_4 := box_alloc x8_4 (.cells #[.int .u8 3, .int .i64 0, .string ⟨#[]⟩, .bool true] 24)
  have y8_5 := box_alloc x8_5 (.cells #[.int .u8 3, .int .i64 0, .string ⟨#[]⟩, .bool true] 24)
  have y8_6 := heap_alloc_new v8 (.cells #[.int .u8 3, .int .i64 0, .string ⟨#[]⟩, .bool true] 24)
  have q8 := ba k8 (.cells #[.int .u8 3, .int .i64 0, .string ⟨#[]⟩, .bool true] 24)
  clear k8 x8_0 x8_1 x8_2 x8_3 x8_4 x8_5
  go_wp2
  go_ret
  exact ⟨rfl, q8⟩
set_option maxRecDepth 100000 in
set_option maxHeartbeats 4000000 in
theorem cellMorgan_tn (w : World) (h : Aw w) :
    Calls Tryd.prog 9 #[.agg #[.int .u8 3, .int .i64 0, .string ⟨#[]⟩, .bool true], .agg #[.int .u8 0, .int .i64 0, .string ⟨#[]⟩, .bool false]] w fun e w' => e = .returned (.bool true) ∧ Below w.heap.size w w' := by
  have k0 := ba (ba (Below.refl w.heap.size w) (.cells #[.int .u8 3, .int .i64 0, .string ⟨#[]⟩, .bool true] 24)) (.cells #[.int .u8 0, .int .i64 0, .string ⟨#[]⟩, .bool false] 24)
  have x0 := box_alloc (heap_alloc_new w (.cells #[.int .u8 3, .int .i64 0, .string ⟨#[]⟩, .bool true] 24)) (.cells #[.int .u8 0, .int .i64 0, .string ⟨#[]⟩, .bool false] 24)
  have x1 := heap_new2 w (.cells #[.int .u8 3, .int .i64 0, .string ⟨#[]⟩, .bool true] 24) (.cells #[.int .u8 0, .int .i64 0, .string ⟨#[]⟩, .bool false] 24)
  have R1 := Lib.hid (fun W => right2_at 3 0 ⟨#[]⟩ true true rfl W (by decide))
  have R2 := Lib.hid (fun W => right2_at 0 0 ⟨#[]⟩ false true rfl W (by decide))
  have HH := Lib.hid h
  clear h
  go_enter Tryd.func9, Tryd.ntmps9
  go_wp2_with fail
  refine (awake2_any _ (aw_below HH.out k0)).mono ?_
  rintro e v1 ⟨rfl, hb1⟩
  have x1_0 := box_below x0 hb1
  have x1_1 := box_below x1 hb1
  have k1 := k0.trans (hb1.mono k0.size)
  clear hb1 k0 x0 x1
  have c1_0 := box_cells x1_0
  have l1_0 := heap_lt x1_0
  have c1_1 := box_cells x1_1
  have l1_1 := heap_lt x1_1
  go_wp2_with fail
  refine (R1.out _).mono ?_
  rintro e v2 ⟨rfl, hb2⟩
  have x2_0 := box_below x1_0 hb2
  have x2_1 := box_below x1_1 hb2
  have k2 := k1.trans (hb2.mono k1.size)
  clear hb2 k1 x1_0 x1_1 c1_0 c1_1 l1_0 l1_1
  have c2_0 := box_cells x2_0
  have l2_0 := heap_lt x2_0
  have c2_1 := box_cells x2_1
  have l2_1 := heap_lt x2_1
  go_wp2_with fail
  refine (R2.out _).mono ?_
  rintro e v3 ⟨rfl, hb3⟩
  have x3_0 := box_below x2_0 hb3
  have x3_1 := box_below x2_1 hb3
  have k3 := k2.trans (hb3.mono k2.size)
  clear hb3 k2 x2_0 x2_1 c2_0 c2_1 l2_0 l2_1
  have c3_0 := box_cells x3_0
  have l3_0 := heap_lt x3_0
  have c3_1 := box_cells x3_1
  have l3_1 := heap_lt x3_1
  go_wp2_with fail
  refine (vand_tn _).mono ?_
  rintro e v4 ⟨rfl, hb4⟩
  have x4_0 := box_below x3_0 hb4
  have x4_1 := box_below x3_1 hb4
  have k4 := k3.trans (hb4.mono k3.size)
  clear hb4 k3 x3_0 x3_1 c3_0 c3_1 l3_0 l3_1
  have c4_0 := box_cells x4_0
  have l4_0 := heap_lt x4_0
  have c4_1 := box_cells x4_1
  have l4_1 := heap_lt x4_1
  have y4_0 := box_alloc x4_0 (.cells #[.int .u8 0, .int .i64 0, .string ⟨#[]⟩, .bool false] 24)
  have y4_1 := box_alloc x4_1 (.cells #[.int .u8 0, .int .i64 0, .string ⟨#[]⟩, .bool false] 24)
  have y4_2 := heap_alloc_new v4 (.cells #[.int .u8 0, .int .i64 0, .string ⟨#[]⟩, .bool false] 24)
  have q4 := ba k4 (.cells #[.int .u8 0, .int .i64 0, .string ⟨#[]⟩, .bool false] 24)
  clear k4 x4_0 x4_1
  go_wp2_with fail
  refine (vnot_n _).mono ?_
  rintro e v5 ⟨rfl, hb5⟩
  have x5_0 := box_below y4_0 hb5
  have x5_1 := box_below y4_1 hb5
  have x5_2 := box_below y4_2 hb5
  have k5 := q4.trans (hb5.mono q4.size)
  clear hb5 q4 y4_0 y4_1 y4_2 c4_0 c4_1 l4_0 l4_1
  have c5_0 := box_cells x5_0
  have l5_0 := heap_lt x5_0
  have c5_1 := box_cells x5_1
  have l5_1 := heap_lt x5_1
  have c5_2 := box_cells x5_2
  have l5_2 := heap_lt x5_2
  have y5_0 := box_alloc x5_0 (.cells #[.int .u8 0, .int .i64 0, .string ⟨#[]⟩, .bool false] 24)
  have y5_1 := box_alloc x5_1 (.cells #[.int .u8 0, .int .i64 0, .string ⟨#[]⟩, .bool false] 24)
  have y5_2 := box_alloc x5_2 (.cells #[.int .u8 0, .int .i64 0, .string ⟨#[]⟩, .bool false] 24)
  have y5_3 := heap_alloc_new v5 (.cells #[.int .u8 0, .int .i64 0, .string ⟨#[]⟩, .bool false] 24)
  have q5 := ba k5 (.cells #[.int .u8 0, .int .i64 0, .string ⟨#[]⟩, .bool false] 24)
  clear k5 x5_0 x5_1 x5_2
  go_wp2_with fail
  refine (vnot_t _).mono ?_
  rintro e v6 ⟨rfl, hb6⟩
  have x6_0 := box_below y5_0 hb6
  have x6_1 := box_below y5_1 hb6
  have x6_2 := box_below y5_2 hb6
  have x6_3 := box_below y5_3 hb6
  have k6 := q5.trans (hb6.mono q5.size)
  clear hb6 q5 y5_0 y5_1 y5_2 y5_3 c5_0 c5_1 c5_2 l5_0 l5_1 l5_2
  have c6_0 := box_cells x6_0
  have l6_0 := heap_lt x6_0
  have c6_1 := box_cells x6_1
  have l6_1 := heap_lt x6_1
  have c6_2 := box_cells x6_2
  have l6_2 := heap_lt x6_2
  have c6_3 := box_cells x6_3
  have l6_3 := heap_lt x6_3
  have y6_0 := box_alloc x6_0 (.cells #[.int .u8 3, .int .i64 0, .string ⟨#[]⟩, .bool false] 24)
  have y6_1 := box_alloc x6_1 (.cells #[.int .u8 3, .int .i64 0, .string ⟨#[]⟩, .bool false] 24)
  have y6_2 := box_alloc x6_2 (.cells #[.int .u8 3, .int .i64 0, .string ⟨#[]⟩, .bool false] 24)
  have y6_3 := box_alloc x6_3 (.cells #[.int .u8 3, .int .i64 0, .string ⟨#[]⟩, .bool false] 24)
  have y6_4 := heap_alloc_new v6 (.cells #[.int .u8 3, .int .i64 0, .string ⟨#[]⟩, .bool false] 24)
  have q6 := ba k6 (.cells #[.int .u8 3, .int .i64 0, .string ⟨#[]⟩, .bool false] 24)
  clear k6 x6_0 x6_1 x6_2 x6_3
  go_wp2_with fail
  refine (vnot_n _).mono ?_
  rintro e v7 ⟨rfl, hb7⟩
  have x7_0 := box_below y6_0 hb7
  have x7_1 := box_below y6_1 hb7
  have x7_2 := box_below y6_2 hb7
  have x7_3 := box_below y6_3 hb7
  have x7_4 := box_below y6_4 hb7
  have k7 := q6.trans (hb7.mono q6.size)
  clear hb7 q6 y6_0 y6_1 y6_2 y6_3 y6_4 c6_0 c6_1 c6_2 c6_3 l6_0 l6_1 l6_2 l6_3
  have c7_0 := box_cells x7_0
  have l7_0 := heap_lt x7_0
  have c7_1 := box_cells x7_1
  have l7_1 := heap_lt x7_1
  have c7_2 := box_cells x7_2
  have l7_2 := heap_lt x7_2
  have c7_3 := box_cells x7_3
  have l7_3 := heap_lt x7_3
  have c7_4 := box_cells x7_4
  have l7_4 := heap_lt x7_4
  have y7_0 := box_alloc x7_0 (.cells #[.int .u8 0, .int .i64 0, .string ⟨#[]⟩, .bool false] 24)
  have y7_1 := box_alloc x7_1 (.cells #[.int .u8 0, .int .i64 0, .string ⟨#[]⟩, .bool false] 24)
  have y7_2 := box_alloc x7_2 (.cells #[.int .u8 0, .int .i64 0, .string ⟨#[]⟩, .bool false] 24)
  have y7_3 := box_alloc x7_3 (.cells #[.int .u8 0, .int .i64 0, .string ⟨#[]⟩, .bool false] 24)
  have y7_4 := box_alloc x7_4 (.cells #[.int .u8 0, .int .i64 0, .string ⟨#[]⟩, .bool false] 24)
  have y7_5 := heap_alloc_new v7 (.cells #[.int .u8 0, .int .i64 0, .string ⟨#[]⟩, .bool false] 24)
  have q7 := ba k7 (.cells #[.int .u8 0, .int .i64 0, .string ⟨#[]⟩, .bool false] 24)
  clear k7 x7_0 x7_1 x7_2 x7_3 x7_4
  go_wp2_with fail
  refine (vor_fn _).mono ?_
  rintro e v8 ⟨rfl, hb8⟩
  have x8_0 := box_below y7_0 hb8
  have x8_1 := box_below y7_1 hb8
  have x8_2 := box_below y7_2 hb8
  have x8_3 := box_below y7_3 hb8
  have x8_4 := box_below y7_4 hb8
  have x8_5 := box_below y7_5 hb8
  have k8 := q7.trans (hb8.mono q7.size)
  clear hb8 q7 y7_0 y7_1 y7_2 y7_3 y7_4 y7_5 c7_0 c7_1 c7_2 c7_3 c7_4 l7_0 l7_1 l7_2 l7_3 l7_4
  have c8_0 := box_cells x8_0
  have l8_0 := heap_lt x8_0
  have c8_1 := box_cells x8_1
  have l8_1 := heap_lt x8_1
  have c8_2 := box_cells x8_2
  have l8_2 := heap_lt x8_2
  have c8_3 := box_cells x8_3
  have l8_3 := heap_lt x8_3
  have c8_4 := box_cells x8_4
  have l8_4 := heap_lt x8_4
  have c8_5 := box_cells x8_5
  have l8_5 := heap_lt x8_5
  have y8_0 := box_alloc x8_0 (.cells #[.int .u8 0, .int .i64 0, .string ⟨#[]⟩, .bool false] 24)
  have y8_1 := box_alloc x8_1 (.cells #[.int .u8 0, .int .i64 0, .string ⟨#[]⟩, .bool false] 24)
  have y8_2 := box_alloc x8_2 (.cells #[.int .u8 0, .int .i64 0, .string ⟨#[]⟩, .bool false] 24)
  have y8_3 := box_alloc x8_3 (.cells #[.int .u8 0, .int .i64 0, .string ⟨#[]⟩, .bool false] 24)
  have y8_4 := box_alloc x8_4 (.cells #[.int .u8 0, .int .i64 0, .string ⟨#[]⟩, .bool false] 24)
  have y8_5 := box_alloc x8_5 (.cells #[.int .u8 0, .int .i64 0, .string ⟨#[]⟩, .bool false] 24)
  have y8_6 := heap_alloc_new v8 (.cells #[.int .u8 0, .int .i64 0, .string ⟨#[]⟩, .bool false] 24)
  have q8 := ba k8 (.cells #[.int .u8 0, .int .i64 0, .string ⟨#[]⟩, .bool false] 24)
  clear k8 x8_0 x8_1 x8_2 x8_3 x8_4 x8_5
  go_wp2
  go_ret
  exact ⟨rfl, q8⟩
set_option maxRecDepth 100000 in
set_option maxHeartbeats 4000000 in
theorem cellMorgan_tt (w : World) (h : Aw w) :
    Calls Tryd.prog 9 #[.agg #[.int .u8 3, .int .i64 0, .string ⟨#[]⟩, .bool true], .agg #[.int .u8 3, .int .i64 0, .string ⟨#[]⟩, .bool true]] w fun e w' => e = .returned (.bool true) ∧ Below w.heap.size w w' := by
  have k0 := ba (ba (Below.refl w.heap.size w) (.cells #[.int .u8 3, .int .i64 0, .string ⟨#[]⟩, .bool true] 24)) (.cells #[.int .u8 3, .int .i64 0, .string ⟨#[]⟩, .bool true] 24)
  have x0 := box_alloc (heap_alloc_new w (.cells #[.int .u8 3, .int .i64 0, .string ⟨#[]⟩, .bool true] 24)) (.cells #[.int .u8 3, .int .i64 0, .string ⟨#[]⟩, .bool true] 24)
  have x1 := heap_new2 w (.cells #[.int .u8 3, .int .i64 0, .string ⟨#[]⟩, .bool true] 24) (.cells #[.int .u8 3, .int .i64 0, .string ⟨#[]⟩, .bool true] 24)
  have R1 := Lib.hid (fun W => right2_at 3 0 ⟨#[]⟩ true true rfl W (by decide))
  have R2 := Lib.hid (fun W => right2_at 3 0 ⟨#[]⟩ true true rfl W (by decide))
  have HH := Lib.hid h
  clear h
  go_enter Tryd.func9, Tryd.ntmps9
  go_wp2_with fail
  refine (awake2_any _ (aw_below HH.out k0)).mono ?_
  rintro e v1 ⟨rfl, hb1⟩
  have x1_0 := box_below x0 hb1
  have x1_1 := box_below x1 hb1
  have k1 := k0.trans (hb1.mono k0.size)
  clear hb1 k0 x0 x1
  have c1_0 := box_cells x1_0
  have l1_0 := heap_lt x1_0
  have c1_1 := box_cells x1_1
  have l1_1 := heap_lt x1_1
  go_wp2_with fail
  refine (R1.out _).mono ?_
  rintro e v2 ⟨rfl, hb2⟩
  have x2_0 := box_below x1_0 hb2
  have x2_1 := box_below x1_1 hb2
  have k2 := k1.trans (hb2.mono k1.size)
  clear hb2 k1 x1_0 x1_1 c1_0 c1_1 l1_0 l1_1
  have c2_0 := box_cells x2_0
  have l2_0 := heap_lt x2_0
  have c2_1 := box_cells x2_1
  have l2_1 := heap_lt x2_1
  go_wp2_with fail
  refine (R2.out _).mono ?_
  rintro e v3 ⟨rfl, hb3⟩
  have x3_0 := box_below x2_0 hb3
  have x3_1 := box_below x2_1 hb3
  have k3 := k2.trans (hb3.mono k2.size)
  clear hb3 k2 x2_0 x2_1 c2_0 c2_1 l2_0 l2_1
  have c3_0 := box_cells x3_0
  have l3_0 := heap_lt x3_0
  have c3_1 := box_cells x3_1
  have l3_1 := heap_lt x3_1
  go_wp2_with fail
  refine (vand_tt _).mono ?_
  rintro e v4 ⟨rfl, hb4⟩
  have x4_0 := box_below x3_0 hb4
  have x4_1 := box_below x3_1 hb4
  have k4 := k3.trans (hb4.mono k3.size)
  clear hb4 k3 x3_0 x3_1 c3_0 c3_1 l3_0 l3_1
  have c4_0 := box_cells x4_0
  have l4_0 := heap_lt x4_0
  have c4_1 := box_cells x4_1
  have l4_1 := heap_lt x4_1
  have y4_0 := box_alloc x4_0 (.cells #[.int .u8 3, .int .i64 0, .string ⟨#[]⟩, .bool true] 24)
  have y4_1 := box_alloc x4_1 (.cells #[.int .u8 3, .int .i64 0, .string ⟨#[]⟩, .bool true] 24)
  have y4_2 := heap_alloc_new v4 (.cells #[.int .u8 3, .int .i64 0, .string ⟨#[]⟩, .bool true] 24)
  have q4 := ba k4 (.cells #[.int .u8 3, .int .i64 0, .string ⟨#[]⟩, .bool true] 24)
  clear k4 x4_0 x4_1
  go_wp2_with fail
  refine (vnot_t _).mono ?_
  rintro e v5 ⟨rfl, hb5⟩
  have x5_0 := box_below y4_0 hb5
  have x5_1 := box_below y4_1 hb5
  have x5_2 := box_below y4_2 hb5
  have k5 := q4.trans (hb5.mono q4.size)
  clear hb5 q4 y4_0 y4_1 y4_2 c4_0 c4_1 l4_0 l4_1
  have c5_0 := box_cells x5_0
  have l5_0 := heap_lt x5_0
  have c5_1 := box_cells x5_1
  have l5_1 := heap_lt x5_1
  have c5_2 := box_cells x5_2
  have l5_2 := heap_lt x5_2
  have y5_0 := box_alloc x5_0 (.cells #[.int .u8 3, .int .i64 0, .string ⟨#[]⟩, .bool false] 24)
  have y5_1 := box_alloc x5_1 (.cells #[.int .u8 3, .int .i64 0, .string ⟨#[]⟩, .bool false] 24)
  have y5_2 := box_alloc x5_2 (.cells #[.int .u8 3, .int .i64 0, .string ⟨#[]⟩, .bool false] 24)
  have y5_3 := heap_alloc_new v5 (.cells #[.int .u8 3, .int .i64 0, .string ⟨#[]⟩, .bool false] 24)
  have q5 := ba k5 (.cells #[.int .u8 3, .int .i64 0, .string ⟨#[]⟩, .bool false] 24)
  clear k5 x5_0 x5_1 x5_2
  go_wp2_with fail
  refine (vnot_t _).mono ?_
  rintro e v6 ⟨rfl, hb6⟩
  have x6_0 := box_below y5_0 hb6
  have x6_1 := box_below y5_1 hb6
  have x6_2 := box_below y5_2 hb6
  have x6_3 := box_below y5_3 hb6
  have k6 := q5.trans (hb6.mono q5.size)
  clear hb6 q5 y5_0 y5_1 y5_2 y5_3 c5_0 c5_1 c5_2 l5_0 l5_1 l5_2
  have c6_0 := box_cells x6_0
  have l6_0 := heap_lt x6_0
  have c6_1 := box_cells x6_1
  have l6_1 := heap_lt x6_1
  have c6_2 := box_cells x6_2
  have l6_2 := heap_lt x6_2
  have c6_3 := box_cells x6_3
  have l6_3 := heap_lt x6_3
  have y6_0 := box_alloc x6_0 (.cells #[.int .u8 3, .int .i64 0, .string ⟨#[]⟩, .bool false] 24)
  have y6_1 := box_alloc x6_1 (.cells #[.int .u8 3, .int .i64 0, .string ⟨#[]⟩, .bool false] 24)
  have y6_2 := box_alloc x6_2 (.cells #[.int .u8 3, .int .i64 0, .string ⟨#[]⟩, .bool false] 24)
  have y6_3 := box_alloc x6_3 (.cells #[.int .u8 3, .int .i64 0, .string ⟨#[]⟩, .bool false] 24)
  have y6_4 := heap_alloc_new v6 (.cells #[.int .u8 3, .int .i64 0, .string ⟨#[]⟩, .bool false] 24)
  have q6 := ba k6 (.cells #[.int .u8 3, .int .i64 0, .string ⟨#[]⟩, .bool false] 24)
  clear k6 x6_0 x6_1 x6_2 x6_3
  go_wp2_with fail
  refine (vnot_t _).mono ?_
  rintro e v7 ⟨rfl, hb7⟩
  have x7_0 := box_below y6_0 hb7
  have x7_1 := box_below y6_1 hb7
  have x7_2 := box_below y6_2 hb7
  have x7_3 := box_below y6_3 hb7
  have x7_4 := box_below y6_4 hb7
  have k7 := q6.trans (hb7.mono q6.size)
  clear hb7 q6 y6_0 y6_1 y6_2 y6_3 y6_4 c6_0 c6_1 c6_2 c6_3 l6_0 l6_1 l6_2 l6_3
  have c7_0 := box_cells x7_0
  have l7_0 := heap_lt x7_0
  have c7_1 := box_cells x7_1
  have l7_1 := heap_lt x7_1
  have c7_2 := box_cells x7_2
  have l7_2 := heap_lt x7_2
  have c7_3 := box_cells x7_3
  have l7_3 := heap_lt x7_3
  have c7_4 := box_cells x7_4
  have l7_4 := heap_lt x7_4
  have y7_0 := box_alloc x7_0 (.cells #[.int .u8 3, .int .i64 0, .string ⟨#[]⟩, .bool false] 24)
  have y7_1 := box_alloc x7_1 (.cells #[.int .u8 3, .int .i64 0, .string ⟨#[]⟩, .bool false] 24)
  have y7_2 := box_alloc x7_2 (.cells #[.int .u8 3, .int .i64 0, .string ⟨#[]⟩, .bool false] 24)
  have y7_3 := box_alloc x7_3 (.cells #[.int .u8 3, .int .i64 0, .string ⟨#[]⟩, .bool false] 24)
  have y7_4 := box_alloc x7_4 (.cells #[.int .u8 3, .int .i64 0, .string ⟨#[]⟩, .bool false] 24)
  have y7_5 := heap_alloc_new v7 (.cells #[.int .u8 3, .int .i64 0, .string ⟨#[]⟩, .bool false] 24)
  have q7 := ba k7 (.cells #[.int .u8 3, .int .i64 0, .string ⟨#[]⟩, .bool false] 24)
  clear k7 x7_0 x7_1 x7_2 x7_3 x7_4
  go_wp2_with fail
  refine (vor_ff _).mono ?_
  rintro e v8 ⟨rfl, hb8⟩
  have x8_0 := box_below y7_0 hb8
  have x8_1 := box_below y7_1 hb8
  have x8_2 := box_below y7_2 hb8
  have x8_3 := box_below y7_3 hb8
  have x8_4 := box_below y7_4 hb8
  have x8_5 := box_below y7_5 hb8
  have k8 := q7.trans (hb8.mono q7.size)
  clear hb8 q7 y7_0 y7_1 y7_2 y7_3 y7_4 y7_5 c7_0 c7_1 c7_2 c7_3 c7_4 l7_0 l7_1 l7_2 l7_3 l7_4
  have c8_0 := box_cells x8_0
  have l8_0 := heap_lt x8_0
  have c8_1 := box_cells x8_1
  have l8_1 := heap_lt x8_1
  have c8_2 := box_cells x8_2
  have l8_2 := heap_lt x8_2
  have c8_3 := box_cells x8_3
  have l8_3 := heap_lt x8_3
  have c8_4 := box_cells x8_4
  have l8_4 := heap_lt x8_4
  have c8_5 := box_cells x8_5
  have l8_5 := heap_lt x8_5
  have y8_0 := box_alloc x8_0 (.cells #[.int .u8 3, .int .i64 0, .string ⟨#[]⟩, .bool false] 24)
  have y8_1 := box_alloc x8_1 (.cells #[.int .u8 3, .int .i64 0, .string ⟨#[]⟩, .bool false] 24)
  have y8_2 := box_alloc x8_2 (.cells #[.int .u8 3, .int .i64 0, .string ⟨#[]⟩, .bool false] 24)
  have y8_3 := box_alloc x8_3 (.cells #[.int .u8 3, .int .i64 0, .string ⟨#[]⟩, .bool false] 24)
  have y8_4 := box_alloc x8_4 (.cells #[.int .u8 3, .int .i64 0, .string ⟨#[]⟩, .bool false] 24)
  have y8_5 := box_alloc x8_5 (.cells #[.int .u8 3, .int .i64 0, .string ⟨#[]⟩, .bool false] 24)
  have y8_6 := heap_alloc_new v8 (.cells #[.int .u8 3, .int .i64 0, .string ⟨#[]⟩, .bool false] 24)
  have q8 := ba k8 (.cells #[.int .u8 3, .int .i64 0, .string ⟨#[]⟩, .bool false] 24)
  clear k8 x8_0 x8_1 x8_2 x8_3 x8_4 x8_5
  go_wp2
  go_ret
  exact ⟨rfl, q8⟩
set_option maxRecDepth 100000 in
set_option maxHeartbeats 4000000 in
theorem cellMorgan_tf (w : World) (h : Aw w) :
    Calls Tryd.prog 9 #[.agg #[.int .u8 3, .int .i64 0, .string ⟨#[]⟩, .bool true], .agg #[.int .u8 3, .int .i64 0, .string ⟨#[]⟩, .bool false]] w fun e w' => e = .returned (.bool true) ∧ Below w.heap.size w w' := by
  have k0 := ba (ba (Below.refl w.heap.size w) (.cells #[.int .u8 3, .int .i64 0, .string ⟨#[]⟩, .bool true] 24)) (.cells #[.int .u8 3, .int .i64 0, .string ⟨#[]⟩, .bool false] 24)
  have x0 := box_alloc (heap_alloc_new w (.cells #[.int .u8 3, .int .i64 0, .string ⟨#[]⟩, .bool true] 24)) (.cells #[.int .u8 3, .int .i64 0, .string ⟨#[]⟩, .bool false] 24)
  have x1 := heap_new2 w (.cells #[.int .u8 3, .int .i64 0, .string ⟨#[]⟩, .bool true] 24) (.cells #[.int .u8 3, .int .i64 0, .string ⟨#[]⟩, .bool false] 24)
  have R1 := Lib.hid (fun W => right2_at 3 0 ⟨#[]⟩ true true rfl W (by decide))
  have R2 := Lib.hid (fun W => right2_at 3 0 ⟨#[]⟩ false true rfl W (by decide))
  have HH := Lib.hid h
  clear h
  go_enter Tryd.func9, Tryd.ntmps9
  go_wp2_with fail
  refine (awake2_any _ (aw_below HH.out k0)).mono ?_
  rintro e v1 ⟨rfl, hb1⟩
  have x1_0 := box_below x0 hb1
  have x1_1 := box_below x1 hb1
  have k1 := k0.trans (hb1.mono k0.size)
  clear hb1 k0 x0 x1
  have c1_0 := box_cells x1_0
  have l1_0 := heap_lt x1_0
  have c1_1 := box_cells x1_1
  have l1_1 := heap_lt x1_1
  go_wp2_with fail
  refine (R1.out _).mono ?_
  rintro e v2 ⟨rfl, hb2⟩
  have x2_0 := box_below x1_0 hb2
  have x2_1 := box_below x1_1 hb2
  have k2 := k1.trans (hb2.mono k1.size)
  clear hb2 k1 x1_0 x1_1 c1_0 c1_1 l1_0 l1_1
  have c2_0 := box_cells x2_0
  have l2_0 := heap_lt x2_0
  have c2_1 := box_cells x2_1
  have l2_1 := heap_lt x2_1
  go_wp2_with fail
  refine (R2.out _).mono ?_
  rintro e v3 ⟨rfl, hb3⟩
  have x3_0 := box_below x2_0 hb3
  have x3_1 := box_below x2_1 hb3
  have k3 := k2.trans (hb3.mono k2.size)
  clear hb3 k2 x2_0 x2_1 c2_0 c2_1 l2_0 l2_1
  have c3_0 := box_cells x3_0
  have l3_0 := heap_lt x3_0
  have c3_1 := box_cells x3_1
  have l3_1 := heap_lt x3_1
  go_wp2_with fail
  refine (vand_tf _).mono ?_
  rintro e v4 ⟨rfl, hb4⟩
  have x4_0 := box_below x3_0 hb4
  have x4_1 := box_below x3_1 hb4
  have k4 := k3.trans (hb4.mono k3.size)
  clear hb4 k3 x3_0 x3_1 c3_0 c3_1 l3_0 l3_1
  have c4_0 := box_cells x4_0
  have l4_0 := heap_lt x4_0
  have c4_1 := box_cells x4_1
  have l4_1 := heap_lt x4_1
  have y4_0 := box_alloc x4_0 (.cells #[.int .u8 3, .int .i64 0, .string ⟨#[]⟩, .bool false] 24)
  have y4_1 := box_alloc x4_1 (.cells #[.int .u8 3, .int .i64 0, .string ⟨#[]⟩, .bool false] 24)
  have y4_2 := heap_alloc_new v4 (.cells #[.int .u8 3, .int .i64 0, .string ⟨#[]⟩, .bool false] 24)
  have q4 := ba k4 (.cells #[.int .u8 3, .int .i64 0, .string ⟨#[]⟩, .bool false] 24)
  clear k4 x4_0 x4_1
  go_wp2_with fail
  refine (vnot_f _).mono ?_
  rintro e v5 ⟨rfl, hb5⟩
  have x5_0 := box_below y4_0 hb5
  have x5_1 := box_below y4_1 hb5
  have x5_2 := box_below y4_2 hb5
  have k5 := q4.trans (hb5.mono q4.size)
  clear hb5 q4 y4_0 y4_1 y4_2 c4_0 c4_1 l4_0 l4_1
  have c5_0 := box_cells x5_0
  have l5_0 := heap_lt x5_0
  have c5_1 := box_cells x5_1
  have l5_1 := heap_lt x5_1
  have c5_2 := box_cells x5_2
  have l5_2 := heap_lt x5_2
  have y5_0 := box_alloc x5_0 (.cells #[.int .u8 3, .int .i64 0, .string ⟨#[]⟩, .bool true] 24)
  have y5_1 := box_alloc x5_1 (.cells #[.int .u8 3, .int .i64 0, .string ⟨#[]⟩, .bool true] 24)
  have y5_2 := box_alloc x5_2 (.cells #[.int .u8 3, .int .i64 0, .string ⟨#[]⟩, .bool true] 24)
  have y5_3 := heap_alloc_new v5 (.cells #[.int .u8 3, .int .i64 0, .string ⟨#[]⟩, .bool true] 24)
  have q5 := ba k5 (.cells #[.int .u8 3, .int .i64 0, .string ⟨#[]⟩, .bool true] 24)
  clear k5 x5_0 x5_1 x5_2
  go_wp2_with fail
  refine (vnot_t _).mono ?_
  rintro e v6 ⟨rfl, hb6⟩
  have x6_0 := box_below y5_0 hb6
  have x6_1 := box_below y5_1 hb6
  have x6_2 := box_below y5_2 hb6
  have x6_3 := box_below y5_3 hb6
  have k6 := q5.trans (hb6.mono q5.size)
  clear hb6 q5 y5_0 y5_1 y5_2 y5_3 c5_0 c5_1 c5_2 l5_0 l5_1 l5_2
  have c6_0 := box_cells x6_0
  have l6_0 := heap_lt x6_0
  have c6_1 := box_cells x6_1
  have l6_1 := heap_lt x6_1
  have c6_2 := box_cells x6_2
  have l6_2 := heap_lt x6_2
  have c6_3 := box_cells x6_3
  have l6_3 := heap_lt x6_3
  have y6_0 := box_alloc x6_0 (.cells #[.int .u8 3, .int .i64 0, .string ⟨#[]⟩, .bool false] 24)
  have y6_1 := box_alloc x6_1 (.cells #[.int .u8 3, .int .i64 0, .string ⟨#[]⟩, .bool false] 24)
  have y6_2 := box_alloc x6_2 (.cells #[.int .u8 3, .int .i64 0, .string ⟨#[]⟩, .bool false] 24)
  have y6_3 := box_alloc x6_3 (.cells #[.int .u8 3, .int .i64 0, .string ⟨#[]⟩, .bool false] 24)
  have y6_4 := heap_alloc_new v6 (.cells #[.int .u8 3, .int .i64 0, .string ⟨#[]⟩, .bool false] 24)
  have q6 := ba k6 (.cells #[.int .u8 3, .int .i64 0, .string ⟨#[]⟩, .bool false] 24)
  clear k6 x6_0 x6_1 x6_2 x6_3
  go_wp2_with fail
  refine (vnot_f _).mono ?_
  rintro e v7 ⟨rfl, hb7⟩
  have x7_0 := box_below y6_0 hb7
  have x7_1 := box_below y6_1 hb7
  have x7_2 := box_below y6_2 hb7
  have x7_3 := box_below y6_3 hb7
  have x7_4 := box_below y6_4 hb7
  have k7 := q6.trans (hb7.mono q6.size)
  clear hb7 q6 y6_0 y6_1 y6_2 y6_3 y6_4 c6_0 c6_1 c6_2 c6_3 l6_0 l6_1 l6_2 l6_3
  have c7_0 := box_cells x7_0
  have l7_0 := heap_lt x7_0
  have c7_1 := box_cells x7_1
  have l7_1 := heap_lt x7_1
  have c7_2 := box_cells x7_2
  have l7_2 := heap_lt x7_2
  have c7_3 := box_cells x7_3
  have l7_3 := heap_lt x7_3
  have c7_4 := box_cells x7_4
  have l7_4 := heap_lt x7_4
  have y7_0 := box_alloc x7_0 (.cells #[.int .u8 3, .int .i64 0, .string ⟨#[]⟩, .bool true] 24)
  have y7_1 := box_alloc x7_1 (.cells #[.int .u8 3, .int .i64 0, .string ⟨#[]⟩, .bool true] 24)
  have y7_2 := box_alloc x7_2 (.cells #[.int .u8 3, .int .i64 0, .string ⟨#[]⟩, .bool true] 24)
  have y7_3 := box_alloc x7_3 (.cells #[.int .u8 3, .int .i64 0, .string ⟨#[]⟩, .bool true] 24)
  have y7_4 := box_alloc x7_4 (.cells #[.int .u8 3, .int .i64 0, .string ⟨#[]⟩, .bool true] 24)
  have y7_5 := heap_alloc_new v7 (.cells #[.int .u8 3, .int .i64 0, .string ⟨#[]⟩, .bool true] 24)
  have q7 := ba k7 (.cells #[.int .u8 3, .int .i64 0, .string ⟨#[]⟩, .bool true] 24)
  clear k7 x7_0 x7_1 x7_2 x7_3 x7_4
  go_wp2_with fail
  refine (vor_ft _).mono ?_
  rintro e v8 ⟨rfl, hb8⟩
  have x8_0 := box_below y7_0 hb8
  have x8_1 := box_below y7_1 hb8
  have x8_2 := box_below y7_2 hb8
  have x8_3 := box_below y7_3 hb8
  have x8_4 := box_below y7_4 hb8
  have x8_5 := box_below y7_5 hb8
  have k8 := q7.trans (hb8.mono q7.size)
  clear hb8 q7 y7_0 y7_1 y7_2 y7_3 y7_4 y7_5 c7_0 c7_1 c7_2 c7_3 c7_4 l7_0 l7_1 l7_2 l7_3 l7_4
  have c8_0 := box_cells x8_0
  have l8_0 := heap_lt x8_0
  have c8_1 := box_cells x8_1
  have l8_1 := heap_lt x8_1
  have c8_2 := box_cells x8_2
  have l8_2 := heap_lt x8_2
  have c8_3 := box_cells x8_3
  have l8_3 := heap_lt x8_3
  have c8_4 := box_cells x8_4
  have l8_4 := heap_lt x8_4
  have c8_5 := box_cells x8_5
  have l8_5 := heap_lt x8_5
  have y8_0 := box_alloc x8_0 (.cells #[.int .u8 3, .int .i64 0, .string ⟨#[]⟩, .bool true] 24)
  have y8_1 := box_alloc x8_1 (.cells #[.int .u8 3, .int .i64 0, .string ⟨#[]⟩, .bool true] 24)
  have y8_2 := box_alloc x8_2 (.cells #[.int .u8 3, .int .i64 0, .string ⟨#[]⟩, .bool true] 24)
  have y8_3 := box_alloc x8_3 (.cells #[.int .u8 3, .int .i64 0, .string ⟨#[]⟩, .bool true] 24)
  have y8_4 := box_alloc x8_4 (.cells #[.int .u8 3, .int .i64 0, .string ⟨#[]⟩, .bool true] 24)
  have y8_5 := box_alloc x8_5 (.cells #[.int .u8 3, .int .i64 0, .string ⟨#[]⟩, .bool true] 24)
  have y8_6 := heap_alloc_new v8 (.cells #[.int .u8 3, .int .i64 0, .string ⟨#[]⟩, .bool true] 24)
  have q8 := ba k8 (.cells #[.int .u8 3, .int .i64 0, .string ⟨#[]⟩, .bool true] 24)
  clear k8 x8_0 x8_1 x8_2 x8_3 x8_4 x8_5
  go_wp2
  go_ret
  exact ⟨rfl, q8⟩
set_option maxRecDepth 100000 in
set_option maxHeartbeats 4000000 in
theorem cellMorgan_fn (w : World) (h : Aw w) :
    Calls Tryd.prog 9 #[.agg #[.int .u8 3, .int .i64 0, .string ⟨#[]⟩, .bool false], .agg #[.int .u8 0, .int .i64 0, .string ⟨#[]⟩, .bool false]] w fun e w' => e = .returned (.bool true) ∧ Below w.heap.size w w' := by
  have k0 := ba (ba (Below.refl w.heap.size w) (.cells #[.int .u8 3, .int .i64 0, .string ⟨#[]⟩, .bool false] 24)) (.cells #[.int .u8 0, .int .i64 0, .string ⟨#[]⟩, .bool false] 24)
  have x0 := box_alloc (heap_alloc_new w (.cells #[.int .u8 3, .int .i64 0, .string ⟨#[]⟩, .bool false] 24)) (.cells #[.int .u8 0, .int .i64 0, .string ⟨#[]⟩, .bool false] 24)
  have x1 := heap_new2 w (.cells #[.int .u8 3, .int .i64 0, .string ⟨#[]⟩, .bool false] 24) (.cells #[.int .u8 0, .int .i64 0, .string ⟨#[]⟩, .bool false] 24)
  have R1 := Lib.hid (fun W => right2_at 3 0 ⟨#[]⟩ false true rfl W (by decide))
  have R2 := Lib.hid (fun W => right2_at 0 0 ⟨#[]⟩ false true rfl W (by decide))
  have HH := Lib.hid h
  clear h
  go_enter Tryd.func9, Tryd.ntmps9
  go_wp2_with fail
  refine (awake2_any _ (aw_below HH.out k0)).mono ?_
  rintro e v1 ⟨rfl, hb1⟩
  have x1_0 := box_below x0 hb1
  have x1_1 := box_below x1 hb1
  have k1 := k0.trans (hb1.mono k0.size)
  clear hb1 k0 x0 x1
  have c1_0 := box_cells x1_0
  have l1_0 := heap_lt x1_0
  have c1_1 := box_cells x1_1
  have l1_1 := heap_lt x1_1
  go_wp2_with fail
  refine (R1.out _).mono ?_
  rintro e v2 ⟨rfl, hb2⟩
  have x2_0 := box_below x1_0 hb2
  have x2_1 := box_below x1_1 hb2
  have k2 := k1.trans (hb2.mono k1.size)
  clear hb2 k1 x1_0 x1_1 c1_0 c1_1 l1_0 l1_1
  have c2_0 := box_cells x2_0
  have l2_0 := heap_lt x2_0
  have c2_1 := box_cells x2_1
  have l2_1 := heap_lt x2_1
  go_wp2_with fail
  refine (R2.out _).mono ?_
  rintro e v3 ⟨rfl, hb3⟩
  have x3_0 := box_below x2_0 hb3
  have x3_1 := box_below x2_1 hb3
  have k3 := k2.trans (hb3.mono k2.size)
  clear hb3 k2 x2_0 x2_1 c2_0 c2_1 l2_0 l2_1
  have c3_0 := box_cells x3_0
  have l3_0 := heap_lt x3_0
  have c3_1 := box_cells x3_1
  have l3_1 := heap_lt x3_1
  go_wp2_with fail
  refine (vand_fn _).mono ?_
  rintro e v4 ⟨rfl, hb4⟩
  have x4_0 := box_below x3_0 hb4
  have x4_1 := box_below x3_1 hb4
  have k4 := k3.trans (hb4.mono k3.size)
  clear hb4 k3 x3_0 x3_1 c3_0 c3_1 l3_0 l3_1
  have c4_0 := box_cells x4_0
  have l4_0 := heap_lt x4_0
  have c4_1 := box_cells x4_1
  have l4_1 := heap_lt x4_1
  have y4_0 := box_alloc x4_0 (.cells #[.int .u8 3, .int .i64 0, .string ⟨#[]⟩, .bool false] 24)
  have y4_1 := box_alloc x4_1 (.cells #[.int .u8 3, .int .i64 0, .string ⟨#[]⟩, .bool false] 24)
  have y4_2 := heap_alloc_new v4 (.cells #[.int .u8 3, .int .i64 0, .string ⟨#[]⟩, .bool false] 24)
  have q4 := ba k4 (.cells #[.int .u8 3, .int .i64 0, .string ⟨#[]⟩, .bool false] 24)
  clear k4 x4_0 x4_1
  go_wp2_with fail
  refine (vnot_f _).mono ?_
  rintro e v5 ⟨rfl, hb5⟩
  have x5_0 := box_below y4_0 hb5
  have x5_1 := box_below y4_1 hb5
  have x5_2 := box_below y4_2 hb5
  have k5 := q4.trans (hb5.mono q4.size)
  clear hb5 q4 y4_0 y4_1 y4_2 c4_0 c4_1 l4_0 l4_1
  have c5_0 := box_cells x5_0
  have l5_0 := heap_lt x5_0
  have c5_1 := box_cells x5_1
  have l5_1 := heap_lt x5_1
  have c5_2 := box_cells x5_2
  have l5_2 := heap_lt x5_2
  have y5_0 := box_alloc x5_0 (.cells #[.int .u8 3, .int .i64 0, .string ⟨#[]⟩, .bool true] 24)
  have y5_1 := box_alloc x5_1 (.cells #[.int .u8 3, .int .i64 0, .string ⟨#[]⟩, .bool true] 24)
  have y5_2 := box_alloc x5_2 (.cells #[.int .u8 3, .int .i64 0, .string ⟨#[]⟩, .bool true] 24)
  have y5_3 := heap_alloc_new v5 (.cells #[.int .u8 3, .int .i64 0, .string ⟨#[]⟩, .bool true] 24)
  have q5 := ba k5 (.cells #[.int .u8 3, .int .i64 0, .string ⟨#[]⟩, .bool true] 24)
  clear k5 x5_0 x5_1 x5_2
  go_wp2_with fail
  refine (vnot_f _).mono ?_
  rintro e v6 ⟨rfl, hb6⟩
  have x6_0 := box_below y5_0 hb6
  have x6_1 := box_below y5_1 hb6
  have x6_2 := box_below y5_2 hb6
  have x6_3 := box_below y5_3 hb6
  have k6 := q5.trans (hb6.mono q5.size)
  clear hb6 q5 y5_0 y5_1 y5_2 y5_3 c5_0 c5_1 c5_2 l5_0 l5_1 l5_2
  have c6_0 := box_cells x6_0
  have l6_0 := heap_lt x6_0
  have c6_1 := box_cells x6_1
  have l6_1 := heap_lt x6_1
  have c6_2 := box_cells x6_2
  have l6_2 := heap_lt x6_2
  have c6_3 := box_cells x6_3
  have l6_3 := heap_lt x6_3
  have y6_0 := box_alloc x6_0 (.cells #[.int .u8 3, .int .i64 0, .string ⟨#[]⟩, .bool true] 24)
  have y6_1 := box_alloc x6_1 (.cells #[.int .u8 3, .int .i64 0, .string ⟨#[]⟩, .bool true] 24)
  have y6_2 := box_alloc x6_2 (.cells #[.int .u8 3, .int .i64 0, .string ⟨#[]⟩, .bool true] 24)
  have y6_3 := box_alloc x6_3 (.cells #[.int .u8 3, .int .i64 0, .string ⟨#[]⟩, .bool true] 24)
  have y6_4 := heap_alloc_new v6 (.cells #[.int .u8 3, .int .i64 0, .string ⟨#[]⟩, .bool true] 24)
  have q6 := ba k6 (.cells #[.int .u8 3, .int .i64 0, .string ⟨#[]⟩, .bool true] 24)
  clear k6 x6_0 x6_1 x6_2 x6_3
  go_wp2_with fail
  refine (vnot_n _).mono ?_
  rintro e v7 ⟨rfl, hb7⟩
  have x7_0 := box_below y6_0 hb7
  have x7_1 := box_below y6_1 hb7
  have x7_2 := box_below y6_2 hb7
  have x7_3 := box_below y6_3 hb7
  have x7_4 := box_below y6_4 hb7
  have k7 := q6.trans (hb7.mono q6.size)
  clear hb7 q6 y6_0 y6_1 y6_2 y6_3 y6_4 c6_0 c6_1 c6_2 c6_3 l6_0 l6_1 l6_2 l6_3
  have c7_0 := box_cells x7_0
  have l7_0 := heap_lt x7_0
  have c7_1 := box_cells x7_1
  have l7_1 := heap_lt x7_1
  have c7_2 := box_cells x7_2
  have l7_2 := heap_lt x7_2
  have c7_3 := box_cells x7_3
  have l7_3 := heap_lt x7_3
  have c7_4 := box_cells x7_4
  have l7_4 := heap_lt x7_4
  have y7_0 := box_alloc x7_0 (.cells #[.int .u8 0, .int .i64 0, .string ⟨#[]⟩, .bool false] 24)
  have y7_1 := box_alloc x7_1 (.cells #[.int .u8 0, .int .i64 0, .string ⟨#[]⟩, .bool false] 24)
  have y7_2 := box_alloc x7_2 (.cells #[.int .u8 0, .int .i64 0, .string ⟨#[]⟩, .bool false] 24)
  have y7_3 := box_alloc x7_3 (.cells #[.int .u8 0, .int .i64 0, .string ⟨#[]⟩, .bool false] 24)
  have y7_4 := box_alloc x7_4 (.cells #[.int .u8 0, .int .i64 0, .string ⟨#[]⟩, .bool false] 24)
  have y7_5 := heap_alloc_new v7 (.cells #[.int .u8 0, .int .i64 0, .string ⟨#[]⟩, .bool false] 24)
  have q7 := ba k7 (.cells #[.int .u8 0, .int .i64 0, .string ⟨#[]⟩, .bool false] 24)
  clear k7 x7_0 x7_1 x7_2 x7_3 x7_4
  go_wp2_with fail
  refine (vor_tn _).mono ?_
  rintro e v8 ⟨rfl, hb8⟩
  have x8_0 := box_below y7_0 hb8
  have x8_1 := box_below y7_1 hb8
  have x8_2 := box_below y7_2 hb8
  have x8_3 := box_below y7_3 hb8
  have x8_4 := box_below y7_4 hb8
  have x8_5 := box_below y7_5 hb8
  have k8 := q7.trans (hb8.mono q7.size)
  clear hb8 q7 y7_0 y7_1 y7_2 y7_3 y7_4 y7_5 c7_0 c7_1 c7_2 c7_3 c7_4 l7_0 l7_1 l7_2 l7_3 l7_4
  have c8_0 := box_cells x8_0
  have l8_0 := heap_lt x8_0
  have c8_1 := box_cells x8_1
  have l8_1 := heap_lt x8_1
  have c8_2 := box_cells x8_2
  have l8_2 := heap_lt x8_2
  have c8_3 := box_cells x8_3
  have l8_3 := heap_lt x8_3
  have c8_4 := box_cells x8_4
  have l8_4 := heap_lt x8_4
  have c8_5 := box_cells x8_5
  have l8_5 := heap_lt x8_5
  have y8_0 := box_alloc x8_0 (.cells #[.int .u8 3, .int .i64 0, .string ⟨#[]⟩, .bool true] 24)
  have y8_1 := box_alloc x8_1 (.cells #[.int .u8 3, .int .i64 0, .string ⟨#[]⟩, .bool true] 24)
  have y8_2 := box_alloc x8_2 (.cells #[.int .u8 3, .int .i64 0, .string ⟨#[]⟩, .bool true] 24)
  have y8_3 := box_alloc x8_3 (.cells #[.int .u8 3, .int .i64 0, .string ⟨#[]⟩, .bool true] 24)
  have y8_4 := box_alloc x8_4 (.cells #[.int .u8 3, .int .i64 0, .string ⟨#[]⟩, .bool true] 24)
  have y8_5 := box_alloc x8_5 (.cells #[.int .u8 3, .int .i64 0, .string ⟨#[]⟩, .bool true] 24)
  have y8_6 := heap_alloc_new v8 (.cells #[.int .u8 3, .int .i64 0, .string ⟨#[]⟩, .bool true] 24)
  have q8 := ba k8 (.cells #[.int .u8 3, .int .i64 0, .string ⟨#[]⟩, .bool true] 24)
  clear k8 x8_0 x8_1 x8_2 x8_3 x8_4 x8_5
  go_wp2
  go_ret
  exact ⟨rfl, q8⟩
set_option maxRecDepth 100000 in
set_option maxHeartbeats 4000000 in
theorem cellMorgan_ft (w : World) (h : Aw w) :
    Calls Tryd.prog 9 #[.agg #[.int .u8 3, .int .i64 0, .string ⟨#[]⟩, .bool false], .agg #[.int .u8 3, .int .i64 0, .string ⟨#[]⟩, .bool true]] w fun e w' => e = .returned (.bool true) ∧ Below w.heap.size w w' := by
  have k0 := ba (ba (Below.refl w.heap.size w) (.cells #[.int .u8 3, .int .i64 0, .string ⟨#[]⟩, .bool false] 24)) (.cells #[.int .u8 3, .int .i64 0, .string ⟨#[]⟩, .bool true] 24)
  have x0 := box_alloc (heap_alloc_new w (.cells #[.int .u8 3, .int .i64 0, .string ⟨#[]⟩, .bool false] 24)) (.cells #[.int .u8 3, .int .i64 0, .string ⟨#[]⟩, .bool true] 24)
  have x1 := heap_new2 w (.cells #[.int .u8 3, .int .i64 0, .string ⟨#[]⟩, .bool false] 24) (.cells #[.int .u8 3, .int .i64 0, .string ⟨#[]⟩, .bool true] 24)
  have R1 := Lib.hid (fun W => right2_at 3 0 ⟨#[]⟩ false true rfl W (by decide))
  have R2 := Lib.hid (fun W => right2_at 3 0 ⟨#[]⟩ true true rfl W (by decide))
  have HH := Lib.hid h
  clear h
  go_enter Tryd.func9, Tryd.ntmps9
  go_wp2_with fail
  refine (awake2_any _ (aw_below HH.out k0)).mono ?_
  rintro e v1 ⟨rfl, hb1⟩
  have x1_0 := box_below x0 hb1
  have x1_1 := box_below x1 hb1
  have k1 := k0.trans (hb1.mono k0.size)
  clear hb1 k0 x0 x1
  have c1_0 := box_cells x1_0
  have l1_0 := heap_lt x1_0
  have c1_1 := box_cells x1_1
  have l1_1 := heap_lt x1_1
  go_wp2_with fail
  refine (R1.out _).mono ?_
  rintro e v2 ⟨rfl, hb2⟩
  have x2_0 := box_below x1_0 hb2
  have x2_1 := box_below x1_1 hb2
  have k2 := k1.trans (hb2.mono k1.size)
  clear hb2 k1 x1_0 x1_1 c1_0 c1_1 l1_0 l1_1
  have c2_0 := box_cells x2_0
  have l2_0 := heap_lt x2_0
  have c2_1 := box_cells x2_1
  have l2_1 := heap_lt x2_1
  go_wp2_with fail
  refine (R2.out _).mono ?_
  rintro e v3 ⟨rfl, hb3⟩
  have x3_0 := box_below x2_0 hb3
  have x3_1 := box_below x2_1 hb3
  have k3 := k2.trans (hb3.mono k2.size)
  clear hb3 k2 x2_0 x2_1 c2_0 c2_1 l2_0 l2_1
  have c3_0 := box_cells x3_0
  have l3_0 := heap_lt x3_0
  have c3_1 := box_cells x3_1
  have l3_1 := heap_lt x3_1
  go_wp2_with fail
  refine (vand_ft _).mono ?_
  rintro e v4 ⟨rfl, hb4⟩
  have x4_0 := box_below x3_0 hb4
  have x4_1 := box_below x3_1 hb4
  have k4 := k3.trans (hb4.mono k3.size)
  clear hb4 k3 x3_0 x3_1 c3_0 c3_1 l3_0 l3_1
  have c4_0 := box_cells x4_0
  have l4_0 := heap_lt x4_0
  have c4_1 := box_cells x4_1
  have l4_1 := heap_lt x4_1
  have y4_0 := box_alloc x4_0 (.cells #[.int .u8 3, .int .i64 0, .string ⟨#[]⟩, .bool false] 24)
  have y4_1 := box_alloc x4_1 (.cells #[.int .u8 3, .int .i64 0, .string ⟨#[]⟩, .bool false] 24)
  have y4_2 := heap_alloc_new v4 (.cells #[.int .u8 3, .int .i64 0, .string ⟨#[]⟩, .bool false] 24)
  have q4 := ba k4 (.cells #[.int .u8 3, .int .i64 0, .string ⟨#[]⟩, .bool false] 24)
  clear k4 x4_0 x4_1
  go_wp2_with fail
  refine (vnot_f _).mono ?_
  rintro e v5 ⟨rfl, hb5⟩
  have x5_0 := box_below y4_0 hb5
  have x5_1 := box_below y4_1 hb5
  have x5_2 := box_below y4_2 hb5
  have k5 := q4.trans (hb5.mono q4.size)
  clear hb5 q4 y4_0 y4_1 y4_2 c4_0 c4_1 l4_0 l4_1
  have c5_0 := box_cells x5_0
  have l5_0 := heap_lt x5_0
  have c5_1 := box_cells x5_1
  have l5_1 := heap_lt x5_1
  have c5_2 := box_cells x5_2
  have l5_2 := heap_lt x5_2
  have y5_0 := box_alloc x5_0 (.cells #[.int .u8 3, .int .i64 0, .string ⟨#[]⟩, .bool true] 24)
  have y5_1 := box_alloc x5_1 (.cells #[.int .u8 3, .int .i64 0, .string ⟨#[]⟩, .bool true] 24)
  have y5_2 := box_alloc x5_2 (.cells #[.int .u8 3, .int .i64 0, .string ⟨#[]⟩, .bool true] 24)
  have y5_3 := heap_alloc_new v5 (.cells #[.int .u8 3, .int .i64 0, .string ⟨#[]⟩, .bool true] 24)
  have q5 := ba k5 (.cells #[.int .u8 3, .int .i64 0, .string ⟨#[]⟩, .bool true] 24)
  clear k5 x5_0 x5_1 x5_2
  go_wp2_with fail
  refine (vnot_f _).mono ?_
  rintro e v6 ⟨rfl, hb6⟩
  have x6_0 := box_below y5_0 hb6
  have x6_1 := box_below y5_1 hb6
  have x6_2 := box_below y5_2 hb6
  have x6_3 := box_below y5_3 hb6
  have k6 := q5.trans (hb6.mono q5.size)
  clear hb6 q5 y5_0 y5_1 y5_2 y5_3 c5_0 c5_1 c5_2 l5_0 l5_1 l5_2
  have c6_0 := box_cells x6_0
  have l6_0 := heap_lt x6_0
  have c6_1 := box_cells x6_1
  have l6_1 := heap_lt x6_1
  have c6_2 := box_cells x6_2
  have l6_2 := heap_lt x6_2
  have c6_3 := box_cells x6_3
  have l6_3 := heap_lt x6_3
  have y6_0 := box_alloc x6_0 (.cells #[.int .u8 3, .int .i64 0, .string ⟨#[]⟩, .bool true] 24)
  have y6_1 := box_alloc x6_1 (.cells #[.int .u8 3, .int .i64 0, .string ⟨#[]⟩, .bool true] 24)
  have y6_2 := box_alloc x6_2 (.cells #[.int .u8 3, .int .i64 0, .string ⟨#[]⟩, .bool true] 24)
  have y6_3 := box_alloc x6_3 (.cells #[.int .u8 3, .int .i64 0, .string ⟨#[]⟩, .bool true] 24)
  have y6_4 := heap_alloc_new v6 (.cells #[.int .u8 3, .int .i64 0, .string ⟨#[]⟩, .bool true] 24)
  have q6 := ba k6 (.cells #[.int .u8 3, .int .i64 0, .string ⟨#[]⟩, .bool true] 24)
  clear k6 x6_0 x6_1 x6_2 x6_3
  go_wp2_with fail
  refine (vnot_t _).mono ?_
  rintro e v7 ⟨rfl, hb7⟩
  have x7_0 := box_below y6_0 hb7
  have x7_1 := box_below y6_1 hb7
  have x7_2 := box_below y6_2 hb7
  have x7_3 := box_below y6_3 hb7
  have x7_4 := box_below y6_4 hb7
  have k7 := q6.trans (hb7.mono q6.size)
  clear hb7 q6 y6_0 y6_1 y6_2 y6_3 y6_4 c6_0 c6_1 c6_2 c6_3 l6_0 l6_1 l6_2 l6_3
  have c7_0 := box_cells x7_0
  have l7_0 := heap_lt x7_0
  have c7_1 := box_cells x7_1
  have l7_1 := heap_lt x7_1
  have c7_2 := box_cells x7_2
  have l7_2 := heap_lt x7_2
  have c7_3 := box_cells x7_3
  have l7_3 := heap_lt x7_3
  have c7_4 := box_cells x7_4
  have l7_4 := heap_lt x7_4
  have y7_0 := box_alloc x7_0 (.cells #[.int .u8 3, .int .i64 0, .string ⟨#[]⟩, .bool false] 24)
  have y7_1 := box_alloc x7_1 (.cells #[.int .u8 3, .int .i64 0, .string ⟨#[]⟩, .bool false] 24)
  have y7_2 := box_alloc x7_2 (.cells #[.int .u8 3, .int .i64 0, .string ⟨#[]⟩, .bool false] 24)
  have y7_3 := box_alloc x7_3 (.cells #[.int .u8 3, .int .i64 0, .string ⟨#[]⟩, .bool false] 24)
  have y7_4 := box_alloc x7_4 (.cells #[.int .u8 3, .int .i64 0, .string ⟨#[]⟩, .bool false] 24)
  have y7_5 := heap_alloc_new v7 (.cells #[.int .u8 3, .int .i64 0, .string ⟨#[]⟩, .bool false] 24)
  have q7 := ba k7 (.cells #[.int .u8 3, .int .i64 0, .string ⟨#[]⟩, .bool false] 24)
  clear k7 x7_0 x7_1 x7_2 x7_3 x7_4
  go_wp2_with fail
  refine (vor_tf _).mono ?_
  rintro e v8 ⟨rfl, hb8⟩
  have x8_0 := box_below y7_0 hb8
  have x8_1 := box_below y7_1 hb8
  have x8_2 := box_below y7_2 hb8
  have x8_3 := box_below y7_3 hb8
  have x8_4 := box_below y7_4 hb8
  have x8_5 := box_below y7_5 hb8
  have k8 := q7.trans (hb8.mono q7.size)
  clear hb8 q7 y7_0 y7_1 y7_2 y7_3 y7_4 y7_5 c7_0 c7_1 c7_2 c7_3 c7_4 l7_0 l7_1 l7_2 l7_3 l7_4
  have c8_0 := box_cells x8_0
  have l8_0 := heap_lt x8_0
  have c8_1 := box_cells x8_1
  have l8_1 := heap_lt x8_1
  have c8_2 := box_cells x8_2
  have l8_2 := heap_lt x8_2
  have c8_3 := box_cells x8_3
  have l8_3 := heap_lt x8_3
  have c8_4 := box_cells x8_4
  have l8_4 := heap_lt x8_4
  have c8_5 := box_cells x8_5
  have l8_5 := heap_lt x8_5
  have y8_0 := box_alloc x8_0 (.cells #[.int .u8 3, .int .i64 0, .string ⟨#[]⟩, .bool true] 24)
  have y8_1 := box_alloc x8_1 (.cells #[.int .u8 3, .int .i64 0, .string ⟨#[]⟩, .bool true] 24)
  have y8_2 := box_alloc x8_2 (.cells #[.int .u8 3, .int .i64 0, .string ⟨#[]⟩, .bool true] 24)
  have y8_3 := box_alloc x8_3 (.cells #[.int .u8 3, .int .i64 0, .string ⟨#[]⟩, .bool true] 24)
  have y8_4 := box_alloc x8_4 (.cells #[.int .u8 3, .int .i64 0, .string ⟨#[]⟩, .bool true] 24)
  have y8_5 := box_alloc x8_5 (.cells #[.int .u8 3, .int .i64 0, .string ⟨#[]⟩, .bool true] 24)
  have y8_6 := heap_alloc_new v8 (.cells #[.int .u8 3, .int .i64 0, .string ⟨#[]⟩, .bool true] 24)
  have q8 := ba k8 (.cells #[.int .u8 3, .int .i64 0, .string ⟨#[]⟩, .bool true] 24)
  clear k8 x8_0 x8_1 x8_2 x8_3 x8_4 x8_5
  go_wp2
  go_ret
  exact ⟨rfl, q8⟩
set_option maxRecDepth 100000 in
set_option maxHeartbeats 4000000 in
theorem cellMorgan_ff (w : World) (h : Aw w) :
    Calls Tryd.prog 9 #[.agg #[.int .u8 3, .int .i64 0, .string ⟨#[]⟩, .bool false], .agg #[.int .u8 3, .int .i64 0, .string ⟨#[]⟩, .bool false]] w fun e w' => e = .returned (.bool true) ∧ Below w.heap.size w w' := by
  have k0 := ba (ba (Below.refl w.heap.size w) (.cells #[.int .u8 3, .int .i64 0, .string ⟨#[]⟩, .bool false] 24)) (.cells #[.int .u8 3, .int .i64 0, .string ⟨#[]⟩, .bool false] 24)
  have x0 := box_alloc (heap_alloc_new w (.cells #[.int .u8 3, .int .i64 0, .string ⟨#[]⟩, .bool false] 24)) (.cells #[.int .u8 3, .int .i64 0, .string ⟨#[]⟩, .bool false] 24)
  have x1 := heap_new2 w (.cells #[.int .u8 3, .int .i64 0, .string ⟨#[]⟩, .bool false] 24) (.cells #[.int .u8 3, .int .i64 0, .string ⟨#[]⟩, .bool false] 24)
  have R1 := Lib.hid (fun W => right2_at 3 0 ⟨#[]⟩ false true rfl W (by decide))
  have R2 := Lib.hid (fun W => right2_at 3 0 ⟨#[]⟩ false true rfl W (by decide))
  have HH := Lib.hid h
  clear h
  go_enter Tryd.func9, Tryd.ntmps9
  go_wp2_with fail
  refine (awake2_any _ (aw_below HH.out k0)).mono ?_
  rintro e v1 ⟨rfl, hb1⟩
  have x1_0 := box_below x0 hb1
  have x1_1 := box_below x1 hb1
  have k1 := k0.trans (hb1.mono k0.size)
  clear hb1 k0 x0 x1
  have c1_0 := box_cells x1_0
  have l1_0 := heap_lt x1_0
  have c1_1 := box_cells x1_1
  have l1_1 := heap_lt x1_1
  go_wp2_with fail
  refine (R1.out _).mono ?_
  rintro e v2 ⟨rfl, hb2⟩
  have x2_0 := box_below x1_0 hb2
  have x2_1 := box_below x1_1 hb2
  have k2 := k1.trans (hb2.mono k1.size)
  clear hb2 k1 x1_0 x1_1 c1_0 c1_1 l1_0 l1_1
  have c2_0 := box_cells x2_0
  have l2_0 := heap_lt x2_0
  have c2_1 := box_cells x2_1
  have l2_1 := heap_lt x2_1
  go_wp2_with fail
  refine (R2.out _).mono ?_
  rintro e v3 ⟨rfl, hb3⟩
  have x3_0 := box_below x2_0 hb3
  have x3_1 := box_below x2_1 hb3
  have k3 := k2.trans (hb3.mono k2.size)
  clear hb3 k2 x2_0 x2_1 c2_0 c2_1 l2_0 l2_1
  have c3_0 := box_cells x3_0
  have l3_0 := heap_lt x3_0
  have c3_1 := box_cells x3_1
  have l3_1 := heap_lt x3_1
  go_wp2_with fail
  refine (vand_ff _).mono ?_
  rintro e v4 ⟨rfl, hb4⟩
  have x4_0 := box_below x3_0 hb4
  have x4_1 := box_below x3_1 hb4
  have k4 := k3.trans (hb4.mono k3.size)
  clear hb4 k3 x3_0 x3_1 c3_0 c3_1 l3_0 l3_1
  have c4_0 := box_cells x4_0
  have l4_0 := heap_lt x4_0
  have c4_1 := box_cells x4_1
  have l4_1 := heap_lt x4_1
  have y4_0 := box_alloc x4_0 (.cells #[.int .u8 3, .int .i64 0, .string ⟨#[]⟩, .bool false] 24)
  have y4_1 := box_alloc x4_1 (.cells #[.int .u8 3, .int .i64 0, .string ⟨#[]⟩, .bool false] 24)
  have y4_2 := heap_alloc_new v4 (.cells #[.int .u8 3, .int .i64 0, .string ⟨#[]⟩, .bool false] 24)
  have q4 := ba k4 (.cells #[.int .u8 3, .int .i64 0, .string ⟨#[]⟩, .bool false] 24)
  clear k4 x4_0 x4_1
  go_wp2_with fail
  refine (vnot_f _).mono ?_
  rintro e v5 ⟨rfl, hb5⟩
  have x5_0 := box_below y4_0 hb5
  have x5_1 := box_below y4_1 hb5
  have x5_2 := box_below y4_2 hb5
  have k5 := q4.trans (hb5.mono q4.size)
  clear hb5 q4 y4_0 y4_1 y4_2 c4_0 c4_1 l4_0 l4_1
  have c5_0 := box_cells x5_0
  have l5_0 := heap_lt x5_0
  have c5_1 := box_cells x5_1
  have l5_1 := heap_lt x5_1
  have c5_2 := box_cells x5_2
  have l5_2 := heap_lt x5_2
  have y5_0 := box_alloc x5_0 (.cells #[.int .u8 3, .int .i64 0, .string ⟨#[]⟩, .bool true] 24)
  have y5_1 := box_alloc x5_1 (.cells #[.int .u8 3, .int .i64 0, .string ⟨#[]⟩, .bool true] 24)
  have y5_2 := box_alloc x5_2 (.cells #[.int .u8 3, .int .i64 0, .string ⟨#[]⟩, .bool true] 24)
  have y5_3 := heap_alloc_new v5 (.cells #[.int .u8 3, .int .i64 0, .string ⟨#[]⟩, .bool true] 24)
  have q5 := ba k5 (.cells #[.int .u8 3, .int .i64 0, .string ⟨#[]⟩, .bool true] 24)
  clear k5 x5_0 x5_1 x5_2
  go_wp2_with fail
  refine (vnot_f _).mono ?_
  rintro e v6 ⟨rfl, hb6⟩
  have x6_0 := box_below y5_0 hb6
  have x6_1 := box_below y5_1 hb6
  have x6_2 := box_below y5_2 hb6
  have x6_3 := box_below y5_3 hb6
  have k6 := q5.trans (hb6.mono q5.size)
  clear hb6 q5 y5_0 y5_1 y5_2 y5_3 c5_0 c5_1 c5_2 l5_0 l5_1 l5_2
  have c6_0 := box_cells x6_0
  have l6_0 := heap_lt x6_0
  have c6_1 := box_cells x6_1
  have l6_1 := heap_lt x6_1
  have c6_2 := box_cells x6_2
  have l6_2 := heap_lt x6_2
  have c6_3 := box_cells x6_3
  have l6_3 := heap_lt x6_3
  have y6_0 := box_alloc x6_0 (.cells #[.int .u8 3, .int .i64 0, .string ⟨#[]⟩, .bool true] 24)
  have y6_1 := box_alloc x6_1 (.cells #[.int .u8 3, .int .i64 0, .string ⟨#[]⟩, .bool true] 24)
  have y6_2 := box_alloc x6_2 (.cells #[.int .u8 3, .int .i64 0, .string ⟨#[]⟩, .bool true] 24)
  have y6_3 := box_alloc x6_3 (.cells #[.int .u8 3, .int .i64 0, .string ⟨#[]⟩, .bool true] 24)
  have y6_4 := heap_alloc_new v6 (.cells #[.int .u8 3, .int .i64 0, .string ⟨#[]⟩, .bool true] 24)
  have q6 := ba k6 (.cells #[.int .u8 3, .int .i64 0, .string ⟨#[]⟩, .bool true] 24)
  clear k6 x6_0 x6_1 x6_2 x6_3
  go_wp2_with fail
  refine (vnot_f _).mono ?_
  rintro e v7 ⟨rfl, hb7⟩
  have x7_0 := box_below y6_0 hb7
  have x7_1 := box_below y6_1 hb7
  have x7_2 := box_below y6_2 hb7
  have x7_3 := box_below y6_3 hb7
  have x7_4 := box_below y6_4 hb7
  have k7 := q6.trans (hb7.mono q6.size)
  clear hb7 q6 y6_0 y6_1 y6_2 y6_3 y6_4 c6_0 c6_1 c6_2 c6_3 l6_0 l6_1 l6_2 l6_3
  have c7_0 := box_cells x7_0
  have l7_0 := heap_lt x7_0
  have c7_1 := box_cells x7_1
  have l7_1 := heap_lt x7_1
  have c7_2 := box_cells x7_2
  have l7_2 := heap_lt x7_2
  have c7_3 := box_cells x7_3
  have l7_3 := heap_lt x7_3
  have c7_4 := box_cells x7_4
  have l7_4 := heap_lt x7_4
  have y7_0 := box_alloc x7_0 (.cells #[.int .u8 3, .int .i64 0, .string ⟨#[]⟩, .bool true] 24)
  have y7_1 := box_alloc x7_1 (.cells #[.int .u8 3, .int .i64 0, .string ⟨#[]⟩, .bool true] 24)
  have y7_2 := box_alloc x7_2 (.cells #[.int .u8 3, .int .i64 0, .string ⟨#[]⟩, .bool true] 24)
  have y7_3 := box_alloc x7_3 (.cells #[.int .u8 3, .int .i64 0, .string ⟨#[]⟩, .bool true] 24)
  have y7_4 := box_alloc x7_4 (.cells #[.int .u8 3, .int .i64 0, .string ⟨#[]⟩, .bool true] 24)
  have y7_5 := heap_alloc_new v7 (.cells #[.int .u8 3, .int .i64 0, .string ⟨#[]⟩, .bool true] 24)
  have q7 := ba k7 (.cells #[.int .u8 3, .int .i64 0, .string ⟨#[]⟩, .bool true] 24)
  clear k7 x7_0 x7_1 x7_2 x7_3 x7_4
  go_wp2_with fail
  refine (vor_tt _).mono ?_
  rintro e v8 ⟨rfl, hb8⟩
  have x8_0 := box_below y7_0 hb8
  have x8_1 := box_below y7_1 hb8
  have x8_2 := box_below y7_2 hb8
  have x8_3 := box_below y7_3 hb8
  have x8_4 := box_below y7_4 hb8
  have x8_5 := box_below y7_5 hb8
  have k8 := q7.trans (hb8.mono q7.size)
  clear hb8 q7 y7_0 y7_1 y7_2 y7_3 y7_4 y7_5 c7_0 c7_1 c7_2 c7_3 c7_4 l7_0 l7_1 l7_2 l7_3 l7_4
  have c8_0 := box_cells x8_0
  have l8_0 := heap_lt x8_0
  have c8_1 := box_cells x8_1
  have l8_1 := heap_lt x8_1
  have c8_2 := box_cells x8_2
  have l8_2 := heap_lt x8_2
  have c8_3 := box_cells x8_3
  have l8_3 := heap_lt x8_3
  have c8_4 := box_cells x8_4
  have l8_4 := heap_lt x8_4
  have c8_5 := box_cells x8_5
  have l8_5 := heap_lt x8_5
  have y8_0 := box_alloc x8_0 (.cells #[.int .u8 3, .int .i64 0, .string ⟨#[]⟩, .bool true] 24)
  have y8_1 := box_alloc x8_1 (.cells #[.int .u8 3, .int .i64 0, .string ⟨#[]⟩, .bool true] 24)
  have y8_2 := box_alloc x8_2 (.cells #[.int .u8 3, .int .i64 0, .string ⟨#[]⟩, .bool true] 24)
  have y8_3 := box_alloc x8_3 (.cells #[.int .u8 3, .int .i64 0, .string ⟨#[]⟩, .bool true] 24)
  have y8_4 := box_alloc x8_4 (.cells #[.int .u8 3, .int .i64 0, .string ⟨#[]⟩, .bool true] 24)
  have y8_5 := box_alloc x8_5 (.cells #[.int .u8 3, .int .i64 0, .string ⟨#[]⟩, .bool true] 24)
  have y8_6 := heap_alloc_new v8 (.cells #[.int .u8 3, .int .i64 0, .string ⟨#[]⟩, .bool true] 24)
  have q8 := ba k8 (.cells #[.int .u8 3, .int .i64 0, .string ⟨#[]⟩, .bool true] 24)
  clear k8 x8_0 x8_1 x8_2 x8_3 x8_4 x8_5
  go_wp2
  go_ret
  exact ⟨rfl, q8⟩
theorem cellMorgan_walk (k i : Int) (s : ByteArray) (b : Bool) (k' i' : Int) (s' : ByteArray) (b' : Bool) (w : World) (hs : s.size ≤ 9223372036854775807) (hs' : s'.size ≤ 9223372036854775807) (h : Aw w) :
    Calls Tryd.prog 9 #[.agg #[.int .u8 k, .int .i64 i, .string s, .bool b], .agg #[.int .u8 k', .int .i64 i', .string s', .bool b']] w fun e w' => e = .returned (.bool true) ∧ Below w.heap.size w w' := by
  rcases Bool.eq_false_or_eq_true (Lp.rightB k i s b) with hr | hr
  · rcases Bool.eq_false_or_eq_true (Lp.rightB k' i' s' b') with hr' | hr'
    · rcases Bool.eq_false_or_eq_true (Lp.badT ⟨k, i, s, b⟩ ⟨k', i', s', b'⟩) with hbad | hbad
      · exact cellMorgan_bad k i s b k' i' s' b' w hs hs' hr hr' hbad h
      · rcases right_class hr with ⟨rfl, rfl, rfl, rfl⟩ | ⟨rfl, rfl, rfl⟩ | ⟨rfl, rfl, rfl, _⟩ | ⟨rfl, rfl, rfl⟩
        · rcases right_class hr' with ⟨rfl, rfl, rfl, rfl⟩ | ⟨rfl, rfl, rfl⟩ | ⟨rfl, rfl, rfl, _⟩ | ⟨rfl, rfl, rfl⟩
          · exact cellMorgan_nn w h
          · cases hbad
          · cases hbad
          · cases b'
            · exact cellMorgan_nf w h
            · exact cellMorgan_nt w h
        · cases hbad
        · cases hbad
        · rcases right_class hr' with ⟨rfl, rfl, rfl, rfl⟩ | ⟨rfl, rfl, rfl⟩ | ⟨rfl, rfl, rfl, _⟩ | ⟨rfl, rfl, rfl⟩
          · cases b
            · exact cellMorgan_fn w h
            · exact cellMorgan_tn w h
          · cases b <;> cases hbad
          · cases b <;> cases hbad
          · cases b <;> cases b'
            · exact cellMorgan_ff w h
            · exact cellMorgan_ft w h
            · exact cellMorgan_tf w h
            · exact cellMorgan_tt w h
    · exact cellMorgan_no2 k i s b k' i' s' b' w hs hs' hr hr' h
  · exact cellMorgan_no1 k i s b k' i' s' b' w hs hs' hr h
end Go.Proofs.YthojikijelijnaaDoor
