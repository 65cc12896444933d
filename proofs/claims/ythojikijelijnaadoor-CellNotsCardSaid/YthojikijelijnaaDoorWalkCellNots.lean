/-
  The walk of CellNots: it returns true, of any values. Conditions: the listed tables as laid; internal/bytealg.MaxLen holds a number.
-/
import Derived.Test.YthojikijelijnaaDoorCellV
namespace Go.Proofs.YthojikijelijnaaDoor
open Go.RowKit

set_option maxRecDepth 100000 in
set_option maxHeartbeats 4000000 in
theorem cellNots_no (k i : Int) (s : ByteArray) (b : Bool) (w : World) (hs : s.size ≤ 9223372036854775807) (hr : Lp.rightB k i s b = false) (h : Aw w) :
    Calls Tryd.prog 10 #[.agg #[.int .u8 k, .int .i64 i, .string s, .bool b]] w fun e w' => e = .returned (.bool true) ∧ Below w.heap.size w w' := by
  have k0 := ba (Below.refl w.heap.size w) (.cells #[.int .u8 k, .int .i64 i, .string s, .bool b] 24)
  have x0 := heap_alloc_new w (.cells #[.int .u8 k, .int .i64 i, .string s, .bool b] 24)
  have R1 := Lib.hid (fun W => right2_at k i s b false hr W hs)
  have HH := Lib.hid h
  clear h hr hs
  go_enter Tryd.func10, Tryd.ntmps10
  go_wp2_with fail
  refine (awake2_any _ (aw_below HH.out k0)).mono ?_
  rintro e v1 ⟨rfl, hb1⟩
  have x1_0 := box_below x0 hb1
  have k1 := k0.trans (hb1.mono k0.size)
  clear hb1 k0 x0
  have c1_0 := box_cells x1_0
  have l1_0 := heap_lt x1_0
  go_wp2_with fail
  refine (R1.out _).mono ?_
  rintro e v2 ⟨rfl, hb2⟩
  have x2_0 := box_below x1_0 hb2
  have k2 := k1.trans (hb2.mono k1.size)
  clear hb2 k1 x1_0 c1_0 l1_0
  have c2_0 := box_cells x2_0
  have l2_0 := heap_lt x2_0
  go_wp2
  go_ret
  exact ⟨rfl, k2⟩
set_option maxRecDepth 100000 in
set_option maxHeartbeats 4000000 in
theorem cellNots_1 (i : Int) (w : World) (h : Aw w) :
    Calls Tryd.prog 10 #[.agg #[.int .u8 1, .int .i64 i, .string ⟨#[]⟩, .bool false]] w fun e w' => e = .returned (.bool true) ∧ Below w.heap.size w w' := by
  have k0 := ba (Below.refl w.heap.size w) (.cells #[.int .u8 1, .int .i64 i, .string ⟨#[]⟩, .bool false] 24)
  have x0 := heap_alloc_new w (.cells #[.int .u8 1, .int .i64 i, .string ⟨#[]⟩, .bool false] 24)
  have R1 := Lib.hid (fun W => right2_at 1 i ⟨#[]⟩ false true rfl W (by decide))
  have HH := Lib.hid h
  clear h
  go_enter Tryd.func10, Tryd.ntmps10
  go_wp2_with fail
  refine (awake2_any _ (aw_below HH.out k0)).mono ?_
  rintro e v1 ⟨rfl, hb1⟩
  have x1_0 := box_below x0 hb1
  have k1 := k0.trans (hb1.mono k0.size)
  clear hb1 k0 x0
  have c1_0 := box_cells x1_0
  have l1_0 := heap_lt x1_0
  go_wp2_with fail
  refine (R1.out _).mono ?_
  rintro e v2 ⟨rfl, hb2⟩
  have x2_0 := box_below x1_0 hb2
  have k2 := k1.trans (hb2.mono k1.size)
  clear hb2 k1 x1_0 c1_0 l1_0
  have c2_0 := box_cells x2_0
  have l2_0 := heap_lt x2_0
  go_wp2_with fail
  refine (vnot_1 _ _ _ _).mono ?_
  rintro e v3 ⟨rfl, hb3⟩
  have x3_0 := box_below x2_0 hb3
  have k3 := k2.trans (hb3.mono k2.size)
  clear hb3 k2 x2_0 c2_0 l2_0
  have c3_0 := box_cells x3_0
  have l3_0 := heap_lt x3_0
  have y3_0 := box_alloc x3_0 (.cells #[.int .u8 0, .int .i64 0, .string ⟨#[]⟩, .bool false] 24)
  have y3_1 := heap_alloc_new v3 (.cells #[.int .u8 0, .int .i64 0, .string ⟨#[]⟩, .bool false] 24)
  have q3 := ba k3 (.cells #[.int .u8 0, .int .i64 0, .string ⟨#[]⟩, .bool false] 24)
  clear k3 x3_0
  go_wp2
  go_ret
  exact ⟨rfl, q3⟩
set_option maxRecDepth 100000 in
set_option maxHeartbeats 4000000 in
theorem cellNots_2 (s : ByteArray) (w : World) (hs : s.size ≤ 9223372036854775807) (hr : Lp.rightB 2 0 s false = true) (h : Aw w) :
    Calls Tryd.prog 10 #[.agg #[.int .u8 2, .int .i64 0, .string s, .bool false]] w fun e w' => e = .returned (.bool true) ∧ Below w.heap.size w w' := by
  have k0 := ba (Below.refl w.heap.size w) (.cells #[.int .u8 2, .int .i64 0, .string s, .bool false] 24)
  have x0 := heap_alloc_new w (.cells #[.int .u8 2, .int .i64 0, .string s, .bool false] 24)
  have R1 := Lib.hid (fun W => right2_at 2 0 s false true hr W hs)
  have HH := Lib.hid h
  clear h hr hs
  go_enter Tryd.func10, Tryd.ntmps10
  go_wp2_with fail
  refine (awake2_any _ (aw_below HH.out k0)).mono ?_
  rintro e v1 ⟨rfl, hb1⟩
  have x1_0 := box_below x0 hb1
  have k1 := k0.trans (hb1.mono k0.size)
  clear hb1 k0 x0
  have c1_0 := box_cells x1_0
  have l1_0 := heap_lt x1_0
  go_wp2_with fail
  refine (R1.out _).mono ?_
  rintro e v2 ⟨rfl, hb2⟩
  have x2_0 := box_below x1_0 hb2
  have k2 := k1.trans (hb2.mono k1.size)
  clear hb2 k1 x1_0 c1_0 l1_0
  have c2_0 := box_cells x2_0
  have l2_0 := heap_lt x2_0
  go_wp2_with fail
  refine (vnot_2 _ _ _ _).mono ?_
  rintro e v3 ⟨rfl, hb3⟩
  have x3_0 := box_below x2_0 hb3
  have k3 := k2.trans (hb3.mono k2.size)
  clear hb3 k2 x2_0 c2_0 l2_0
  have c3_0 := box_cells x3_0
  have l3_0 := heap_lt x3_0
  have y3_0 := box_alloc x3_0 (.cells #[.int .u8 0, .int .i64 0, .string ⟨#[]⟩, .bool false] 24)
  have y3_1 := heap_alloc_new v3 (.cells #[.int .u8 0, .int .i64 0, .string ⟨#[]⟩, .bool false] 24)
  have q3 := ba k3 (.cells #[.int .u8 0, .int .i64 0, .string ⟨#[]⟩, .bool false] 24)
  clear k3 x3_0
  go_wp2
  go_ret
  exact ⟨rfl, q3⟩
set_option maxRecDepth 100000 in
set_option maxHeartbeats 4000000 in
theorem cellNots_n (w : World) (h : Aw w) :
    Calls Tryd.prog 10 #[.agg #[.int .u8 0, .int .i64 0, .string ⟨#[]⟩, .bool false]] w fun e w' => e = .returned (.bool true) ∧ Below w.heap.size w w' := by
  have k0 := ba (Below.refl w.heap.size w) (.cells #[.int .u8 0, .int .i64 0, .string ⟨#[]⟩, .bool false] 24)
  have x0 := heap_alloc_new w (.cells #[.int .u8 0, .int .i64 0, .string ⟨#[]⟩, .bool false] 24)
  have R1 := Lib.hid (fun W => right2_at 0 0 ⟨#[]⟩ false true rfl W (by decide))
  have HH := Lib.hid h
  clear h
  go_enter Tryd.func10, Tryd.ntmps10
  go_wp2_with fail
  refine (awake2_any _ (aw_below HH.out k0)).mono ?_
  rintro e v1 ⟨rfl, hb1⟩
  have x1_0 := box_below x0 hb1
  have k1 := k0.trans (hb1.mono k0.size)
  clear hb1 k0 x0
  have c1_0 := box_cells x1_0
  have l1_0 := heap_lt x1_0
  go_wp2_with fail
  refine (R1.out _).mono ?_
  rintro e v2 ⟨rfl, hb2⟩
  have x2_0 := box_below x1_0 hb2
  have k2 := k1.trans (hb2.mono k1.size)
  clear hb2 k1 x1_0 c1_0 l1_0
  have c2_0 := box_cells x2_0
  have l2_0 := heap_lt x2_0
  go_wp2_with fail
  refine (vnot_n _).mono ?_
  rintro e v3 ⟨rfl, hb3⟩
  have x3_0 := box_below x2_0 hb3
  have k3 := k2.trans (hb3.mono k2.size)
  clear hb3 k2 x2_0 c2_0 l2_0
  have c3_0 := box_cells x3_0
  have l3_0 := heap_lt x3_0
  have y3_0 := box_alloc x3_0 (.cells #[.int .u8 0, .int .i64 0, .string ⟨#[]⟩, .bool false] 24)
  have y3_1 := heap_alloc_new v3 (.cells #[.int .u8 0, .int .i64 0, .string ⟨#[]⟩, .bool false] 24)
  have q3 := ba k3 (.cells #[.int .u8 0, .int .i64 0, .string ⟨#[]⟩, .bool false] 24)
  clear k3 x3_0
  go_wp2_with fail
  refine (vnot_n _).mono ?_
  rintro e v4 ⟨rfl, hb4⟩
  have x4_0 := box_below y3_0 hb4
  have x4_1 := box_below y3_1 hb4
  have k4 := q3.trans (hb4.mono q3.size)
  clear hb4 q3 y3_0 y3_1 c3_0 l3_0
  have c4_0 := box_cells x4_0
  have l4_0 := heap_lt x4_0
  have c4_1 := box_cells x4_1
  have l4_1 := heap_lt x4_1
  have y4_0 := box_alloc x4_0 (.cells #[.int .u8 0, .int .i64 0, .string ⟨#[]⟩, .bool false] 24)
  have y4_1 := box_alloc x4_1 (.cells #[.int .u8 0, .int .i64 0, .string ⟨#[]⟩, .bool false] 24)
  have y4_2 := heap_alloc_new v4 (.cells #[.int .u8 0, .int .i64 0, .string ⟨#[]⟩, .bool false] 24)
  have q4 := ba k4 (.cells #[.int .u8 0, .int .i64 0, .string ⟨#[]⟩, .bool false] 24)
  clear k4 x4_0 x4_1
  go_wp2_with fail
  refine (vand_nn _).mono ?_
  rintro e v5 ⟨rfl, hb5⟩
  have x5_0 := box_below y4_0 hb5
  have x5_1 := box_below y4_1 hb5
  have x5_2 := box_below y4_2 hb5
  have k5 := q4.trans (hb5.mono q4.size)
  clear hb5 q4 y4_0 y4_1 y4_2 c4_0 c4_1 l4_0 l4_1
  have c5_0 := box_cells x5_0
  have l5_0 := heap_lt x5_0
  have c5_1 := box_cells x5_1
  have l5_1 := heap_lt x5_1
  have c5_2 := box_cells x5_2
  have l5_2 := heap_lt x5_2
  have y5_0 := box_alloc x5_0 (.cells #[.int .u8 0, .int .i64 0, .string ⟨#[]⟩, .bool false] 24)
  have y5_1 := box_alloc x5_1 (.cells #[.int .u8 0, .int .i64 0, .string ⟨#[]⟩, .bool false] 24)
  have y5_2 := box_alloc x5_2 (.cells #[.int .u8 0, .int .i64 0, .string ⟨#[]⟩, .bool false] 24)
  have y5_3 := heap_alloc_new v5 (.cells #[.int .u8 0, .int .i64 0, .string ⟨#[]⟩, .bool false] 24)
  have q5 := ba k5 (.cells #[.int .u8 0, .int .i64 0, .string ⟨#[]⟩, .bool false] 24)
  clear k5 x5_0 x5_1 x5_2
  go_wp2_with fail
  refine (vor_nn _).mono ?_
  rintro e v6 ⟨rfl, hb6⟩
  have x6_0 := box_below y5_0 hb6
  have x6_1 := box_below y5_1 hb6
  have x6_2 := box_below y5_2 hb6
  have x6_3 := box_below y5_3 hb6
  have k6 := q5.trans (hb6.mono q5.size)
  clear hb6 q5 y5_0 y5_1 y5_2 y5_3 c5_0 c5_1 c5_2 l5_0 l5_1 l5_2
  have c6_0 := box_cells x6_0
  have l6_0 := heap_lt x6_0
  have c6_1 := box_cells x6_1
  have l6_1 := heap_lt x6_1
  have c6_2 := box_cells x6_2
  have l6_2 := heap_lt x6_2
  have c6_3 := box_cells x6_3
  have l6_3 := heap_lt x6_3
  have y6_0 := box_alloc x6_0 (.cells #[.int .u8 0, .int .i64 0, .string ⟨#[]⟩, .bool false] 24)
  have y6_1 := box_alloc x6_1 (.cells #[.int .u8 0, .int .i64 0, .string ⟨#[]⟩, .bool false] 24)
  have y6_2 := box_alloc x6_2 (.cells #[.int .u8 0, .int .i64 0, .string ⟨#[]⟩, .bool false] 24)
  have y6_3 := box_alloc x6_3 (.cells #[.int .u8 0, .int .i64 0, .string ⟨#[]⟩, .bool false] 24)
  have y6_4 := heap_alloc_new v6 (.cells #[.int .u8 0, .int .i64 0, .string ⟨#[]⟩, .bool false] 24)
  have q6 := ba k6 (.cells #[.int .u8 0, .int .i64 0, .string ⟨#[]⟩, .bool false] 24)
  clear k6 x6_0 x6_1 x6_2 x6_3
  go_wp2
  go_ret
  exact ⟨rfl, q6⟩
set_option maxRecDepth 100000 in
set_option maxHeartbeats 4000000 in
theorem cellNots_t (w : World) (h : Aw w) :
    Calls Tryd.prog 10 #[.agg #[.int .u8 3, .int .i64 0, .string ⟨#[]⟩, .bool true]] w fun e w' => e = .returned (.bool true) ∧ Below w.heap.size w w' := by
  have k0 := ba (Below.refl w.heap.size w) (.cells #[.int .u8 3, .int .i64 0, .string ⟨#[]⟩, .bool true] 24)
  have x0 := heap_alloc_new w (.cells #[.int .u8 3, .int .i64 0, .string ⟨#[]⟩, .bool true] 24)
  have R1 := Lib.hid (fun W => right2_at 3 0 ⟨#[]⟩ true true rfl W (by decide))
  have HH := Lib.hid h
  clear h
  go_enter Tryd.func10, Tryd.ntmps10
  go_wp2_with fail
  refine (awake2_any _ (aw_below HH.out k0)).mono ?_
  rintro e v1 ⟨rfl, hb1⟩
  have x1_0 := box_below x0 hb1
  have k1 := k0.trans (hb1.mono k0.size)
  clear hb1 k0 x0
  have c1_0 := box_cells x1_0
  have l1_0 := heap_lt x1_0
  go_wp2_with fail
  refine (R1.out _).mono ?_
  rintro e v2 ⟨rfl, hb2⟩
  have x2_0 := box_below x1_0 hb2
  have k2 := k1.trans (hb2.mono k1.size)
  clear hb2 k1 x1_0 c1_0 l1_0
  have c2_0 := box_cells x2_0
  have l2_0 := heap_lt x2_0
  go_wp2_with fail
  refine (vnot_t _).mono ?_
  rintro e v3 ⟨rfl, hb3⟩
  have x3_0 := box_below x2_0 hb3
  have k3 := k2.trans (hb3.mono k2.size)
  clear hb3 k2 x2_0 c2_0 l2_0
  have c3_0 := box_cells x3_0
  have l3_0 := heap_lt x3_0
  have y3_0 := box_alloc x3_0 (.cells #[.int .u8 3, .int .i64 0, .string ⟨#[]⟩, .bool false] 24)
  have y3_1 := heap_alloc_new v3 (.cells #[.int .u8 3, .int .i64 0, .string ⟨#[]⟩, .bool false] 24)
  have q3 := ba k3 (.cells #[.int .u8 3, .int .i64 0, .string ⟨#[]⟩, .bool false] 24)
  clear k3 x3_0
  go_wp2_with fail
  refine (vnot_f _).mono ?_
  rintro e v4 ⟨rfl, hb4⟩
  have x4_0 := box_below y3_0 hb4
  have x4_1 := box_below y3_1 hb4
  have k4 := q3.trans (hb4.mono q3.size)
  clear hb4 q3 y3_0 y3_1 c3_0 l3_0
  have c4_0 := box_cells x4_0
  have l4_0 := heap_lt x4_0
  have c4_1 := box_cells x4_1
  have l4_1 := heap_lt x4_1
  have y4_0 := box_alloc x4_0 (.cells #[.int .u8 3, .int .i64 0, .string ⟨#[]⟩, .bool true] 24)
  have y4_1 := box_alloc x4_1 (.cells #[.int .u8 3, .int .i64 0, .string ⟨#[]⟩, .bool true] 24)
  have y4_2 := heap_alloc_new v4 (.cells #[.int .u8 3, .int .i64 0, .string ⟨#[]⟩, .bool true] 24)
  have q4 := ba k4 (.cells #[.int .u8 3, .int .i64 0, .string ⟨#[]⟩, .bool true] 24)
  clear k4 x4_0 x4_1
  go_wp2_with fail
  refine (vand_tf _).mono ?_
  rintro e v5 ⟨rfl, hb5⟩
  have x5_0 := box_below y4_0 hb5
  have x5_1 := box_below y4_1 hb5
  have x5_2 := box_below y4_2 hb5
  have k5 := q4.trans (hb5.mono q4.size)
  clear hb5 q4 y4_0 y4_1 y4_2 c4_0 c4_1 l4_0 l4_1
  have c5_0 := box_cells x5_0
  have l5_0 := heap_lt x5_0
  have c5_1 := box_cells x5_1
  have l5_1 := heap_lt x5_1
  have c5_2 := box_cells x5_2
  have l5_2 := heap_lt x5_2
  have y5_0 := box_alloc x5_0 (.cells #[.int .u8 3, .int .i64 0, .string ⟨#[]⟩, .bool false] 24)
  have y5_1 := box_alloc x5_1 (.cells #[.int .u8 3, .int .i64 0, .string ⟨#[]⟩, .bool false] 24)
  have y5_2 := box_alloc x5_2 (.cells #[.int .u8 3, .int .i64 0, .string ⟨#[]⟩, .bool false] 24)
  have y5_3 := heap_alloc_new v5 (.cells #[.int .u8 3, .int .i64 0, .string ⟨#[]⟩, .bool false] 24)
  have q5 := ba k5 (.cells #[.int .u8 3, .int .i64 0, .string ⟨#[]⟩, .bool false] 24)
  clear k5 x5_0 x5_1 x5_2
  go_wp2_with fail
  refine (vor_tf _).mono ?_
  rintro e v6 ⟨rfl, hb6⟩
  have x6_0 := box_below y5_0 hb6
  have x6_1 := box_below y5_1 hb6
  have x6_2 := box_below y5_2 hb6
  have x6_3 := box_below y5_3 hb6
  have k6 := q5.trans (hb6.mono q5.size)
  clear hb6 q5 y5_0 y5_1 y5_2 y5_3 c5_0 c5_1 c5_2 l5_0 l5_1 l5_2
  have c6_0 := box_cells x6_0
  have l6_0 := heap_lt x6_0
  have c6_1 := box_cells x6_1
  have l6_1 := heap_lt x6_1
  have c6_2 := box_cells x6_2
  have l6_2 := heap_lt x6_2
  have c6_3 := box_cells x6_3
  have l6_3 := heap_lt x6_3
  have y6_0 := box_alloc x6_0 (.cells #[.int .u8 3, .int .i64 0, .string ⟨#[]⟩, .bool true] 24)
  have y6_1 := box_alloc x6_1 (.cells #[.int .u8 3, .int .i64 0, .string ⟨#[]⟩, .bool true] 24)
  have y6_2 := box_alloc x6_2 (.cells #[.int .u8 3, .int .i64 0, .string ⟨#[]⟩, .bool true] 24)
  have y6_3 := box_alloc x6_3 (.cells #[.int .u8 3, .int .i64 0, .string ⟨#[]⟩, .bool true] 24)
  have y6_4 := heap_alloc_new v6 (.cells #[.int .u8 3, .int .i64 0, .string ⟨#[]⟩, .bool true] 24)
  have q6 := ba k6 (.cells #[.int .u8 3, .int .i64 0, .string ⟨#[]⟩, .bool true] 24)
  clear k6 x6_0 x6_1 x6_2 x6_3
  go_wp2
  go_ret
  exact ⟨rfl, q6⟩
set_option maxRecDepth 100000 in
set_option maxHeartbeats 4000000 in
theorem cellNots_f (w : World) (h : Aw w) :
    Calls Tryd.prog 10 #[.agg #[.int .u8 3, .int .i64 0, .string ⟨#[]⟩, .bool false]] w fun e w' => e = .returned (.bool true) ∧ Below w.heap.size w w' := by
  have k0 := ba (Below.refl w.heap.size w) (.cells #[.int .u8 3, .int .i64 0, .string ⟨#[]⟩, .bool false] 24)
  have x0 := heap_alloc_new w (.cells #[.int .u8 3, .int .i64 0, .string ⟨#[]⟩, .bool false] 24)
  have R1 := Lib.hid (fun W => right2_at 3 0 ⟨#[]⟩ false true rfl W (by decide))
  have HH := Lib.hid h
  clear h
  go_enter Tryd.func10, Tryd.ntmps10
  go_wp2_with fail
  refine (awake2_any _ (aw_below HH.out k0)).mono ?_
  rintro e v1 ⟨rfl, hb1⟩
  have x1_0 := box_below x0 hb1
  have k1 := k0.trans (hb1.mono k0.size)
  clear hb1 k0 x0
  have c1_0 := box_cells x1_0
  have l1_0 := heap_lt x1_0
  go_wp2_with fail
  refine (R1.out _).mono ?_
  rintro e v2 ⟨rfl, hb2⟩
  have x2_0 := box_below x1_0 hb2
  have k2 := k1.trans (hb2.mono k1.size)
  clear hb2 k1 x1_0 c1_0 l1_0
  have c2_0 := box_cells x2_0
  have l2_0 := heap_lt x2_0
  go_wp2_with fail
  refine (vnot_f _).mono ?_
  rintro e v3 ⟨rfl, hb3⟩
  have x3_0 := box_below x2_0 hb3
  have k3 := k2.trans (hb3.mono k2.size)
  clear hb3 k2 x2_0 c2_0 l2_0
  have c3_0 := box_cells x3_0
  have l3_0 := heap_lt x3_0
  have y3_0 := box_alloc x3_0 (.cells #[.int .u8 3, .int .i64 0, .string ⟨#[]⟩, .bool true] 24)
  have y3_1 := heap_alloc_new v3 (.cells #[.int .u8 3, .int .i64 0, .string ⟨#[]⟩, .bool true] 24)
  have q3 := ba k3 (.cells #[.int .u8 3, .int .i64 0, .string ⟨#[]⟩, .bool true] 24)
  clear k3 x3_0
  go_wp2_with fail
  refine (vnot_t _).mono ?_
  rintro e v4 ⟨rfl, hb4⟩
  have x4_0 := box_below y3_0 hb4
  have x4_1 := box_below y3_1 hb4
  have k4 := q3.trans (hb4.mono q3.size)
  clear hb4 q3 y3_0 y3_1 c3_0 l3_0
  have c4_0 := box_cells x4_0
  have l4_0 := heap_lt x4_0
  have c4_1 := box_cells x4_1
  have l4_1 := heap_lt x4_1
  have y4_0 := box_alloc x4_0 (.cells #[.int .u8 3, .int .i64 0, .string ⟨#[]⟩, .bool false] 24)
  have y4_1 := box_alloc x4_1 (.cells #[.int .u8 3, .int .i64 0, .string ⟨#[]⟩, .bool false] 24)
  have y4_2 := heap_alloc_new v4 (.cells #[.int .u8 3, .int .i64 0, .string ⟨#[]⟩, .bool false] 24)
  have q4 := ba k4 (.cells #[.int .u8 3, .int .i64 0, .string ⟨#[]⟩, .bool false] 24)
  clear k4 x4_0 x4_1
  go_wp2_with fail
  refine (vand_ft _).mono ?_
  rintro e v5 ⟨rfl, hb5⟩
  have x5_0 := box_below y4_0 hb5
  have x5_1 := box_below y4_1 hb5
  have x5_2 := box_below y4_2 hb5
  have k5 := q4.trans (hb5.mono q4.size)
  clear hb5 q4 y4_0 y4_1 y4_2 c4_0 c4_1 l4_0 l4_1
  have c5_0 := box_cells x5_0
  have l5_0 := heap_lt x5_0
  have c5_1 := box_cells x5_1
  have l5_1 := heap_lt x5_1
  have c5_2 := box_cells x5_2
  have l5_2 := heap_lt x5_2
  have y5_0 := box_alloc x5_0 (.cells #[.int .u8 3, .int .i64 0, .string ⟨#[]⟩, .bool false] 24)
  have y5_1 := box_alloc x5_1 (.cells #[.int .u8 3, .int .i64 0, .string ⟨#[]⟩, .bool false] 24)
  have y5_2 := box_alloc x5_2 (.cells #[.int .u8 3, .int .i64 0, .string ⟨#[]⟩, .bool false] 24)
  have y5_3 := heap_alloc_new v5 (.cells #[.int .u8 3, .int .i64 0, .string ⟨#[]⟩, .bool false] 24)
  have q5 := ba k5 (.cells #[.int .u8 3, .int .i64 0, .string ⟨#[]⟩, .bool false] 24)
  clear k5 x5_0 x5_1 x5_2
  go_wp2_with fail
  refine (vor_ft _).mono ?_
  rintro e v6 ⟨rfl, hb6⟩
  have x6_0 := box_below y5_0 hb6
  have x6_1 := box_below y5_1 hb6
  have x6_2 := box_below y5_2 hb6
  have x6_3 := box_below y5_3 hb6
  have k6 := q5.trans (hb6.mono q5.size)
  clear hb6 q5 y5_0 y5_1 y5_2 y5_3 c5_0 c5_1 c5_2 l5_0 l5_1 l5_2
  have c6_0 := box_cells x6_0
  have l6_0 := heap_lt x6_0
  have c6_1 := box_cells x6_1
  have l6_1 := heap_lt x6_1
  have c6_2 := box_cells x6_2
  have l6_2 := heap_lt x6_2
  have c6_3 := box_cells x6_3
  have l6_3 := heap_lt x6_3
  have y6_0 := box_alloc x6_0 (.cells #[.int .u8 3, .int .i64 0, .string ⟨#[]⟩, .bool true] 24)
  have y6_1 := box_alloc x6_1 (.cells #[.int .u8 3, .int .i64 0, .string ⟨#[]⟩, .bool true] 24)
  have y6_2 := box_alloc x6_2 (.cells #[.int .u8 3, .int .i64 0, .string ⟨#[]⟩, .bool true] 24)
  have y6_3 := box_alloc x6_3 (.cells #[.int .u8 3, .int .i64 0, .string ⟨#[]⟩, .bool true] 24)
  have y6_4 := heap_alloc_new v6 (.cells #[.int .u8 3, .int .i64 0, .string ⟨#[]⟩, .bool true] 24)
  have q6 := ba k6 (.cells #[.int .u8 3, .int .i64 0, .string ⟨#[]⟩, .bool true] 24)
  clear k6 x6_0 x6_1 x6_2 x6_3
  go_wp2
  go_ret
  exact ⟨rfl, q6⟩
theorem cellNots_walk (k i : Int) (s : ByteArray) (b : Bool) (w : World) (hs : s.size ≤ 9223372036854775807) (h : Aw w) :
    Calls Tryd.prog 10 #[.agg #[.int .u8 k, .int .i64 i, .string s, .bool b]] w fun e w' => e = .returned (.bool true) ∧ Below w.heap.size w w' := by
  rcases Bool.eq_false_or_eq_true (Lp.rightB k i s b) with hr | hr
  · rcases right_class hr with ⟨rfl, rfl, rfl, rfl⟩ | ⟨rfl, rfl, rfl⟩ | ⟨rfl, rfl, rfl, _⟩ | ⟨rfl, rfl, rfl⟩
    · exact cellNots_n w h
    · exact cellNots_1 i w h
    · exact cellNots_2 s w hs hr h
    · cases b
      · exact cellNots_f w h
      · exact cellNots_t w h
  · exact cellNots_no k i s b w hs hr h
end Go.Proofs.YthojikijelijnaaDoor
