/-
  The walk of CellTruths: it returns true, of any values. Conditions: the listed tables as laid; internal/bytealg.MaxLen holds a number.
-/
import Derived.Test.YthojikijelijnaaDoorCellW
namespace Go.Proofs.YthojikijelijnaaDoor
open Go.RowKit

set_option maxRecDepth 100000 in
set_option maxHeartbeats 4000000 in
theorem cellTruths_walk (k i : Int) (s : ByteArray) (b : Bool) (k' i' : Int) (s' : ByteArray) (b' : Bool) (w : World) (hs : s.size ≤ 9223372036854775807) (hs' : s'.size ≤ 9223372036854775807) (h : Aw w) :
    Calls Tryd.prog 8 #[.agg #[.int .u8 k, .int .i64 i, .string s, .bool b], .agg #[.int .u8 k', .int .i64 i', .string s', .bool b']] w fun e w' => e = .returned (.bool true) ∧ Below w.heap.size w w' := by
  have k0 := ba (ba (Below.refl w.heap.size w) (.cells #[.int .u8 k, .int .i64 i, .string s, .bool b] 24)) (.cells #[.int .u8 k', .int .i64 i', .string s', .bool b'] 24)
  have x0 := box_alloc (heap_alloc_new w (.cells #[.int .u8 k, .int .i64 i, .string s, .bool b] 24)) (.cells #[.int .u8 k', .int .i64 i', .string s', .bool b'] 24)
  have x1 := heap_new2 w (.cells #[.int .u8 k, .int .i64 i, .string s, .bool b] 24) (.cells #[.int .u8 k', .int .i64 i', .string s', .bool b'] 24)
  obtain ⟨bad, hbad⟩ : ∃ bad, Lp.badT ⟨k, i, s, b⟩ ⟨k', i', s', b'⟩ = bad := ⟨_, rfl⟩
  obtain ⟨nA, hnA⟩ : ∃ n, Lp.joinN ⟨k, i, s, b⟩ ⟨k', i', s', b'⟩ false = n := ⟨_, rfl⟩
  obtain ⟨nO, hnO⟩ : ∃ n, Lp.joinN ⟨k, i, s, b⟩ ⟨k', i', s', b'⟩ true = n := ⟨_, rfl⟩
  obtain ⟨bd, hbd⟩ : ∃ n, decide (Lp.tw k b < 0) = n := ⟨_, rfl⟩
  obtain ⟨nN, hnN⟩ : ∃ n, 2 - Lp.tw k b = n := ⟨_, rfl⟩
  have HA := fun W => cand_any k i s b k' i' s' b' W
  have HO := fun W => cor_any k i s b k' i' s' b' W
  have HN := fun W => cnot_any k i s b W
  rw [hbad, hnA] at HA
  rw [hbad, hnO] at HO
  rw [hbd, hnN] at HN
  obtain ⟨K1, h1⟩ : ∃ K, (if bad then 0 else Lp.bkK nA) = K := ⟨_, rfl⟩
  obtain ⟨B1, h2⟩ : ∃ K, (if bad then false else Lp.bkB nA) = K := ⟨_, rfl⟩
  obtain ⟨E1, h3⟩ : ∃ K : Int, (if bad then 8 else 0) = K := ⟨_, rfl⟩
  obtain ⟨K2, h4⟩ : ∃ K, (if bad then 0 else Lp.bkK nO) = K := ⟨_, rfl⟩
  obtain ⟨B2, h5⟩ : ∃ K, (if bad then false else Lp.bkB nO) = K := ⟨_, rfl⟩
  obtain ⟨K3, h6⟩ : ∃ K, (if bd then 0 else Lp.bkK nN) = K := ⟨_, rfl⟩
  obtain ⟨B3, h7⟩ : ∃ K, (if bd then false else Lp.bkB nN) = K := ⟨_, rfl⟩
  obtain ⟨E3, h8⟩ : ∃ K : Int, (if bd then 8 else 0) = K := ⟨_, rfl⟩
  have CA := Lib.hid (tp h1 h2 h3 HA)
  have CO := Lib.hid (tp h4 h5 h3 HO)
  have CN := Lib.hid (tp h6 h7 h8 HN)
  obtain ⟨r1, hr1⟩ : ∃ r, Lp.rightB k i s b = r := ⟨_, rfl⟩
  obtain ⟨r2, hr2⟩ : ∃ r, Lp.rightB k' i' s' b' = r := ⟨_, rfl⟩
  have R1 := Lib.hid (fun W => right2_at k i s b r1 hr1 W hs)
  have R2 := Lib.hid (fun W => right2_at k' i' s' b' r2 hr2 W hs')
  have HH := Lib.hid h
  have HRR : Hid (r1 = true → r2 = true → (∀ W, Calls Tryd.prog 24 #[.agg #[.int .u8 k, .int .i64 i, .string s, .bool b], .agg #[.int .u8 k', .int .i64 i', .string s', .bool b']] W fun e w' => e = .returned (.tuple #[.agg #[.int .u8 K1, .int .i64 0, .string ⟨#[]⟩, .bool B1], .int .i64 E1]) ∧ Below W.heap.size W w') ∧
      (∀ W, Calls Tryd.prog 26 #[.agg #[.int .u8 k, .int .i64 i, .string s, .bool b], .agg #[.int .u8 k', .int .i64 i', .string s', .bool b']] W fun e w' => e = .returned (.tuple #[.agg #[.int .u8 K2, .int .i64 0, .string ⟨#[]⟩, .bool B2], .int .i64 E1]) ∧ Below W.heap.size W w') ∧
      (∀ W, Calls Tryd.prog 27 #[.agg #[.int .u8 k, .int .i64 i, .string s, .bool b]] W fun e w' => e = .returned (.tuple #[.agg #[.int .u8 K3, .int .i64 0, .string ⟨#[]⟩, .bool B3], .int .i64 E3]) ∧ Below W.heap.size W w')) := Lib.hid fun g1 g2 => by
    have t1 := three_tw (hr1.trans g1)
    have t2 := three_tw (hr2.trans g2)
    have a1 : Lp.bad2 k b k' b' = bad := by rw [← hbad]; unfold Lp.bad2 Lp.badT; rw [t1, t2]
    have a2 : Lp.andK k b k' b' = nA := by rw [← hnA]; unfold Lp.andK Lp.joinN; rw [t1, t2]; rfl
    have a3 : Lp.orK k b k' b' = nO := by rw [← hnO]; unfold Lp.orK Lp.joinN; rw [t1, t2]; rfl
    have a4 := fun W => rand_any k i s b k' i' s' b' W
    have a5 := fun W => ror_any k i s b k' i' s' b' W
    have a6 := fun W => rnot_any k i s b W
    rw [a1, a2] at a4
    rw [a1, a3] at a5
    rw [t1, hbd, hnN] at a6
    exact ⟨tp h1 h2 h3 a4, tp h4 h5 h3 a5, tp h6 h7 h8 a6⟩
  clear hr1 hr2 hs hs' h HA HO HN h1 h2 h3 h4 h5 h6 h7 h8 hbad hnA hnO hbd hnN bad nA nO bd nN
  go_enter Tryd.func8, Tryd.ntmps8
  go_wp2_with fail
  refine (awake2_any _ (aw_below HH.out k0)).mono ?_
  rintro e v1 ⟨rfl, hb1⟩
  have x1_0 := box_below x0 hb1
  have x1_1 := box_below x1 hb1
  have k1 := k0.trans (hb1.mono k0.size)
  clear hb1 k0 x0 x1
  have c1_0 := box_cells x1_0
  have l1_0 := heap_lt x1_0
  have c1_1 := box_cells x1_1
  have l1_1 := heap_lt x1_1
  go_wp2_with fail
  refine (R1.out _).mono ?_
  rintro e v2 ⟨rfl, hb2⟩
  have x2_0 := box_below x1_0 hb2
  have x2_1 := box_below x1_1 hb2
  have k2 := k1.trans (hb2.mono k1.size)
  clear hb2 k1 x1_0 x1_1 c1_0 c1_1 l1_0 l1_1
  have c2_0 := box_cells x2_0
  have l2_0 := heap_lt x2_0
  have c2_1 := box_cells x2_1
  have l2_1 := heap_lt x2_1
  cases r1
  · go_wp2_with fail
    refine (CA.out _).mono ?_
    rintro e v3 ⟨rfl, hb3⟩
    have x3_0 := box_below x2_0 hb3
    have x3_1 := box_below x2_1 hb3
    have k3 := k2.trans (hb3.mono k2.size)
    clear hb3 k2 x2_0 x2_1 c2_0 c2_1 l2_0 l2_1
    have c3_0 := box_cells x3_0
    have l3_0 := heap_lt x3_0
    have c3_1 := box_cells x3_1
    have l3_1 := heap_lt x3_1
    go_wp2_with fail
    refine (CN.out _).mono ?_
    rintro e v4 ⟨rfl, hb4⟩
    have x4_0 := box_below x3_0 hb4
    have x4_1 := box_below x3_1 hb4
    have k4 := k3.trans (hb4.mono k3.size)
    clear hb4 k3 x3_0 x3_1 c3_0 c3_1 l3_0 l3_1
    have c4_0 := box_cells x4_0
    have l4_0 := heap_lt x4_0
    have c4_1 := box_cells x4_1
    have l4_1 := heap_lt x4_1
    go_wp2
    go_ret
    exact ⟨rfl, k4⟩
  · go_wp2_with fail
    refine (R2.out _).mono ?_
    rintro e v3 ⟨rfl, hb3⟩
    have x3_0 := box_below x2_0 hb3
    have x3_1 := box_below x2_1 hb3
    have k3 := k2.trans (hb3.mono k2.size)
    clear hb3 k2 x2_0 x2_1 c2_0 c2_1 l2_0 l2_1
    have c3_0 := box_cells x3_0
    have l3_0 := heap_lt x3_0
    have c3_1 := box_cells x3_1
    have l3_1 := heap_lt x3_1
    cases r2
    · go_wp2_with fail
      refine (CA.out _).mono ?_
      rintro e v4 ⟨rfl, hb4⟩
      have x4_0 := box_below x3_0 hb4
      have x4_1 := box_below x3_1 hb4
      have k4 := k3.trans (hb4.mono k3.size)
      clear hb4 k3 x3_0 x3_1 c3_0 c3_1 l3_0 l3_1
      have c4_0 := box_cells x4_0
      have l4_0 := heap_lt x4_0
      have c4_1 := box_cells x4_1
      have l4_1 := heap_lt x4_1
      go_wp2_with fail
      refine (CN.out _).mono ?_
      rintro e v5 ⟨rfl, hb5⟩
      have x5_0 := box_below x4_0 hb5
      have x5_1 := box_below x4_1 hb5
      have k5 := k4.trans (hb5.mono k4.size)
      clear hb5 k4 x4_0 x4_1 c4_0 c4_1 l4_0 l4_1
      have c5_0 := box_cells x5_0
      have l5_0 := heap_lt x5_0
      have c5_1 := box_cells x5_1
      have l5_1 := heap_lt x5_1
      go_wp2
      go_ret
      exact ⟨rfl, k5⟩
    · obtain ⟨cra, cro, crn⟩ := HRR.out (by simp) (by simp)
      have CRA := Lib.hid cra
      have CRO := Lib.hid cro
      have CRN := Lib.hid crn
      clear cra cro crn HRR
      go_wp2_with fail
      refine (CA.out _).mono ?_
      rintro e v4 ⟨rfl, hb4⟩
      have x4_0 := box_below x3_0 hb4
      have x4_1 := box_below x3_1 hb4
      have k4 := k3.trans (hb4.mono k3.size)
      clear hb4 k3 x3_0 x3_1 c3_0 c3_1 l3_0 l3_1
      have c4_0 := box_cells x4_0
      have l4_0 := heap_lt x4_0
      have c4_1 := box_cells x4_1
      have l4_1 := heap_lt x4_1
      have y4_0 := box_alloc x4_0 (.cells #[.int .u8 K1, .int .i64 0, .string ⟨#[]⟩, .bool B1] 24)
      have y4_1 := box_alloc x4_1 (.cells #[.int .u8 K1, .int .i64 0, .string ⟨#[]⟩, .bool B1] 24)
      have y4_2 := heap_alloc_new v4 (.cells #[.int .u8 K1, .int .i64 0, .string ⟨#[]⟩, .bool B1] 24)
      have q4 := ba k4 (.cells #[.int .u8 K1, .int .i64 0, .string ⟨#[]⟩, .bool B1] 24)
      clear k4 x4_0 x4_1
      go_wp2_with fail
      refine (CRA.out _).mono ?_
      rintro e v5 ⟨rfl, hb5⟩
      have x5_0 := box_below y4_0 hb5
      have x5_1 := box_below y4_1 hb5
      have x5_2 := box_below y4_2 hb5
      have k5 := q4.trans (hb5.mono q4.size)
      clear hb5 q4 y4_0 y4_1 y4_2 c4_0 c4_1 l4_0 l4_1
      have c5_0 := box_cells x5_0
      have l5_0 := heap_lt x5_0
      have c5_1 := box_cells x5_1
      have l5_1 := heap_lt x5_1
      have c5_2 := box_cells x5_2
      have l5_2 := heap_lt x5_2
      have y5_0 := box_alloc x5_0 (.cells #[.int .u8 K1, .int .i64 0, .string ⟨#[]⟩, .bool B1] 24)
      have y5_1 := box_alloc x5_1 (.cells #[.int .u8 K1, .int .i64 0, .string ⟨#[]⟩, .bool B1] 24)
      have y5_2 := box_alloc x5_2 (.cells #[.int .u8 K1, .int .i64 0, .string ⟨#[]⟩, .bool B1] 24)
      have y5_3 := heap_alloc_new v5 (.cells #[.int .u8 K1, .int .i64 0, .string ⟨#[]⟩, .bool B1] 24)
      have q5 := ba k5 (.cells #[.int .u8 K1, .int .i64 0, .string ⟨#[]⟩, .bool B1] 24)
      clear k5 x5_0 x5_1 x5_2
      go_wp2_with fail
      refine (CO.out _).mono ?_
      rintro e v6 ⟨rfl, hb6⟩
      have x6_0 := box_below y5_0 hb6
      have x6_1 := box_below y5_1 hb6
      have x6_2 := box_below y5_2 hb6
      have x6_3 := box_below y5_3 hb6
      have k6 := q5.trans (hb6.mono q5.size)
      clear hb6 q5 y5_0 y5_1 y5_2 y5_3 c5_0 c5_1 c5_2 l5_0 l5_1 l5_2
      have c6_0 := box_cells x6_0
      have l6_0 := heap_lt x6_0
      have c6_1 := box_cells x6_1
      have l6_1 := heap_lt x6_1
      have c6_2 := box_cells x6_2
      have l6_2 := heap_lt x6_2
      have c6_3 := box_cells x6_3
      have l6_3 := heap_lt x6_3
      have y6_0 := box_alloc x6_0 (.cells #[.int .u8 K2, .int .i64 0, .string ⟨#[]⟩, .bool B2] 24)
      have y6_1 := box_alloc x6_1 (.cells #[.int .u8 K2, .int .i64 0, .string ⟨#[]⟩, .bool B2] 24)
      have y6_2 := box_alloc x6_2 (.cells #[.int .u8 K2, .int .i64 0, .string ⟨#[]⟩, .bool B2] 24)
      have y6_3 := box_alloc x6_3 (.cells #[.int .u8 K2, .int .i64 0, .string ⟨#[]⟩, .bool B2] 24)
      have y6_4 := heap_alloc_new v6 (.cells #[.int .u8 K2, .int .i64 0, .string ⟨#[]⟩, .bool B2] 24)
      have q6 := ba k6 (.cells #[.int .u8 K2, .int .i64 0, .string ⟨#[]⟩, .bool B2] 24)
      clear k6 x6_0 x6_1 x6_2 x6_3
      go_wp2_with fail
      refine (CRO.out _).mono ?_
      rintro e v7 ⟨rfl, hb7⟩
      have x7_0 := box_below y6_0 hb7
      have x7_1 := box_below y6_1 hb7
      have x7_2 := box_below y6_2 hb7
      have x7_3 := box_below y6_3 hb7
      have x7_4 := box_below y6_4 hb7
      have k7 := q6.trans (hb7.mono q6.size)
      clear hb7 q6 y6_0 y6_1 y6_2 y6_3 y6_4 c6_0 c6_1 c6_2 c6_3 l6_0 l6_1 l6_2 l6_3
      have c7_0 := box_cells x7_0
      have l7_0 := heap_lt x7_0
      have c7_1 := box_cells x7_1
      have l7_1 := heap_lt x7_1
      have c7_2 := box_cells x7_2
      have l7_2 := heap_lt x7_2
      have c7_3 := box_cells x7_3
      have l7_3 := heap_lt x7_3
      have c7_4 := box_cells x7_4
      have l7_4 := heap_lt x7_4
      have y7_0 := box_alloc x7_0 (.cells #[.int .u8 K2, .int .i64 0, .string ⟨#[]⟩, .bool B2] 24)
      have y7_1 := box_alloc x7_1 (.cells #[.int .u8 K2, .int .i64 0, .string ⟨#[]⟩, .bool B2] 24)
      have y7_2 := box_alloc x7_2 (.cells #[.int .u8 K2, .int .i64 0, .string ⟨#[]⟩, .bool B2] 24)
      have y7_3 := box_alloc x7_3 (.cells #[.int .u8 K2, .int .i64 0, .string ⟨#[]⟩, .bool B2] 24)
      have y7_4 := box_alloc x7_4 (.cells #[.int .u8 K2, .int .i64 0, .string ⟨#[]⟩, .bool B2] 24)
      have y7_5 := heap_alloc_new v7 (.cells #[.int .u8 K2, .int .i64 0, .string ⟨#[]⟩, .bool B2] 24)
      have q7 := ba k7 (.cells #[.int .u8 K2, .int .i64 0, .string ⟨#[]⟩, .bool B2] 24)
      clear k7 x7_0 x7_1 x7_2 x7_3 x7_4
      go_wp2_with fail
      refine (CN.out _).mono ?_
      rintro e v8 ⟨rfl, hb8⟩
      have x8_0 := box_below y7_0 hb8
      have x8_1 := box_below y7_1 hb8
      have x8_2 := box_below y7_2 hb8
      have x8_3 := box_below y7_3 hb8
      have x8_4 := box_below y7_4 hb8
      have x8_5 := box_below y7_5 hb8
      have k8 := q7.trans (hb8.mono q7.size)
      clear hb8 q7 y7_0 y7_1 y7_2 y7_3 y7_4 y7_5 c7_0 c7_1 c7_2 c7_3 c7_4 l7_0 l7_1 l7_2 l7_3 l7_4
      have c8_0 := box_cells x8_0
      have l8_0 := heap_lt x8_0
      have c8_1 := box_cells x8_1
      have l8_1 := heap_lt x8_1
      have c8_2 := box_cells x8_2
      have l8_2 := heap_lt x8_2
      have c8_3 := box_cells x8_3
      have l8_3 := heap_lt x8_3
      have c8_4 := box_cells x8_4
      have l8_4 := heap_lt x8_4
      have c8_5 := box_cells x8_5
      have l8_5 := heap_lt x8_5
      have y8_0 := box_alloc x8_0 (.cells #[.int .u8 K3, .int .i64 0, .string ⟨#[]⟩, .bool B3] 24)
      have y8_1 := box_alloc x8_1 (.cells #[.int .u8 K3, .int .i64 0, .string ⟨#[]⟩, .bool B3] 24)
      have y8_2 := box_alloc x8_2 (.cells #[.int .u8 K3, .int .i64 0, .string ⟨#[]⟩, .bool B3] 24)
      have y8_3 := box_alloc x8_3 (.cells #[.int .u8 K3, .int .i64 0, .string ⟨#[]⟩, .bool B3] 24)
      have y8_4 := box_alloc x8_4 (.cells #[.int .u8 K3, .int .i64 0, .string ⟨#[]⟩, .bool B3] 24)
      have y8_5 := box_alloc x8_5 (.cells #[.int .u8 K3, .int .i64 0, .string ⟨#[]⟩, .bool B3] 24)
      have y8_6 := heap_alloc_new v8 (.cells #[.int .u8 K3, .int .i64 0, .string ⟨#[]⟩, .bool B3] 24)
      have q8 := ba k8 (.cells #[.int .u8 K3, .int .i64 0, .string ⟨#[]⟩, .bool B3] 24)
      clear k8 x8_0 x8_1 x8_2 x8_3 x8_4 x8_5
      go_wp2_with fail
      refine (CRN.out _).mono ?_
      rintro e v9 ⟨rfl, hb9⟩
      have x9_0 := box_below y8_0 hb9
      have x9_1 := box_below y8_1 hb9
      have x9_2 := box_below y8_2 hb9
      have x9_3 := box_below y8_3 hb9
      have x9_4 := box_below y8_4 hb9
      have x9_5 := box_below y8_5 hb9
      have x9_6 := box_below y8_6 hb9
      have k9 := q8.trans (hb9.mono q8.size)
      clear hb9 q8 y8_0 y8_1 y8_2 y8_3 y8_4 y8_5 y8_6 c8_0 c8_1 c8_2 c8_3 c8_4 c8_5 l8_0 l8_1 l8_2 l8_3 l8_4 l8_5
      have c9_0 := box_cells x9_0
      have l9_0 := heap_lt x9_0
      have c9_1 := box_cells x9_1
      have l9_1 := heap_lt x9_1
      have c9_2 := box_cells x9_2
      have l9_2 := heap_lt x9_2
      have c9_3 := box_cells x9_3
      have l9_3 := heap_lt x9_3
      have c9_4 := box_cells x9_4
      have l9_4 := heap_lt x9_4
      have c9_5 := box_cells x9_5
      have l9_5 := heap_lt x9_5
      have c9_6 := box_cells x9_6
      have l9_6 := heap_lt x9_6
      have y9_0 := box_alloc x9_0 (.cells #[.int .u8 K3, .int .i64 0, .string ⟨#[]⟩, .bool B3] 24)
      have y9_1 := box_alloc x9_1 (.cells #[.int .u8 K3, .int .i64 0, .string ⟨#[]⟩, .bool B3] 24)
      have y9_2 := box_alloc x9_2 (.cells #[.int .u8 K3, .int .i64 0, .string ⟨#[]⟩, .bool B3] 24)
      have y9_3 := box_alloc x9_3 (.cells #[.int .u8 K3, .int .i64 0, .string ⟨#[]⟩, .bool B3] 24)
      have y9_4 := box_alloc x9_4 (.cells #[.int .u8 K3, .int .i64 0, .string ⟨#[]⟩, .bool B3] 24)
      have y9_5 := box_alloc x9_5 (.cells #[.int .u8 K3, .int .i64 0, .string ⟨#[]⟩, .bool B3] 24)
      have y9_6 := box_alloc x9_6 (.cells #[.int .u8 K3, .int .i64 0, .string ⟨#[]⟩, .bool B3] 24)
      have y9_7 := heap_alloc_new v9 (.cells #[.int .u8 K3, .int .i64 0, .string ⟨#[]⟩, .bool B3] 24)
      have q9 := ba k9 (.cells #[.int .u8 K3, .int .i64 0, .string ⟨#[]⟩, .bool B3] 24)
      clear k9 x9_0 x9_1 x9_2 x9_3 x9_4 x9_5 x9_6
      have e1 : (K1 == K1) = true := by simp
      have e2 : (K2 == K2) = true := by simp
      have e3 : (K3 == K3) = true := by simp
      have e4 : (E1 == E1) = true := by simp
      have e5 : (E3 == E3) = true := by simp
      go_wp2
      go_ret
      exact ⟨rfl, q9⟩
end Go.Proofs.YthojikijelijnaaDoor
