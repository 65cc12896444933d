/-
  The document's Compare of two values: what cell.Compare tells, of right values' kinds. No conditions.
-/
import Derived.Test.YthojikijelijnaaDoorCell4
import Derived.Test.YthojikijelijnaaDoorCellW
namespace Go.Proofs.YthojikijelijnaaDoor
open Go.RowKit

set_option maxRecDepth 100000 in
set_option maxHeartbeats 4000000 in
theorem rcmp_zero1 (k' i : Int) (s : ByteArray) (b : Bool) (i' : Int) (s' : ByteArray) (b' : Bool) (w : World) :
    Calls Tryd.prog 19 #[.agg #[.int .u8 0, .int .i64 i, .string s, .bool b], .agg #[.int .u8 k', .int .i64 i', .string s', .bool b']] w fun e w' => e = .returned (.tuple #[.int .i64 (0), .bool false, .int .i64 0]) ∧ Below w.heap.size w w' := by
  have k0 := ba (ba (Below.refl w.heap.size w) (.cells #[.int .u8 0, .int .i64 i, .string s, .bool b] 24)) (.cells #[.int .u8 k', .int .i64 i', .string s', .bool b'] 24)
  have x0 := box_alloc (heap_alloc_new w (.cells #[.int .u8 0, .int .i64 i, .string s, .bool b] 24)) (.cells #[.int .u8 k', .int .i64 i', .string s', .bool b'] 24)
  have x1 := heap_new2 w (.cells #[.int .u8 0, .int .i64 i, .string s, .bool b] 24) (.cells #[.int .u8 k', .int .i64 i', .string s', .bool b'] 24)
  have c0_0 := box_cells x0
  have l0_0 := heap_lt x0
  have c0_1 := box_cells x1
  have l0_1 := heap_lt x1
  go_enter Tryd.func19, Tryd.ntmps19
  go_wp2
  go_ret3
  exact ⟨rfl, k0⟩
set_option maxRecDepth 100000 in
set_option maxHeartbeats 4000000 in
theorem rcmp_zero2 (k i : Int) (s : ByteArray) (b : Bool) (i' : Int) (s' : ByteArray) (b' : Bool) (w : World) (h : k ≠ 0) :
    Calls Tryd.prog 19 #[.agg #[.int .u8 k, .int .i64 i, .string s, .bool b], .agg #[.int .u8 0, .int .i64 i', .string s', .bool b']] w fun e w' => e = .returned (.tuple #[.int .i64 (0), .bool false, .int .i64 0]) ∧ Below w.heap.size w w' := by
  have k0 := ba (ba (Below.refl w.heap.size w) (.cells #[.int .u8 k, .int .i64 i, .string s, .bool b] 24)) (.cells #[.int .u8 0, .int .i64 i', .string s', .bool b'] 24)
  have x0 := box_alloc (heap_alloc_new w (.cells #[.int .u8 k, .int .i64 i, .string s, .bool b] 24)) (.cells #[.int .u8 0, .int .i64 i', .string s', .bool b'] 24)
  have x1 := heap_new2 w (.cells #[.int .u8 k, .int .i64 i, .string s, .bool b] 24) (.cells #[.int .u8 0, .int .i64 i', .string s', .bool b'] 24)
  have c0_0 := box_cells x0
  have l0_0 := heap_lt x0
  have c0_1 := box_cells x1
  have l0_1 := heap_lt x1
  have q1 : (k == 0) = false := beq_eq_false_iff_ne.2 h
  clear h
  go_enter Tryd.func19, Tryd.ntmps19
  go_wp2
  go_ret3
  exact ⟨rfl, k0⟩
set_option maxRecDepth 100000 in
set_option maxHeartbeats 4000000 in
theorem rcmp_type (k k' i : Int) (s : ByteArray) (b : Bool) (i' : Int) (s' : ByteArray) (b' : Bool) (w : World) (h : k ≠ 0) (h' : k' ≠ 0) (hn : k ≠ k') :
    Calls Tryd.prog 19 #[.agg #[.int .u8 k, .int .i64 i, .string s, .bool b], .agg #[.int .u8 k', .int .i64 i', .string s', .bool b']] w fun e w' => e = .returned (.tuple #[.int .i64 (0), .bool false, .int .i64 8]) ∧ Below w.heap.size w w' := by
  have k0 := ba (ba (Below.refl w.heap.size w) (.cells #[.int .u8 k, .int .i64 i, .string s, .bool b] 24)) (.cells #[.int .u8 k', .int .i64 i', .string s', .bool b'] 24)
  have x0 := box_alloc (heap_alloc_new w (.cells #[.int .u8 k, .int .i64 i, .string s, .bool b] 24)) (.cells #[.int .u8 k', .int .i64 i', .string s', .bool b'] 24)
  have x1 := heap_new2 w (.cells #[.int .u8 k, .int .i64 i, .string s, .bool b] 24) (.cells #[.int .u8 k', .int .i64 i', .string s', .bool b'] 24)
  have c0_0 := box_cells x0
  have l0_0 := heap_lt x0
  have c0_1 := box_cells x1
  have l0_1 := heap_lt x1
  have q1 : (k == 0) = false := beq_eq_false_iff_ne.2 h
  have q2 : (k' == 0) = false := beq_eq_false_iff_ne.2 h'
  have q3 : (k == k') = false := beq_eq_false_iff_ne.2 hn
  have q4 : (k != k') = true := bne_iff_ne.2 hn
  clear h h' hn
  go_enter Tryd.func19, Tryd.ntmps19
  go_wp2
  go_ret3
  exact ⟨rfl, k0⟩
set_option maxRecDepth 100000 in
set_option maxHeartbeats 4000000 in
theorem rcmp_less (k i : Int) (s : ByteArray) (b : Bool) (i' : Int) (s' : ByteArray) (b' : Bool) (w : World) (h : k ≠ 0) (h1 : Lp.vless ⟨k, i, s, b⟩ ⟨k, i', s', b'⟩ = true) :
    Calls Tryd.prog 19 #[.agg #[.int .u8 k, .int .i64 i, .string s, .bool b], .agg #[.int .u8 k, .int .i64 i', .string s', .bool b']] w fun e w' => e = .returned (.tuple #[.int .i64 (-1), .bool true, .int .i64 0]) ∧ Below w.heap.size w w' := by
  have k0 := ba (ba (Below.refl w.heap.size w) (.cells #[.int .u8 k, .int .i64 i, .string s, .bool b] 24)) (.cells #[.int .u8 k, .int .i64 i', .string s', .bool b'] 24)
  have x0 := box_alloc (heap_alloc_new w (.cells #[.int .u8 k, .int .i64 i, .string s, .bool b] 24)) (.cells #[.int .u8 k, .int .i64 i', .string s', .bool b'] 24)
  have x1 := heap_new2 w (.cells #[.int .u8 k, .int .i64 i, .string s, .bool b] 24) (.cells #[.int .u8 k, .int .i64 i', .string s', .bool b'] 24)
  have c0_0 := box_cells x0
  have l0_0 := heap_lt x0
  have c0_1 := box_cells x1
  have l0_1 := heap_lt x1
  have q1 : (k == 0) = false := beq_eq_false_iff_ne.2 h
  have q2 : (k == k) = true := beq_self_eq_true k
  have q3 : (k != k) = false := by simp
  have c1 := fun W => less2_any k i s b k i' s' b' W
  rw [h1] at c1
  have C1 := Lib.hid c1
  clear h h1 c1
  go_enter Tryd.func19, Tryd.ntmps19
  go_wp2_with fail
  refine (C1.out _).mono ?_
  rintro e v1 ⟨rfl, hb1⟩
  have x1_0 := box_below x0 hb1
  have x1_1 := box_below x1 hb1
  have k1 := k0.trans (hb1.mono k0.size)
  clear hb1 k0 x0 x1 c0_0 c0_1 l0_0 l0_1
  have c1_0 := box_cells x1_0
  have l1_0 := heap_lt x1_0
  have c1_1 := box_cells x1_1
  have l1_1 := heap_lt x1_1
  go_wp2
  go_ret3
  exact ⟨rfl, k1⟩
set_option maxRecDepth 100000 in
set_option maxHeartbeats 4000000 in
theorem rcmp_more (k i : Int) (s : ByteArray) (b : Bool) (i' : Int) (s' : ByteArray) (b' : Bool) (w : World) (h : k ≠ 0) (h1 : Lp.vless ⟨k, i, s, b⟩ ⟨k, i', s', b'⟩ = false) (h2 : Lp.vless ⟨k, i', s', b'⟩ ⟨k, i, s, b⟩ = true) :
    Calls Tryd.prog 19 #[.agg #[.int .u8 k, .int .i64 i, .string s, .bool b], .agg #[.int .u8 k, .int .i64 i', .string s', .bool b']] w fun e w' => e = .returned (.tuple #[.int .i64 (1), .bool true, .int .i64 0]) ∧ Below w.heap.size w w' := by
  have k0 := ba (ba (Below.refl w.heap.size w) (.cells #[.int .u8 k, .int .i64 i, .string s, .bool b] 24)) (.cells #[.int .u8 k, .int .i64 i', .string s', .bool b'] 24)
  have x0 := box_alloc (heap_alloc_new w (.cells #[.int .u8 k, .int .i64 i, .string s, .bool b] 24)) (.cells #[.int .u8 k, .int .i64 i', .string s', .bool b'] 24)
  have x1 := heap_new2 w (.cells #[.int .u8 k, .int .i64 i, .string s, .bool b] 24) (.cells #[.int .u8 k, .int .i64 i', .string s', .bool b'] 24)
  have c0_0 := box_cells x0
  have l0_0 := heap_lt x0
  have c0_1 := box_cells x1
  have l0_1 := heap_lt x1
  have q1 : (k == 0) = false := beq_eq_false_iff_ne.2 h
  have q2 : (k == k) = true := beq_self_eq_true k
  have q3 : (k != k) = false := by simp
  have c1 := fun W => less2_any k i s b k i' s' b' W
  rw [h1] at c1
  have C1 := Lib.hid c1
  have c2 := fun W => less2_any k i' s' b' k i s b W
  rw [h2] at c2
  have C2 := Lib.hid c2
  clear h h1 c1 h2 c2
  go_enter Tryd.func19, Tryd.ntmps19
  go_wp2_with fail
  refine (C1.out _).mono ?_
  rintro e v1 ⟨rfl, hb1⟩
  have x1_0 := box_below x0 hb1
  have x1_1 := box_below x1 hb1
  have k1 := k0.trans (hb1.mono k0.size)
  clear hb1 k0 x0 x1 c0_0 c0_1 l0_0 l0_1
  have c1_0 := box_cells x1_0
  have l1_0 := heap_lt x1_0
  have c1_1 := box_cells x1_1
  have l1_1 := heap_lt x1_1
  go_wp2_with fail
  refine (C2.out _).mono ?_
  rintro e v2 ⟨rfl, hb2⟩
  have x2_0 := box_below x1_0 hb2
  have x2_1 := box_below x1_1 hb2
  have k2 := k1.trans (hb2.mono k1.size)
  clear hb2 k1 x1_0 x1_1 c1_0 c1_1 l1_0 l1_1
  have c2_0 := box_cells x2_0
  have l2_0 := heap_lt x2_0
  have c2_1 := box_cells x2_1
  have l2_1 := heap_lt x2_1
  go_wp2
  go_ret3
  exact ⟨rfl, k2⟩
set_option maxRecDepth 100000 in
set_option maxHeartbeats 4000000 in
theorem rcmp_same (k i : Int) (s : ByteArray) (b : Bool) (i' : Int) (s' : ByteArray) (b' : Bool) (w : World) (h : k ≠ 0) (h1 : Lp.vless ⟨k, i, s, b⟩ ⟨k, i', s', b'⟩ = false) (h2 : Lp.vless ⟨k, i', s', b'⟩ ⟨k, i, s, b⟩ = false) :
    Calls Tryd.prog 19 #[.agg #[.int .u8 k, .int .i64 i, .string s, .bool b], .agg #[.int .u8 k, .int .i64 i', .string s', .bool b']] w fun e w' => e = .returned (.tuple #[.int .i64 (0), .bool true, .int .i64 0]) ∧ Below w.heap.size w w' := by
  have k0 := ba (ba (Below.refl w.heap.size w) (.cells #[.int .u8 k, .int .i64 i, .string s, .bool b] 24)) (.cells #[.int .u8 k, .int .i64 i', .string s', .bool b'] 24)
  have x0 := box_alloc (heap_alloc_new w (.cells #[.int .u8 k, .int .i64 i, .string s, .bool b] 24)) (.cells #[.int .u8 k, .int .i64 i', .string s', .bool b'] 24)
  have x1 := heap_new2 w (.cells #[.int .u8 k, .int .i64 i, .string s, .bool b] 24) (.cells #[.int .u8 k, .int .i64 i', .string s', .bool b'] 24)
  have c0_0 := box_cells x0
  have l0_0 := heap_lt x0
  have c0_1 := box_cells x1
  have l0_1 := heap_lt x1
  have q1 : (k == 0) = false := beq_eq_false_iff_ne.2 h
  have q2 : (k == k) = true := beq_self_eq_true k
  have q3 : (k != k) = false := by simp
  have c1 := fun W => less2_any k i s b k i' s' b' W
  rw [h1] at c1
  have C1 := Lib.hid c1
  have c2 := fun W => less2_any k i' s' b' k i s b W
  rw [h2] at c2
  have C2 := Lib.hid c2
  clear h h1 c1 h2 c2
  go_enter Tryd.func19, Tryd.ntmps19
  go_wp2_with fail
  refine (C1.out _).mono ?_
  rintro e v1 ⟨rfl, hb1⟩
  have x1_0 := box_below x0 hb1
  have x1_1 := box_below x1 hb1
  have k1 := k0.trans (hb1.mono k0.size)
  clear hb1 k0 x0 x1 c0_0 c0_1 l0_0 l0_1
  have c1_0 := box_cells x1_0
  have l1_0 := heap_lt x1_0
  have c1_1 := box_cells x1_1
  have l1_1 := heap_lt x1_1
  go_wp2_with fail
  refine (C2.out _).mono ?_
  rintro e v2 ⟨rfl, hb2⟩
  have x2_0 := box_below x1_0 hb2
  have x2_1 := box_below x1_1 hb2
  have k2 := k1.trans (hb2.mono k1.size)
  clear hb2 k1 x1_0 x1_1 c1_0 c1_1 l1_0 l1_1
  have c2_0 := box_cells x2_0
  have l2_0 := heap_lt x2_0
  have c2_1 := box_cells x2_1
  have l2_1 := heap_lt x2_1
  go_wp2
  go_ret3
  exact ⟨rfl, k2⟩
theorem cmpI_val (a b : Int) : Lp.cmpI a b = -1 ∨ Lp.cmpI a b = 0 ∨ Lp.cmpI a b = 1 := by
  unfold Lp.cmpI
  split
  · simp
  · split <;> simp
theorem cmpS_val (a b : List UInt8) : Lp.cmpS a b = -1 ∨ Lp.cmpS a b = 0 ∨ Lp.cmpS a b = 1 := by
  unfold Lp.cmpS
  split
  · simp
  · split <;> simp
theorem vord_val (u v : Lp.V) : Lp.vord u v = -1 ∨ Lp.vord u v = 0 ∨ Lp.vord u v = 1 := by
  unfold Lp.vord
  split
  · split
    · exact cmpI_val _ _
    · split
      · exact cmpS_val _ _
      · split
        · exact cmpI_val _ _
        · exact .inr (.inl rfl)
  · exact cmpI_val _ _
theorem rcmp_any (k i : Int) (s : ByteArray) (b : Bool) (k' i' : Int) (s' : ByteArray) (b' : Bool) (w : World) (hk : k = 0 ∨ Lp.isK k = true) (hk' : k' = 0 ∨ Lp.isK k' = true) :
    Calls Tryd.prog 19 #[.agg #[.int .u8 k, .int .i64 i, .string s, .bool b], .agg #[.int .u8 k', .int .i64 i', .string s', .bool b']] w (CmpPost ⟨k, i, s, b⟩ ⟨k', i', s', b'⟩ w) := by
  rcases hk with rfl | hk
  · exact (rcmp_zero1 k' i s b i' s' b' w).mono fun e w' h => h.1 ▸ cmpPost (by simp [Lp.cmpV, Lp.isK]) (by simp [Lp.cmpB, Lp.isK]) (by simp [Lp.cmpE, Lp.isK]) h.2
  · have h0 : k ≠ 0 := by rintro rfl; simp [Lp.isK] at hk
    rcases hk' with rfl | hk'
    · exact (rcmp_zero2 k i s b i' s' b' w h0).mono fun e w' h => h.1 ▸ cmpPost (by simp [Lp.cmpV, Lp.isK]) (by simp [Lp.cmpB, Lp.isK]) (by simp [Lp.cmpE, Lp.isK]) h.2
    · have h0' : k' ≠ 0 := by rintro rfl; simp [Lp.isK] at hk'
      by_cases hn : k = k'
      · subst hn
        have a1 := vless_ord ⟨k, i, s, b⟩ ⟨k, i', s', b'⟩
        have a2 := vless_ord ⟨k, i', s', b'⟩ ⟨k, i, s, b⟩
        rw [vord_turn ⟨k, i, s, b⟩ ⟨k, i', s', b'⟩] at a2
        rcases vord_val ⟨k, i, s, b⟩ ⟨k, i', s', b'⟩ with h | h | h
        · rw [h] at a1
          exact (rcmp_less k i s b i' s' b' w h0 a1).mono fun e w' g => g.1 ▸ cmpPost (by simp [Lp.cmpV, hk, h]) (by simp [Lp.cmpB, hk]) (by simp [Lp.cmpE, hk]) g.2
        · rw [h] at a1 a2
          exact (rcmp_same k i s b i' s' b' w h0 a1 a2).mono fun e w' g => g.1 ▸ cmpPost (by simp [Lp.cmpV, hk, h]) (by simp [Lp.cmpB, hk]) (by simp [Lp.cmpE, hk]) g.2
        · rw [h] at a1 a2
          exact (rcmp_more k i s b i' s' b' w h0 a1 a2).mono fun e w' g => g.1 ▸ cmpPost (by simp [Lp.cmpV, hk, h]) (by simp [Lp.cmpB, hk]) (by simp [Lp.cmpE, hk]) g.2
      · exact (rcmp_type k k' i s b i' s' b' w h0 h0' hn).mono fun e w' g => g.1 ▸ cmpPost (by simp [Lp.cmpV, hn]) (by simp [Lp.cmpB, hn]) (by simp [Lp.cmpE, hk, hk', hn]) g.2
end Go.Proofs.YthojikijelijnaaDoor
