/-
  The walk of CellApart: it returns true, of any two values. Conditions: the listed tables as laid; internal/bytealg.MaxLen holds a number.
-/
import Derived.Test.YthojikijelijnaaDoorCellW
import Derived.Test.YthojikijelijnaaDoorRLit
import Derived.Test.YthojikijelijnaaDoorPlainApart
import Derived.Deep.RegionHeld3
namespace Go.Proofs.YthojikijelijnaaDoor
open Go.RowKit

theorem TwoBox.two {g : Nat} {k i : Int} {s : ByteArray} {b : Bool} {k' i' : Int} {s' : ByteArray} {b' : Bool} {w : World} {t t' : TypeId} (h : w.heap[g]? = some (.cells #[.int .u8 k, .int .i64 i, .string s, .bool b] t (0, 0))) (h' : w.heap[g + 1]? = some (.cells #[.int .u8 k', .int .i64 i', .string s', .bool b'] t' (0, 0))) : TwoBox g k i s b k' i' s' b' w :=
  ⟨box_cells h 0, box_cells h 1, box_cells h 2, box_cells h 3, box_cells h' 0, box_cells h' 1, box_cells h' 2, box_cells h' 3⟩
theorem right_size {k i : Int} {s : ByteArray} {b : Bool} (h : Lp.rightB k i s b = true) : s.size ≤ 60 := by
  rcases right_class h with ⟨_, _, rfl, _⟩ | ⟨_, rfl, _⟩ | ⟨_, _, _, h⟩ | ⟨_, _, rfl⟩
  · decide
  · decide
  · exact h
  · decide
theorem str_list (l : List UInt8) : (⟨l.toArray⟩ : ByteArray).toList = l := by rw [ByteArray.toList_eq]
set_option maxRecDepth 100000 in
set_option maxHeartbeats 4000000 in
theorem cellApart_no1 (k i : Int) (s : ByteArray) (b : Bool) (k' i' : Int) (s' : ByteArray) (b' : Bool) (w : World) (hs : s.size ≤ 9223372036854775807) (hs' : s'.size ≤ 9223372036854775807) (hr : Lp.rightB k i s b = false) (h : Aw w) :
    Calls Tryd.prog 4 #[.agg #[.int .u8 k, .int .i64 i, .string s, .bool b], .agg #[.int .u8 k', .int .i64 i', .string s', .bool b']] w fun e w' => e = .returned (.bool true) ∧ Below w.heap.size w w' := by
  have k0 := ba (ba (Below.refl w.heap.size w) (.cells #[.int .u8 k, .int .i64 i, .string s, .bool b] 24)) (.cells #[.int .u8 k', .int .i64 i', .string s', .bool b'] 24)
  have x0 := box_alloc (heap_alloc_new w (.cells #[.int .u8 k, .int .i64 i, .string s, .bool b] 24)) (.cells #[.int .u8 k', .int .i64 i', .string s', .bool b'] 24)
  have x1 := heap_new2 w (.cells #[.int .u8 k, .int .i64 i, .string s, .bool b] 24) (.cells #[.int .u8 k', .int .i64 i', .string s', .bool b'] 24)
  have R1 := Lib.hid (fun W => right2_at k i s b false hr W hs)
  have R2 := Lib.hid (fun W => right2_at k' i' s' b' _ rfl W hs')
  have HH := Lib.hid h
  clear h hs hs' hr
  go_enter Tryd.func4, Tryd.ntmps4
  go_wp2_with fail
  refine (awake2_any _ (aw_below HH.out k0)).mono ?_
  rintro e v1 ⟨rfl, hb1⟩
  have x1_0 := box_below x0 hb1
  have x1_1 := box_below x1 hb1
  have k1 := k0.trans (hb1.mono k0.size)
  clear hb1 k0 x0 x1
  have c1_0 := box_cells x1_0
  have l1_0 := heap_lt x1_0
  have c1_1 := box_cells x1_1
  have l1_1 := heap_lt x1_1
  go_wp2_with fail
  refine (R1.out _).mono ?_
  rintro e v2 ⟨rfl, hb2⟩
  have x2_0 := box_below x1_0 hb2
  have x2_1 := box_below x1_1 hb2
  have k2 := k1.trans (hb2.mono k1.size)
  clear hb2 k1 x1_0 x1_1 c1_0 c1_1 l1_0 l1_1
  have c2_0 := box_cells x2_0
  have l2_0 := heap_lt x2_0
  have c2_1 := box_cells x2_1
  have l2_1 := heap_lt x2_1
  go_wp2
  go_ret
  exact ⟨rfl, k2⟩
set_option maxRecDepth 100000 in
set_option maxHeartbeats 4000000 in
theorem cellApart_no2 (k i : Int) (s : ByteArray) (b : Bool) (k' i' : Int) (s' : ByteArray) (b' : Bool) (w : World) (hs : s.size ≤ 9223372036854775807) (hs' : s'.size ≤ 9223372036854775807) (hr : Lp.rightB k i s b = true) (hr' : Lp.rightB k' i' s' b' = false) (h : Aw w) :
    Calls Tryd.prog 4 #[.agg #[.int .u8 k, .int .i64 i, .string s, .bool b], .agg #[.int .u8 k', .int .i64 i', .string s', .bool b']] w fun e w' => e = .returned (.bool true) ∧ Below w.heap.size w w' := by
  have k0 := ba (ba (Below.refl w.heap.size w) (.cells #[.int .u8 k, .int .i64 i, .string s, .bool b] 24)) (.cells #[.int .u8 k', .int .i64 i', .string s', .bool b'] 24)
  have x0 := box_alloc (heap_alloc_new w (.cells #[.int .u8 k, .int .i64 i, .string s, .bool b] 24)) (.cells #[.int .u8 k', .int .i64 i', .string s', .bool b'] 24)
  have x1 := heap_new2 w (.cells #[.int .u8 k, .int .i64 i, .string s, .bool b] 24) (.cells #[.int .u8 k', .int .i64 i', .string s', .bool b'] 24)
  have R1 := Lib.hid (fun W => right2_at k i s b true hr W hs)
  have R2 := Lib.hid (fun W => right2_at k' i' s' b' false hr' W hs')
  have HH := Lib.hid h
  clear h hs hs' hr hr'
  go_enter Tryd.func4, Tryd.ntmps4
  go_wp2_with fail
  refine (awake2_any _ (aw_below HH.out k0)).mono ?_
  rintro e v1 ⟨rfl, hb1⟩
  have x1_0 := box_below x0 hb1
  have x1_1 := box_below x1 hb1
  have k1 := k0.trans (hb1.mono k0.size)
  clear hb1 k0 x0 x1
  have c1_0 := box_cells x1_0
  have l1_0 := heap_lt x1_0
  have c1_1 := box_cells x1_1
  have l1_1 := heap_lt x1_1
  go_wp2_with fail
  refine (R1.out _).mono ?_
  rintro e v2 ⟨rfl, hb2⟩
  have x2_0 := box_below x1_0 hb2
  have x2_1 := box_below x1_1 hb2
  have k2 := k1.trans (hb2.mono k1.size)
  clear hb2 k1 x1_0 x1_1 c1_0 c1_1 l1_0 l1_1
  have c2_0 := box_cells x2_0
  have l2_0 := heap_lt x2_0
  have c2_1 := box_cells x2_1
  have l2_1 := heap_lt x2_1
  go_wp2_with fail
  refine (R2.out _).mono ?_
  rintro e v3 ⟨rfl, hb3⟩
  have x3_0 := box_below x2_0 hb3
  have x3_1 := box_below x2_1 hb3
  have k3 := k2.trans (hb3.mono k2.size)
  clear hb3 k2 x2_0 x2_1 c2_0 c2_1 l2_0 l2_1
  have c3_0 := box_cells x3_0
  have l3_0 := heap_lt x3_0
  have c3_1 := box_cells x3_1
  have l3_1 := heap_lt x3_1
  go_wp2
  go_ret
  exact ⟨rfl, k3⟩
set_option maxRecDepth 100000 in
set_option maxHeartbeats 4000000 in
theorem cellApart_eq (k i : Int) (s : ByteArray) (b : Bool) (k' i' : Int) (s' : ByteArray) (b' : Bool) (w : World) (hs : s.size ≤ 9223372036854775807) (hs' : s'.size ≤ 9223372036854775807) (hi : Lp.inR i) (hi' : Lp.inR i') (hr : Lp.rightB k i s b = true) (hr' : Lp.rightB k' i' s' b' = true) (hk : k = k') (h : Aw w) :
    Calls Tryd.prog 4 #[.agg #[.int .u8 k, .int .i64 i, .string s, .bool b], .agg #[.int .u8 k', .int .i64 i', .string s', .bool b']] w fun e w' => e = .returned (.bool true) ∧ Below w.heap.size w w' := by
  have k0 := ba (ba (Below.refl w.heap.size w) (.cells #[.int .u8 k, .int .i64 i, .string s, .bool b] 24)) (.cells #[.int .u8 k', .int .i64 i', .string s', .bool b'] 24)
  have x0 := box_alloc (heap_alloc_new w (.cells #[.int .u8 k, .int .i64 i, .string s, .bool b] 24)) (.cells #[.int .u8 k', .int .i64 i', .string s', .bool b'] 24)
  have x1 := heap_new2 w (.cells #[.int .u8 k, .int .i64 i, .string s, .bool b] 24) (.cells #[.int .u8 k', .int .i64 i', .string s', .bool b'] 24)
  have R1 := Lib.hid (fun W => right2_at k i s b true hr W hs)
  have R2 := Lib.hid (fun W => right2_at k' i' s' b' true hr' W hs')
  have hla := Lp.lit_apart (u := ⟨k, i, s, b⟩) (v := ⟨k', i', s', b'⟩) hr hr'
  obtain ⟨LA, hLA⟩ : ∃ x, Lp.lit ⟨k, i, s, b⟩ = x := ⟨_, rfl⟩
  obtain ⟨LB, hLB⟩ : ∃ x, Lp.lit ⟨k', i', s', b'⟩ = x := ⟨_, rfl⟩
  obtain ⟨SM, hsm⟩ : ∃ x, Lp.vsame ⟨k, i, s, b⟩ ⟨k', i', s', b'⟩ = x := ⟨_, rfl⟩
  have h60 := right_size hr
  have h60' := right_size hr'
  have c1 := fun W (a : Aw W) => clit_any k i s b W hi (by omega) a.2.1 a.2.2
  have c2 := fun W (a : Aw W) => clit_any k' i' s' b' W hi' (by omega) a.2.1 a.2.2
  have c3 := fun W => same2_any k i s b k' i' s' b' W
  rw [hLA] at c1
  rw [hLB] at c2
  rw [hsm] at c3
  rw [hLA, hLB, hsm] at hla
  have C1 := Lib.hid c1
  have C2 := Lib.hid c2
  have C3 := Lib.hid c3
  simp only [hk, decide_true, Bool.true_and] at hla
  have hkk : (k == k') = true := by rw [hk]; exact beq_self_eq_true _
  have hst : ((⟨LA.toArray⟩ : ByteArray).toList == (⟨LB.toArray⟩ : ByteArray).toList) = SM := by rw [str_list, str_list]; exact hla
  have HLA := Lib.hid hla
  have HH := Lib.hid h
  clear h hs hs' hr hr' hi hi' hla hLA hLB hsm c1 c2 c3 h60 h60' hk
  go_enter Tryd.func4, Tryd.ntmps4
  go_wp2_with fail
  refine (awake2_any _ (aw_below HH.out k0)).mono ?_
  rintro e v1 ⟨rfl, hb1⟩
  have x1_0 := box_below x0 hb1
  have x1_1 := box_below x1 hb1
  have k1 := k0.trans (hb1.mono k0.size)
  clear hb1 k0 x0 x1
  have c1_0 := box_cells x1_0
  have l1_0 := heap_lt x1_0
  have c1_1 := box_cells x1_1
  have l1_1 := heap_lt x1_1
  go_wp2_with fail
  refine (R1.out _).mono ?_
  rintro e v2 ⟨rfl, hb2⟩
  have x2_0 := box_below x1_0 hb2
  have x2_1 := box_below x1_1 hb2
  have k2 := k1.trans (hb2.mono k1.size)
  clear hb2 k1 x1_0 x1_1 c1_0 c1_1 l1_0 l1_1
  have c2_0 := box_cells x2_0
  have l2_0 := heap_lt x2_0
  have c2_1 := box_cells x2_1
  have l2_1 := heap_lt x2_1
  go_wp2_with fail
  refine (R2.out _).mono ?_
  rintro e v3 ⟨rfl, hb3⟩
  have x3_0 := box_below x2_0 hb3
  have x3_1 := box_below x2_1 hb3
  have k3 := k2.trans (hb3.mono k2.size)
  clear hb3 k2 x2_0 x2_1 c2_0 c2_1 l2_0 l2_1
  have c3_0 := box_cells x3_0
  have l3_0 := heap_lt x3_0
  have c3_1 := box_cells x3_1
  have l3_1 := heap_lt x3_1
  have hx0 := TwoBox.two x3_0 x3_1
  clear c3_0 l3_0 c3_1 l3_1
  have hxd : TwoBox w.heap.size k i s b k' i' s' b' v3.drew := hx0
  have A0 : Aw v3.drew := aw_below HH.out (k3).drew
  go_wp2_with fail
  refine wp_region_held_drew (S := fun w' => w'.cell? ⟨w.heap.size, 0, none⟩ = some (.int .u8 k) ∧ w'.cell? ⟨w.heap.size, 1, none⟩ = some (.int .i64 i) ∧ w'.cell? ⟨w.heap.size, 2, none⟩ = some (.string s) ∧ w'.cell? ⟨w.heap.size, 3, none⟩ = some (.bool b) ∧ w'.cell? ⟨w.heap.size + 1, 0, none⟩ = some (.int .u8 k') ∧ w'.cell? ⟨w.heap.size + 1, 1, none⟩ = some (.int .i64 i') ∧ w'.cell? ⟨w.heap.size + 1, 2, none⟩ = some (.string s') ∧ w'.cell? ⟨w.heap.size + 1, 3, none⟩ = some (.bool b')) (by kernel_rfl) hxd (fun hHeld0 => ?_)
  refine wpAnyH_take (i := 0) (v := ?_) rfl (by kernel_rfl) (by kernel_rfl) (by kernel_rfl) (fun _ _ _ h => h) (Or.inl ⟨by rfl, ?_⟩) (by assumption) ?_
  rotate_left
  · intro w hSw; (try dsimp only at hSw); go_simp; try with_reducible rfl
  try simp only [List.getElem_toArray, List.getElem_cons_zero, Act.put, List.setIfInBounds_toArray, List.set_cons_zero, List.set_cons_succ]
  refine wpAnyH_take (i := 2) (v := ?_) rfl (by kernel_rfl) (by kernel_rfl) (by kernel_rfl) (fun _ _ _ h => h) (Or.inl ⟨by rfl, ?_⟩) (by assumption) ?_
  rotate_left
  · intro w hSw; (try dsimp only at hSw); go_simp; try with_reducible rfl
  try simp only [List.getElem_toArray, List.getElem_cons_succ, List.getElem_cons_zero, Act.put, List.setIfInBounds_toArray, List.set_cons_zero, List.set_cons_succ]
  refine wpAnyH_take (i := 5) (v := ?_) rfl (by kernel_rfl) (by kernel_rfl) (by kernel_rfl) (fun _ _ _ h => h) (Or.inl ⟨by rfl, ?_⟩) (by assumption) ?_
  rotate_left
  · intro w hSw; (try dsimp only at hSw); go_simp; try with_reducible rfl
  try simp only [List.getElem_toArray, List.getElem_cons_succ, List.getElem_cons_zero, Act.put, List.setIfInBounds_toArray, List.set_cons_zero, List.set_cons_succ]
  refine wpAnyH_take (i := 6) (v := ?_) rfl (by kernel_rfl) (by kernel_rfl) (by kernel_rfl) (fun _ _ _ h => h) (Or.inl ⟨by rfl, ?_⟩) (by assumption) ?_
  rotate_left
  · intro w hSw; (try dsimp only at hSw); go_simp; try with_reducible rfl
  try simp only [List.getElem_toArray, List.getElem_cons_succ, List.getElem_cons_zero, Act.put, List.setIfInBounds_toArray, List.set_cons_zero, List.set_cons_succ]
  refine wpAnyH_take (i := 7) (v := ?_) rfl (by kernel_rfl) (by kernel_rfl) (by kernel_rfl) (fun _ _ _ h => h) (Or.inl ⟨by rfl, ?_⟩) (by assumption) ?_
  rotate_left
  · intro w hSw; (try dsimp only at hSw); go_simp; try with_reducible rfl
  try simp only [List.getElem_toArray, List.getElem_cons_succ, List.getElem_cons_zero, Act.put, List.setIfInBounds_toArray, List.set_cons_zero, List.set_cons_succ]
  refine wpAnyH_take (i := 8) (v := ?_) rfl (by kernel_rfl) (by kernel_rfl) (by kernel_rfl) (fun _ _ _ h => h) (Or.inl ⟨by rfl, ?_⟩) (by assumption) ?_
  rotate_left
  · intro w hSw; (try dsimp only at hSw); go_simp; try with_reducible rfl
  try simp only [List.getElem_toArray, List.getElem_cons_succ, List.getElem_cons_zero, Act.put, List.setIfInBounds_toArray, List.set_cons_zero, List.set_cons_succ]
  refine wpAnyH_take (i := 9) (v := ?_) rfl (by kernel_rfl) (by kernel_rfl) (by kernel_rfl) (fun _ _ _ h => h) (Or.inl ⟨by rfl, ?_⟩) (by assumption) ?_
  rotate_left
  · intro w hSw; (try dsimp only at hSw); go_simp; try with_reducible rfl
  try simp only [List.getElem_toArray, List.getElem_cons_succ, List.getElem_cons_zero, Act.put, List.setIfInBounds_toArray, List.set_cons_zero, List.set_cons_succ]
  refine wpAnyH_ready (rs := [1]) (by kernel_rfl) (by simp) ?_
  refine AllReadyH.cons rfl (fun K hK => ?_) AllReadyH.nil
  go_simp
  go_at_call 14
  refine (C1.out _ A0).mono ?_
  rintro e u1 ⟨rfl, ha1⟩
  have hx1 := (fun h => TwoBox.below h ha1) hxd
  have A1 := aw_below A0 ha1
  go_wp2_with fail
  refine hK.out _ _ ?_ (fun hHeld1 => ?_)
  · exact hx1
  clear hK K hHeld0
  try simp only [List.getElem_toArray, List.getElem_cons_succ, List.getElem_cons_zero, Act.put, List.setIfInBounds_toArray, List.set_cons_zero, List.set_cons_succ]
  refine wpAnyH_ready (rs := [3]) (by kernel_rfl) (by simp) ?_
  refine AllReadyH.cons rfl (fun K hK => ?_) AllReadyH.nil
  go_simp
  go_at_call 14
  refine (C2.out _ A1).mono ?_
  rintro e u2 ⟨rfl, ha2⟩
  have hx2 := (fun h => TwoBox.below h ha2) hx1
  have A2 := aw_below A1 ha2
  go_wp2_with fail
  refine hK.out _ _ ?_ (fun hHeld2 => ?_)
  · exact hx2
  clear hK K hHeld1
  try simp only [List.getElem_toArray, List.getElem_cons_succ, List.getElem_cons_zero, Act.put, List.setIfInBounds_toArray, List.set_cons_zero, List.set_cons_succ]
  refine wpAnyH_take (i := 4) (v := ?_) rfl (by kernel_rfl) (by kernel_rfl) (by kernel_rfl) (fun _ _ _ h => h) (Or.inl ⟨by rfl, ?_⟩) (by assumption) ?_
  rotate_left
  · intro w hSw; (try dsimp only at hSw); go_simp; try with_reducible rfl
  try simp only [List.getElem_toArray, List.getElem_cons_succ, List.getElem_cons_zero, Act.put, List.setIfInBounds_toArray, List.set_cons_zero, List.set_cons_succ]
  refine wpAnyH_take (i := 10) (v := ?_) rfl (by kernel_rfl) (by kernel_rfl) (by kernel_rfl) (fun _ _ _ h => h) (Or.inl ⟨by rfl, ?_⟩) (by assumption) ?_
  rotate_left
  · intro w hSw; (try dsimp only at hSw); go_simp; try with_reducible rfl
  try simp only [List.getElem_toArray, List.getElem_cons_succ, List.getElem_cons_zero, Act.put, List.setIfInBounds_toArray, List.set_cons_zero, List.set_cons_succ]
  refine wpAnyH_take (i := 11) (v := ?_) rfl (by kernel_rfl) (by kernel_rfl) (by kernel_rfl) (fun _ _ _ h => h) (Or.inl ⟨by rfl, ?_⟩) (by assumption) ?_
  rotate_left
  · intro w hSw; (try dsimp only at hSw); go_simp; try with_reducible rfl
  try simp only [List.getElem_toArray, List.getElem_cons_succ, List.getElem_cons_zero, Act.put, List.setIfInBounds_toArray, List.set_cons_zero, List.set_cons_succ]
  refine wpAnyH_take (i := 12) (v := ?_) rfl (by kernel_rfl) (by kernel_rfl) (by kernel_rfl) (fun _ _ _ h => h) (Or.inl ⟨by rfl, ?_⟩) (by assumption) ?_
  rotate_left
  · intro w hSw; (try dsimp only at hSw); go_simp; try with_reducible rfl
  try simp only [List.getElem_toArray, List.getElem_cons_succ, List.getElem_cons_zero, Act.put, List.setIfInBounds_toArray, List.set_cons_zero, List.set_cons_succ]
  refine wpAnyH_ready (rs := [13]) (by kernel_rfl) (by simp) ?_
  refine AllReadyH.cons rfl (fun K hK => ?_) AllReadyH.nil
  go_simp
  go_at_call 16
  refine (C3.out _).mono ?_
  rintro e u3 ⟨rfl, ha3⟩
  have hx3 := (fun h => TwoBox.below h ha3) hx2
  have A3 := aw_below A2 ha3
  go_wp2_with fail
  refine hK.out _ _ ?_ (fun hHeld3 => ?_)
  · exact hx3
  clear hK K hHeld2
  try simp only [List.getElem_toArray, List.getElem_cons_succ, List.getElem_cons_zero, Act.put, List.setIfInBounds_toArray, List.set_cons_zero, List.set_cons_succ]
  refine wpAnyH_take (i := 14) (v := ?_) rfl (by kernel_rfl) (by kernel_rfl) (by kernel_rfl) (fun _ _ _ h => h) (Or.inl ⟨by rfl, ?_⟩) (by assumption) ?_
  rotate_left
  · intro w hSw; (try dsimp only at hSw); go_simp; try with_reducible rfl
  try simp only [List.getElem_toArray, List.getElem_cons_succ, List.getElem_cons_zero, Act.put, List.setIfInBounds_toArray, List.set_cons_zero, List.set_cons_succ]
  refine wpAnyH_take (i := 15) (v := ?_) rfl (by kernel_rfl) (by kernel_rfl) (by kernel_rfl) (fun _ _ _ h => h) (Or.inl ⟨by rfl, ?_⟩) (by assumption) ?_
  rotate_left
  · intro w hSw; (try dsimp only at hSw); go_simp; try with_reducible rfl
  try simp only [List.getElem_toArray, List.getElem_cons_succ, List.getElem_cons_zero, Act.put, List.setIfInBounds_toArray, List.set_cons_zero, List.set_cons_succ]
  refine wpAnyH_take (i := 16) (v := ?_) rfl (by kernel_rfl) (by kernel_rfl) (by kernel_rfl) (fun _ _ _ h => h) (Or.inl ⟨by rfl, ?_⟩) (by assumption) ?_
  rotate_left
  · intro w hSw; (try dsimp only at hSw); go_simp; try with_reducible rfl
  try simp only [List.getElem_toArray, List.getElem_cons_succ, List.getElem_cons_zero, Act.put, List.setIfInBounds_toArray, List.set_cons_zero, List.set_cons_succ]
  refine wpAnyH_done (by kernel_rfl) ?_ _
  have q1 : Below w.heap.size w u1 := k3.drew.trans (ha1.mono k3.size)
  have q2 := q1.trans (ha2.mono q1.size)
  have q3 := q2.trans (ha3.mono q2.size)
  go_wp2
  go_ret
  exact ⟨by simpa using HLA.out, q3⟩
set_option maxRecDepth 100000 in
set_option maxHeartbeats 4000000 in
theorem cellApart_ne (k i : Int) (s : ByteArray) (b : Bool) (k' i' : Int) (s' : ByteArray) (b' : Bool) (w : World) (hs : s.size ≤ 9223372036854775807) (hs' : s'.size ≤ 9223372036854775807) (hi : Lp.inR i) (hi' : Lp.inR i') (hr : Lp.rightB k i s b = true) (hr' : Lp.rightB k' i' s' b' = true) (hk : ¬ k = k') (h : Aw w) :
    Calls Tryd.prog 4 #[.agg #[.int .u8 k, .int .i64 i, .string s, .bool b], .agg #[.int .u8 k', .int .i64 i', .string s', .bool b']] w fun e w' => e = .returned (.bool true) ∧ Below w.heap.size w w' := by
  have k0 := ba (ba (Below.refl w.heap.size w) (.cells #[.int .u8 k, .int .i64 i, .string s, .bool b] 24)) (.cells #[.int .u8 k', .int .i64 i', .string s', .bool b'] 24)
  have x0 := box_alloc (heap_alloc_new w (.cells #[.int .u8 k, .int .i64 i, .string s, .bool b] 24)) (.cells #[.int .u8 k', .int .i64 i', .string s', .bool b'] 24)
  have x1 := heap_new2 w (.cells #[.int .u8 k, .int .i64 i, .string s, .bool b] 24) (.cells #[.int .u8 k', .int .i64 i', .string s', .bool b'] 24)
  have R1 := Lib.hid (fun W => right2_at k i s b true hr W hs)
  have R2 := Lib.hid (fun W => right2_at k' i' s' b' true hr' W hs')
  have hla := Lp.lit_apart (u := ⟨k, i, s, b⟩) (v := ⟨k', i', s', b'⟩) hr hr'
  obtain ⟨LA, hLA⟩ : ∃ x, Lp.lit ⟨k, i, s, b⟩ = x := ⟨_, rfl⟩
  obtain ⟨LB, hLB⟩ : ∃ x, Lp.lit ⟨k', i', s', b'⟩ = x := ⟨_, rfl⟩
  obtain ⟨SM, hsm⟩ : ∃ x, Lp.vsame ⟨k, i, s, b⟩ ⟨k', i', s', b'⟩ = x := ⟨_, rfl⟩
  have h60 := right_size hr
  have h60' := right_size hr'
  have c1 := fun W (a : Aw W) => clit_any k i s b W hi (by omega) a.2.1 a.2.2
  have c2 := fun W (a : Aw W) => clit_any k' i' s' b' W hi' (by omega) a.2.1 a.2.2
  have c3 := fun W => same2_any k i s b k' i' s' b' W
  rw [hLA] at c1
  rw [hLB] at c2
  rw [hsm] at c3
  rw [hLA, hLB, hsm] at hla
  have C1 := Lib.hid c1
  have C2 := Lib.hid c2
  have C3 := Lib.hid c3
  rw [decide_eq_false hk, Bool.false_and] at hla
  have hkk : (k == k') = false := beq_eq_false_iff_ne.2 hk
  have hst : ((⟨LA.toArray⟩ : ByteArray).toList == (⟨LB.toArray⟩ : ByteArray).toList) = false := by rw [str_list, str_list]; exact hla
  have HLA := Lib.hid hla
  have HH := Lib.hid h
  clear h hs hs' hr hr' hi hi' hla hLA hLB hsm c1 c2 c3 h60 h60' hk
  go_enter Tryd.func4, Tryd.ntmps4
  go_wp2_with fail
  refine (awake2_any _ (aw_below HH.out k0)).mono ?_
  rintro e v1 ⟨rfl, hb1⟩
  have x1_0 := box_below x0 hb1
  have x1_1 := box_below x1 hb1
  have k1 := k0.trans (hb1.mono k0.size)
  clear hb1 k0 x0 x1
  have c1_0 := box_cells x1_0
  have l1_0 := heap_lt x1_0
  have c1_1 := box_cells x1_1
  have l1_1 := heap_lt x1_1
  go_wp2_with fail
  refine (R1.out _).mono ?_
  rintro e v2 ⟨rfl, hb2⟩
  have x2_0 := box_below x1_0 hb2
  have x2_1 := box_below x1_1 hb2
  have k2 := k1.trans (hb2.mono k1.size)
  clear hb2 k1 x1_0 x1_1 c1_0 c1_1 l1_0 l1_1
  have c2_0 := box_cells x2_0
  have l2_0 := heap_lt x2_0
  have c2_1 := box_cells x2_1
  have l2_1 := heap_lt x2_1
  go_wp2_with fail
  refine (R2.out _).mono ?_
  rintro e v3 ⟨rfl, hb3⟩
  have x3_0 := box_below x2_0 hb3
  have x3_1 := box_below x2_1 hb3
  have k3 := k2.trans (hb3.mono k2.size)
  clear hb3 k2 x2_0 x2_1 c2_0 c2_1 l2_0 l2_1
  have c3_0 := box_cells x3_0
  have l3_0 := heap_lt x3_0
  have c3_1 := box_cells x3_1
  have l3_1 := heap_lt x3_1
  have hx0 := TwoBox.two x3_0 x3_1
  clear c3_0 l3_0 c3_1 l3_1
  have hxd : TwoBox w.heap.size k i s b k' i' s' b' v3.drew := hx0
  have A0 : Aw v3.drew := aw_below HH.out (k3).drew
  go_wp2_with fail
  refine wp_region_held_drew (S := fun w' => w'.cell? ⟨w.heap.size, 0, none⟩ = some (.int .u8 k) ∧ w'.cell? ⟨w.heap.size, 1, none⟩ = some (.int .i64 i) ∧ w'.cell? ⟨w.heap.size, 2, none⟩ = some (.string s) ∧ w'.cell? ⟨w.heap.size, 3, none⟩ = some (.bool b) ∧ w'.cell? ⟨w.heap.size + 1, 0, none⟩ = some (.int .u8 k') ∧ w'.cell? ⟨w.heap.size + 1, 1, none⟩ = some (.int .i64 i') ∧ w'.cell? ⟨w.heap.size + 1, 2, none⟩ = some (.string s') ∧ w'.cell? ⟨w.heap.size + 1, 3, none⟩ = some (.bool b')) (by kernel_rfl) hxd (fun hHeld0 => ?_)
  refine wpAnyH_take (i := 0) (v := ?_) rfl (by kernel_rfl) (by kernel_rfl) (by kernel_rfl) (fun _ _ _ h => h) (Or.inl ⟨by rfl, ?_⟩) (by assumption) ?_
  rotate_left
  · intro w hSw; (try dsimp only at hSw); go_simp; try with_reducible rfl
  try simp only [List.getElem_toArray, List.getElem_cons_zero, Act.put, List.setIfInBounds_toArray, List.set_cons_zero, List.set_cons_succ]
  refine wpAnyH_take (i := 2) (v := ?_) rfl (by kernel_rfl) (by kernel_rfl) (by kernel_rfl) (fun _ _ _ h => h) (Or.inl ⟨by rfl, ?_⟩) (by assumption) ?_
  rotate_left
  · intro w hSw; (try dsimp only at hSw); go_simp; try with_reducible rfl
  try simp only [List.getElem_toArray, List.getElem_cons_succ, List.getElem_cons_zero, Act.put, List.setIfInBounds_toArray, List.set_cons_zero, List.set_cons_succ]
  refine wpAnyH_take (i := 5) (v := ?_) rfl (by kernel_rfl) (by kernel_rfl) (by kernel_rfl) (fun _ _ _ h => h) (Or.inl ⟨by rfl, ?_⟩) (by assumption) ?_
  rotate_left
  · intro w hSw; (try dsimp only at hSw); go_simp; try with_reducible rfl
  try simp only [List.getElem_toArray, List.getElem_cons_succ, List.getElem_cons_zero, Act.put, List.setIfInBounds_toArray, List.set_cons_zero, List.set_cons_succ]
  refine wpAnyH_take (i := 6) (v := ?_) rfl (by kernel_rfl) (by kernel_rfl) (by kernel_rfl) (fun _ _ _ h => h) (Or.inl ⟨by rfl, ?_⟩) (by assumption) ?_
  rotate_left
  · intro w hSw; (try dsimp only at hSw); go_simp; try with_reducible rfl
  try simp only [List.getElem_toArray, List.getElem_cons_succ, List.getElem_cons_zero, Act.put, List.setIfInBounds_toArray, List.set_cons_zero, List.set_cons_succ]
  refine wpAnyH_take (i := 7) (v := ?_) rfl (by kernel_rfl) (by kernel_rfl) (by kernel_rfl) (fun _ _ _ h => h) (Or.inl ⟨by rfl, ?_⟩) (by assumption) ?_
  rotate_left
  · intro w hSw; (try dsimp only at hSw); go_simp; try with_reducible rfl
  try simp only [List.getElem_toArray, List.getElem_cons_succ, List.getElem_cons_zero, Act.put, List.setIfInBounds_toArray, List.set_cons_zero, List.set_cons_succ]
  refine wpAnyH_take (i := 8) (v := ?_) rfl (by kernel_rfl) (by kernel_rfl) (by kernel_rfl) (fun _ _ _ h => h) (Or.inl ⟨by rfl, ?_⟩) (by assumption) ?_
  rotate_left
  · intro w hSw; (try dsimp only at hSw); go_simp; try with_reducible rfl
  try simp only [List.getElem_toArray, List.getElem_cons_succ, List.getElem_cons_zero, Act.put, List.setIfInBounds_toArray, List.set_cons_zero, List.set_cons_succ]
  refine wpAnyH_take (i := 9) (v := ?_) rfl (by kernel_rfl) (by kernel_rfl) (by kernel_rfl) (fun _ _ _ h => h) (Or.inl ⟨by rfl, ?_⟩) (by assumption) ?_
  rotate_left
  · intro w hSw; (try dsimp only at hSw); go_simp; try with_reducible rfl
  try simp only [List.getElem_toArray, List.getElem_cons_succ, List.getElem_cons_zero, Act.put, List.setIfInBounds_toArray, List.set_cons_zero, List.set_cons_succ]
  refine wpAnyH_ready (rs := [1]) (by kernel_rfl) (by simp) ?_
  refine AllReadyH.cons rfl (fun K hK => ?_) AllReadyH.nil
  go_simp
  go_at_call 14
  refine (C1.out _ A0).mono ?_
  rintro e u1 ⟨rfl, ha1⟩
  have hx1 := (fun h => TwoBox.below h ha1) hxd
  have A1 := aw_below A0 ha1
  go_wp2_with fail
  refine hK.out _ _ ?_ (fun hHeld1 => ?_)
  · exact hx1
  clear hK K hHeld0
  try simp only [List.getElem_toArray, List.getElem_cons_succ, List.getElem_cons_zero, Act.put, List.setIfInBounds_toArray, List.set_cons_zero, List.set_cons_succ]
  refine wpAnyH_ready (rs := [3]) (by kernel_rfl) (by simp) ?_
  refine AllReadyH.cons rfl (fun K hK => ?_) AllReadyH.nil
  go_simp
  go_at_call 14
  refine (C2.out _ A1).mono ?_
  rintro e u2 ⟨rfl, ha2⟩
  have hx2 := (fun h => TwoBox.below h ha2) hx1
  have A2 := aw_below A1 ha2
  go_wp2_with fail
  refine hK.out _ _ ?_ (fun hHeld2 => ?_)
  · exact hx2
  clear hK K hHeld1
  try simp only [List.getElem_toArray, List.getElem_cons_succ, List.getElem_cons_zero, Act.put, List.setIfInBounds_toArray, List.set_cons_zero, List.set_cons_succ]
  refine wpAnyH_take (i := 4) (v := ?_) rfl (by kernel_rfl) (by kernel_rfl) (by kernel_rfl) (fun _ _ _ h => h) (Or.inl ⟨by rfl, ?_⟩) (by assumption) ?_
  rotate_left
  · intro w hSw; (try dsimp only at hSw); go_simp; try with_reducible rfl
  try simp only [List.getElem_toArray, List.getElem_cons_succ, List.getElem_cons_zero, Act.put, List.setIfInBounds_toArray, List.set_cons_zero, List.set_cons_succ]
  refine wpAnyH_take (i := 10) (v := ?_) rfl (by kernel_rfl) (by kernel_rfl) (by kernel_rfl) (fun _ _ _ h => h) (Or.inl ⟨by rfl, ?_⟩) (by assumption) ?_
  rotate_left
  · intro w hSw; (try dsimp only at hSw); go_simp; try with_reducible rfl
  try simp only [List.getElem_toArray, List.getElem_cons_succ, List.getElem_cons_zero, Act.put, List.setIfInBounds_toArray, List.set_cons_zero, List.set_cons_succ]
  refine wpAnyH_take (i := 11) (v := undef) rfl (by kernel_rfl) (by kernel_rfl) (by kernel_rfl) (fun _ _ _ h => h) (Or.inr ⟨by rfl, rfl⟩) (by assumption) ?_
  try simp only [List.getElem_toArray, List.getElem_cons_succ, List.getElem_cons_zero, Act.put, List.setIfInBounds_toArray, List.set_cons_zero, List.set_cons_succ]
  refine wpAnyH_take (i := 12) (v := undef) rfl (by kernel_rfl) (by kernel_rfl) (by kernel_rfl) (fun _ _ _ h => h) (Or.inr ⟨by rfl, rfl⟩) (by assumption) ?_
  try simp only [List.getElem_toArray, List.getElem_cons_succ, List.getElem_cons_zero, Act.put, List.setIfInBounds_toArray, List.set_cons_zero, List.set_cons_succ]
  refine wpAnyH_take (i := 13) (v := undef) rfl (by kernel_rfl) (by kernel_rfl) (by kernel_rfl) (fun _ _ _ h => h) (Or.inr ⟨by rfl, rfl⟩) (by assumption) ?_
  try simp only [List.getElem_toArray, List.getElem_cons_succ, List.getElem_cons_zero, Act.put, List.setIfInBounds_toArray, List.set_cons_zero, List.set_cons_succ]
  refine wpAnyH_take (i := 14) (v := ?_) rfl (by kernel_rfl) (by kernel_rfl) (by kernel_rfl) (fun _ _ _ h => h) (Or.inl ⟨by rfl, ?_⟩) (by assumption) ?_
  rotate_left
  · intro w hSw; (try dsimp only at hSw); go_simp; try with_reducible rfl
  try simp only [List.getElem_toArray, List.getElem_cons_succ, List.getElem_cons_zero, Act.put, List.setIfInBounds_toArray, List.set_cons_zero, List.set_cons_succ]
  refine wpAnyH_take (i := 15) (v := ?_) rfl (by kernel_rfl) (by kernel_rfl) (by kernel_rfl) (fun _ _ _ h => h) (Or.inl ⟨by rfl, ?_⟩) (by assumption) ?_
  rotate_left
  · intro w hSw; (try dsimp only at hSw); go_simp; try with_reducible rfl
  try simp only [List.getElem_toArray, List.getElem_cons_succ, List.getElem_cons_zero, Act.put, List.setIfInBounds_toArray, List.set_cons_zero, List.set_cons_succ]
  refine wpAnyH_take (i := 16) (v := ?_) rfl (by kernel_rfl) (by kernel_rfl) (by kernel_rfl) (fun _ _ _ h => h) (Or.inl ⟨by rfl, ?_⟩) (by assumption) ?_
  rotate_left
  · intro w hSw; (try dsimp only at hSw); go_simp; try with_reducible rfl
  try simp only [List.getElem_toArray, List.getElem_cons_succ, List.getElem_cons_zero, Act.put, List.setIfInBounds_toArray, List.set_cons_zero, List.set_cons_succ]
  refine wpAnyH_done (by kernel_rfl) ?_ _
  have q1 : Below w.heap.size w u1 := k3.drew.trans (ha1.mono k3.size)
  have q2 := q1.trans (ha2.mono q1.size)
  go_wp2
  go_ret
  exact ⟨by simpa using HLA.out, q2⟩
theorem cellApart_walk (k i : Int) (s : ByteArray) (b : Bool) (k' i' : Int) (s' : ByteArray) (b' : Bool) (w : World) (ok0 : (⟨k, i, s, b⟩ : Lp.V).ok) (ok1 : (⟨k', i', s', b'⟩ : Lp.V).ok) (h : Aw w) :
    Calls Tryd.prog 4 #[.agg #[.int .u8 k, .int .i64 i, .string s, .bool b], .agg #[.int .u8 k', .int .i64 i', .string s', .bool b']] w fun e w' => e = .returned (.bool true) ∧ Below w.heap.size w w' := by
  have hs := ok0.1
  have hs' := ok1.1
  have hi := ok0.2.1
  have hi' := ok1.2.1
  simp only at hs hs' hi hi'
  rcases Bool.eq_false_or_eq_true (Lp.rightB k i s b) with hr | hr
  · rcases Bool.eq_false_or_eq_true (Lp.rightB k' i' s' b') with hr' | hr'
    · by_cases hk : k = k'
      · exact cellApart_eq k i s b k' i' s' b' w hs hs' hi hi' hr hr' hk h
      · exact cellApart_ne k i s b k' i' s' b' w hs hs' hi hi' hr hr' hk h
    · exact cellApart_no2 k i s b k' i' s' b' w hs hs' hr hr' h
  · exact cellApart_no1 k i s b k' i' s' b' w hs hs' hr h
end Go.Proofs.YthojikijelijnaaDoor
