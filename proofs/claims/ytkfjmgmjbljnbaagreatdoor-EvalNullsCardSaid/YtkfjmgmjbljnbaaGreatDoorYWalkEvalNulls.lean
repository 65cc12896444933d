/-
 EvalNulls: the walk. Conditions: the tables of unicode/utf8 and of the reserved words as laid.
-/
import Derived.Test.YtkfjmgmjbljnbaaGreatDoorYLaw18b
set_option maxRecDepth 100000
set_option maxHeartbeats 8000000
namespace Go.Proofs.YtkfjmgmjbljnbaaGreatDoor
open Go.RowKit
theorem cat_ok2 (a b : ByteArray) {m n : Nat} (ha : a.size ≤ m) (hb : b.size ≤ n) (hmn : m + n ≤ 1000000000) : ∃ Y : ByteArray, a ++ b = Y ∧ Y.size ≤ m + n ∧ ∀ w, (Op.stringOp .add a b).run Tryz.prog w = .ok (.string Y) w := by
 refine ⟨_, rfl, ?_, fun w => run_string_add_sum w a b (by omega)⟩
 rw [ByteArray.size_append']; omega
def opN : Nat → List UInt8
 | 0 => [43]
 | 1 => [45]
 | 2 => [42]
 | 3 => [47]
 | 4 => [37]
 | 5 => [61]
 | 6 => [60, 62]
 | 7 => [60]
 | 8 => [60, 61]
 | 9 => [62]
 | _ => [62, 61]
def oneN (s : Bool) : List UInt8 := if s then [50] else [49]
def lN (lt s : Bool) : List UInt8 := if lt then [78, 85, 76, 76] else oneN s
def rN (lt s : Bool) : List UInt8 := if lt then oneN s else [78, 85, 76, 76]
def lNB (lt s : Bool) : ByteArray := ⟨(lN lt s).toArray⟩
def rNB (lt s : Bool) : ByteArray := ⟨(rN lt s).toArray⟩
def opNB (i : Nat) : ByteArray := ⟨(opN i).toArray⟩
def chkN18 (lt s : Bool) (i : Nat) : Bool := (toldX (Lp.condS (lN lt s ++ [32] ++ opN i ++ [32] ++ rN lt s))).2 == 0 && (toldX (Lp.condS (lN lt s ++ [32] ++ opN i ++ [32] ++ rN lt s))).1.k == 0
theorem chkN18_all : ∀ lt s : Bool, ∀ i < 11, chkN18 lt s i = true := by decide +kernel
theorem nulls_told {s : ByteArray} (lt sn : Bool) {i : Nat} (hi : i < 11) (hs : s.data.toList = lN lt sn ++ [32] ++ opN i ++ [32] ++ rN lt sn) (w : World) (hT : Tabs w) (hR : Resv w) :
 Calls Tryz.prog 20 #[.string s] w fun e w' => ∃ vi vs vb, e = .returned (.tuple #[.agg #[.int .u8 0, .int .i64 vi, .string vs, .bool vb], .int .i64 0]) ∧ Below w.heap.size w w' := by
 refine (told_any18 s w hT hR).mono ?_
 rintro e w' ⟨h1, h2⟩
 have hl : s.data.toList.take 600 = lN lt sn ++ [32] ++ opN i ++ [32] ++ rN lt sn := by
  rw [hs, List.take_of_length_le]
  have a1 : ∀ lt sn : Bool, (lN lt sn).length ≤ 4 := by decide
  have a2 : ∀ lt sn : Bool, (rN lt sn).length ≤ 4 := by decide
  have a3 : ∀ i < 11, (opN i).length ≤ 2 := by decide
  have := a1 lt sn
  have := a2 lt sn
  have := a3 i hi
  simp only [List.length_append, List.length_cons, List.length_nil]
  omega
 rw [hl] at h1
 have h := chkN18_all lt sn i hi
 unfold chkN18 at h
 rw [Bool.and_eq_true, beq_iff_eq, beq_iff_eq] at h
 generalize toldX (Lp.condS (lN lt sn ++ [32] ++ opN i ++ [32] ++ rN lt sn)) = p at *
 obtain ⟨⟨k, vi, vs, vb⟩, E⟩ := p
 obtain ⟨g1, g2⟩ := h
 simp only at g1 g2
 subst g1 g2
 exact ⟨vi, vs, vb, h1, h2⟩
theorem tn_1 : toldX (Lp.condS [78, 85, 76, 76, 32, 65, 78, 68, 32, 84, 82, 85, 69]) = (⟨0, 0, ⟨#[]⟩, false⟩, 0) := by kernel_rfl
theorem tn_2 : toldX (Lp.condS [84, 82, 85, 69, 32, 79, 82, 32, 78, 85, 76, 76]) = (⟨3, 0, ⟨#[]⟩, true⟩, 0) := by kernel_rfl
theorem tn_3 : toldX (Lp.condS [70, 65, 76, 83, 69, 32, 79, 82, 32, 78, 85, 76, 76]) = (⟨0, 0, ⟨#[]⟩, false⟩, 0) := by kernel_rfl
theorem tn_4 : toldX (Lp.condS [78, 85, 76, 76, 32, 73, 83, 32, 78, 85, 76, 76]) = (⟨3, 0, ⟨#[]⟩, true⟩, 0) := by kernel_rfl
theorem tn_5 : toldX (Lp.condS [78, 79, 84, 32, 78, 85, 76, 76]) = (⟨0, 0, ⟨#[]⟩, false⟩, 0) := by kernel_rfl
theorem lNB_size (lt s : Bool) : (lNB lt s).size ≤ 4 := by cases lt <;> cases s <;> decide
theorem rNB_size (lt s : Bool) : (rNB lt s).size ≤ 4 := by cases lt <;> cases s <;> decide
theorem opNB_size {i : Nat} (h : i < 11) : (opNB i).size ≤ 2 := by
 have : ∀ i < 11, (opN i).toArray.size ≤ 2 := by decide
 exact this i h
theorem opsN_at {w : World} {g : Nat} (h : w.heap[g]? = some (.cells #[.string ⟨#[43]⟩, .string ⟨#[45]⟩, .string ⟨#[42]⟩, .string ⟨#[47]⟩, .string ⟨#[37]⟩, .string ⟨#[61]⟩, .string ⟨#[60, 62]⟩, .string ⟨#[60]⟩, .string ⟨#[60, 61]⟩, .string ⟨#[62]⟩, .string ⟨#[62, 61]⟩] 9 (0, 0))) {k : Nat} (hk : k < 11) : w.cell? ⟨g, k, none⟩ = some (.string (opNB k)) := by
 rw [box_cells h k]
 match k, hk with
 | 0, _ => rfl
 | 1, _ => rfl
 | 2, _ => rfl
 | 3, _ => rfl
 | 4, _ => rfl
 | 5, _ => rfl
 | 6, _ => rfl
 | 7, _ => rfl
 | 8, _ => rfl
 | 9, _ => rfl
 | 10, _ => rfl
theorem ba_app2 (a b : ByteArray) : (a ++ b).data.toList = a.data.toList ++ b.data.toList := by
 show ((a ++ b : ByteArray)).data.toList = _
 rw [ByteArray.data_append, Array.toList_append]
theorem nulls_walk (a0 : Int) (lf : Bool) (v : Int) (b : Bool) (w : World) (ha0 : 0 ≤ a0) (ha1 : a0 ≤ 255) (hT : Tabs w) (hR : Resv w) :
 Calls Tryz.prog 4 #[.int .u8 a0, .bool lf, .int .i64 v, .bool b] w fun e w' => e = .returned (.bool true) ∧ Below w.heap.size w w' := by
 have HA := Lib.hid (awake18 w hT hR)
 have HT := Lib.hid (And.intro hT hR)
 obtain ⟨a, rfl⟩ := Int.eq_ofNat_of_zero_le ha0
 clear hT hR
 go_enter Tryz.func4, Tryz.ntmps4
 go_wp2_with fail
 refine HA.out.mono ?_
 rintro e w1 ⟨rfl, hb1⟩
 go_upto_region 5 with fail
 have hbW : Below w1.heap.size w1 (w1.alloc (.cells #[.string ⟨#[43]⟩, .string ⟨#[45]⟩, .string ⟨#[42]⟩, .string ⟨#[47]⟩, .string ⟨#[37]⟩, .string ⟨#[61]⟩, .string ⟨#[60, 62]⟩, .string ⟨#[60]⟩, .string ⟨#[60, 61]⟩, .string ⟨#[62]⟩, .string ⟨#[62, 61]⟩] 9)) := (Below.refl _ _).alloc (Nat.le_refl _) _
 have ho := heap_alloc_new w1 (.cells #[.string ⟨#[43]⟩, .string ⟨#[45]⟩, .string ⟨#[42]⟩, .string ⟨#[47]⟩, .string ⟨#[37]⟩, .string ⟨#[61]⟩, .string ⟨#[60, 62]⟩, .string ⟨#[60]⟩, .string ⟨#[60, 61]⟩, .string ⟨#[62]⟩, .string ⟨#[62, 61]⟩] 9)
 have hbT := hb1.trans (hbW.mono hb1.size)
 generalize (w1.alloc (.cells #[.string ⟨#[43]⟩, .string ⟨#[45]⟩, .string ⟨#[42]⟩, .string ⟨#[47]⟩, .string ⟨#[37]⟩, .string ⟨#[61]⟩, .string ⟨#[60, 62]⟩, .string ⟨#[60]⟩, .string ⟨#[60, 61]⟩, .string ⟨#[62]⟩, .string ⟨#[62, 61]⟩] 9)) = W at *
 generalize w1.heap.size = go at *
 have hA11 : a % 11 < 11 := Nat.mod_lt _ (by omega)
 have hop := opsN_at ho hA11
 have hmod : (a : Int).tmod 11 = ((a % 11 : Nat) : Int) := rfl
 have HB := Lib.hid hbT
 clear HA hb1 hbW ho hbT
 generalize a % 11 = ka at *
 have hcase : ∃ sn : Bool, ((v == 0) = true ∧ (v != 0) = false ∧ sn = false) ∨ ((v == 0) = false ∧ (v != 0) = true ∧ sn = true) := by
  by_cases hv : v = 0
  ·have e1 : (v == 0) = true := beq_iff_eq.2 hv
   exact ⟨false, .inl ⟨e1, by rw [bne, e1]; rfl, rfl⟩⟩
  ·have e1 : (v == 0) = false := beq_eq_false_iff_ne.2 hv
   exact ⟨true, .inr ⟨e1, by rw [bne, e1]; rfl, rfl⟩⟩
 obtain ⟨sn, hcase⟩ := hcase
 obtain ⟨Y1, y1, z1, A1⟩ := cat_ok2 (lNB lf sn) ⟨#[32]⟩ (lNB_size lf sn) (Nat.le_refl _) (by decide)
 obtain ⟨Y2, y2, z2, A2⟩ := cat_ok2 Y1 (opNB ka) z1 (opNB_size hA11) (by decide)
 obtain ⟨Y3, y3, z3, A3⟩ := cat_ok2 Y2 ⟨#[32]⟩ z2 (Nat.le_refl _) (by decide)
 obtain ⟨Y4, y4, z4, A4⟩ := cat_ok2 Y3 (rNB lf sn) z3 (rNB_size lf sn) (by decide)
 have hY : Y4.data.toList = lN lf sn ++ [32] ++ opN ka ++ [32] ++ rN lf sn := by
  rw [← y4, ← y3, ← y2, ← y1, ba_app2, ba_app2, ba_app2, ba_app2]
  rfl
 have HK1 := Lib.hid (fun W1 (hb : Below w.heap.size w W1) => nulls_told lf sn hA11 hY W1 (tabs_below HT.out.1 hb) (resv_below HT.out.2 hb))
 have HK2 := Lib.hid (fun W1 (hb : Below w.heap.size w W1) => (show Calls Tryz.prog 20 #[.string (if b then ⟨#[78, 85, 76, 76, 32, 65, 78, 68, 32, 84, 82, 85, 69]⟩ else ⟨#[78, 85, 76, 76, 32, 65, 78, 68, 32, 70, 65, 76, 83, 69]⟩)] W1 (fun e w' => ∃ yk : Int, e = .returned (.tuple #[.agg #[.int .u8 yk, .int .i64 0, .string ⟨#[]⟩, .bool false], .int .i64 0]) ∧ (yk == 0) = b ∧ Below W1.heap.size W1 w') by
  cases b
  ·exact told_at ⟨#[78, 85, 76, 76, 32, 65, 78, 68, 32, 70, 65, 76, 83, 69]⟩ _ rfl _ t18_2 HT.out.1 HT.out.2 hb |>.mono fun e w' h => ⟨3, h.1, rfl, h.2⟩
  ·exact told_at ⟨#[78, 85, 76, 76, 32, 65, 78, 68, 32, 84, 82, 85, 69]⟩ _ rfl _ tn_1 HT.out.1 HT.out.2 hb |>.mono fun e w' h => ⟨0, h.1, rfl, h.2⟩))
 have HK3 := Lib.hid (fun W1 (hb : Below w.heap.size w W1) => (show Calls Tryz.prog 20 #[.string (if b then ⟨#[84, 82, 85, 69, 32, 79, 82, 32, 78, 85, 76, 76]⟩ else ⟨#[70, 65, 76, 83, 69, 32, 79, 82, 32, 78, 85, 76, 76]⟩)] W1 (fun e w' => ∃ (zk : Int) (zb : Bool), e = .returned (.tuple #[.agg #[.int .u8 zk, .int .i64 0, .string ⟨#[]⟩, .bool zb], .int .i64 0]) ∧ (zk == 0) = !b ∧ Below W1.heap.size W1 w') by
  cases b
  ·exact told_at ⟨#[70, 65, 76, 83, 69, 32, 79, 82, 32, 78, 85, 76, 76]⟩ _ rfl _ tn_3 HT.out.1 HT.out.2 hb |>.mono fun e w' h => ⟨0, false, h.1, rfl, h.2⟩
  ·exact told_at ⟨#[84, 82, 85, 69, 32, 79, 82, 32, 78, 85, 76, 76]⟩ _ rfl _ tn_2 HT.out.1 HT.out.2 hb |>.mono fun e w' h => ⟨3, true, h.1, rfl, h.2⟩))
 have HK4 := Lib.hid (fun W1 (hb : Below w.heap.size w W1) => told_at ⟨#[78, 85, 76, 76, 32, 73, 83, 32, 78, 85, 76, 76]⟩ _ rfl _ tn_4 HT.out.1 HT.out.2 hb)
 have HK5 := Lib.hid (fun W1 (hb : Below w.heap.size w W1) => told_at ⟨#[78, 79, 84, 32, 78, 85, 76, 76]⟩ _ rfl _ tn_5 HT.out.1 HT.out.2 hb)
 clear y1 y2 y3 y4 z1 z2 z3 z4 hY
 rcases hcase with ⟨e1, e2, rfl⟩ | ⟨e1, e2, rfl⟩
 all_goals cases lf
 all_goals cases b
 all_goals simp only [if_true, if_false, Bool.false_eq_true, lNB, rNB, lN, rN, oneN, Bool.not_true, Bool.not_false] at *
 all_goals
  go_wp2_with fail
  refine (HK1.out _ HB.out).mono ?_
  rintro e w2 ⟨xi, xs, xb, rfl, hb2⟩
  have hk2 := ba (HB.out.trans (hb2.mono HB.out.size)) (.cells #[.int .u8 0, .int .i64 xi, .string xs, .bool xb] 31)
  have hz2 := heap_alloc_new w2 (.cells #[.int .u8 0, .int .i64 xi, .string xs, .bool xb] 31)
  clear hb2 A1 A2 A3 A4 e1 e2 hop
  go_wp2_with fail
  refine (HK2.out _ hk2).mono ?_
  rintro e w3 ⟨yk, rfl, hyk, hb3⟩
  have hk3 := ba (hk2.trans (hb3.mono hk2.size)) (.cells #[.int .u8 yk, .int .i64 0, .string ⟨#[]⟩, .bool false] 31)
  have hz23 := box_alloc (box_below hz2 hb3) (.cells #[.int .u8 yk, .int .i64 0, .string ⟨#[]⟩, .bool false] 31)
  have hz3 := heap_alloc_new w3 (.cells #[.int .u8 yk, .int .i64 0, .string ⟨#[]⟩, .bool false] 31)
  clear hb3 hz2
  go_wp2_with fail
  refine (HK3.out _ hk3).mono ?_
  rintro e w4 ⟨zk, zb, rfl, hzk, hb4⟩
  have hk4 := ba (hk3.trans (hb4.mono hk3.size)) (.cells #[.int .u8 zk, .int .i64 0, .string ⟨#[]⟩, .bool zb] 31)
  have hz24 := box_alloc (box_below hz23 hb4) (.cells #[.int .u8 zk, .int .i64 0, .string ⟨#[]⟩, .bool zb] 31)
  have hz34 := box_alloc (box_below hz3 hb4) (.cells #[.int .u8 zk, .int .i64 0, .string ⟨#[]⟩, .bool zb] 31)
  have hz4 := heap_alloc_new w4 (.cells #[.int .u8 zk, .int .i64 0, .string ⟨#[]⟩, .bool zb] 31)
  clear hb4 hz23 hz3
  go_wp2_with fail
  refine (HK4.out _ hk4).mono ?_
  rintro e w5 ⟨rfl, hb5⟩
  have hk5 := ba (hk4.trans (hb5.mono hk4.size)) (.cells #[.int .u8 3, .int .i64 0, .string ⟨#[]⟩, .bool true] 31)
  have hz25 := box_alloc (box_below hz24 hb5) (.cells #[.int .u8 3, .int .i64 0, .string ⟨#[]⟩, .bool true] 31)
  have hz35 := box_alloc (box_below hz34 hb5) (.cells #[.int .u8 3, .int .i64 0, .string ⟨#[]⟩, .bool true] 31)
  have hz45 := box_alloc (box_below hz4 hb5) (.cells #[.int .u8 3, .int .i64 0, .string ⟨#[]⟩, .bool true] 31)
  have hz5 := heap_alloc_new w5 (.cells #[.int .u8 3, .int .i64 0, .string ⟨#[]⟩, .bool true] 31)
  clear hb5 hz24 hz34 hz4
  go_wp2_with fail
  refine (HK5.out _ hk5).mono ?_
  rintro e w6 ⟨rfl, hb6⟩
  have hk6 := Lib.hid (ba (hk5.trans (hb6.mono hk5.size)) (.cells #[.int .u8 0, .int .i64 0, .string ⟨#[]⟩, .bool false] 31))
  have c2 := box_cells (box_alloc (box_below hz25 hb6) (.cells #[.int .u8 0, .int .i64 0, .string ⟨#[]⟩, .bool false] 31))
  have c3 := box_cells (box_alloc (box_below hz35 hb6) (.cells #[.int .u8 0, .int .i64 0, .string ⟨#[]⟩, .bool false] 31))
  have c4 := box_cells (box_alloc (box_below hz45 hb6) (.cells #[.int .u8 0, .int .i64 0, .string ⟨#[]⟩, .bool false] 31))
  have c5 := box_cells (box_alloc (box_below hz5 hb6) (.cells #[.int .u8 0, .int .i64 0, .string ⟨#[]⟩, .bool false] 31))
  clear hb6 hz25 hz35 hz45 hz5 HK1 HK2 HK3 HK4 HK5
  go_wp2
  go_ret
  exact ⟨rfl, hk6.out⟩
end Go.Proofs.YtkfjmgmjbljnbaaGreatDoor
