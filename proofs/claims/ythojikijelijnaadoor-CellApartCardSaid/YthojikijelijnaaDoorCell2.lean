/-
  What cell's order, Less, Same and Compare tell of any two values. No conditions.
-/
import Derived.Test.YthojikijelijnaaDoorCell1
import Derived.Test.YthojikijelijnaaDoorRef2C
namespace Go.Proofs.YthojikijelijnaaDoor
open Go.RowKit
attribute [local go_sem] ta_i_i ta_i_s ta_i_b ta1_i ta_s_i ta_s_s ta_s_b ta1_s ta_b_i ta_b_s ta_b_b ta1_b ta_n_i ta_n_s ta_n_b

def Lp.bit (b : Bool) : Int := if b then 1 else 0
def Lp.vord (u v : Lp.V) : Int :=
  if Lp.rank u.k = Lp.rank v.k then
    (if u.k = 1 then Lp.cmpI u.i v.i else if u.k = 2 then Lp.cmpS u.s.data.toList v.s.data.toList else if u.k = 3 then Lp.cmpI (Lp.bit u.b) (Lp.bit v.b) else 0)
  else Lp.cmpI (Lp.rank u.k) (Lp.rank v.k)
theorem rank_of_n {k : Int} (h : NoK k) : Lp.rank k = 0 := by
  have h1 := beq_eq_false_iff_ne.1 h.1
  have h2 := beq_eq_false_iff_ne.1 h.2.1
  have h3 := beq_eq_false_iff_ne.1 h.2.2
  simp [Lp.rank, h1, h2, h3]
theorem rank_kind {k k' : Int} (h : Lp.rank k = Lp.rank k') : (k = 1 ∧ k' = 1) ∨ (k = 2 ∧ k' = 2) ∨ (k = 3 ∧ k' = 3) ∨ (NoK k ∧ NoK k') := by
  rcases kcases k with rfl | rfl | rfl | h1 <;> rcases kcases k' with rfl | rfl | rfl | h2 <;> first
    | exact .inl ⟨rfl, rfl⟩
    | exact .inr (.inl ⟨rfl, rfl⟩)
    | exact .inr (.inr (.inl ⟨rfl, rfl⟩))
    | exact .inr (.inr (.inr ⟨h1, h2⟩))
    | (rw [rank_of_n h1] at h; simp [Lp.rank] at h)
    | (rw [rank_of_n h2] at h; simp [Lp.rank] at h)
    | (simp [Lp.rank] at h)
theorem cmpI_ne {a b : Int} (h : a ≠ b) : Lp.cmpI a b ≠ 0 := by unfold Lp.cmpI; split; decide; split; decide; omega
theorem cmpI_same (a : Int) : Lp.cmpI a a = 0 := by simp [Lp.cmpI]
theorem bit_is (b : Bool) (w : World) : Calls Tryd.prog 50 #[.bool b] w fun e w' => e = .returned (.int .i64 (Lp.bit b)) ∧ w = w' := bit_any b w

theorem openb_1 (i : Int) (s : ByteArray) (b : Bool) (w : World) : Calls Tryd.prog 30 #[.agg #[.int .u8 1, .int .i64 i, .string s, .bool b]] w fun e w' => e = .returned (.iface 2 (.int .i64 i)) ∧ Below w.heap.size w w' :=
  (open_1 i s b w).mono fun _ _ ⟨h1, h2⟩ => ⟨h1, h2 ▸ (Below.refl _ _).alloc (Nat.le_refl _) _⟩
theorem openb_2 (i : Int) (s : ByteArray) (b : Bool) (w : World) : Calls Tryd.prog 30 #[.agg #[.int .u8 2, .int .i64 i, .string s, .bool b]] w fun e w' => e = .returned (.iface 9 (.string s)) ∧ Below w.heap.size w w' :=
  (open_2 i s b w).mono fun _ _ ⟨h1, h2⟩ => ⟨h1, h2 ▸ (Below.refl _ _).alloc (Nat.le_refl _) _⟩
theorem openb_3 (i : Int) (s : ByteArray) (b : Bool) (w : World) : Calls Tryd.prog 30 #[.agg #[.int .u8 3, .int .i64 i, .string s, .bool b]] w fun e w' => e = .returned (.iface 4 (.bool b)) ∧ Below w.heap.size w w' :=
  (open_3 i s b w).mono fun _ _ ⟨h1, h2⟩ => ⟨h1, h2 ▸ (Below.refl _ _).alloc (Nat.le_refl _) _⟩
theorem openb_n (k i : Int) (s : ByteArray) (b : Bool) (hk : NoK k) (w : World) : Calls Tryd.prog 30 #[.agg #[.int .u8 k, .int .i64 i, .string s, .bool b]] w fun e w' => e = .returned .nilIface ∧ Below w.heap.size w w' :=
  (open_n k i s b hk w).mono fun _ _ ⟨h1, h2⟩ => ⟨h1, h2 ▸ (Below.refl _ _).alloc (Nat.le_refl _) _⟩

set_option maxRecDepth 100000 in
set_option maxHeartbeats 4000000 in
theorem order_any (k i : Int) (s : ByteArray) (b : Bool) (k' i' : Int) (s' : ByteArray) (b' : Bool) (w : World) :
    Calls Tryd.prog 34 #[.agg #[.int .u8 k, .int .i64 i, .string s, .bool b], .agg #[.int .u8 k', .int .i64 i', .string s', .bool b']] w
      fun e w' => e = .returned (.int .i64 (Lp.vord ⟨k, i, s, b⟩ ⟨k', i', s', b'⟩)) ∧ Below w.heap.size w w' := by
  have hb0 := ((Below.refl w.heap.size w).alloc (Nat.le_refl _) (.cells #[.int .u8 k, .int .i64 i, .string s, .bool b] 24)).alloc (by simp) (.cells #[.int .u8 k', .int .i64 i', .string s', .bool b'] 24)
  have hx0 := TwoBox.new w k i s b k' i' s' b' 24 24
  by_cases hr : Lp.rank k = Lp.rank k'
  · have hkk := rank_kind hr
    have hrr := cmpI_same (Lp.rank k')
    have HR := Lib.hid hr
    clear hr
    rcases hkk with ⟨rfl, rfl⟩ | ⟨rfl, rfl⟩ | ⟨rfl, rfl⟩ | ⟨n1, n2⟩
    · have hv : Lp.vord ⟨1, i, s, b⟩ ⟨1, i', s', b'⟩ = Lp.cmpI i i' := by simp [Lp.vord]
      rw [hv]; clear hv
      go_enter Tryd.func34, Tryd.ntmps34
      go_wp2_with fail
      go_region_held3 (fun w' => w'.cell? ⟨w.heap.size, 0, none⟩ = some (.int .u8 1) ∧ w'.cell? ⟨w.heap.size + 1, 0, none⟩ = some (.int .u8 1))
        (first | go_keep | exact ⟨hx0.1, hx0.2.2.2.2.1⟩)
        (first | (go_at_call 47; refine (rank_any _ _).mono ?_; rintro e w' ⟨rfl, rfl⟩) | (go_at_call 46; refine (cmpI_any _ _ _).mono ?_; rintro e w' ⟨rfl, rfl⟩))
      try rw [hrr]
      obtain ⟨f0, f1, f2, f3, f4, f5, f6, f7⟩ := hx0
      go_wp2_with fail
      refine (openb_1 _ _ _ _).mono ?_
      rintro e w1 ⟨rfl, hb1⟩
      have k1 : Below w.heap.size w w1 := hb0.drew.trans (hb1.mono (by simp; omega))
      have hx1 := (fun h => TwoBox.below h hb1) (TwoBox.new w 1 i s b 1 i' s' b' 24 24)
      clear hb1 hb0 f0 f1 f2 f3 f4 f5 f6 f7
      obtain ⟨f0, f1, f2, f3, f4, f5, f6, f7⟩ := hx1
      go_wp2_with fail
      refine (openb_1 _ _ _ _).mono ?_
      rintro e w2 ⟨rfl, hb2⟩
      have k2 := k1.trans (hb2.mono k1.size)
      go_wp2_with (go_at_call 48; refine (cmpL_any _ _ _).mono ?_; rintro e w' ⟨rfl, rfl⟩)
      go_ret
      exact ⟨rfl, k2⟩
    · have hv : Lp.vord ⟨2, i, s, b⟩ ⟨2, i', s', b'⟩ = Lp.cmpS s.data.toList s'.data.toList := by simp [Lp.vord]
      rw [hv]; clear hv
      go_enter Tryd.func34, Tryd.ntmps34
      go_wp2_with fail
      go_region_held3 (fun w' => w'.cell? ⟨w.heap.size, 0, none⟩ = some (.int .u8 2) ∧ w'.cell? ⟨w.heap.size + 1, 0, none⟩ = some (.int .u8 2))
        (first | go_keep | exact ⟨hx0.1, hx0.2.2.2.2.1⟩)
        (first | (go_at_call 47; refine (rank_any _ _).mono ?_; rintro e w' ⟨rfl, rfl⟩) | (go_at_call 46; refine (cmpI_any _ _ _).mono ?_; rintro e w' ⟨rfl, rfl⟩))
      try rw [hrr]
      obtain ⟨f0, f1, f2, f3, f4, f5, f6, f7⟩ := hx0
      go_wp2_with fail
      refine (openb_2 _ _ _ _).mono ?_
      rintro e w1 ⟨rfl, hb1⟩
      have k1 : Below w.heap.size w w1 := hb0.drew.trans (hb1.mono (by simp; omega))
      have hx1 := (fun h => TwoBox.below h hb1) (TwoBox.new w 2 i s b 2 i' s' b' 24 24)
      clear hb1 hb0 f0 f1 f2 f3 f4 f5 f6 f7
      obtain ⟨f0, f1, f2, f3, f4, f5, f6, f7⟩ := hx1
      go_wp2_with fail
      refine (openb_2 _ _ _ _).mono ?_
      rintro e w2 ⟨rfl, hb2⟩
      have k2 := k1.trans (hb2.mono k1.size)
      go_wp2_with (go_at_call 49; refine (cmpS_any _ _ _).mono ?_; rintro e w' ⟨rfl, rfl⟩)
      go_ret
      exact ⟨rfl, k2⟩
    · have hv : Lp.vord ⟨3, i, s, b⟩ ⟨3, i', s', b'⟩ = Lp.cmpI (Lp.bit b) (Lp.bit b') := by simp [Lp.vord]
      rw [hv]; clear hv
      go_enter Tryd.func34, Tryd.ntmps34
      go_wp2_with fail
      go_region_held3 (fun w' => w'.cell? ⟨w.heap.size, 0, none⟩ = some (.int .u8 3) ∧ w'.cell? ⟨w.heap.size + 1, 0, none⟩ = some (.int .u8 3))
        (first | go_keep | exact ⟨hx0.1, hx0.2.2.2.2.1⟩)
        (first | (go_at_call 47; refine (rank_any _ _).mono ?_; rintro e w' ⟨rfl, rfl⟩) | (go_at_call 46; refine (cmpI_any _ _ _).mono ?_; rintro e w' ⟨rfl, rfl⟩))
      try rw [hrr]
      obtain ⟨f0, f1, f2, f3, f4, f5, f6, f7⟩ := hx0
      go_wp2_with fail
      refine (openb_3 _ _ _ _).mono ?_
      rintro e w1 ⟨rfl, hb1⟩
      have k1 : Below w.heap.size w w1 := hb0.drew.trans (hb1.mono (by simp; omega))
      have hx1 := (fun h => TwoBox.below h hb1) (TwoBox.new w 3 i s b 3 i' s' b' 24 24)
      clear hb1 hb0 f0 f1 f2 f3 f4 f5 f6 f7
      have hS1 : w1.drew.cell? ⟨w.heap.size + 1, 0, none⟩ = some (.int .u8 3) ∧ w1.drew.cell? ⟨w.heap.size + 1, 1, none⟩ = some (.int .i64 i') ∧ w1.drew.cell? ⟨w.heap.size + 1, 2, none⟩ = some (.string s') ∧ w1.drew.cell? ⟨w.heap.size + 1, 3, none⟩ = some (.bool b') := hx1.2.2.2.2
      go_wp2_with fail
      go_region_held3 (fun w' => w'.cell? ⟨w.heap.size + 1, 0, none⟩ = some (.int .u8 3) ∧ w'.cell? ⟨w.heap.size + 1, 1, none⟩ = some (.int .i64 i') ∧ w'.cell? ⟨w.heap.size + 1, 2, none⟩ = some (.string s') ∧ w'.cell? ⟨w.heap.size + 1, 3, none⟩ = some (.bool b'))
        (first | exact hS1 | go_keep | exact hx2.2.2.2.2)
        (first
          | (go_at_call 50; refine (bit_is _ _).mono ?_; rintro e w' ⟨rfl, rfl⟩)
          | (go_at_call 30; refine (openb_3 _ _ _ _).mono ?_; rintro e w2 ⟨rfl, hb2⟩; have hx2 := (fun h => TwoBox.below h hb2) hx1)
          | (go_at_call 46; refine (cmpI_any _ _ _).mono ?_; rintro e w' ⟨rfl, rfl⟩))
      all_goals
        have k2 : Below w.heap.size w w2 := k1.drew.trans (hb2.mono k1.size)
        go_wp2
        go_ret
        exact ⟨rfl, k2⟩
    · have hv : Lp.vord ⟨k, i, s, b⟩ ⟨k', i', s', b'⟩ = 0 := by
        have h1 := beq_eq_false_iff_ne.1 n1.1
        have h2 := beq_eq_false_iff_ne.1 n1.2.1
        have h3 := beq_eq_false_iff_ne.1 n1.2.2
        simp [Lp.vord, HR.out, h1, h2, h3]
      rw [hv]; clear hv
      have hR := HR.out
      have N1 := Lib.hid n1
      clear n1 n2
      go_enter Tryd.func34, Tryd.ntmps34
      go_wp2_with fail
      go_region_held3 (fun w' => w'.cell? ⟨w.heap.size, 0, none⟩ = some (.int .u8 k) ∧ w'.cell? ⟨w.heap.size + 1, 0, none⟩ = some (.int .u8 k'))
        (first | go_keep | exact ⟨hx0.1, hx0.2.2.2.2.1⟩)
        (first | (go_at_call 47; refine (rank_any _ _).mono ?_; rintro e w' ⟨rfl, rfl⟩) | (go_at_call 46; refine (cmpI_any _ _ _).mono ?_; rintro e w' ⟨rfl, rfl⟩))
      try rw [hR]
      try rw [hrr]
      clear hR
      obtain ⟨f0, f1, f2, f3, f4, f5, f6, f7⟩ := hx0
      go_wp2_with fail
      refine (openb_n _ _ _ _ N1.out _).mono ?_
      rintro e w1 ⟨rfl, hb1⟩
      have k1 : Below w.heap.size w w1 := hb0.drew.trans (hb1.mono (by simp; omega))
      go_wp2
      go_ret
      exact ⟨rfl, k1⟩
  · have hv : Lp.vord ⟨k, i, s, b⟩ ⟨k', i', s', b'⟩ = Lp.cmpI (Lp.rank k) (Lp.rank k') := by unfold Lp.vord; rw [if_neg hr]
    rw [hv]; clear hv
    have hn := cmpI_ne hr
    generalize hC : Lp.cmpI (Lp.rank k) (Lp.rank k') = C at *
    have hn2 : (C != 0) = true := bne_iff_ne.2 hn
    have HC := Lib.hid hC
    clear hn hr hC
    go_enter Tryd.func34, Tryd.ntmps34
    go_wp2_with fail
    go_region_held3 (fun w' => w'.cell? ⟨w.heap.size, 0, none⟩ = some (.int .u8 k) ∧ w'.cell? ⟨w.heap.size + 1, 0, none⟩ = some (.int .u8 k'))
      (first | go_keep | exact ⟨hx0.1, hx0.2.2.2.2.1⟩)
      (first | (go_at_call 47; refine (rank_any _ _).mono ?_; rintro e w' ⟨rfl, rfl⟩) | (go_at_call 46; refine (cmpI_any _ _ _).mono ?_; rintro e w' ⟨rfl, rfl⟩))
    try rw [HC.out]
    go_wp2
    go_ret
    exact ⟨rfl, hb0.drew⟩
end Go.Proofs.YthojikijelijnaaDoor
