/-
  What cell.Compare and the document's Compare tell of two values. No conditions.
-/
import Derived.Test.YthojikijelijnaaDoorCell3
namespace Go.Proofs.YthojikijelijnaaDoor
open Go.RowKit
attribute [local go_sem] ta_i_i ta_i_s ta_i_b ta1_i ta_s_i ta_s_s ta_s_b ta1_s ta_b_i ta_b_s ta_b_b ta1_b ta_n_i ta_n_s ta_n_b

def Lp.isK (k : Int) : Bool := k == 1 || k == 2 || k == 3
theorem isK_no {k : Int} (h : Lp.isK k = false) : NoK k := by simpa [Lp.isK, NoK, and_assoc] using h
theorem isK_yes {k : Int} (h : Lp.isK k = true) : k = 1 ∨ k = 2 ∨ k = 3 := by simpa [Lp.isK, or_assoc] using h
def Lp.cmpV (u v : Lp.V) : Int := if Lp.isK u.k && Lp.isK v.k && decide (u.k = v.k) then Lp.vord u v else 0
def Lp.cmpB (u v : Lp.V) : Bool := Lp.isK u.k && Lp.isK v.k && decide (u.k = v.k)
def Lp.cmpE (u v : Lp.V) : Int := if Lp.isK u.k && Lp.isK v.k && !decide (u.k = v.k) then 8 else 0
def CmpPost (u v : Lp.V) (w : World) (e : Ending) (w' : World) : Prop := e = .returned (.tuple #[.int .i64 (Lp.cmpV u v), .bool (Lp.cmpB u v), .int .i64 (Lp.cmpE u v)]) ∧ Below w.heap.size w w'
theorem cmpPost {u v : Lp.V} {w w' : World} {a c : Int} {b : Bool} (h1 : Lp.cmpV u v = a) (h2 : Lp.cmpB u v = b) (h3 : Lp.cmpE u v = c) (hb : Below w.heap.size w w') : CmpPost u v w (.returned (.tuple #[.int .i64 a, .bool b, .int .i64 c])) w' := by
  subst h1 h2 h3; exact ⟨rfl, hb⟩

set_option maxRecDepth 100000 in
set_option maxHeartbeats 4000000 in
theorem compare_none (k i : Int) (s : ByteArray) (b : Bool) (k' i' : Int) (s' : ByteArray) (b' : Bool) (w : World) (hk : Lp.isK k = false) :
    Calls Tryd.prog 18 #[.agg #[.int .u8 k, .int .i64 i, .string s, .bool b], .agg #[.int .u8 k', .int .i64 i', .string s', .bool b']] w (CmpPost ⟨k, i, s, b⟩ ⟨k', i', s', b'⟩ w) := by
  have h1 : Lp.cmpV ⟨k, i, s, b⟩ ⟨k', i', s', b'⟩ = 0 := by simp [Lp.cmpV, hk]
  have h2 : Lp.cmpB ⟨k, i, s, b⟩ ⟨k', i', s', b'⟩ = false := by simp [Lp.cmpB, hk]
  have h3 : Lp.cmpE ⟨k, i, s, b⟩ ⟨k', i', s', b'⟩ = 0 := by simp [Lp.cmpE, hk]
  have H1 := Lib.hid h1
  have H2 := Lib.hid h2
  have H3 := Lib.hid h3
  have N := Lib.hid (isK_no hk)
  have hb0 := ((Below.refl w.heap.size w).alloc (Nat.le_refl _) (.cells #[.int .u8 k, .int .i64 i, .string s, .bool b] 24)).alloc (by simp) (.cells #[.int .u8 k', .int .i64 i', .string s', .bool b'] 24)
  clear h1 h2 h3 hk
  go_enter Tryd.func18, Tryd.ntmps18
  go_wp2_with fail
  refine (openb_n _ _ _ _ N.out _).mono ?_
  rintro e w1 ⟨rfl, hb1⟩
  have k1 : Below w.heap.size w w1 := hb0.trans (hb1.mono (by simp; omega))
  go_wp2
  go_ret3
  exact cmpPost H1.out H2.out H3.out k1
set_option maxRecDepth 100000 in
set_option maxHeartbeats 4000000 in
theorem compare_half_1 (i : Int) (s : ByteArray) (b : Bool) (k' i' : Int) (s' : ByteArray) (b' : Bool) (w : World) (hk : Lp.isK k' = false) :
    Calls Tryd.prog 18 #[.agg #[.int .u8 1, .int .i64 i, .string s, .bool b], .agg #[.int .u8 k', .int .i64 i', .string s', .bool b']] w (CmpPost ⟨1, i, s, b⟩ ⟨k', i', s', b'⟩ w) := by
  have h1 : Lp.cmpV ⟨1, i, s, b⟩ ⟨k', i', s', b'⟩ = 0 := by simp [Lp.cmpV, hk]
  have h2 : Lp.cmpB ⟨1, i, s, b⟩ ⟨k', i', s', b'⟩ = false := by simp [Lp.cmpB, hk]
  have h3 : Lp.cmpE ⟨1, i, s, b⟩ ⟨k', i', s', b'⟩ = 0 := by simp [Lp.cmpE, hk]
  have H1 := Lib.hid h1
  have H2 := Lib.hid h2
  have H3 := Lib.hid h3
  have N := Lib.hid (isK_no hk)
  have hb0 := ((Below.refl w.heap.size w).alloc (Nat.le_refl _) (.cells #[.int .u8 1, .int .i64 i, .string s, .bool b] 24)).alloc (by simp) (.cells #[.int .u8 k', .int .i64 i', .string s', .bool b'] 24)
  have hx0 := TwoBox.new w 1 i s b k' i' s' b' 24 24
  clear h1 h2 h3 hk
  go_enter Tryd.func18, Tryd.ntmps18
  go_wp2_with fail
  refine (openb_1 _ _ _ _).mono ?_
  rintro e w1 ⟨rfl, hb1⟩
  have k1 : Below w.heap.size w w1 := hb0.trans (hb1.mono (by simp; omega))
  have hx1 := hx0.below hb1
  clear hb0 hb1 hx0
  obtain ⟨f0, f1, f2, f3, f4, f5, f6, f7⟩ := hx1
  go_wp2_with fail
  refine (openb_n _ _ _ _ N.out _).mono ?_
  rintro e w2 ⟨rfl, hb2⟩
  have k2 := k1.trans (hb2.mono k1.size)
  go_wp2
  go_ret3
  exact cmpPost H1.out H2.out H3.out k2
set_option maxRecDepth 100000 in
set_option maxHeartbeats 4000000 in
theorem compare_half_2 (i : Int) (s : ByteArray) (b : Bool) (k' i' : Int) (s' : ByteArray) (b' : Bool) (w : World) (hk : Lp.isK k' = false) :
    Calls Tryd.prog 18 #[.agg #[.int .u8 2, .int .i64 i, .string s, .bool b], .agg #[.int .u8 k', .int .i64 i', .string s', .bool b']] w (CmpPost ⟨2, i, s, b⟩ ⟨k', i', s', b'⟩ w) := by
  have h1 : Lp.cmpV ⟨2, i, s, b⟩ ⟨k', i', s', b'⟩ = 0 := by simp [Lp.cmpV, hk]
  have h2 : Lp.cmpB ⟨2, i, s, b⟩ ⟨k', i', s', b'⟩ = false := by simp [Lp.cmpB, hk]
  have h3 : Lp.cmpE ⟨2, i, s, b⟩ ⟨k', i', s', b'⟩ = 0 := by simp [Lp.cmpE, hk]
  have H1 := Lib.hid h1
  have H2 := Lib.hid h2
  have H3 := Lib.hid h3
  have N := Lib.hid (isK_no hk)
  have hb0 := ((Below.refl w.heap.size w).alloc (Nat.le_refl _) (.cells #[.int .u8 2, .int .i64 i, .string s, .bool b] 24)).alloc (by simp) (.cells #[.int .u8 k', .int .i64 i', .string s', .bool b'] 24)
  have hx0 := TwoBox.new w 2 i s b k' i' s' b' 24 24
  clear h1 h2 h3 hk
  go_enter Tryd.func18, Tryd.ntmps18
  go_wp2_with fail
  refine (openb_2 _ _ _ _).mono ?_
  rintro e w1 ⟨rfl, hb1⟩
  have k1 : Below w.heap.size w w1 := hb0.trans (hb1.mono (by simp; omega))
  have hx1 := hx0.below hb1
  clear hb0 hb1 hx0
  obtain ⟨f0, f1, f2, f3, f4, f5, f6, f7⟩ := hx1
  go_wp2_with fail
  refine (openb_n _ _ _ _ N.out _).mono ?_
  rintro e w2 ⟨rfl, hb2⟩
  have k2 := k1.trans (hb2.mono k1.size)
  go_wp2
  go_ret3
  exact cmpPost H1.out H2.out H3.out k2
set_option maxRecDepth 100000 in
set_option maxHeartbeats 4000000 in
theorem compare_half_3 (i : Int) (s : ByteArray) (b : Bool) (k' i' : Int) (s' : ByteArray) (b' : Bool) (w : World) (hk : Lp.isK k' = false) :
    Calls Tryd.prog 18 #[.agg #[.int .u8 3, .int .i64 i, .string s, .bool b], .agg #[.int .u8 k', .int .i64 i', .string s', .bool b']] w (CmpPost ⟨3, i, s, b⟩ ⟨k', i', s', b'⟩ w) := by
  have h1 : Lp.cmpV ⟨3, i, s, b⟩ ⟨k', i', s', b'⟩ = 0 := by simp [Lp.cmpV, hk]
  have h2 : Lp.cmpB ⟨3, i, s, b⟩ ⟨k', i', s', b'⟩ = false := by simp [Lp.cmpB, hk]
  have h3 : Lp.cmpE ⟨3, i, s, b⟩ ⟨k', i', s', b'⟩ = 0 := by simp [Lp.cmpE, hk]
  have H1 := Lib.hid h1
  have H2 := Lib.hid h2
  have H3 := Lib.hid h3
  have N := Lib.hid (isK_no hk)
  have hb0 := ((Below.refl w.heap.size w).alloc (Nat.le_refl _) (.cells #[.int .u8 3, .int .i64 i, .string s, .bool b] 24)).alloc (by simp) (.cells #[.int .u8 k', .int .i64 i', .string s', .bool b'] 24)
  have hx0 := TwoBox.new w 3 i s b k' i' s' b' 24 24
  clear h1 h2 h3 hk
  go_enter Tryd.func18, Tryd.ntmps18
  go_wp2_with fail
  refine (openb_3 _ _ _ _).mono ?_
  rintro e w1 ⟨rfl, hb1⟩
  have k1 : Below w.heap.size w w1 := hb0.trans (hb1.mono (by simp; omega))
  have hx1 := hx0.below hb1
  clear hb0 hb1 hx0
  obtain ⟨f0, f1, f2, f3, f4, f5, f6, f7⟩ := hx1
  go_wp2_with fail
  refine (openb_n _ _ _ _ N.out _).mono ?_
  rintro e w2 ⟨rfl, hb2⟩
  have k2 := k1.trans (hb2.mono k1.size)
  go_wp2
  go_ret3
  exact cmpPost H1.out H2.out H3.out k2
set_option maxRecDepth 100000 in
set_option maxHeartbeats 4000000 in
theorem compare_1_1 (i : Int) (s : ByteArray) (b : Bool) (i' : Int) (s' : ByteArray) (b' : Bool) (w : World) :
    Calls Tryd.prog 18 #[.agg #[.int .u8 1, .int .i64 i, .string s, .bool b], .agg #[.int .u8 1, .int .i64 i', .string s', .bool b']] w (CmpPost ⟨1, i, s, b⟩ ⟨1, i', s', b'⟩ w) := by
  have hb0 := ((Below.refl w.heap.size w).alloc (Nat.le_refl _) (.cells #[.int .u8 1, .int .i64 i, .string s, .bool b] 24)).alloc (by simp) (.cells #[.int .u8 1, .int .i64 i', .string s', .bool b'] 24)
  have hx0 := TwoBox.new w 1 i s b 1 i' s' b' 24 24
  go_enter Tryd.func18, Tryd.ntmps18
  go_wp2_with fail
  refine (openb_1 _ _ _ _).mono ?_
  rintro e w1 ⟨rfl, hb1⟩
  have k1 : Below w.heap.size w w1 := hb0.trans (hb1.mono (by simp; omega))
  have hx1 := hx0.below hb1
  clear hb0 hb1 hx0
  have hx1' := hx1
  obtain ⟨f0, f1, f2, f3, f4, f5, f6, f7⟩ := hx1
  go_wp2_with fail
  refine (openb_1 _ _ _ _).mono ?_
  rintro e w2 ⟨rfl, hb2⟩
  have k2 := k1.trans (hb2.mono k1.size)
  have hx2 := hx1'.below hb2
  clear k1 hb2 hx1' f0 f1 f2 f3 f4 f5 f6 f7
  obtain ⟨f0, f1, f2, f3, f4, f5, f6, f7⟩ := hx2
  go_wp2_with fail
  refine (order_any _ _ _ _ _ _ _ _ _).mono ?_
  rintro e w3 ⟨rfl, hb3⟩
  have k3 := k2.trans (hb3.mono k2.size)
  go_wp2
  go_ret3
  exact cmpPost rfl rfl rfl k3
set_option maxRecDepth 100000 in
set_option maxHeartbeats 4000000 in
theorem compare_1_2 (i : Int) (s : ByteArray) (b : Bool) (i' : Int) (s' : ByteArray) (b' : Bool) (w : World) :
    Calls Tryd.prog 18 #[.agg #[.int .u8 1, .int .i64 i, .string s, .bool b], .agg #[.int .u8 2, .int .i64 i', .string s', .bool b']] w (CmpPost ⟨1, i, s, b⟩ ⟨2, i', s', b'⟩ w) := by
  have hb0 := ((Below.refl w.heap.size w).alloc (Nat.le_refl _) (.cells #[.int .u8 1, .int .i64 i, .string s, .bool b] 24)).alloc (by simp) (.cells #[.int .u8 2, .int .i64 i', .string s', .bool b'] 24)
  have hx0 := TwoBox.new w 1 i s b 2 i' s' b' 24 24
  go_enter Tryd.func18, Tryd.ntmps18
  go_wp2_with fail
  refine (openb_1 _ _ _ _).mono ?_
  rintro e w1 ⟨rfl, hb1⟩
  have k1 : Below w.heap.size w w1 := hb0.trans (hb1.mono (by simp; omega))
  have hx1 := hx0.below hb1
  clear hb0 hb1 hx0
  have hx1' := hx1
  obtain ⟨f0, f1, f2, f3, f4, f5, f6, f7⟩ := hx1
  go_wp2_with fail
  refine (openb_2 _ _ _ _).mono ?_
  rintro e w2 ⟨rfl, hb2⟩
  have k2 := k1.trans (hb2.mono k1.size)
  have hx2 := hx1'.below hb2
  clear k1 hb2 hx1' f0 f1 f2 f3 f4 f5 f6 f7
  obtain ⟨f0, f1, f2, f3, f4, f5, f6, f7⟩ := hx2
  go_wp2
  go_ret3
  exact cmpPost rfl rfl rfl k2
set_option maxRecDepth 100000 in
set_option maxHeartbeats 4000000 in
theorem compare_1_3 (i : Int) (s : ByteArray) (b : Bool) (i' : Int) (s' : ByteArray) (b' : Bool) (w : World) :
    Calls Tryd.prog 18 #[.agg #[.int .u8 1, .int .i64 i, .string s, .bool b], .agg #[.int .u8 3, .int .i64 i', .string s', .bool b']] w (CmpPost ⟨1, i, s, b⟩ ⟨3, i', s', b'⟩ w) := by
  have hb0 := ((Below.refl w.heap.size w).alloc (Nat.le_refl _) (.cells #[.int .u8 1, .int .i64 i, .string s, .bool b] 24)).alloc (by simp) (.cells #[.int .u8 3, .int .i64 i', .string s', .bool b'] 24)
  have hx0 := TwoBox.new w 1 i s b 3 i' s' b' 24 24
  go_enter Tryd.func18, Tryd.ntmps18
  go_wp2_with fail
  refine (openb_1 _ _ _ _).mono ?_
  rintro e w1 ⟨rfl, hb1⟩
  have k1 : Below w.heap.size w w1 := hb0.trans (hb1.mono (by simp; omega))
  have hx1 := hx0.below hb1
  clear hb0 hb1 hx0
  have hx1' := hx1
  obtain ⟨f0, f1, f2, f3, f4, f5, f6, f7⟩ := hx1
  go_wp2_with fail
  refine (openb_3 _ _ _ _).mono ?_
  rintro e w2 ⟨rfl, hb2⟩
  have k2 := k1.trans (hb2.mono k1.size)
  have hx2 := hx1'.below hb2
  clear k1 hb2 hx1' f0 f1 f2 f3 f4 f5 f6 f7
  obtain ⟨f0, f1, f2, f3, f4, f5, f6, f7⟩ := hx2
  go_wp2
  go_ret3
  exact cmpPost rfl rfl rfl k2
set_option maxRecDepth 100000 in
set_option maxHeartbeats 4000000 in
theorem compare_2_1 (i : Int) (s : ByteArray) (b : Bool) (i' : Int) (s' : ByteArray) (b' : Bool) (w : World) :
    Calls Tryd.prog 18 #[.agg #[.int .u8 2, .int .i64 i, .string s, .bool b], .agg #[.int .u8 1, .int .i64 i', .string s', .bool b']] w (CmpPost ⟨2, i, s, b⟩ ⟨1, i', s', b'⟩ w) := by
  have hb0 := ((Below.refl w.heap.size w).alloc (Nat.le_refl _) (.cells #[.int .u8 2, .int .i64 i, .string s, .bool b] 24)).alloc (by simp) (.cells #[.int .u8 1, .int .i64 i', .string s', .bool b'] 24)
  have hx0 := TwoBox.new w 2 i s b 1 i' s' b' 24 24
  go_enter Tryd.func18, Tryd.ntmps18
  go_wp2_with fail
  refine (openb_2 _ _ _ _).mono ?_
  rintro e w1 ⟨rfl, hb1⟩
  have k1 : Below w.heap.size w w1 := hb0.trans (hb1.mono (by simp; omega))
  have hx1 := hx0.below hb1
  clear hb0 hb1 hx0
  have hx1' := hx1
  obtain ⟨f0, f1, f2, f3, f4, f5, f6, f7⟩ := hx1
  go_wp2_with fail
  refine (openb_1 _ _ _ _).mono ?_
  rintro e w2 ⟨rfl, hb2⟩
  have k2 := k1.trans (hb2.mono k1.size)
  have hx2 := hx1'.below hb2
  clear k1 hb2 hx1' f0 f1 f2 f3 f4 f5 f6 f7
  obtain ⟨f0, f1, f2, f3, f4, f5, f6, f7⟩ := hx2
  go_wp2
  go_ret3
  exact cmpPost rfl rfl rfl k2
set_option maxRecDepth 100000 in
set_option maxHeartbeats 4000000 in
theorem compare_2_2 (i : Int) (s : ByteArray) (b : Bool) (i' : Int) (s' : ByteArray) (b' : Bool) (w : World) :
    Calls Tryd.prog 18 #[.agg #[.int .u8 2, .int .i64 i, .string s, .bool b], .agg #[.int .u8 2, .int .i64 i', .string s', .bool b']] w (CmpPost ⟨2, i, s, b⟩ ⟨2, i', s', b'⟩ w) := by
  have hb0 := ((Below.refl w.heap.size w).alloc (Nat.le_refl _) (.cells #[.int .u8 2, .int .i64 i, .string s, .bool b] 24)).alloc (by simp) (.cells #[.int .u8 2, .int .i64 i', .string s', .bool b'] 24)
  have hx0 := TwoBox.new w 2 i s b 2 i' s' b' 24 24
  go_enter Tryd.func18, Tryd.ntmps18
  go_wp2_with fail
  refine (openb_2 _ _ _ _).mono ?_
  rintro e w1 ⟨rfl, hb1⟩
  have k1 : Below w.heap.size w w1 := hb0.trans (hb1.mono (by simp; omega))
  have hx1 := hx0.below hb1
  clear hb0 hb1 hx0
  have hx1' := hx1
  obtain ⟨f0, f1, f2, f3, f4, f5, f6, f7⟩ := hx1
  go_wp2_with fail
  refine (openb_2 _ _ _ _).mono ?_
  rintro e w2 ⟨rfl, hb2⟩
  have k2 := k1.trans (hb2.mono k1.size)
  have hx2 := hx1'.below hb2
  clear k1 hb2 hx1' f0 f1 f2 f3 f4 f5 f6 f7
  obtain ⟨f0, f1, f2, f3, f4, f5, f6, f7⟩ := hx2
  go_wp2_with fail
  refine (order_any _ _ _ _ _ _ _ _ _).mono ?_
  rintro e w3 ⟨rfl, hb3⟩
  have k3 := k2.trans (hb3.mono k2.size)
  go_wp2
  go_ret3
  exact cmpPost rfl rfl rfl k3
set_option maxRecDepth 100000 in
set_option maxHeartbeats 4000000 in
theorem compare_2_3 (i : Int) (s : ByteArray) (b : Bool) (i' : Int) (s' : ByteArray) (b' : Bool) (w : World) :
    Calls Tryd.prog 18 #[.agg #[.int .u8 2, .int .i64 i, .string s, .bool b], .agg #[.int .u8 3, .int .i64 i', .string s', .bool b']] w (CmpPost ⟨2, i, s, b⟩ ⟨3, i', s', b'⟩ w) := by
  have hb0 := ((Below.refl w.heap.size w).alloc (Nat.le_refl _) (.cells #[.int .u8 2, .int .i64 i, .string s, .bool b] 24)).alloc (by simp) (.cells #[.int .u8 3, .int .i64 i', .string s', .bool b'] 24)
  have hx0 := TwoBox.new w 2 i s b 3 i' s' b' 24 24
  go_enter Tryd.func18, Tryd.ntmps18
  go_wp2_with fail
  refine (openb_2 _ _ _ _).mono ?_
  rintro e w1 ⟨rfl, hb1⟩
  have k1 : Below w.heap.size w w1 := hb0.trans (hb1.mono (by simp; omega))
  have hx1 := hx0.below hb1
  clear hb0 hb1 hx0
  have hx1' := hx1
  obtain ⟨f0, f1, f2, f3, f4, f5, f6, f7⟩ := hx1
  go_wp2_with fail
  refine (openb_3 _ _ _ _).mono ?_
  rintro e w2 ⟨rfl, hb2⟩
  have k2 := k1.trans (hb2.mono k1.size)
  have hx2 := hx1'.below hb2
  clear k1 hb2 hx1' f0 f1 f2 f3 f4 f5 f6 f7
  obtain ⟨f0, f1, f2, f3, f4, f5, f6, f7⟩ := hx2
  go_wp2
  go_ret3
  exact cmpPost rfl rfl rfl k2
set_option maxRecDepth 100000 in
set_option maxHeartbeats 4000000 in
theorem compare_3_1 (i : Int) (s : ByteArray) (b : Bool) (i' : Int) (s' : ByteArray) (b' : Bool) (w : World) :
    Calls Tryd.prog 18 #[.agg #[.int .u8 3, .int .i64 i, .string s, .bool b], .agg #[.int .u8 1, .int .i64 i', .string s', .bool b']] w (CmpPost ⟨3, i, s, b⟩ ⟨1, i', s', b'⟩ w) := by
  have hb0 := ((Below.refl w.heap.size w).alloc (Nat.le_refl _) (.cells #[.int .u8 3, .int .i64 i, .string s, .bool b] 24)).alloc (by simp) (.cells #[.int .u8 1, .int .i64 i', .string s', .bool b'] 24)
  have hx0 := TwoBox.new w 3 i s b 1 i' s' b' 24 24
  go_enter Tryd.func18, Tryd.ntmps18
  go_wp2_with fail
  refine (openb_3 _ _ _ _).mono ?_
  rintro e w1 ⟨rfl, hb1⟩
  have k1 : Below w.heap.size w w1 := hb0.trans (hb1.mono (by simp; omega))
  have hx1 := hx0.below hb1
  clear hb0 hb1 hx0
  have hx1' := hx1
  obtain ⟨f0, f1, f2, f3, f4, f5, f6, f7⟩ := hx1
  go_wp2_with fail
  refine (openb_1 _ _ _ _).mono ?_
  rintro e w2 ⟨rfl, hb2⟩
  have k2 := k1.trans (hb2.mono k1.size)
  have hx2 := hx1'.below hb2
  clear k1 hb2 hx1' f0 f1 f2 f3 f4 f5 f6 f7
  obtain ⟨f0, f1, f2, f3, f4, f5, f6, f7⟩ := hx2
  go_wp2
  go_ret3
  exact cmpPost rfl rfl rfl k2
set_option maxRecDepth 100000 in
set_option maxHeartbeats 4000000 in
theorem compare_3_2 (i : Int) (s : ByteArray) (b : Bool) (i' : Int) (s' : ByteArray) (b' : Bool) (w : World) :
    Calls Tryd.prog 18 #[.agg #[.int .u8 3, .int .i64 i, .string s, .bool b], .agg #[.int .u8 2, .int .i64 i', .string s', .bool b']] w (CmpPost ⟨3, i, s, b⟩ ⟨2, i', s', b'⟩ w) := by
  have hb0 := ((Below.refl w.heap.size w).alloc (Nat.le_refl _) (.cells #[.int .u8 3, .int .i64 i, .string s, .bool b] 24)).alloc (by simp) (.cells #[.int .u8 2, .int .i64 i', .string s', .bool b'] 24)
  have hx0 := TwoBox.new w 3 i s b 2 i' s' b' 24 24
  go_enter Tryd.func18, Tryd.ntmps18
  go_wp2_with fail
  refine (openb_3 _ _ _ _).mono ?_
  rintro e w1 ⟨rfl, hb1⟩
  have k1 : Below w.heap.size w w1 := hb0.trans (hb1.mono (by simp; omega))
  have hx1 := hx0.below hb1
  clear hb0 hb1 hx0
  have hx1' := hx1
  obtain ⟨f0, f1, f2, f3, f4, f5, f6, f7⟩ := hx1
  go_wp2_with fail
  refine (openb_2 _ _ _ _).mono ?_
  rintro e w2 ⟨rfl, hb2⟩
  have k2 := k1.trans (hb2.mono k1.size)
  have hx2 := hx1'.below hb2
  clear k1 hb2 hx1' f0 f1 f2 f3 f4 f5 f6 f7
  obtain ⟨f0, f1, f2, f3, f4, f5, f6, f7⟩ := hx2
  go_wp2
  go_ret3
  exact cmpPost rfl rfl rfl k2
set_option maxRecDepth 100000 in
set_option maxHeartbeats 4000000 in
theorem compare_3_3 (i : Int) (s : ByteArray) (b : Bool) (i' : Int) (s' : ByteArray) (b' : Bool) (w : World) :
    Calls Tryd.prog 18 #[.agg #[.int .u8 3, .int .i64 i, .string s, .bool b], .agg #[.int .u8 3, .int .i64 i', .string s', .bool b']] w (CmpPost ⟨3, i, s, b⟩ ⟨3, i', s', b'⟩ w) := by
  have hb0 := ((Below.refl w.heap.size w).alloc (Nat.le_refl _) (.cells #[.int .u8 3, .int .i64 i, .string s, .bool b] 24)).alloc (by simp) (.cells #[.int .u8 3, .int .i64 i', .string s', .bool b'] 24)
  have hx0 := TwoBox.new w 3 i s b 3 i' s' b' 24 24
  go_enter Tryd.func18, Tryd.ntmps18
  go_wp2_with fail
  refine (openb_3 _ _ _ _).mono ?_
  rintro e w1 ⟨rfl, hb1⟩
  have k1 : Below w.heap.size w w1 := hb0.trans (hb1.mono (by simp; omega))
  have hx1 := hx0.below hb1
  clear hb0 hb1 hx0
  have hx1' := hx1
  obtain ⟨f0, f1, f2, f3, f4, f5, f6, f7⟩ := hx1
  go_wp2_with fail
  refine (openb_3 _ _ _ _).mono ?_
  rintro e w2 ⟨rfl, hb2⟩
  have k2 := k1.trans (hb2.mono k1.size)
  have hx2 := hx1'.below hb2
  clear k1 hb2 hx1' f0 f1 f2 f3 f4 f5 f6 f7
  obtain ⟨f0, f1, f2, f3, f4, f5, f6, f7⟩ := hx2
  go_wp2_with fail
  refine (order_any _ _ _ _ _ _ _ _ _).mono ?_
  rintro e w3 ⟨rfl, hb3⟩
  have k3 := k2.trans (hb3.mono k2.size)
  go_wp2
  go_ret3
  exact cmpPost rfl rfl rfl k3
theorem compare_any (k i : Int) (s : ByteArray) (b : Bool) (k' i' : Int) (s' : ByteArray) (b' : Bool) (w : World) :
    Calls Tryd.prog 18 #[.agg #[.int .u8 k, .int .i64 i, .string s, .bool b], .agg #[.int .u8 k', .int .i64 i', .string s', .bool b']] w (CmpPost ⟨k, i, s, b⟩ ⟨k', i', s', b'⟩ w) := by
  cases h1 : Lp.isK k
  · exact compare_none k i s b k' i' s' b' w h1
  · cases h2 : Lp.isK k'
    · rcases isK_yes h1 with rfl | rfl | rfl
      · exact compare_half_1 i s b k' i' s' b' w h2
      · exact compare_half_2 i s b k' i' s' b' w h2
      · exact compare_half_3 i s b k' i' s' b' w h2
    · rcases isK_yes h1 with rfl | rfl | rfl <;> rcases isK_yes h2 with rfl | rfl | rfl
      · exact compare_1_1 i s b i' s' b' w
      · exact compare_1_2 i s b i' s' b' w
      · exact compare_1_3 i s b i' s' b' w
      · exact compare_2_1 i s b i' s' b' w
      · exact compare_2_2 i s b i' s' b' w
      · exact compare_2_3 i s b i' s' b' w
      · exact compare_3_1 i s b i' s' b' w
      · exact compare_3_2 i s b i' s' b' w
      · exact compare_3_3 i s b i' s' b' w
end Go.Proofs.YthojikijelijnaaDoor
