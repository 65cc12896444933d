/-
  What cell.join gives, of any two values: its parts. No conditions.
-/
import Derived.Test.YthojikijelijnaaDoorRefT
import Derived.Test.YthojikijelijnaaDoorCell5
namespace Go.Proofs.YthojikijelijnaaDoor
open Go.RowKit
attribute [local go_sem] ta_i_i ta_i_s ta_i_b ta1_i ta_s_i ta_s_s ta_s_b ta1_s ta_b_i ta_b_s ta_b_b ta1_b ta_n_i ta_n_s ta_n_b

theorem truths_two (u v : Lp.V) (r : Bool) (hr : [u, v].all Lp.tr = r) (A : Option Addr) (n c : Nat) (hn : n = 2) (w : World) (h : Rds w A (Lp.vv [u, v])) :
    Calls Tryd.prog 37 #[.slice A n c] w fun e w' => e = .returned (.bool r) ∧ Below w.heap.size w w' := by
  subst hr; exact truths_any A n c [u, v] hn w h (by simp)
theorem truths_one (u : Lp.V) (r : Bool) (hr : [u].all Lp.tr = r) (A : Option Addr) (n c : Nat) (hn : n = 1) (w : World) (h : Rds w A (Lp.vv [u])) :
    Calls Tryd.prog 37 #[.slice A n c] w fun e w' => e = .returned (.bool r) ∧ Below w.heap.size w w' := by
  subst hr; exact truths_any A n c [u] hn w h (by simp)
theorem truthb (b : Bool) (w : World) : Calls Tryd.prog 38 #[.iface 4 (.bool b)] w fun e w' => e = .returned (.agg #[.int .u8 3, .int .i64 0, .string ⟨#[]⟩, .bool b]) ∧ Below w.heap.size w w' :=
  (truth_b b w).mono fun _ _ ⟨h1, h2⟩ => ⟨h1, h2 ▸ (Below.refl _ _).alloc (Nat.le_refl _) _⟩
def Lp.tw (k : Int) (b : Bool) : Int := if k = 3 then (if b then 2 else 0) else if k = 1 ∨ k = 2 then -1 else 1
theorem tv_n {k : Int} (b : Bool) (h : NoK k) : Lp.tw k b = 1 := by
  have h1 := beq_eq_false_iff_ne.1 h.1
  have h2 := beq_eq_false_iff_ne.1 h.2.1
  have h3 := beq_eq_false_iff_ne.1 h.2.2
  unfold Lp.tw; rw [if_neg h3, if_neg (by rintro (g | g); exact h1 g; exact h2 g)]
theorem tr_n {k i : Int} {s : ByteArray} {b : Bool} (h : NoK k) : Lp.tr ⟨k, i, s, b⟩ = true := by simp [Lp.tr, Lp.isK, h.1, h.2.1, h.2.2]
theorem tr_tv (v : Lp.V) : Lp.tr v = !decide (Lp.tw v.k v.b < 0) := by
  obtain ⟨k, i, s, b⟩ := v
  rcases kcases k with rfl | rfl | rfl | h
  · rfl
  · rfl
  · cases b <;> rfl
  · rw [tr_n h, tv_n b h]; rfl
def Lp.badT (u v : Lp.V) : Bool := decide (Lp.tw u.k u.b < 0) || decide (Lp.tw v.k v.b < 0)
theorem two_tr (u v : Lp.V) : [u, v].all Lp.tr = !Lp.badT u v := by simp [tr_tv, Lp.badT]
def Lp.joinN (u v : Lp.V) (st : Bool) : Int := if st then max (Lp.tw u.k u.b) (Lp.tw v.k v.b) else min (Lp.tw u.k u.b) (Lp.tw v.k v.b)
set_option maxRecDepth 100000 in
set_option maxHeartbeats 4000000 in
theorem join_bad (k i : Int) (s : ByteArray) (b : Bool) (k' i' : Int) (s' : ByteArray) (b' st : Bool) (w : World) (hb : Lp.badT ⟨k, i, s, b⟩ ⟨k', i', s', b'⟩ = true) :
    Calls Tryd.prog 36 #[.agg #[.int .u8 k, .int .i64 i, .string s, .bool b], .agg #[.int .u8 k', .int .i64 i', .string s', .bool b'], .bool st] w (TruthPost (Lp.badT ⟨k, i, s, b⟩ ⟨k', i', s', b'⟩) (Lp.joinN ⟨k, i, s, b⟩ ⟨k', i', s', b'⟩ st) w) := by
  have ht : [⟨k, i, s, b⟩, ⟨k', i', s', b'⟩].all Lp.tr = false := by rw [two_tr, hb]; rfl
  have HT := Lib.hid ht
  have H := Lib.hid hb
  have hb0 := ba (ba (ba (ba (Below.refl w.heap.size w) (.cells #[.int .u8 k, .int .i64 i, .string s, .bool b] 24)) (.cells #[.int .u8 k', .int .i64 i', .string s', .bool b'] 24)) (.cells #[.int .u8 0, .int .i64 0, .string ⟨#[]⟩, .bool false] 24)) (.cells #[.int .u8 k, .int .i64 i, .string s, .bool b, .int .u8 k', .int .i64 i', .string s', .bool b'] 24)
  have hr0 : ((((w.alloc (.cells #[.int .u8 k, .int .i64 i, .string s, .bool b] 24)).alloc (.cells #[.int .u8 k', .int .i64 i', .string s', .bool b'] 24)).alloc (.cells #[.int .u8 0, .int .i64 0, .string ⟨#[]⟩, .bool false] 24)).alloc (.cells #[.int .u8 k, .int .i64 i, .string s, .bool b, .int .u8 k', .int .i64 i', .string s', .bool b'] 24)).heap[w.heap.size + 1 + 1]? = some (.cells #[.int .u8 0, .int .i64 0, .string ⟨#[]⟩, .bool false] 24 (0, 0)) := by
    refine box_alloc ?_ _
    have := heap_alloc_new ((w.alloc (.cells #[.int .u8 k, .int .i64 i, .string s, .bool b] 24)).alloc (.cells #[.int .u8 k', .int .i64 i', .string s', .bool b'] 24)) (.cells #[.int .u8 0, .int .i64 0, .string ⟨#[]⟩, .bool false] 24)
    simpa using this
  have hrd : Rds ((((w.alloc (.cells #[.int .u8 k, .int .i64 i, .string s, .bool b] 24)).alloc (.cells #[.int .u8 k', .int .i64 i', .string s', .bool b'] 24)).alloc (.cells #[.int .u8 0, .int .i64 0, .string ⟨#[]⟩, .bool false] 24)).alloc (.cells #[.int .u8 k, .int .i64 i, .string s, .bool b, .int .u8 k', .int .i64 i', .string s', .bool b'] 24)) (some ⟨w.heap.size + 1 + 1 + 1, 0, none⟩) (Lp.vv [⟨k, i, s, b⟩, ⟨k', i', s', b'⟩]) := by
    have e : (((w.alloc (.cells #[.int .u8 k, .int .i64 i, .string s, .bool b] 24)).alloc (.cells #[.int .u8 k', .int .i64 i', .string s', .bool b'] 24)).alloc (.cells #[.int .u8 0, .int .i64 0, .string ⟨#[]⟩, .bool false] 24)).heap.size = w.heap.size + 1 + 1 + 1 := by simp
    have := rds_new (((w.alloc (.cells #[.int .u8 k, .int .i64 i, .string s, .bool b] 24)).alloc (.cells #[.int .u8 k', .int .i64 i', .string s', .bool b'] 24)).alloc (.cells #[.int .u8 0, .int .i64 0, .string ⟨#[]⟩, .bool false] 24)) [.int .u8 k, .int .i64 i, .string s, .bool b, .int .u8 k', .int .i64 i', .string s', .bool b'] 24
    rw [e] at this; exact this
  clear ht hb
  go_enter Tryd.func36, Tryd.ntmps36
  go_wp2_with fail
  refine (truths_two _ _ _ HT.out _ _ _ rfl _ hrd).mono ?_
  rintro e w1 ⟨rfl, hb1⟩
  have hr1 := box_below hr0 hb1
  have k1 : Below w.heap.size w w1 := hb0.trans (hb1.mono (by simp; omega))
  have hc1 := box_cells hr1
  have hf1 := fun j => frozen_of_row w1 (w.heap.size + 1 + 1) j _ _ hr1
  have HCE := Lib.hid (box_cells (set4_same hr1 (.int .u8 0) (.int .i64 0) (.string ⟨#[]⟩) (.bool false)))
  have k5 := below_set4 k1 (g := w.heap.size + 1 + 1) (by omega) (.int .u8 0) (.int .i64 0) (.string ⟨#[]⟩) (.bool false)
  clear hb0 hb1 hr0 hrd
  go_wp2
  have hcE := HCE.out
  exact bodyPost_ret (v := .tuple #[.agg #[.int .u8 0, .int .i64 0, .string ⟨#[]⟩, .bool false], .int .i64 8]) (by simp [results, Tryd.results36, go_sem, hcE]) rfl (truth_bad H.out k5)
end Go.Proofs.YthojikijelijnaaDoor
