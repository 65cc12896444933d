/-
  What cell's Less, Same and Compare tell of any two values. No conditions.
-/
import Derived.Test.YthojikijelijnaaDoorCell2
namespace Go.Proofs.YthojikijelijnaaDoor
open Go.RowKit
attribute [local go_sem] ta_i_i ta_i_s ta_i_b ta1_i ta_s_i ta_s_s ta_s_b ta1_s ta_b_i ta_b_s ta_b_b ta1_b ta_n_i ta_n_s ta_n_b

theorem cmpI_neg (a b : Int) : decide (Lp.cmpI a b < 0) = decide (a < b) := by
  unfold Lp.cmpI; split
  · simp [*]
  · split <;> simp [*]
theorem cmpS_neg (a b : List UInt8) : decide (Lp.cmpS a b < 0) = Op.bytesLess a b := by
  unfold Lp.cmpS
  cases Op.bytesLess a b
  · cases Op.bytesLess b a <;> simp
  · simp
theorem cmpI_turn (a b : Int) : Lp.cmpI b a = - Lp.cmpI a b := by
  unfold Lp.cmpI
  rcases Int.lt_trichotomy a b with h | h | h
  · rw [if_neg (by omega), if_pos h, if_pos h]; rfl
  · subst h; simp
  · rw [if_pos h, if_neg (by omega), if_pos h]
theorem cmpS_turn (a b : List UInt8) : Lp.cmpS b a = - Lp.cmpS a b := by
  unfold Lp.cmpS
  cases h1 : Op.bytesLess a b
  · cases h2 : Op.bytesLess b a <;> simp
  · rw [Lp.less_asymm h1]; simp
theorem vord_turn (u v : Lp.V) : Lp.vord v u = - Lp.vord u v := by
  unfold Lp.vord
  by_cases hr : Lp.rank u.k = Lp.rank v.k
  · rw [if_pos hr, if_pos hr.symm]
    rcases rank_kind hr with ⟨h1, h2⟩ | ⟨h1, h2⟩ | ⟨h1, h2⟩ | ⟨h1, h2⟩
    · simp [h1, h2, cmpI_turn u.i v.i]
    · simp [h1, h2, cmpS_turn u.s.data.toList v.s.data.toList]
    · simp [h1, h2, cmpI_turn (Lp.bit u.b) (Lp.bit v.b)]
    · have a1 := beq_eq_false_iff_ne.1 h1.1
      have a2 := beq_eq_false_iff_ne.1 h1.2.1
      have a3 := beq_eq_false_iff_ne.1 h1.2.2
      have b1 := beq_eq_false_iff_ne.1 h2.1
      have b2 := beq_eq_false_iff_ne.1 h2.2.1
      have b3 := beq_eq_false_iff_ne.1 h2.2.2
      simp [a1, a2, a3, b1, b2, b3]
  · rw [if_neg hr, if_neg (fun g => hr g.symm), cmpI_turn]
theorem place_n {v : Lp.V} (h : NoK v.k) : Lp.place v = 0 := by
  have a1 := beq_eq_false_iff_ne.1 h.1
  have a2 := beq_eq_false_iff_ne.1 h.2.1
  have a3 := beq_eq_false_iff_ne.1 h.2.2
  simp [Lp.place, a1, a2, a3]
theorem vless_ord (u v : Lp.V) : Lp.vless u v = decide (Lp.vord u v < 0) := by
  obtain ⟨k, i, s, b⟩ := u
  obtain ⟨k', i', s', b'⟩ := v
  rcases kcases k with rfl | rfl | rfl | h1 <;> rcases kcases k' with rfl | rfl | rfl | h2
  case inl.inl => simp [Lp.vless, Lp.vord, Lp.place, cmpI_neg]
  case inr.inl.inr.inl => simp [Lp.vless, Lp.vord, Lp.place, cmpS_neg]
  case inr.inr.inl.inr.inr.inl => cases b <;> cases b' <;> rfl
  case inr.inr.inr.inr.inr.inr =>
    have a1 := beq_eq_false_iff_ne.1 h1.1
    have a2 := beq_eq_false_iff_ne.1 h1.2.1
    have a3 := beq_eq_false_iff_ne.1 h1.2.2
    unfold Lp.vless Lp.vord
    rw [place_n (v := ⟨k, i, s, b⟩) h1, place_n (v := ⟨k', i', s', b'⟩) h2]
    simp only [rank_of_n h1, rank_of_n h2]
    simp [a1, a2, a3]
  case inr.inr.inr.inl => unfold Lp.vless Lp.vord; rw [place_n (v := ⟨k, i, s, b⟩) h1]; simp only [rank_of_n h1]; simp [Lp.place, Lp.rank, Lp.cmpI]
  case inr.inr.inr.inr.inl => unfold Lp.vless Lp.vord; rw [place_n (v := ⟨k, i, s, b⟩) h1]; simp only [rank_of_n h1]; simp [Lp.place, Lp.rank, Lp.cmpI]
  case inr.inr.inr.inr.inr.inl => unfold Lp.vless Lp.vord; rw [place_n (v := ⟨k, i, s, b⟩) h1]; simp only [rank_of_n h1]; cases b' <;> simp [Lp.place, Lp.rank, Lp.cmpI]
  case inl.inr.inr.inr => unfold Lp.vless Lp.vord; rw [place_n (v := ⟨k', i', s', b'⟩) h2]; simp only [rank_of_n h2]; simp [Lp.place, Lp.rank, Lp.cmpI]
  case inr.inl.inr.inr.inr => unfold Lp.vless Lp.vord; rw [place_n (v := ⟨k', i', s', b'⟩) h2]; simp only [rank_of_n h2]; simp [Lp.place, Lp.rank, Lp.cmpI]
  case inr.inr.inl.inr.inr.inr => unfold Lp.vless Lp.vord; rw [place_n (v := ⟨k', i', s', b'⟩) h2]; simp only [rank_of_n h2]; cases b <;> simp [Lp.place, Lp.rank, Lp.cmpI]
  case inl.inr.inl => rfl
  case inl.inr.inr.inl => cases b' <;> rfl
  case inr.inl.inl => rfl
  case inr.inl.inr.inr.inl => cases b' <;> rfl
  case inr.inr.inl.inl => cases b <;> rfl
  case inr.inr.inl.inr.inl => cases b <;> rfl
theorem vsame_ord (u v : Lp.V) : Lp.vsame u v = (Lp.vord u v == 0) := by
  unfold Lp.vsame
  rw [vless_ord, vless_ord, vord_turn u v, Bool.eq_iff_iff]
  simp; omega

theorem cless_any (k i : Int) (s : ByteArray) (b : Bool) (k' i' : Int) (s' : ByteArray) (b' : Bool) (w : World) :
    Calls Tryd.prog 17 #[.agg #[.int .u8 k, .int .i64 i, .string s, .bool b], .agg #[.int .u8 k', .int .i64 i', .string s', .bool b']] w
      fun e w' => e = .returned (.bool (Lp.vless ⟨k, i, s, b⟩ ⟨k', i', s', b'⟩)) ∧ Below w.heap.size w w' := by
  rw [vless_ord]
  go_enter Tryd.func17, Tryd.ntmps17
  go_wp2_with fail
  refine (order_any _ _ _ _ _ _ _ _ _).mono ?_
  rintro e w1 ⟨rfl, hb1⟩
  go_wp2
  go_ret
  exact ⟨rfl, Below.trans (by repeat (first | exact Below.refl _ _ | refine Below.alloc ?_ (by simp) _)) (hb1.mono (by simp; try omega))⟩
theorem csame_any (k i : Int) (s : ByteArray) (b : Bool) (k' i' : Int) (s' : ByteArray) (b' : Bool) (w : World) :
    Calls Tryd.prog 21 #[.agg #[.int .u8 k, .int .i64 i, .string s, .bool b], .agg #[.int .u8 k', .int .i64 i', .string s', .bool b']] w
      fun e w' => e = .returned (.bool (Lp.vsame ⟨k, i, s, b⟩ ⟨k', i', s', b'⟩)) ∧ Below w.heap.size w w' := by
  rw [vsame_ord]
  go_enter Tryd.func21, Tryd.ntmps21
  go_wp2_with fail
  refine (order_any _ _ _ _ _ _ _ _ _).mono ?_
  rintro e w1 ⟨rfl, hb1⟩
  go_wp2
  go_ret
  exact ⟨rfl, Below.trans (by repeat (first | exact Below.refl _ _ | refine Below.alloc ?_ (by simp) _)) (hb1.mono (by simp; try omega))⟩
end Go.Proofs.YthojikijelijnaaDoor
