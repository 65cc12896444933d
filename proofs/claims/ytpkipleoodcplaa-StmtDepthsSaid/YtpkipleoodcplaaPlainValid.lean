/-
  A text of whole runes, step by step from the left, plain. No program in sight. No conditions.
-/
import Derived.Test.YtpkipleoodcplaaVal
import Derived.Lib.ValidLaws
import Derived.Lib.Hide
namespace Go.Proofs.Ytpkipleoodcplaa.Lp
open Go.RowKit

theorem ok_nil : textOk [] = true := rfl
theorem ok_zero (l : List UInt8) : textOk (0 :: l) = false := by simp [textOk]
theorem ok_ascii (b : UInt8) (l : List UInt8) (h0 : b.toNat ≠ 0) (h : b.toNat < 128) : textOk (b :: l) = textOk l := by
  have : b ≠ 0 := by rintro rfl; exact h0 rfl
  simp [textOk, Lib.validD_cons b l h, Ne.symm this]

def cont (n : Nat) : Prop := 128 ≤ n ∧ n < 192
def inRune (r least : Int) : Prop := ¬ (r < least) ∧ ¬ (1114111 < r) ∧ ¬ (55296 ≤ r ∧ r < 57344)

theorem ne_of_big {c : UInt8} (h : 128 ≤ c.toNat) : ¬ (0 = c) := by rintro rfl; exact absurd h (by decide)

set_option maxRecDepth 100000 in
theorem step_bad (b : UInt8) (l : List UInt8) (h : 128 ≤ b.toNat ∧ b.toNat < 192 ∨ 248 ≤ b.toNat) : Lib.validD (b :: l) = false := by
  rw [Lib.validD_step _ (by simp), Lib.decodeL_N]
  simp only [List.length_cons, List.getD_cons_zero]
  rw [if_pos]
  have hb := b.toNat_lt
  unfold Lib.decodeN
  repeat' split
  all_goals first | exact ⟨rfl, rfl⟩ | (exfalso; omega)
theorem ok_bad (b : UInt8) (l : List UInt8) (h : 128 ≤ b.toNat ∧ b.toNat < 192 ∨ 248 ≤ b.toNat) : textOk (b :: l) = false := by
  simp [textOk, step_bad b l h]

set_option maxRecDepth 100000 in
theorem step2 (b : UInt8) (l : List UInt8) (h1 : 192 ≤ b.toNat) (h2 : b.toNat < 224) :
    (∃ c t, l = c :: t ∧ cont c.toNat ∧ inRune (((b.toNat : Int) - 192) * 64 + ((c.toNat : Int) - 128)) 128 ∧ textOk (b :: l) = textOk t) ∨
    ((∀ c t, l = c :: t → cont c.toNat → ¬ inRune (((b.toNat : Int) - 192) * 64 + ((c.toNat : Int) - 128)) 128) ∧ textOk (b :: l) = false) := by
  have hb := b.toNat_lt
  cases l with
  | nil =>
    right
    refine ⟨by simp, ?_⟩
    simp only [textOk, Bool.and_eq_false_iff]
    left
    rw [Lib.validD_step _ (by simp), Lib.decodeL_N, if_pos]
    simp only [List.length_cons, List.length_nil, List.getD_cons_zero]
    unfold Lib.decodeN
    repeat' split
    all_goals first | exact ⟨rfl, rfl⟩ | (exfalso; omega)
  | cons c t =>
    have hc := c.toNat_lt
    by_cases hg : cont c.toNat ∧ inRune (((b.toNat : Int) - 192) * 64 + ((c.toNat : Int) - 128)) 128
    · left
      refine ⟨c, t, rfl, hg.1, hg.2, ?_⟩
      obtain ⟨⟨g1, g2⟩, g3, g4, g5⟩ := hg
      have hd : Lib.decodeL (b :: c :: t) = (b.toNat % 32 * 64 + c.toNat % 64, 2) := by
        rw [Lib.decodeL_N]
        simp only [List.length_cons, List.getD_cons_zero, List.getD_cons_succ]
        unfold Lib.decodeN
        repeat' split
        all_goals first | rfl | (exfalso; omega)
      have hv : Lib.validD (b :: c :: t) = Lib.validD t := by
        rw [Lib.validD_step _ (by simp), hd, if_neg (by simp)]; rfl
      simp [textOk, hv, ne_of_big (show 128 ≤ b.toNat by omega), ne_of_big g1]
    · right
      refine ⟨?_, ?_⟩
      · rintro c' t' e; cases e; intro h1 h2; exact hg ⟨h1, h2⟩
      simp only [textOk, Bool.and_eq_false_iff]
      left
      rw [Lib.validD_step _ (by simp), Lib.decodeL_N, if_pos]
      simp only [List.length_cons, List.getD_cons_zero, List.getD_cons_succ]
      unfold Lib.decodeN
      unfold cont inRune at hg
      repeat' split
      all_goals first | exact ⟨rfl, rfl⟩ | (exfalso; omega)

set_option maxRecDepth 100000 in
set_option maxHeartbeats 1000000 in
theorem step3 (b : UInt8) (l : List UInt8) (h1 : 224 ≤ b.toNat) (h2 : b.toNat < 240) :
    (∃ c d t, l = c :: d :: t ∧ cont c.toNat ∧ cont d.toNat ∧ inRune ((((b.toNat : Int) - 224) * 64 + ((c.toNat : Int) - 128)) * 64 + ((d.toNat : Int) - 128)) 2048 ∧ textOk (b :: l) = textOk t) ∨
    ((∀ c d t, l = c :: d :: t → cont c.toNat → cont d.toNat → ¬ inRune ((((b.toNat : Int) - 224) * 64 + ((c.toNat : Int) - 128)) * 64 + ((d.toNat : Int) - 128)) 2048) ∧ textOk (b :: l) = false) := by
  have hb := b.toNat_lt
  match l with
  | [] =>
    right
    refine ⟨by simp, ?_⟩
    simp only [textOk, Bool.and_eq_false_iff]
    left
    rw [Lib.validD_step _ (by simp), Lib.decodeL_N, if_pos]
    simp only [List.length_cons, List.length_nil, List.getD_cons_zero]
    unfold Lib.decodeN
    repeat' split
    all_goals first | exact ⟨rfl, rfl⟩ | (exfalso; omega)
  | [c] =>
    right
    refine ⟨by simp, ?_⟩
    simp only [textOk, Bool.and_eq_false_iff]
    left
    rw [Lib.validD_step _ (by simp), Lib.decodeL_N, if_pos]
    simp only [List.length_cons, List.length_nil, List.getD_cons_zero]
    unfold Lib.decodeN
    repeat' split
    all_goals first | exact ⟨rfl, rfl⟩ | (exfalso; omega)
  | c :: d :: t =>
    have hc := c.toNat_lt
    have hd' := d.toNat_lt
    by_cases hg : cont c.toNat ∧ cont d.toNat ∧ inRune ((((b.toNat : Int) - 224) * 64 + ((c.toNat : Int) - 128)) * 64 + ((d.toNat : Int) - 128)) 2048
    · left
      refine ⟨c, d, t, rfl, hg.1, hg.2.1, hg.2.2, ?_⟩
      obtain ⟨⟨g1, g2⟩, ⟨g6, g7⟩, g3, g4, g5⟩ := hg
      have hd : Lib.decodeL (b :: c :: d :: t) = (b.toNat % 16 * 4096 + c.toNat % 64 * 64 + d.toNat % 64, 3) := by
        rw [Lib.decodeL_N]
        simp only [List.length_cons, List.getD_cons_zero, List.getD_cons_succ]
        unfold Lib.decodeN
        repeat' split
        all_goals first | rfl | (exfalso; omega)
      have hv : Lib.validD (b :: c :: d :: t) = Lib.validD t := by
        rw [Lib.validD_step _ (by simp), hd, if_neg (by simp)]; rfl
      simp [textOk, hv, ne_of_big (show 128 ≤ b.toNat by omega), ne_of_big g1, ne_of_big g6]
    · right
      refine ⟨?_, ?_⟩
      · rintro c' d' t' e; cases e; intro h1 h2 h3; exact hg ⟨h1, h2, h3⟩
      simp only [textOk, Bool.and_eq_false_iff]
      left
      rw [Lib.validD_step _ (by simp), Lib.decodeL_N, if_pos]
      simp only [List.length_cons, List.getD_cons_zero, List.getD_cons_succ]
      unfold Lib.decodeN
      unfold cont inRune at hg
      repeat' split
      all_goals first | exact ⟨rfl, rfl⟩ | (exfalso; omega)

set_option maxRecDepth 100000 in
set_option maxHeartbeats 2000000 in
theorem step4 (b : UInt8) (l : List UInt8) (h1 : 240 ≤ b.toNat) (h2 : b.toNat < 248) :
    (∃ c d f t, l = c :: d :: f :: t ∧ cont c.toNat ∧ cont d.toNat ∧ cont f.toNat ∧ inRune (((((b.toNat : Int) - 240) * 64 + ((c.toNat : Int) - 128)) * 64 + ((d.toNat : Int) - 128)) * 64 + ((f.toNat : Int) - 128)) 65536 ∧ textOk (b :: l) = textOk t) ∨
    ((∀ c d f t, l = c :: d :: f :: t → cont c.toNat → cont d.toNat → cont f.toNat → ¬ inRune (((((b.toNat : Int) - 240) * 64 + ((c.toNat : Int) - 128)) * 64 + ((d.toNat : Int) - 128)) * 64 + ((f.toNat : Int) - 128)) 65536) ∧ textOk (b :: l) = false) := by
  have hb := b.toNat_lt
  match l with
  | [] =>
    right
    refine ⟨by simp, ?_⟩
    simp only [textOk, Bool.and_eq_false_iff]
    left
    rw [Lib.validD_step _ (by simp), Lib.decodeL_N, if_pos]
    simp only [List.length_cons, List.length_nil, List.getD_cons_zero]
    unfold Lib.decodeN
    repeat' split
    all_goals first | exact ⟨rfl, rfl⟩ | (exfalso; omega)
  | [c] =>
    right
    refine ⟨by simp, ?_⟩
    simp only [textOk, Bool.and_eq_false_iff]
    left
    rw [Lib.validD_step _ (by simp), Lib.decodeL_N, if_pos]
    simp only [List.length_cons, List.length_nil, List.getD_cons_zero]
    unfold Lib.decodeN
    repeat' split
    all_goals first | exact ⟨rfl, rfl⟩ | (exfalso; omega)
  | [c, d] =>
    right
    refine ⟨by simp, ?_⟩
    simp only [textOk, Bool.and_eq_false_iff]
    left
    rw [Lib.validD_step _ (by simp), Lib.decodeL_N, if_pos]
    simp only [List.length_cons, List.length_nil, List.getD_cons_zero]
    unfold Lib.decodeN
    repeat' split
    all_goals first | exact ⟨rfl, rfl⟩ | (exfalso; omega)
  | c :: d :: f :: t =>
    have hc := c.toNat_lt
    have hd' := d.toNat_lt
    have hf' := f.toNat_lt
    by_cases hg : cont c.toNat ∧ cont d.toNat ∧ cont f.toNat ∧ inRune (((((b.toNat : Int) - 240) * 64 + ((c.toNat : Int) - 128)) * 64 + ((d.toNat : Int) - 128)) * 64 + ((f.toNat : Int) - 128)) 65536
    · left
      refine ⟨c, d, f, t, rfl, hg.1, hg.2.1, hg.2.2.1, hg.2.2.2, ?_⟩
      obtain ⟨⟨g1, g2⟩, ⟨g6, g7⟩, ⟨g8, g9⟩, g3, g4, g5⟩ := hg
      have hd : Lib.decodeL (b :: c :: d :: f :: t) = (b.toNat % 8 * 262144 + c.toNat % 64 * 4096 + d.toNat % 64 * 64 + f.toNat % 64, 4) := by
        rw [Lib.decodeL_N]
        simp only [List.length_cons, List.getD_cons_zero, List.getD_cons_succ]
        unfold Lib.decodeN
        repeat' split
        all_goals first | rfl | (exfalso; omega)
      have hv : Lib.validD (b :: c :: d :: f :: t) = Lib.validD t := by
        rw [Lib.validD_step _ (by simp), hd, if_neg (by simp)]; rfl
      simp [textOk, hv, ne_of_big (show 128 ≤ b.toNat by omega), ne_of_big g1, ne_of_big g6, ne_of_big g8]
    · right
      refine ⟨?_, ?_⟩
      · rintro c' d' f' t' e; cases e; intro h1 h2 h3 h4; exact hg ⟨h1, h2, h3, h4⟩
      simp only [textOk, Bool.and_eq_false_iff]
      left
      rw [Lib.validD_step _ (by simp), Lib.decodeL_N, if_pos]
      simp only [List.length_cons, List.getD_cons_zero, List.getD_cons_succ]
      unfold Lib.decodeN
      unfold cont inRune at hg
      repeat' split
      all_goals first | exact ⟨rfl, rfl⟩ | (exfalso; omega)

theorem at_drop (s : ByteArray) (k : Nat) (h : k < s.size) : s.data.toList.drop k = (s[k]'h) :: s.data.toList.drop (k + 1) := by
  rw [List.drop_eq_getElem_cons (by simpa using h)]; rfl
theorem len_drop (s : ByteArray) (k : Nat) : (s.data.toList.drop k).length = s.size - k := by simp
theorem no_drop (s : ByteArray) (k : Nat) (h : s.size ≤ k) : s.data.toList.drop k = [] := List.drop_eq_nil_of_le (by simpa using h)

theorem at2 (s : ByteArray) (k : Nat) (hk : k < s.size) (h1 : 192 ≤ (s[k]'hk).toNat) (h2 : (s[k]'hk).toNat < 224) :
    (s.size ≤ k + 1 → textOk (s.data.toList.drop k) = false) ∧
    (∀ g1 : k + 1 < s.size, cont (s[k + 1]'g1).toNat → inRune ((((s[k]'hk).toNat : Int) - 192) * 64 + (((s[k + 1]'g1).toNat : Int) - 128)) 128 → textOk (s.data.toList.drop k) = textOk (s.data.toList.drop (k + 2))) ∧
    (∀ g1 : k + 1 < s.size, ¬ (cont (s[k + 1]'g1).toNat ∧ inRune ((((s[k]'hk).toNat : Int) - 192) * 64 + (((s[k + 1]'g1).toNat : Int) - 128)) 128) → textOk (s.data.toList.drop k) = false) := by
  have hs := step2 _ (s.data.toList.drop (k + 1)) h1 h2
  rw [← at_drop s k hk] at hs
  refine ⟨fun h => ?_, fun g1 h3 h4 => ?_, fun g1 h3 => ?_⟩
  · rcases hs with ⟨c, t, e, _⟩ | h'
    · have := congrArg List.length e
      rw [len_drop, List.length_cons] at this; omega
    · exact h'.2
  · rw [at_drop s (k + 1) g1] at hs
    rcases hs with ⟨c, t, e, _, _, h⟩ | h'
    · cases e; exact h
    · exact absurd h4 (h'.1 _ _ rfl h3)
  · rw [at_drop s (k + 1) g1] at hs
    rcases hs with ⟨c, t, e, h5, h6, h⟩ | h'
    · cases e; exact absurd ⟨h5, h6⟩ h3
    · exact h'.2
theorem at3 (s : ByteArray) (k : Nat) (hk : k < s.size) (h1 : 224 ≤ (s[k]'hk).toNat) (h2 : (s[k]'hk).toNat < 240) :
    (s.size ≤ k + 2 → textOk (s.data.toList.drop k) = false) ∧
    (∀ g1 : k + 2 < s.size, cont (s[k + 1]'(by omega)).toNat → cont (s[k + 2]'g1).toNat → inRune (((((s[k]'hk).toNat : Int) - 224) * 64 + (((s[k + 1]'(by omega)).toNat : Int) - 128)) * 64 + (((s[k + 2]'g1).toNat : Int) - 128)) 2048 → textOk (s.data.toList.drop k) = textOk (s.data.toList.drop (k + 3))) ∧
    (∀ g1 : k + 2 < s.size, ¬ (cont (s[k + 1]'(by omega)).toNat ∧ cont (s[k + 2]'g1).toNat ∧ inRune (((((s[k]'hk).toNat : Int) - 224) * 64 + (((s[k + 1]'(by omega)).toNat : Int) - 128)) * 64 + (((s[k + 2]'g1).toNat : Int) - 128)) 2048) → textOk (s.data.toList.drop k) = false) := by
  have hs := step3 _ (s.data.toList.drop (k + 1)) h1 h2
  rw [← at_drop s k hk] at hs
  refine ⟨fun h => ?_, fun g1 h3 h4 h5 => ?_, fun g1 h3 => ?_⟩
  · rcases hs with ⟨c, d, t, e, _⟩ | h'
    · have := congrArg List.length e
      rw [len_drop, List.length_cons, List.length_cons] at this; omega
    · exact h'.2
  · rw [at_drop s (k + 1) (by omega), at_drop s (k + 1 + 1) g1] at hs
    rcases hs with ⟨c, d, t, e, _, _, _, h⟩ | h'
    · cases e; exact h
    · exact absurd h5 (h'.1 _ _ _ rfl h3 h4)
  · rw [at_drop s (k + 1) (by omega), at_drop s (k + 1 + 1) g1] at hs
    rcases hs with ⟨c, d, t, e, h5, h6, h7, h⟩ | h'
    · cases e; exact absurd ⟨h5, h6, h7⟩ h3
    · exact h'.2
theorem at4 (s : ByteArray) (k : Nat) (hk : k < s.size) (h1 : 240 ≤ (s[k]'hk).toNat) (h2 : (s[k]'hk).toNat < 248) :
    (s.size ≤ k + 3 → textOk (s.data.toList.drop k) = false) ∧
    (∀ g1 : k + 3 < s.size, cont (s[k + 1]'(by omega)).toNat → cont (s[k + 2]'(by omega)).toNat → cont (s[k + 3]'g1).toNat → inRune ((((((s[k]'hk).toNat : Int) - 240) * 64 + (((s[k + 1]'(by omega)).toNat : Int) - 128)) * 64 + (((s[k + 2]'(by omega)).toNat : Int) - 128)) * 64 + (((s[k + 3]'g1).toNat : Int) - 128)) 65536 → textOk (s.data.toList.drop k) = textOk (s.data.toList.drop (k + 4))) ∧
    (∀ g1 : k + 3 < s.size, ¬ (cont (s[k + 1]'(by omega)).toNat ∧ cont (s[k + 2]'(by omega)).toNat ∧ cont (s[k + 3]'g1).toNat ∧ inRune ((((((s[k]'hk).toNat : Int) - 240) * 64 + (((s[k + 1]'(by omega)).toNat : Int) - 128)) * 64 + (((s[k + 2]'(by omega)).toNat : Int) - 128)) * 64 + (((s[k + 3]'g1).toNat : Int) - 128)) 65536) → textOk (s.data.toList.drop k) = false) := by
  have hs := step4 _ (s.data.toList.drop (k + 1)) h1 h2
  rw [← at_drop s k hk] at hs
  refine ⟨fun h => ?_, fun g1 h3 h4 h5 h6 => ?_, fun g1 h3 => ?_⟩
  · rcases hs with ⟨c, d, f, t, e, _⟩ | h'
    · have := congrArg List.length e
      rw [len_drop, List.length_cons, List.length_cons, List.length_cons] at this; omega
    · exact h'.2
  · rw [at_drop s (k + 1) (by omega), at_drop s (k + 1 + 1) (by omega), at_drop s (k + 1 + 1 + 1) g1] at hs
    rcases hs with ⟨c, d, f, t, e, _, _, _, _, h⟩ | h'
    · cases e; exact h
    · exact absurd h6 (h'.1 _ _ _ _ rfl h3 h4 h5)
  · rw [at_drop s (k + 1) (by omega), at_drop s (k + 1 + 1) (by omega), at_drop s (k + 1 + 1 + 1) g1] at hs
    rcases hs with ⟨c, d, f, t, e, h5, h6, h7, h8, h⟩ | h'
    · cases e; exact absurd ⟨h5, h6, h7, h8⟩ h3
    · exact h'.2

end Go.Proofs.Ytpkipleoodcplaa.Lp
