/-
  Two texts with a blank between are the tokens of the one, and then those of the other, plain. No program in sight. No conditions.
-/
import Derived.Test.YtmdmcfobdbccmaaDoorPlainLex
namespace Go.Proofs.YtmdmcfobdbccmaaDoor.Lp
open Go.RowKit

theorem blank_byte {x : UInt8} (h : blankB x = true) : x = 32 ∨ x = 9 ∨ x = 10 ∨ x = 13 := by
  unfold blankB at h
  simp only [Bool.or_eq_true, decide_eq_true_eq] at h
  rcases h with ((h | h) | h) | h
  · exact .inl (UInt8.toNat_inj.1 h)
  · exact .inr (.inl (UInt8.toNat_inj.1 h))
  · exact .inr (.inr (.inl (UInt8.toNat_inj.1 h)))
  · exact .inr (.inr (.inr (UInt8.toNat_inj.1 h)))
theorem blank_word {x : UInt8} (h : blankB x = true) : wordB x = false ∧ isDig x = false ∧ x ≠ 39 ∧ ∀ c, twoB c x = false := by
  rcases blank_byte h with rfl | rfl | rfl | rfl
  all_goals
    refine ⟨by decide, by decide, by decide, fun c => ?_⟩
    unfold twoB
    simp
theorem takeWhile_stop {p : UInt8 → Bool} {x : UInt8} (hx : p x = false) (m : List UInt8) : ∀ l : List UInt8, (l ++ x :: m).takeWhile p = l.takeWhile p
  | [] => by simp [hx]
  | c :: l => by
    rw [List.cons_append, List.takeWhile_cons, List.takeWhile_cons, takeWhile_stop hx m l]
theorem txt_stop {x : UInt8} (hx : x ≠ 39) (m : List UInt8) : ∀ (k : Nat) (l : List UInt8) (p : List UInt8 × Nat), l.length ≤ k → txt l = some p → txt (l ++ x :: m) = some p
  | k, [], p, _, h => by cases h
  | 0, c :: l, p, hk, h => by simp at hk
  | k + 1, c :: l, p, hk, h => by
    simp only [List.length_cons] at hk
    unfold txt at h
    by_cases hc : c = 39
    · rw [if_pos hc] at h
      subst hc
      match l, h, hk with
      | [], h, _ =>
        show txt (39 :: x :: m) = some p
        conv => lhs; unfold txt
        simp only [if_true]
        rw [if_neg hx]; exact h
      | d :: r, h, hk =>
        simp only at h
        show txt (39 :: d :: (r ++ x :: m)) = some p
        conv => lhs; unfold txt
        simp only [if_true]
        by_cases hd : d = 39
        · rw [if_pos hd] at h ⊢
          obtain ⟨q, h1, h2⟩ := Option.map_eq_some_iff.1 h
          rw [txt_stop hx m k r q (by simp at hk; omega) h1]
          simp [h2]
        · rw [if_neg hd] at h ⊢; exact h
    · rw [if_neg hc] at h
      obtain ⟨q, h1, h2⟩ := Option.map_eq_some_iff.1 h
      show txt (c :: (l ++ x :: m)) = some p
      conv => lhs; unfold txt
      rw [if_neg hc, txt_stop hx m k l q (by omega) h1]
      simp [h2]
theorem signN_stop {x : UInt8} (hx : ∀ c, twoB c x = false) (c : UInt8) (r m : List UInt8) : signN (c :: r ++ x :: m) = signN (c :: r) := by
  cases r with
  | nil => simp [signN, hx]
  | cons d r => simp [signN]
/-- What is behind a blank changes nothing of the token in front. -/
theorem nextT_stop {x : UInt8} (hx : blankB x = true) (c : UInt8) (r m : List UInt8) (h0 : (nextT (c :: r)).2.2 = 0) : nextT (c :: r ++ x :: m) = nextT (c :: r) := by
  obtain ⟨b1, b2, b3, b4⟩ := blank_word hx
  rw [List.cons_append]
  cases h1 : letB c
  · cases h2 : isDig c
    · by_cases h3 : c = 39
      · subst h3
        rw [nextT_text] at h0
        rw [nextT_text, nextT_text]
        cases ht : txt r with
        | none => rw [ht] at h0; cases h0
        | some p => rw [txt_stop b3 m r.length r p (Nat.le_refl _) ht]
      · have hs := signN_stop b4 c r m
        rw [List.cons_append] at hs
        have hl := signN_le (c :: r)
        rw [nextT_sign _ h1 h2 h3, nextT_sign _ h1 h2 h3, hs]
        by_cases g : signN (c :: r) = 0
        · rw [if_pos g, if_pos g]
        · rw [if_neg g, if_neg g, ← List.cons_append, List.take_append_of_le_length hl]
    · have ht := takeWhile_stop b2 m (c :: r)
      rw [List.cons_append] at ht
      rw [nextT_num _ h1 h2, nextT_num _ h1 h2, ht]
  · have ht := takeWhile_stop b1 m (c :: r)
    rw [List.cons_append] at ht
    rw [nextT_word _ h1, nextT_word _ h1, ht]
/-- A text, a blank, and another one. -/
theorem splA_stop {x : UInt8} (hx : blankB x = true) (m : List UInt8) : ∀ (k : Nat) (acc : List Tok) (l : List UInt8), l.length ≤ k → (splA [] l).2 = 0 → splA acc (l ++ x :: m) = splA (acc ++ (splA [] l).1) m
  | k, acc, [], _, _ => by
    rw [List.nil_append, splA_blank _ _ hx, splA_nil]; simp
  | 0, acc, c :: r, hk, _ => by simp at hk
  | k + 1, acc, c :: r, hk, h => by
    simp only [List.length_cons] at hk
    cases hb : blankB c
    · by_cases h0 : (nextT (c :: r)).2.2 = 0
      · have h1 := nextT_n h0
        have hst := nextT_stop hx c r m h0
        have hl : ((c :: r).drop (nextT (c :: r)).2.1).length ≤ k := by rw [List.length_drop, List.length_cons]; omega
        rw [splA_tok [] hb h0, splA_acc k _ _ hl] at h
        have h2 : (splA [] ((c :: r).drop (nextT (c :: r)).2.1)).2 = 0 := by
          by_cases g : (splA [] ((c :: r).drop (nextT (c :: r)).2.1)).2 = 0
          · exact g
          · rw [if_neg g] at h; exact h
        have e1 : (c :: r ++ x :: m).drop (nextT (c :: r)).2.1 = (c :: r).drop (nextT (c :: r)).2.1 ++ x :: m := by
          rw [List.drop_append_of_le_length (by rw [List.length_cons]; omega)]
        have := splA_stop hx m k (acc ++ [(nextT (c :: r)).1]) _ hl h2
        rw [splA_tok [] hb h0, splA_acc k _ _ hl, if_pos h2]
        have h3 : splA acc (c :: r ++ x :: m) = splA (acc ++ [(nextT (c :: r)).1]) ((c :: r ++ x :: m).drop (nextT (c :: r)).2.1) := by
          rw [List.cons_append] at hst ⊢
          rw [splA_tok acc hb (by rw [hst]; exact h0), hst]
        rw [h3, e1, this]
        simp
      · rw [splA_err [] hb h0] at h; exact absurd h h0
    · rw [splA_blank [] r hb] at h ⊢
      rw [List.cons_append, splA_blank acc _ hb]
      exact splA_stop hx m k acc r (by omega) h
theorem toks_ok {l : List UInt8} {L : List Tok} (h : toks l = (L, 0)) : l.length ≤ 2000 ∧ splA [] l = (L, 0) := by
  by_cases hl : 2000 < l.length
  · rw [toks_long hl] at h
    injection h with _ h; cases h
  · rw [toks_short (by omega)] at h
    exact ⟨by omega, h⟩
theorem toks_parts {a b : List UInt8} {L M : List Tok} (ha : toks a = (L, 0)) (hb : toks b = (M, 0)) (hl : a.length + 1 + b.length ≤ 2000) : toks (a ++ 10 :: b) = (L ++ M, 0) := by
  obtain ⟨h1, h2⟩ := toks_ok ha
  obtain ⟨h3, h4⟩ := toks_ok hb
  rw [toks_short (by simp; omega), splA_stop (x := 10) (by decide) b a.length [] a (Nat.le_refl _) (by rw [h2]), h2, splA_acc b.length _ b (Nat.le_refl _), h4]
  simp
end Go.Proofs.YtmdmcfobdbccmaaDoor.Lp
