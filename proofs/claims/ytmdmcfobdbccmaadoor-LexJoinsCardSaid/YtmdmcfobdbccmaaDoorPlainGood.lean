/-
  Tokens that some text has: each is split again out of what Join makes of it; and with blanks between. Plain. No conditions.
-/
import Derived.Test.YtmdmcfobdbccmaaDoorPlainNumbers
import Derived.Test.YtmdmcfobdbccmaaDoorPlainCases
import Derived.Test.YtmdmcfobdbccmaaDoorPlainText
namespace Go.Proofs.YtmdmcfobdbccmaaDoor.Lp
open Go.RowKit

/-- A token is split again out of its own text. -/
def Tok.good (t : Tok) : Prop := nextT (jt t) = (t, (jt t).length, 0) ∧ ∃ c r, jt t = c :: r ∧ blankB c = false
theorem txt_quo : ∀ s : List UInt8, txt (quo s ++ [39]) = some (s, (quo s).length + 1)
  | [] => rfl
  | c :: s => by
    have ih := txt_quo s
    rw [quo_cons]
    by_cases hc : c = 39
    · subst hc
      rw [if_pos rfl]
      have e : txt ([39, 39] ++ quo s ++ [39]) = (txt (quo s ++ [39])).map fun p => (39 :: p.1, p.2 + 2) := by
        show txt (39 :: 39 :: (quo s ++ [39])) = _
        conv => lhs; unfold txt
        simp
      rw [e, ih]
      simp
    · rw [if_neg hc]
      show txt (c :: (quo s ++ [39])) = _
      rw [txt_other _ hc, ih]
      simp
theorem all_of_takeWhile {p : UInt8 → Bool} : ∀ l : List UInt8, (l.takeWhile p).all p = true
  | [] => rfl
  | c :: l => by
    rw [List.takeWhile_cons]
    cases h : p c
    · rfl
    · rw [if_pos rfl, List.all_cons, h, all_of_takeWhile l]; rfl
theorem readE_zero {l : List UInt8} (h : readE l = 0) : allD l = true ∧ inR (dvf 0 l) := by
  cases ha : allD l
  · rw [readE_not ha] at h; cases h
  · rw [readE_yes ha] at h
    refine ⟨rfl, ?_⟩
    apply Classical.byContradiction
    intro g
    rw [err_out g] at h; cases h
theorem good_word {c : UInt8} {r : List UInt8} (h : letB c = true) : (⟨1, ((c :: r).takeWhile wordB).map lowB, 0⟩ : Tok).good := by
  have hw : wordB c = true := by unfold wordB; rw [h]; rfl
  have hb : blankB (lowB c) = false := by
    rw [low_blank, ← Bool.not_eq_true]
    intro g
    rw [(blank_word g).1] at hw; cases hw
  have hall := all_of_takeWhile (p := wordB) (c :: r)
  have hd : (c :: r).takeWhile wordB = c :: r.takeWhile wordB := by rw [List.takeWhile_cons, if_pos hw]
  have hj : jt ⟨1, ((c :: r).takeWhile wordB).map lowB, 0⟩ = ((c :: r).takeWhile wordB).map lowB := rfl
  refine ⟨?_, lowB c, (r.takeWhile wordB).map lowB, by rw [hj, hd]; rfl, hb⟩
  rw [hj]
  generalize hW : (c :: r).takeWhile wordB = W at *
  subst hd
  rw [List.map_cons, nextT_word _ (by rw [low_let]; exact h), ← List.map_cons]
  have ht : ((c :: r.takeWhile wordB).map lowB).takeWhile wordB = (c :: r.takeWhile wordB).map lowB := by
    rw [low_takeWhile low_word, all_takeWhile hall]
  rw [ht, List.map_map]
  congr 2
  apply List.map_congr_left
  intro a _
  exact low_low a
theorem good_num {d : List UInt8} (h : readE d = 0) : (⟨2, [], readV d⟩ : Tok).good := by
  obtain ⟨ha, hin⟩ := readE_zero h
  have hv : readV d = dvf 0 d := by rw [readV_yes ha, val_in hin]
  have hall : d.all isDig = true := by unfold allD at ha; rw [Bool.and_eq_true] at ha; exact ha.1
  have h0 := dvf_nonneg hall
  rw [hv]
  generalize dvf 0 d = n at *
  have hj : jt ⟨2, [], n⟩ = Lib.itoa n := rfl
  obtain ⟨g1, g2, g3⟩ := noughts_all 0 h0
  rw [show List.replicate 0 (48 : UInt8) ++ Lib.itoa n = Lib.itoa n from rfl] at g1 g2 g3
  refine ⟨by rw [hj]; exact next_digits g1 g2 g3 hin, ?_⟩
  rw [hj]
  cases hx : Lib.itoa n with
  | nil => exact absurd hx g2
  | cons c r =>
    rw [hx, List.all_cons, Bool.and_eq_true] at g1
    exact ⟨c, r, rfl, (dig_let g1.1).2.1⟩
theorem good_text {s : List UInt8} (h1 : textOk s = true) (h2 : s.length ≤ 60) : (⟨3, s, 0⟩ : Tok).good := by
  have hj : jt ⟨3, s, 0⟩ = 39 :: (quo s ++ [39]) := by show litT s = _; unfold litT; simp
  refine ⟨?_, 39, quo s ++ [39], hj, by decide⟩
  rw [hj, nextT_text, txt_quo]
  simp [textT, h1, h2]
theorem good_sign {c : UInt8} {r : List UInt8} (h : signN (c :: r) ≠ 0) : (⟨4, (c :: r).take (signN (c :: r)), 0⟩ : Tok).good := by
  have hj : ∀ l, jt ⟨4, l, 0⟩ = l := fun l => rfl
  unfold Tok.good
  rw [hj]
  have one : singB c = true → nextT [c] = (⟨4, [c], 0⟩, 1, 0) ∧ ∃ c' r', [c] = c' :: r' ∧ blankB c' = false := by
    intro hs
    obtain ⟨h1, h2, h3, h4⟩ := sing_let hs
    refine ⟨?_, c, [], rfl, h4⟩
    rw [nextT_sign _ h1 h2 h3, signN_one, if_pos hs]; rfl
  cases r with
  | nil =>
    rw [signN_one] at h ⊢
    by_cases hs : singB c = true
    · rw [if_pos hs]; exact one hs
    · rw [if_neg hs] at h; exact absurd rfl h
  | cons d r =>
    rw [signN_two] at h ⊢
    by_cases ht : twoB c d = true
    · rw [if_pos ht]
      show nextT [c, d] = _ ∧ _
      have e : nextT [c, d] = (⟨4, [c, d], 0⟩, 2, 0) := by
        rcases two_let ht with ⟨rfl, rfl | rfl⟩ | ⟨rfl, rfl⟩ <;> rfl
      refine ⟨e, c, [d], rfl, ?_⟩
      rcases two_let ht with ⟨rfl, _⟩ | ⟨rfl, _⟩ <;> decide
    · rw [if_neg ht] at h ⊢
      by_cases hs : singB c = true
      · rw [if_pos hs]; exact one hs
      · rw [if_neg hs] at h; exact absurd rfl h
/-- Whatever token is in front: it is good, and Join may have it. -/
theorem good_next {c : UInt8} {r : List UInt8} (h0 : (nextT (c :: r)).2.2 = 0) (hl : r.length + 1 ≤ 2000) : (nextT (c :: r)).1.good ∧ (nextT (c :: r)).1.fit := by
  cases h1 : letB c
  · cases h2 : isDig c
    · by_cases h3 : c = 39
      · subst h3
        rw [nextT_text] at h0 ⊢
        cases ht : txt r with
        | none => rw [ht] at h0; cases h0
        | some p =>
          obtain ⟨s, n⟩ := p
          rw [ht] at h0
          unfold textT at h0 ⊢
          by_cases g1 : textOk s = true
          · by_cases g2 : s.length ≤ 60
            · simp only [g1, g2, if_true]
              refine ⟨good_text g1 g2, by show inR 0; decide, by show s.length ≤ _; omega, ?_⟩
              show (litT s).length ≤ 3000
              unfold litT
              have hc := List.count_le_length (a := (39 : UInt8)) (l := s)
              simp only [List.length_append, List.length_cons, List.length_nil, quo_len]
              omega
            · simp only [g1, g2, if_true, if_false] at h0; cases h0
          · simp only [g1] at h0; cases h0
      · rw [nextT_sign r h1 h2 h3] at h0 ⊢
        by_cases g : signN (c :: r) = 0
        · rw [if_pos g] at h0; cases h0
        · rw [if_neg g]
          have := signN_le (c :: r)
          simp only [List.length_cons] at this
          refine ⟨good_sign g, by show inR 0; decide, ?_, ?_⟩
          · show ((c :: r).take _).length ≤ _
            rw [List.length_take]; omega
          · show ((c :: r).take _).length ≤ _
            rw [List.length_take]; omega
    · rw [nextT_num r h1 h2] at h0 ⊢
      obtain ⟨ha, hin⟩ := readE_zero h0
      have hv : inR (readV ((c :: r).takeWhile isDig)) := by rw [readV_yes ha, val_in hin]; exact hin
      exact ⟨good_num h0, number_fit hv⟩
  · rw [nextT_word r h1]
    have := takeWhile_le wordB (c :: r)
    simp only [List.length_cons] at this
    refine ⟨good_word h1, by show inR 0; decide, ?_, ?_⟩
    · show (List.map _ _).length ≤ _
      rw [List.length_map]; omega
    · show (List.map _ _).length ≤ _
      rw [List.length_map]; omega
theorem good_splA : ∀ (k : Nat) (acc : List Tok) (l : List UInt8), l.length ≤ k → l.length ≤ 2000 → (∀ t ∈ acc, t.good ∧ t.fit) → ∀ t ∈ (splA acc l).1, t.good ∧ t.fit
  | k, acc, [], _, _, h => by rw [splA_nil]; exact h
  | 0, acc, c :: r, hk, _, _ => by simp at hk
  | k + 1, acc, c :: r, hk, h2, h => by
    simp only [List.length_cons] at hk h2
    cases hb : blankB c
    · by_cases h0 : (nextT (c :: r)).2.2 = 0
      · rw [splA_tok acc hb h0]
        have h1 := nextT_n h0
        refine good_splA k _ _ (by rw [List.length_drop, List.length_cons]; omega) (by rw [List.length_drop, List.length_cons]; omega) ?_
        intro t ht
        rcases List.mem_append.1 ht with ht | ht
        · exact h t ht
        · rw [List.mem_singleton] at ht
          rw [ht]; exact good_next h0 (by omega)
      · rw [splA_err acc hb h0]; intro t ht; cases ht
    · rw [splA_blank acc r hb]
      exact good_splA k acc r (by omega) (by omega) h
theorem good_toks (l : List UInt8) : ∀ t ∈ (toks l).1, t.good ∧ t.fit := by
  by_cases h : 2000 < l.length
  · rw [toks_long h]; intro t ht; cases ht
  · rw [toks_short (by omega)]
    exact good_splA l.length [] l (Nat.le_refl _) (by omega) (fun t ht => by cases ht)
/-- What was written so far says so many tokens, if a blank is behind it. -/
def Says (T : List UInt8) (L : List Tok) : Prop := ∀ x rest, blankB x = true → splA [] (T ++ x :: rest) = splA L rest
theorem says_nil : Says [] [] := fun _ rest h => splA_blank [] rest h
theorem splA_blanks (L : List Tok) (m : List UInt8) : ∀ B : List UInt8, B.all blankB = true → splA L (B ++ m) = splA L m
  | [], _ => rfl
  | b :: B, h => by
    rw [List.all_cons, Bool.and_eq_true] at h
    rw [List.cons_append, splA_blank _ _ h.1, splA_blanks L m B h.2]
theorem splA_good {t : Tok} (ht : t.good) (L : List Tok) {x : UInt8} (hx : blankB x = true) (rest : List UInt8) : splA L (jt t ++ x :: rest) = splA (L ++ [t]) rest := by
  obtain ⟨h1, c, r, h2, h3⟩ := ht
  rw [h2] at h1 ⊢
  have hst := nextT_stop hx c r rest (by rw [h1])
  rw [h1] at hst
  rw [List.cons_append] at hst ⊢
  rw [splA_tok L h3 (by rw [hst]), hst, ← List.cons_append]
  show splA (L ++ [t]) ((c :: r ++ x :: rest).drop (c :: r).length) = _
  rw [List.drop_append_of_le_length (Nat.le_refl _), List.drop_length, List.nil_append, splA_blank _ _ hx]
theorem says_more {T : List UInt8} {L : List Tok} (h : Says T L) {B : List UInt8} (hB : B.all blankB = true) (hne : B ≠ []) {t : Tok} (ht : t.good) : Says (T ++ B ++ jt t) (L ++ [t]) := by
  intro x rest hx
  cases B with
  | nil => exact absurd rfl hne
  | cons b B =>
    rw [List.all_cons, Bool.and_eq_true] at hB
    have := h b (B ++ (jt t ++ x :: rest)) hB.1
    have e : T ++ b :: B ++ jt t ++ x :: rest = T ++ b :: (B ++ (jt t ++ x :: rest)) := by simp
    rw [e, this, splA_blanks _ _ B hB.2, splA_good ht L hx]
theorem says_toks {T : List UInt8} {L : List Tok} (h : Says T L) (hl : T.length < 2000) : toks (T ++ [32]) = (L, 0) := by
  rw [toks_short (by simp; omega), h 32 [] (by decide), splA_nil]
end Go.Proofs.YtmdmcfobdbccmaaDoor.Lp
