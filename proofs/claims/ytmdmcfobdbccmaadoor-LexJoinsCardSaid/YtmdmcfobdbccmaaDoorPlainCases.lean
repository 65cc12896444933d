/-
  Great and small letters outside of texts say the same, plain. No program in sight. No conditions.
-/
import Derived.Test.YtmdmcfobdbccmaaDoorPlainLex
namespace Go.Proofs.YtmdmcfobdbccmaaDoor.Lp
open Go.RowKit

theorem low_nat (c : UInt8) : (lowB c).toNat = if 65 ≤ c.toNat ∧ c.toNat ≤ 90 then c.toNat + 32 else c.toNat := by
  unfold lowB
  by_cases h : 65 ≤ c.toNat ∧ c.toNat ≤ 90
  · rw [if_pos h, if_pos h, UInt8.toNat_add]
    have : (32 : UInt8).toNat = 32 := rfl
    rw [this]; omega
  · rw [if_neg h, if_neg h]
theorem low_low (c : UInt8) : lowB (lowB c) = lowB c := by
  apply UInt8.toNat_inj.1
  rw [low_nat (lowB c), low_nat c]
  by_cases h : 65 ≤ c.toNat ∧ c.toNat ≤ 90
  · rw [if_pos h, if_neg (by omega)]
  · rw [if_neg h, if_neg h]
theorem low_let (c : UInt8) : letB (lowB c) = letB c := by
  unfold letB
  rw [low_nat, Bool.eq_iff_iff]
  simp only [Bool.or_eq_true, Bool.and_eq_true, decide_eq_true_eq]
  split <;> omega
theorem low_dig (c : UInt8) : isDig (lowB c) = isDig c := by
  unfold isDig
  rw [low_nat, Bool.eq_iff_iff]
  simp only [Bool.and_eq_true, decide_eq_true_eq]
  split <;> omega
theorem low_word (c : UInt8) : wordB (lowB c) = wordB c := by unfold wordB; rw [low_let, low_dig]
theorem low_blank (c : UInt8) : blankB (lowB c) = blankB c := by
  unfold blankB
  rw [low_nat, Bool.eq_iff_iff]
  simp only [Bool.or_eq_true, decide_eq_true_eq]
  split <;> omega
theorem low_not {c : UInt8} (h : letB c = false) : lowB c = c := by
  unfold lowB
  rw [if_neg]
  intro g
  rw [← Bool.not_eq_true] at h
  apply h
  unfold letB
  simp only [Bool.or_eq_true, Bool.and_eq_true, decide_eq_true_eq]
  omega
theorem sing_let {c : UInt8} (h : singB c = true) : letB c = false ∧ isDig c = false ∧ c ≠ 39 ∧ blankB c = false := by
  unfold singB at h
  rw [List.contains_iff_mem] at h
  simp only [signs, List.mem_cons, List.not_mem_nil, or_false] at h
  rcases h with rfl | rfl | rfl | rfl | rfl | rfl | rfl | rfl | rfl | rfl | rfl | rfl | rfl
  all_goals exact ⟨by decide, by decide, by decide, by decide⟩
theorem two_let {c d : UInt8} (h : twoB c d = true) : (c = 60 ∧ (d = 61 ∨ d = 62)) ∨ (c = 62 ∧ d = 61) := by
  unfold twoB at h
  simp only [Bool.or_eq_true, Bool.and_eq_true, decide_eq_true_eq] at h
  rcases h with ⟨h1, h2 | h2⟩ | ⟨h1, h2⟩
  · exact .inl ⟨UInt8.toNat_inj.1 h1, .inl (UInt8.toNat_inj.1 h2)⟩
  · exact .inl ⟨UInt8.toNat_inj.1 h1, .inr (UInt8.toNat_inj.1 h2)⟩
  · exact .inr ⟨UInt8.toNat_inj.1 h1, UInt8.toNat_inj.1 h2⟩
theorem low_sing (c : UInt8) : singB (lowB c) = singB c := by
  cases h : letB c
  · rw [low_not h]
  · have h1 : singB c = false := by
      cases g : singB c
      · rfl
      · rw [(sing_let g).1] at h; cases h
    have h2 : singB (lowB c) = false := by
      cases g : singB (lowB c)
      · rfl
      · have := (sing_let g).1; rw [low_let, h] at this; cases this
    rw [h1, h2]
theorem low_two (c d : UInt8) : twoB (lowB c) (lowB d) = twoB c d := by
  unfold twoB
  rw [low_nat, low_nat, Bool.eq_iff_iff]
  simp only [Bool.or_eq_true, Bool.and_eq_true, decide_eq_true_eq]
  split <;> split <;> omega
theorem low_takeWhile {p : UInt8 → Bool} (hp : ∀ c, p (lowB c) = p c) : ∀ l : List UInt8, (l.map lowB).takeWhile p = (l.takeWhile p).map lowB
  | [] => rfl
  | c :: l => by
    rw [List.map_cons, List.takeWhile_cons, List.takeWhile_cons, hp, low_takeWhile hp l]
    cases p c <;> rfl
theorem low_digits : ∀ l : List UInt8, (l.takeWhile isDig).map lowB = l.takeWhile isDig
  | [] => rfl
  | c :: l => by
    rw [List.takeWhile_cons]
    cases h : isDig c
    · rfl
    · rw [if_pos rfl, List.map_cons, low_digits l, low_not]
      cases g : letB c
      · rfl
      · exfalso
        unfold isDig at h
        unfold letB at g
        simp only [Bool.or_eq_true, Bool.and_eq_true, decide_eq_true_eq] at h g
        omega
theorem low_signN : ∀ l : List UInt8, signN (l.map lowB) = signN l
  | [] => rfl
  | [c] => by simp [signN, low_sing]
  | c :: d :: l => by simp [signN, low_sing, low_two]
theorem signN_one (c : UInt8) : signN [c] = if singB c then 1 else 0 := rfl
theorem signN_two (c d : UInt8) (r : List UInt8) : signN (c :: d :: r) = if twoB c d then 2 else if singB c then 1 else 0 := rfl
theorem low_sign_take {c : UInt8} {r : List UInt8} (h0 : signN (c :: r) ≠ 0) : ((c :: r).map lowB).take (signN (c :: r)) = (c :: r).take (signN (c :: r)) := by
  cases r with
  | nil =>
    rw [signN_one] at h0 ⊢
    by_cases hs : singB c = true
    · rw [if_pos hs]; simp [low_not (sing_let hs).1]
    · rw [if_neg hs] at h0; exact absurd rfl h0
  | cons d r =>
    rw [signN_two] at h0 ⊢
    by_cases ht : twoB c d = true
    · rw [if_pos ht]
      have e1 : lowB c = c ∧ lowB d = d := by
        rcases two_let ht with ⟨rfl, rfl | rfl⟩ | ⟨rfl, rfl⟩ <;> exact ⟨by decide, by decide⟩
      simp [e1.1, e1.2]
    · rw [if_neg ht] at h0 ⊢
      by_cases hs : singB c = true
      · rw [if_pos hs]; simp [low_not (sing_let hs).1]
      · rw [if_neg hs] at h0; exact absurd rfl h0
theorem low_39 {c : UInt8} (h : c ≠ 39) : lowB c ≠ 39 := by
  intro e
  have := congrArg UInt8.toNat e
  rw [low_nat] at this
  have h39 : (39 : UInt8).toNat = 39 := rfl
  have hc : c.toNat ≠ 39 := fun g => h (UInt8.toNat_inj.1 g)
  rw [h39] at this
  split at this <;> omega
/-- Outside of texts great letters are small. -/
theorem low_next {c : UInt8} {r : List UInt8} (h : c ≠ 39) : nextT ((c :: r).map lowB) = nextT (c :: r) := by
  rw [List.map_cons]
  cases h1 : letB c
  · cases h2 : isDig c
    · have hs := low_signN (c :: r)
      rw [List.map_cons] at hs
      rw [nextT_sign _ (by rw [low_let, h1]) (by rw [low_dig, h2]) (low_39 h), nextT_sign _ h1 h2 h, hs]
      by_cases g : signN (c :: r) = 0
      · rw [if_pos g, if_pos g]
      · have := low_sign_take g
        rw [List.map_cons] at this
        rw [if_neg g, if_neg g, this]
    · have ht := low_takeWhile low_dig (c :: r)
      rw [List.map_cons, low_digits] at ht
      rw [nextT_num _ (by rw [low_let, h1]) (by rw [low_dig, h2]), nextT_num _ h1 h2, ht]
  · have ht := low_takeWhile low_word (c :: r)
    rw [List.map_cons] at ht
    rw [nextT_word _ (by rw [low_let, h1]), nextT_word _ h1, ht, List.map_map, List.length_map]
    congr 2
    apply List.map_congr_left
    intro a _
    exact low_low a
theorem low_spl : ∀ (k : Nat) (acc : List Tok) (l : List UInt8), l.length ≤ k → (39 : UInt8) ∉ l → splA acc (l.map lowB) = splA acc l
  | k, acc, [], _, _ => rfl
  | 0, acc, c :: r, hk, _ => by simp at hk
  | k + 1, acc, c :: r, hk, h => by
    simp only [List.length_cons] at hk
    have hc : c ≠ 39 := fun e => h (by simp [e])
    have hr : (39 : UInt8) ∉ r := fun e => h (by simp [e])
    have hn := low_next (r := r) hc
    rw [List.map_cons] at hn ⊢
    cases hb : blankB c
    · have hb2 : blankB (lowB c) = false := by rw [low_blank, hb]
      by_cases h0 : (nextT (c :: r)).2.2 = 0
      · have h1 := nextT_n h0
        rw [splA_tok acc hb h0, splA_tok acc hb2 (by rw [hn]; exact h0), hn]
        have e : (lowB c :: r.map lowB).drop (nextT (c :: r)).2.1 = ((c :: r).drop (nextT (c :: r)).2.1).map lowB := by
          rw [← List.map_cons, List.map_drop]
        rw [e]
        exact low_spl k _ _ (by rw [List.length_drop, List.length_cons]; omega) (fun g => h (List.mem_of_mem_drop g))
      · rw [splA_err acc hb h0, splA_err acc hb2 (by rw [hn]; exact h0), hn]
    · rw [splA_blank acc _ hb, splA_blank acc _ (by rw [low_blank, hb])]
      exact low_spl k acc r (by omega) hr
theorem low_toks {l m : List UInt8} (hl : (39 : UInt8) ∉ l) (hm : (39 : UInt8) ∉ m) (h : l.map lowB = m.map lowB) : toks l = toks m := by
  have hlen : l.length = m.length := by have := congrArg List.length h; simpa using this
  by_cases g : 2000 < l.length
  · rw [toks_long g, toks_long (by omega)]
  · rw [toks_short (by omega), toks_short (by omega), ← low_spl _ [] l (Nat.le_refl _) hl, ← low_spl _ [] m (Nat.le_refl _) hm, h]
/-- A letter that is turned. -/
theorem turn_up {c : UInt8} (h1 : 97 ≤ c.toNat) (h2 : c.toNat ≤ 122) : lowB (c - 32) = lowB c ∧ c - 32 ≠ 39 ∧ (c - 32).toNat = c.toNat - 32 := by
  have e : (c - 32).toNat = c.toNat - 32 := by
    rw [UInt8.toNat_sub]
    have : (32 : UInt8).toNat = 32 := rfl
    rw [this]; omega
  refine ⟨?_, ?_, e⟩
  · apply UInt8.toNat_inj.1
    rw [low_nat, low_nat, e]
    split <;> split <;> omega
  · intro g
    have := congrArg UInt8.toNat g
    rw [e] at this
    have h39 : (39 : UInt8).toNat = 39 := rfl
    omega
theorem turn_down {c : UInt8} (h1 : 65 ≤ c.toNat) (h2 : c.toNat ≤ 90) : lowB (c + 32) = lowB c ∧ c + 32 ≠ 39 ∧ (c + 32).toNat = c.toNat + 32 := by
  have e : (c + 32).toNat = c.toNat + 32 := by
    rw [UInt8.toNat_add]
    have : (32 : UInt8).toNat = 32 := rfl
    rw [this]; omega
  refine ⟨?_, ?_, e⟩
  · apply UInt8.toNat_inj.1
    rw [low_nat, low_nat, e]
    split <;> split <;> omega
  · intro g
    have := congrArg UInt8.toNat g
    rw [e] at this
    have h39 : (39 : UInt8).toNat = 39 := rfl
    omega
end Go.Proofs.YtmdmcfobdbccmaaDoor.Lp
