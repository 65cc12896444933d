/-
  The tokens of a text, plain: byte by byte. No program in sight. No conditions.
-/
import Derived.Test.YtmdmcfobdbccmaaDoorPlainRd
import Derived.Test.YtmdmcfobdbccmaaDoorPlainValid
import Derived.Test.YtmdmcfobdbccmaaDoorVal
import Derived.Lib.TrimUEq
namespace Go.Proofs.YtmdmcfobdbccmaaDoor.Lp
open Go.RowKit

/-- A token: its kind, its text, its number. -/
structure Tok where
  k : Int
  s : List UInt8
  n : Int
def tok0 : Tok := ⟨0, [], 0⟩
def Tok.cells (t : Tok) : List Value := [.int .u8 t.k, .string ⟨t.s.toArray⟩, .int .i64 t.n]
def tkv (l : List Tok) : List Value := l.flatMap Tok.cells
def letB (c : UInt8) : Bool := (decide (97 ≤ c.toNat) && decide (c.toNat ≤ 122)) || (decide (65 ≤ c.toNat) && decide (c.toNat ≤ 90)) || decide (c.toNat = 95)
def wordB (c : UInt8) : Bool := letB c || isDig c
def blankB (c : UInt8) : Bool := decide (c.toNat = 32) || decide (c.toNat = 9) || decide (c.toNat = 10) || decide (c.toNat = 13)
def lowB (c : UInt8) : UInt8 := if 65 ≤ c.toNat ∧ c.toNat ≤ 90 then c + 32 else c
def signs : List UInt8 := [40, 41, 44, 59, 42, 43, 45, 47, 37, 61, 60, 62, 46]
def singB (c : UInt8) : Bool := signs.contains c
def twoB (c d : UInt8) : Bool := (decide (c.toNat = 60) && (decide (d.toNat = 61) || decide (d.toNat = 62))) || (decide (c.toNat = 62) && decide (d.toNat = 61))
/-- What a text says behind its first quote, and how many bytes it has there, its last quote among them. -/
def txt : List UInt8 → Option (List UInt8 × Nat)
  | [] => none
  | c :: l =>
    if c = 39 then
      match l with
      | d :: r => if d = 39 then (txt r).map fun p => (39 :: p.1, p.2 + 2) else some ([], 1)
      | [] => some ([], 1)
    else (txt l).map fun p => (c :: p.1, p.2 + 1)
def signN : List UInt8 → Nat
  | [] => 0
  | [c] => if singB c then 1 else 0
  | c :: d :: _ => if twoB c d then 2 else if singB c then 1 else 0
def textT : Option (List UInt8 × Nat) → Tok × Nat × Int
  | none => (tok0, 0, 4)
  | some (t, n) => if textOk t then (if t.length ≤ 60 then (⟨3, t, 0⟩, n + 1, 0) else (tok0, 0, 2)) else (tok0, 0, 4)
/-- The token in front, how many bytes it has, the error. -/
def nextT : List UInt8 → Tok × Nat × Int
  | [] => (tok0, 0, 4)
  | c :: r =>
    if letB c then (⟨1, ((c :: r).takeWhile wordB).map lowB, 0⟩, ((c :: r).takeWhile wordB).length, 0)
    else if isDig c then (⟨2, [], readV ((c :: r).takeWhile isDig)⟩, ((c :: r).takeWhile isDig).length, readE ((c :: r).takeWhile isDig))
    else if c = 39 then textT (txt r)
    else if signN (c :: r) = 0 then (tok0, 0, 4) else (⟨4, (c :: r).take (signN (c :: r)), 0⟩, signN (c :: r), 0)
def splF : Nat → List Tok → List UInt8 → List Tok × Int
  | _, acc, [] => (acc, 0)
  | 0, acc, _ :: _ => (acc, 0)
  | f + 1, acc, c :: r =>
    if blankB c then splF f acc r
    else if (nextT (c :: r)).2.2 = 0 then splF f (acc ++ [(nextT (c :: r)).1]) ((c :: r).drop (nextT (c :: r)).2.1)
    else ([], (nextT (c :: r)).2.2)
def spl (l : List UInt8) : List Tok × Int := splF l.length [] l
def toks (l : List UInt8) : List Tok × Int := if 2000 < l.length then ([], 2) else spl l

/-! How many bytes. -/
theorem takeWhile_le (p : UInt8 → Bool) (l : List UInt8) : (l.takeWhile p).length ≤ l.length := (List.takeWhile_sublist p).length_le
theorem txt_n : ∀ (k : Nat) (l : List UInt8) (t : List UInt8) (n : Nat), l.length ≤ k → txt l = some (t, n) → 1 ≤ n ∧ n ≤ l.length ∧ t.length < n
  | 0, l, t, n, hk, h => by
    obtain rfl : l = [] := List.eq_nil_of_length_eq_zero (by omega)
    cases h
  | k + 1, [], t, n, hk, h => by cases h
  | k + 1, c :: l, t, n, hk, h => by
    unfold txt at h
    by_cases hc : c = 39
    · rw [if_pos hc] at h
      match l, h, hk with
      | [], h, _ =>
        simp only [Option.some.injEq, Prod.mk.injEq] at h
        obtain ⟨rfl, rfl⟩ := h
        simp
      | d :: r, h, hk =>
        simp only at h
        by_cases hd : d = 39
        · rw [if_pos hd] at h
          obtain ⟨⟨t', n'⟩, h1, h2⟩ := Option.map_eq_some_iff.1 h
          simp only [Prod.mk.injEq] at h2
          obtain ⟨rfl, rfl⟩ := h2
          have := txt_n k r t' n' (by simp at hk; omega) h1
          simp; omega
        · rw [if_neg hd] at h
          simp only [Option.some.injEq, Prod.mk.injEq] at h
          obtain ⟨rfl, rfl⟩ := h
          simp
    · rw [if_neg hc] at h
      obtain ⟨⟨t', n'⟩, h1, h2⟩ := Option.map_eq_some_iff.1 h
      simp only [Prod.mk.injEq] at h2
      obtain ⟨rfl, rfl⟩ := h2
      have := txt_n k l t' n' (by simp at hk; omega) h1
      simp; omega
theorem ite_le {c : Prop} [Decidable c] {a b n : Nat} (h1 : a ≤ n) (h2 : b ≤ n) : (if c then a else b) ≤ n := by by_cases h : c <;> simp [h, h1, h2]
theorem signN_le (l : List UInt8) : signN l ≤ l.length := by
  match l with
  | [] => exact Nat.le_refl _
  | [c] => exact ite_le (by simp) (by simp)
  | c :: d :: r => exact ite_le (by simp) (ite_le (by simp) (by simp))
theorem textT_n {r : List UInt8} {p : Option (List UInt8 × Nat)} (hp : txt r = p) (h : (textT p).2.2 = 0) : 1 ≤ (textT p).2.1 ∧ (textT p).2.1 ≤ r.length + 1 := by
  cases p with
  | none => cases h
  | some p =>
    obtain ⟨t, n⟩ := p
    have := txt_n _ _ _ _ (Nat.le_refl _) hp
    unfold textT at h ⊢
    by_cases g1 : textOk t = true
    · by_cases g2 : t.length ≤ 60
      · simp only [g1, g2, if_true]; omega
      · simp only [g1, g2, if_true, if_false] at h; cases h
    · simp only [g1] at h; cases h
theorem nextT_word {c : UInt8} (r : List UInt8) (h : letB c = true) : nextT (c :: r) = (⟨1, ((c :: r).takeWhile wordB).map lowB, 0⟩, ((c :: r).takeWhile wordB).length, 0) := by
  simp only [nextT, h, if_true]
theorem nextT_num {c : UInt8} (r : List UInt8) (h0 : letB c = false) (h : isDig c = true) : nextT (c :: r) = (⟨2, [], readV ((c :: r).takeWhile isDig)⟩, ((c :: r).takeWhile isDig).length, readE ((c :: r).takeWhile isDig)) := by
  simp only [nextT, h0, h, Bool.false_eq_true, if_false, if_true]
theorem nextT_text (r : List UInt8) : nextT (39 :: r) = textT (txt r) := rfl
theorem nextT_sign {c : UInt8} (r : List UInt8) (h0 : letB c = false) (h1 : isDig c = false) (h2 : c ≠ 39) : nextT (c :: r) = if signN (c :: r) = 0 then (tok0, 0, 4) else (⟨4, (c :: r).take (signN (c :: r)), 0⟩, signN (c :: r), 0) := by
  simp only [nextT, h0, h1, h2, Bool.false_eq_true, if_false]
/-- A token has a byte at least, and no more than there are. -/
theorem nextT_n {c : UInt8} {r : List UInt8} (h : (nextT (c :: r)).2.2 = 0) : 1 ≤ (nextT (c :: r)).2.1 ∧ (nextT (c :: r)).2.1 ≤ r.length + 1 := by
  cases h1 : letB c
  · cases h2 : isDig c
    · by_cases h3 : c = 39
      · subst h3
        rw [nextT_text] at h ⊢
        exact textT_n rfl h
      · rw [nextT_sign r h1 h2 h3] at h ⊢
        by_cases g : signN (c :: r) = 0
        · rw [if_pos g] at h; cases h
        · rw [if_neg g]
          have := signN_le (c :: r)
          simp only [List.length_cons] at this
          exact ⟨by show 1 ≤ signN _; omega, this⟩
    · rw [nextT_num r h1 h2]
      have h3 := takeWhile_le isDig (c :: r)
      simp only [List.takeWhile_cons, h2, if_true, List.length_cons] at h3 ⊢
      omega
  · rw [nextT_word r h1]
    have h2 := takeWhile_le wordB (c :: r)
    have h3 : wordB c = true := by simp [wordB, h1]
    simp only [List.takeWhile_cons, h3, if_true, List.length_cons] at h2 ⊢
    omega
theorem splF_fuel : ∀ (f g : Nat) (acc : List Tok) (l : List UInt8), l.length ≤ f → l.length ≤ g → splF f acc l = splF g acc l
  | f, g, acc, [], _, _ => by simp [splF]
  | 0, g, acc, c :: r, h, _ => by simp at h
  | f + 1, 0, acc, c :: r, _, h => by simp at h
  | f + 1, g + 1, acc, c :: r, h1, h2 => by
    simp only [List.length_cons] at h1 h2
    unfold splF
    split
    · exact splF_fuel f g acc r (by omega) (by omega)
    · split
      · rename_i hn
        have := nextT_n hn
        exact splF_fuel f g _ _ (by rw [List.length_drop, List.length_cons]; omega) (by rw [List.length_drop, List.length_cons]; omega)
      · rfl
/-- The tokens behind those that were found. -/
def splA (acc : List Tok) (l : List UInt8) : List Tok × Int := splF l.length acc l
theorem splA_nil (acc : List Tok) : splA acc [] = (acc, 0) := by simp [splA, splF]
theorem splA_blank (acc : List Tok) {c : UInt8} (r : List UInt8) (h : blankB c = true) : splA acc (c :: r) = splA acc r := by
  unfold splA; simp [splF, h]
theorem splA_tok (acc : List Tok) {c : UInt8} {r : List UInt8} (h : blankB c = false) (h0 : (nextT (c :: r)).2.2 = 0) : splA acc (c :: r) = splA (acc ++ [(nextT (c :: r)).1]) ((c :: r).drop (nextT (c :: r)).2.1) := by
  unfold splA
  rw [List.length_cons]
  conv => lhs; unfold splF
  simp only [h, Bool.false_eq_true, if_false, h0, if_true]
  have := nextT_n h0
  exact splF_fuel _ _ _ _ (by rw [List.length_drop, List.length_cons]; omega) (Nat.le_refl _)
theorem splA_err (acc : List Tok) {c : UInt8} {r : List UInt8} (h : blankB c = false) (h0 : (nextT (c :: r)).2.2 ≠ 0) : splA acc (c :: r) = ([], (nextT (c :: r)).2.2) := by
  unfold splA
  rw [List.length_cons]
  unfold splF
  simp [h, h0]
theorem toks_short {l : List UInt8} (h : l.length ≤ 2000) : toks l = splA [] l := by
  unfold toks spl splA; rw [if_neg (by omega)]
theorem toks_long {l : List UInt8} (h : 2000 < l.length) : toks l = ([], 2) := by
  unfold toks; rw [if_pos h]
/-- Each token has a byte at least. -/
theorem splA_len : ∀ (k : Nat) (acc : List Tok) (l : List UInt8), l.length ≤ k → (splA acc l).1.length ≤ acc.length + l.length
  | k, acc, [], _ => by rw [splA_nil]; simp
  | 0, acc, c :: r, h => by simp at h
  | k + 1, acc, c :: r, h => by
    simp only [List.length_cons] at h ⊢
    cases hb : blankB c
    · by_cases h0 : (nextT (c :: r)).2.2 = 0
      · rw [splA_tok acc hb h0]
        have h1 := nextT_n h0
        have := splA_len k (acc ++ [(nextT (c :: r)).1]) ((c :: r).drop (nextT (c :: r)).2.1) (by rw [List.length_drop, List.length_cons]; omega)
        rw [List.length_drop, List.length_append, List.length_cons] at this
        simp at this; omega
      · rw [splA_err acc hb h0]; simp
    · rw [splA_blank acc r hb]
      have := splA_len k acc r (by omega)
      omega
/-- What is found is put behind what was there. -/
theorem splA_acc : ∀ (k : Nat) (acc : List Tok) (l : List UInt8), l.length ≤ k → splA acc l = if (splA [] l).2 = 0 then (acc ++ (splA [] l).1, 0) else ([], (splA [] l).2)
  | k, acc, [], _ => by rw [splA_nil, splA_nil]; simp
  | 0, acc, c :: r, h => by simp at h
  | k + 1, acc, c :: r, h => by
    simp only [List.length_cons] at h
    cases hb : blankB c
    · by_cases h0 : (nextT (c :: r)).2.2 = 0
      · have h1 := nextT_n h0
        have hl : ((c :: r).drop (nextT (c :: r)).2.1).length ≤ k := by rw [List.length_drop, List.length_cons]; omega
        rw [splA_tok acc hb h0, splA_tok [] hb h0, splA_acc k _ _ hl]
        have := splA_acc k ([] ++ [(nextT (c :: r)).1]) _ hl
        rw [this]
        split
        · simp
        · rename_i g; simp
      · rw [splA_err acc hb h0, splA_err [] hb h0]; simp [h0]
    · rw [splA_blank acc r hb, splA_blank [] r hb]
      exact splA_acc k acc r (by omega)
end Go.Proofs.YtmdmcfobdbccmaaDoor.Lp
