/-
  Rows read out of bytes, plain: key's form. No program in sight. No conditions.
-/
import Derived.Test.YthdnphnipfpdkaaDoorPlainOrder
namespace Go.Proofs.YthdnphnipfpdkaaDoor.Lp
open Go.RowKit

def vNull : V := ⟨0, 0, ⟨#[]⟩, false⟩
def vBool (b : Bool) : V := ⟨3, 0, ⟨#[]⟩, b⟩
def vInt (i : Int) : V := ⟨1, i, ⟨#[]⟩, false⟩
def vText (l : List UInt8) : V := ⟨2, 0, ⟨l.toArray⟩, false⟩
/-- A number out of bytes, the highest first. -/
def unbe (l : List UInt8) : Nat := l.foldl (fun n b => n * 256 + b.toNat) 0
theorem unbe_snoc (l : List UInt8) (b : UInt8) : unbe (l ++ [b]) = unbe l * 256 + b.toNat := by simp [unbe]
theorem unbe_lt (l : List UInt8) : unbe l < 256 ^ l.length := by
  suffices h : ∀ (m : List UInt8), unbe m.reverse < 256 ^ m.length by
    have := h l.reverse; rw [List.reverse_reverse, List.length_reverse] at this; exact this
  intro m
  induction m with
  | nil => simp [unbe]
  | cons b m ih =>
    rw [List.reverse_cons, unbe_snoc, List.length_cons, Nat.pow_succ]
    have := b.toNat_lt
    omega
theorem be_split (n k : Nat) : be n (k + 1) = be (n / 256) k ++ [UInt8.ofNat n] := by
  induction k generalizing n with
  | zero => simp [be]
  | succ k ih =>
    rw [be_succ, ih, be_succ, List.cons_append, Nat.div_div_eq_div_mul, Nat.pow_succ, Nat.mul_comm]
theorem unbe_be (n k : Nat) (h : n < 256 ^ k) : unbe (be n k) = n := by
  induction k generalizing n with
  | zero => simp [be, unbe]; simp at h; omega
  | succ k ih =>
    rw [be_split, unbe_snoc, ih (n / 256) (by rw [Nat.pow_succ] at h; exact Nat.div_lt_of_lt_mul (by omega))]
    simp; omega

/-- What stands ahead of the first 0. -/
def ahead (l : List UInt8) : List UInt8 := l.takeWhile (· != 0)
def ktake : List UInt8 → Option (V × List UInt8)
  | [] => none
  | x :: r =>
    if x = 1 then some (vNull, r)
    else if x = 2 then (match r with
      | [] => none
      | b :: r' => if b.toNat ≤ 1 then some (vBool (b == 1), r') else none)
    else if x = 3 then (if r.length < 8 then none else some (vInt ((unbe (r.take 8) : Int) - 9223372036854775808), r.drop 8))
    else if x = 4 then (if (ahead r).length < r.length ∧ textOk (ahead r) = true ∧ (ahead r).length ≤ 60 then some (vText (ahead r), r.drop ((ahead r).length + 1)) else none)
    else none
theorem ktake_less {p : List UInt8} {v : V} {r : List UInt8} (h : ktake p = some (v, r)) : r.length < p.length := by
  cases p with
  | nil => simp [ktake] at h
  | cons x p =>
    simp only [ktake] at h
    simp only [List.length_cons]
    split at h
    · simp only [Option.some.injEq, Prod.mk.injEq] at h; rw [← h.2]; omega
    · split at h
      · cases p with
        | nil => simp at h
        | cons b p =>
          simp only at h
          split at h
          · simp only [Option.some.injEq, Prod.mk.injEq] at h; rw [← h.2]; simp; omega
          · cases h
      · split at h
        · split at h
          · cases h
          · simp only [Option.some.injEq, Prod.mk.injEq] at h; rw [← h.2]; simp
            omega
        · split at h
          · split at h
            · simp only [Option.some.injEq, Prod.mk.injEq] at h; rw [← h.2]; simp; omega
            · cases h
          · cases h
def kreadN : Nat → List UInt8 → Option (List V)
  | 0, p => if p = [] then some [] else none
  | n + 1, p => if p = [] then some [] else match ktake p with
    | none => none
    | some (v, r) => (kreadN n r).map (v :: ·)
theorem kreadN_enough (n : Nat) : ∀ (m : Nat) (p : List UInt8), p.length ≤ n → p.length ≤ m → kreadN n p = kreadN m p := by
  induction n with
  | zero =>
    intro m p hn hm
    have : p = [] := List.eq_nil_of_length_eq_zero (by omega)
    subst this
    cases m <;> simp [kreadN]
  | succ n ih =>
    intro m p hn hm
    by_cases hp : p = []
    · subst hp; cases m <;> simp [kreadN]
    · cases m with
      | zero => exact absurd (List.eq_nil_of_length_eq_zero (by omega)) hp
      | succ m =>
        simp only [kreadN, if_neg hp]
        cases hk : ktake p with
        | none => rfl
        | some x =>
          obtain ⟨v, r⟩ := x
          have := ktake_less hk
          simp only
          rw [ih m r (by omega) (by omega)]
def kread (p : List UInt8) : Option (List V) := kreadN p.length p
theorem kread_nil : kread [] = some [] := rfl
theorem kread_none {p : List UInt8} (hp : p ≠ []) (h : ktake p = none) : kread p = none := by
  unfold kread
  cases p with
  | nil => exact absurd rfl hp
  | cons x p => simp only [List.length_cons, kreadN, h]; simp
theorem kread_some {p : List UInt8} {v : V} {r : List UInt8} (h : ktake p = some (v, r)) : kread p = (kread r).map (v :: ·) := by
  have hl := ktake_less h
  cases p with
  | nil => simp [ktake] at h
  | cons x p =>
    unfold kread
    simp only [List.length_cons, kreadN, h]
    simp only [List.length_cons] at hl
    rw [kreadN_enough p.length r.length r (by omega) (Nat.le_refl _)]
    simp

theorem ahead_zero (l t : List UInt8) (h : l.contains 0 = false) : ahead (l ++ 0 :: t) = l := by
  induction l with
  | nil => simp [ahead]
  | cons x l ih =>
    simp only [List.contains_cons, Bool.or_eq_false_iff] at h
    have hx : (x != 0) = true := by
      have := h.1
      simp at this ⊢; exact fun e => this e.symm
    unfold ahead at ih ⊢
    rw [List.cons_append, List.takeWhile_cons, hx, if_pos rfl, ih h.2]
theorem empty_of {s : ByteArray} (h : s.data.toList.isEmpty = true) : s = ⟨#[]⟩ := by
  apply ByteArray.ext
  apply Array.toList_inj.1
  simpa using h
theorem right_shape {v : V} (h : v.right = true) : (v.k = 0 → v = vNull) ∧ (v.k = 1 → v = vInt v.i) ∧ (v.k = 2 → v = vText v.s.data.toList ∧ textOk v.s.data.toList = true ∧ v.s.size ≤ 60) ∧ (v.k = 3 → v = vBool v.b) := by
  obtain ⟨k, i, s, b⟩ := v
  unfold V.right rightB at h
  simp only at h ⊢
  refine ⟨?_, ?_, ?_, ?_⟩
  · rintro rfl
    simp only [if_true, Bool.and_eq_true, beq_iff_eq, Bool.not_eq_true'] at h
    obtain ⟨⟨rfl, hs⟩, rfl⟩ := h
    rw [empty_of hs]; rfl
  · rintro rfl
    have h2 : s.data.toList.isEmpty = true ∧ b = false := by simpa using h
    obtain ⟨hs, rfl⟩ := h2
    rw [empty_of hs]; rfl
  · rintro rfl
    have h2 : ((i = 0 ∧ b = false) ∧ s.size ≤ 60) ∧ textOk s.data.toList = true := by simpa using h
    obtain ⟨⟨⟨rfl, rfl⟩, hs⟩, ht⟩ := h2
    exact ⟨rfl, ht, hs⟩
  · rintro rfl
    have h2 : i = 0 ∧ s.data.toList.isEmpty = true := by simpa using h
    obtain ⟨rfl, hs⟩ := h2
    rw [empty_of hs]; rfl
theorem ktake_kb {v : V} (h : v.right = true) (hk : v.ok) (t : List UInt8) : ktake (kb v ++ t) = some (v, t) := by
  obtain ⟨s0, s1, s2, s3⟩ := right_shape h
  rcases right_kinds h with e | e | e | e
  · have := s0 e
    rw [this]; rfl
  · have hv := s1 e
    have hu := up_lt hk.2.1
    have : kb v = 3 :: be (up v.i) 8 := by simp [kb, e]
    rw [this]
    have hl := be_length (up v.i) 8
    have ht : (be (up v.i) 8 ++ t).take 8 = be (up v.i) 8 := by rw [List.take_append_of_le_length (by omega), List.take_of_length_le (by omega)]
    have hd : (be (up v.i) 8 ++ t).drop 8 = t := by rw [List.drop_append_of_le_length (by omega), List.drop_of_length_le (by omega)]; rfl
    have hu2 : unbe (be (up v.i) 8) = up v.i := unbe_be _ _ (by simpa using hu)
    simp only [List.cons_append, ktake]
    rw [if_neg (by decide), if_neg (by decide), if_pos trivial, if_neg (by simp; omega), ht, hd, hu2]
    have : ((up v.i : Nat) : Int) - 9223372036854775808 = v.i := by have := hk.2.1; unfold inR at this; unfold up; omega
    rw [this, ← hv]
  · obtain ⟨hv, ht, hs⟩ := s2 e
    have hz := right_zero h e
    have : kb v = 4 :: (v.s.data.toList ++ [0]) := by simp [kb, e]
    rw [this]
    have ha : ahead (v.s.data.toList ++ 0 :: t) = v.s.data.toList := ahead_zero _ _ hz
    have e2 : 4 :: (v.s.data.toList ++ [0]) ++ t = 4 :: (v.s.data.toList ++ 0 :: t) := by simp
    rw [e2]
    simp only [ktake]
    rw [if_neg (by decide), if_neg (by decide), if_neg (by decide), if_pos trivial, ha, if_pos ⟨by simp, ht, by simpa using hs⟩, ← hv]
    congr 2
    rw [List.drop_append]
    simp
  · have hv := s3 e
    have : kb v = [2, if v.b then 1 else 0] := by simp [kb, e]
    rw [this]
    rw [hv]
    cases v.b <;> rfl
theorem kread_kbs {l : List V} (h : l.all V.right = true) (hk : ∀ u ∈ l, u.ok) : kread (kbs l) = some l := by
  induction l with
  | nil => rfl
  | cons v l ih =>
    simp only [List.all_cons, Bool.and_eq_true] at h
    have e : kbs (v :: l) = kb v ++ kbs l := by simp [kbs]
    rw [e, kread_some (ktake_kb h.1 (hk v (by simp)) _), ih h.2 (fun u hu => hk u (by simp [hu]))]
    rfl

/-- Two rows alike. -/
def sameRow : List V → List V → Bool
  | [], [] => true
  | u :: a, v :: b => decide (u.k = v.k) && vsame u v && sameRow a b
  | _, _ => false
theorem vless_self (v : V) : vless v v = false := by
  unfold vless
  rw [if_neg (by simp)]
  simp [less_irrefl]
theorem vsame_self (v : V) : vsame v v = true := by simp [vsame, vless_self]
theorem sameRow_self (l : List V) : sameRow l l = true := by
  induction l with
  | nil => rfl
  | cons v l ih => simp [sameRow, vsame_self, ih]
theorem sameRow_len {a b : List V} (h : a.length ≠ b.length) : sameRow a b = false := by
  induction a generalizing b with
  | nil => cases b with
    | nil => exact absurd rfl h
    | cons => rfl
  | cons u a ih => cases b with
    | nil => rfl
    | cons v b => simp only [sameRow]; rw [ih (by simpa using h), Bool.and_false]
theorem sameRow_drop {a b : List V} {i : Nat} (ha : i < a.length) (hb : i < b.length) : sameRow (a.drop i) (b.drop i) = (decide (a[i].k = b[i].k) && vsame a[i] b[i] && sameRow (a.drop (i + 1)) (b.drop (i + 1))) := by
  rw [List.drop_eq_getElem_cons ha, List.drop_eq_getElem_cons hb]; rfl
end Go.Proofs.YthdnphnipfpdkaaDoor.Lp
