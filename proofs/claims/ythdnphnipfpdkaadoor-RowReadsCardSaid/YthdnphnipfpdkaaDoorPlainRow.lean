/-
  Rows of a table's kinds as bytes, and read out of them, plain: row's form. No program in sight. No conditions.
-/
import Derived.Test.YthdnphnipfpdkaaDoorPlainRead
namespace Go.Proofs.YthdnphnipfpdkaaDoor.Lp
open Go.RowKit

def toU (i : Int) : Nat := (i % 18446744073709551616).toNat
def ofU (n : Nat) : Int := if n < 9223372036854775808 then n else (n : Int) - 18446744073709551616
theorem ofU_toU {i : Int} (h : inR i) : ofU (toU i) = i := by unfold inR at h; unfold ofU toU; omega
theorem toU_lt (i : Int) : toU i < 18446744073709551616 := by unfold toU; omega
theorem ofU_in {n : Nat} (h : n < 18446744073709551616) : inR (ofU n) := by unfold inR ofU; split <;> omega
/-- A number's bytes, the lowest first: k of them. -/
def le (n : Nat) : Nat → List UInt8
  | 0 => []
  | k + 1 => UInt8.ofNat n :: le (n / 256) k
def unle : List UInt8 → Nat
  | [] => 0
  | b :: l => b.toNat + 256 * unle l
theorem le_length (n k : Nat) : (le n k).length = k := by
  induction k generalizing n with
  | zero => rfl
  | succ k ih => simp [le, ih]
theorem le_snoc (n k : Nat) : le n (k + 1) = le n k ++ [UInt8.ofNat (n / 256 ^ k)] := by
  induction k generalizing n with
  | zero => simp [le]
  | succ k ih =>
    have e : le n (k + 1 + 1) = UInt8.ofNat n :: le (n / 256) (k + 1) := rfl
    rw [e, ih, Nat.div_div_eq_div_mul, Nat.pow_succ, Nat.mul_comm]
    rfl
theorem unle_le (n k : Nat) (h : n < 256 ^ k) : unle (le n k) = n := by
  induction k generalizing n with
  | zero => simp [le, unle]; simp at h; omega
  | succ k ih =>
    rw [Nat.pow_succ] at h
    simp only [le, unle]
    rw [ih (n / 256) (Nat.div_lt_of_lt_mul (by omega))]
    simp; omega
theorem unle_lt (l : List UInt8) : unle l < 256 ^ l.length := by
  induction l with
  | nil => simp [unle]
  | cons b l ih =>
    simp only [unle, List.length_cons, Nat.pow_succ]
    have := b.toNat_lt
    omega
theorem unle_snoc (l : List UInt8) (b : UInt8) : unle (l ++ [b]) = unle l + b.toNat * 256 ^ l.length := by
  induction l with
  | nil => simp [unle]
  | cons c l ih =>
    simp only [List.cons_append, unle, ih, List.length_cons, Nat.pow_succ]
    rw [Nat.mul_add, ← Nat.add_assoc, Nat.mul_comm (256 ^ l.length) 256, ← Nat.mul_assoc, ← Nat.mul_assoc, Nat.mul_comm 256 b.toNat]

/-- A value's bytes in a row. -/
def cb (v : V) : List UInt8 :=
  if v.k = 1 then le (toU v.i) 8 else if v.k = 2 then UInt8.ofNat v.s.size :: v.s.data.toList else if v.k = 3 then [if v.b then 1 else 0] else []
def cbs (l : List V) : List UInt8 := l.flatMap cb
theorem cbs_cons (v : V) (l : List V) : cbs (v :: l) = cb v ++ cbs l := rfl
theorem cbs_snoc (l : List V) (v : V) : cbs (l ++ [v]) = cbs l ++ cb v := by simp [cbs]
/-- Which values are Null, a bit each. -/
def nulls : List V → Nat
  | [] => 0
  | v :: l => (if v.k = 0 then 1 else 0) + 2 * nulls l
theorem nulls_lt (l : List V) : nulls l < 2 ^ l.length := by
  induction l with
  | nil => simp [nulls]
  | cons v l ih => simp only [nulls, List.length_cons, Nat.pow_succ]; split <;> omega
theorem nulls_snoc (l : List V) (v : V) : nulls (l ++ [v]) = nulls l + (if v.k = 0 then 2 ^ l.length else 0) := by
  induction l with
  | nil => simp [nulls]
  | cons u l ih =>
    simp only [List.cons_append, nulls, ih, List.length_cons, Nat.pow_succ]
    by_cases h : v.k = 0 <;> simp [h] <;> omega
def kindsOk (ks : List UInt8) : Bool := decide (0 < ks.length) && decide (ks.length ≤ 8) && ks.all fun k => decide (1 ≤ k.toNat) && decide (k.toNat ≤ 3)
def fitK (k : UInt8) (v : V) : Bool := decide (v.k = 0) || decide (v.k = (k.toNat : Int))
def fitsK : List UInt8 → List V → Bool
  | [], [] => true
  | k :: ks, v :: l => fitK k v && fitsK ks l
  | _, _ => false
def rfits (ks : List UInt8) (l : List V) : Int :=
  if kindsOk ks = false ∨ ks.length ≠ l.length then 1
  else if l.all V.right = false then 3
  else if fitsK ks l = false then 8
  else if 200 < 1 + (cbs l).length then 2
  else 0
def rowB (l : List V) : List UInt8 := UInt8.ofNat (nulls l) :: cbs l
theorem rfits_zero {ks : List UInt8} {l : List V} (h : rfits ks l = 0) : kindsOk ks = true ∧ ks.length = l.length ∧ l.all V.right = true ∧ fitsK ks l = true ∧ 1 + (cbs l).length ≤ 200 := by
  unfold rfits at h
  split at h
  · cases h
  · rename_i h1
    split at h
    · cases h
    · rename_i h2
      split at h
      · cases h
      · rename_i h3
        split at h
        · cases h
        · rename_i h4
          refine ⟨?_, ?_, by simpa using h2, by simpa using h3, by omega⟩
          · cases hk : kindsOk ks
            · exact absurd (.inl hk) h1
            · rfl
          · by_cases hl : ks.length = l.length
            · exact hl
            · exact absurd (.inr hl) h1
theorem fitsK_len {ks : List UInt8} {l : List V} (h : ks.length ≠ l.length) : fitsK ks l = false := by
  induction ks generalizing l with
  | nil => cases l with
    | nil => exact absurd rfl h
    | cons => rfl
  | cons k ks ih => cases l with
    | nil => rfl
    | cons v l => simp only [fitsK]; rw [ih (by simpa using h), Bool.and_false]
theorem fitsK_drop {ks : List UInt8} {l : List V} {i : Nat} (ha : i < ks.length) (hb : i < l.length) : fitsK (ks.drop i) (l.drop i) = (fitK ks[i] l[i] && fitsK (ks.drop (i + 1)) (l.drop (i + 1))) := by
  rw [List.drop_eq_getElem_cons ha, List.drop_eq_getElem_cons hb]; rfl
theorem cb_le {v : V} (h : v.right = true) : (cb v).length ≤ 61 := by
  unfold cb
  split
  · rw [le_length]; omega
  · split
    · rename_i h2
      have := right_text h h2
      simp; omega
    · split <;> simp
theorem cbs_le {l : List V} (h : l.all V.right = true) : (cbs l).length ≤ 61 * l.length := by
  induction l with
  | nil => simp [cbs]
  | cons v l ih =>
    simp only [List.all_cons, Bool.and_eq_true] at h
    rw [cbs_cons, List.length_append, List.length_cons]
    have := cb_le h.1
    have := ih h.2
    omega

def rtake (k : UInt8) (p : List UInt8) : Option (V × List UInt8) :=
  if k = 1 then (if p.length < 8 then none else some (vInt (ofU (unle (p.take 8))), p.drop 8))
  else if k = 2 then (match p with
    | [] => none
    | x :: r => if x.toNat ≤ r.length ∧ textOk (r.take x.toNat) = true ∧ x.toNat ≤ 60 then some (vText (r.take x.toNat), r.drop x.toNat) else none)
  else (match p with
    | [] => none
    | x :: r => if x.toNat ≤ 1 then some (vBool (x == 1), r) else none)
/-- The values in front, of these kinds, and what is behind. -/
def rtakes : List UInt8 → Nat → List UInt8 → Option (List V × List UInt8)
  | [], _, p => some ([], p)
  | k :: ks, n, p =>
    if n % 2 = 1 then (rtakes ks (n / 2) p).map fun x => (vNull :: x.1, x.2)
    else match rtake k p with
      | none => none
      | some (v, r) => (rtakes ks (n / 2) r).map fun x => (v :: x.1, x.2)
def rread (ks : List UInt8) (p : List UInt8) : Option (List V) :=
  match p with
  | [] => none
  | x :: r => if 200 < r.length + 1 ∨ x.toNat / 2 ^ ks.length ≠ 0 then none else match rtakes ks x.toNat r with
    | some (l, []) => some l
    | _ => none

theorem rtake_more {k : UInt8} {p : List UInt8} {v : V} {r : List UInt8} (h : rtake k p = some (v, r)) (t : List UInt8) : rtake k (p ++ t) = some (v, r ++ t) := by
  unfold rtake at h ⊢
  split
  · rename_i hk
    rw [if_pos hk] at h
    split at h
    · cases h
    · rename_i hl
      simp only [Option.some.injEq, Prod.mk.injEq] at h
      rw [if_neg (by simp; omega), List.take_append_of_le_length (by omega), List.drop_append_of_le_length (by omega), h.1, h.2]
  · rename_i hk
    rw [if_neg hk] at h
    split
    · rename_i h2
      rw [if_pos h2] at h
      cases p with
      | nil => simp at h
      | cons x p =>
        simp only at h
        split at h
        · rename_i h3
          simp only [Option.some.injEq, Prod.mk.injEq] at h
          simp only [List.cons_append]
          rw [List.take_append_of_le_length h3.1, List.drop_append_of_le_length h3.1, if_pos ⟨by simp; omega, h3.2⟩, h.1, h.2]
        · cases h
    · rename_i h2
      rw [if_neg h2] at h
      cases p with
      | nil => simp at h
      | cons x p =>
        simp only at h
        split at h
        · rename_i h3
          simp only [Option.some.injEq, Prod.mk.injEq] at h
          simp only [List.cons_append]
          rw [if_pos h3, h.1, h.2]
        · cases h
theorem rtakes_more {ks : List UInt8} {n : Nat} {p : List UInt8} {l : List V} {r : List UInt8} (h : rtakes ks n p = some (l, r)) (t : List UInt8) : rtakes ks n (p ++ t) = some (l, r ++ t) := by
  induction ks generalizing n p l with
  | nil =>
    simp only [rtakes, Option.some.injEq, Prod.mk.injEq] at h ⊢
    exact ⟨h.1, by rw [h.2]⟩
  | cons k ks ih =>
    unfold rtakes at h ⊢
    split
    · rename_i hn
      rw [if_pos hn] at h
      cases hr : rtakes ks (n / 2) p with
      | none => rw [hr] at h; cases h
      | some x =>
        rw [hr] at h
        obtain ⟨m, q⟩ := x
        simp only [Option.map_some, Option.some.injEq, Prod.mk.injEq] at h
        obtain ⟨h1, rfl⟩ := h
        rw [ih hr]
        simp [h1]
    · rename_i hn
      rw [if_neg hn] at h
      cases hk : rtake k p with
      | none => rw [hk] at h; cases h
      | some y =>
        obtain ⟨v, q⟩ := y
        rw [hk] at h
        simp only at h
        rw [rtake_more hk]
        simp only
        cases hr : rtakes ks (n / 2) q with
        | none => rw [hr] at h; cases h
        | some x =>
          rw [hr] at h
          obtain ⟨m, q2⟩ := x
          simp only [Option.map_some, Option.some.injEq, Prod.mk.injEq] at h
          obtain ⟨h1, rfl⟩ := h
          rw [ih hr]
          simp [h1]
theorem rtake_cb {v : V} (h : v.right = true) (hk : v.ok) {k : UInt8} (he : v.k = (k.toNat : Int)) (h0 : v.k ≠ 0) (t : List UInt8) : rtake k (cb v ++ t) = some (v, t) := by
  obtain ⟨_, s1, s2, s3⟩ := right_shape h
  unfold rtake
  rcases right_kinds h with e | e | e | e
  · exact absurd e h0
  · have ek : k = 1 := UInt8.toNat_inj.1 (by rw [e] at he; show k.toNat = 1; omega)
    rw [if_pos ek]
    have hc : cb v = le (toU v.i) 8 := by simp [cb, e]
    have hl := le_length (toU v.i) 8
    rw [hc, if_neg (by simp; omega), List.take_append_of_le_length (by omega), List.take_of_length_le (by omega), List.drop_append_of_le_length (by omega), List.drop_of_length_le (by omega),
      unle_le _ _ (by simpa using toU_lt v.i), ofU_toU hk.2.1, ← s1 e]
    rfl
  · have ek : k = 2 := UInt8.toNat_inj.1 (by rw [e] at he; show k.toNat = 2; omega)
    rw [if_neg (by rw [ek]; decide), if_pos ek]
    obtain ⟨hv, ht, hs⟩ := s2 e
    have hc : cb v = UInt8.ofNat v.s.size :: v.s.data.toList := by simp [cb, e]
    have hn : (UInt8.ofNat v.s.size).toNat = v.s.data.toList.length := by simp; omega
    rw [hc]
    simp only [List.cons_append]
    rw [hn, List.take_append_of_le_length (Nat.le_refl _), List.take_of_length_le (Nat.le_refl _), List.drop_append_of_le_length (Nat.le_refl _), List.drop_of_length_le (Nat.le_refl _), if_pos ⟨by simp, ht, by simpa using hs⟩, ← hv]
    rfl
  · have ek : k = 3 := UInt8.toNat_inj.1 (by rw [e] at he; show k.toNat = 3; omega)
    rw [if_neg (by rw [ek]; decide), if_neg (by rw [ek]; decide)]
    have hc : cb v = [if v.b then 1 else 0] := by simp [cb, e]
    rw [hc, s3 e]
    cases v.b <;> rfl
theorem cb_null {v : V} (h : v.k = 0) : cb v = [] := by simp [cb, h]
theorem rtakes_cbs {ks : List UInt8} {l : List V} (hf : fitsK ks l = true) (h : l.all V.right = true) (hk : ∀ u ∈ l, u.ok) (t : List UInt8) : rtakes ks (nulls l) (cbs l ++ t) = some (l, t) := by
  induction ks generalizing l with
  | nil => cases l with
    | nil => rfl
    | cons => cases hf
  | cons k ks ih => cases l with
    | nil => cases hf
    | cons v l =>
      simp only [List.all_cons, Bool.and_eq_true] at h
      simp only [fitsK, Bool.and_eq_true] at hf
      have hi := ih hf.2 h.2 (fun u hu => hk u (by simp [hu]))
      have hd : nulls (v :: l) / 2 = nulls l := by simp only [nulls]; split <;> omega
      unfold rtakes
      rw [hd, cbs_cons, List.append_assoc]
      by_cases h0 : v.k = 0
      · rw [if_pos (by simp only [nulls, h0]; simp), cb_null h0, List.nil_append, hi, (right_shape h.1).1 h0]
        rfl
      · rw [if_neg (by simp only [nulls, h0]; simp)]
        have he : v.k = (k.toNat : Int) := by
          have := hf.1
          simp [fitK, h0] at this; exact this
        rw [rtake_cb h.1 (hk v (by simp)) he h0]
        simp [hi]
theorem nulls_byte {ks : List UInt8} {l : List V} (h1 : kindsOk ks = true) (h2 : ks.length = l.length) : (UInt8.ofNat (nulls l)).toNat = nulls l ∧ nulls l < 2 ^ ks.length := by
  have hl := nulls_lt l
  have h8 : ks.length ≤ 8 := by simp [kindsOk] at h1; exact h1.1.2
  have : 2 ^ l.length ≤ 2 ^ 8 := Nat.pow_le_pow_right (by omega) (by omega)
  refine ⟨?_, by rw [h2]; exact hl⟩
  simp; omega
theorem rtakes_rowB {ks : List UInt8} {l : List V} (h : rfits ks l = 0) (hk : ∀ u ∈ l, u.ok) (t : List UInt8) : rtakes ks (UInt8.ofNat (nulls l)).toNat (cbs l ++ t) = some (l, t) := by
  obtain ⟨h1, h2, h3, h4, h5⟩ := rfits_zero h
  rw [(nulls_byte h1 h2).1]
  exact rtakes_cbs h4 h3 hk t
theorem rread_rowB {ks : List UInt8} {l : List V} (h : rfits ks l = 0) (hk : ∀ u ∈ l, u.ok) : rread ks (rowB l) = some l := by
  obtain ⟨h1, h2, h3, h4, h5⟩ := rfits_zero h
  obtain ⟨g1, g2⟩ := nulls_byte h1 h2
  have := rtakes_rowB h hk []
  rw [List.append_nil] at this
  unfold rread rowB
  simp only
  rw [if_neg, this]
  rw [g1]
  have := Nat.div_eq_of_lt g2
  omega
theorem rread_more {ks : List UInt8} {l : List V} (h : rfits ks l = 0) (hk : ∀ u ∈ l, u.ok) {t : List UInt8} (ht : t ≠ []) : rread ks (rowB l ++ t) = none := by
  have := rtakes_rowB h hk t
  unfold rread rowB
  simp only [List.cons_append]
  rw [this]
  split
  · rfl
  · cases t with
    | nil => exact absurd rfl ht
    | cons => rfl
theorem rread_cut {ks : List UInt8} {l : List V} (h : rfits ks l = 0) (hk : ∀ u ∈ l, u.ok) {j : Nat} (hj : j < (rowB l).length) : rread ks ((rowB l).take j) = none := by
  cases j with
  | zero => rfl
  | succ j =>
    simp only [rowB, List.length_cons] at hj
    unfold rread rowB
    simp only [List.take_succ_cons]
    split
    · rfl
    · cases hr : rtakes ks (UInt8.ofNat (nulls l)).toNat ((cbs l).take j) with
      | none => rfl
      | some x =>
        obtain ⟨m, r⟩ := x
        have h1 := rtakes_more hr ((cbs l).drop j)
        rw [List.take_append_drop] at h1
        have h2 := rtakes_rowB h hk []
        rw [List.append_nil, h1] at h2
        simp only [Option.some.injEq, Prod.mk.injEq, List.append_eq_nil_iff] at h2
        have h3 := h2.2.2
        have : (cbs l).length ≤ j := by simpa using h3
        omega
theorem same_eq {u v : V} (hu : u.right = true) (hv : v.right = true) (hk : u.k = v.k) (h : vsame u v = true) : u = v := by
  obtain ⟨u0, u1, u2, u3⟩ := right_shape hu
  obtain ⟨v0, v1, v2, v3⟩ := right_shape hv
  simp only [vsame, Bool.and_eq_true, Bool.not_eq_true'] at h
  obtain ⟨h1, h2⟩ := h
  unfold vless at h1 h2
  rcases right_kinds hu with e | e | e | e
  · rw [u0 e, v0 (by rw [← hk]; exact e)]
  · have f : v.k = 1 := by rw [← hk]; exact e
    have hp : place u = place v := by simp [place, e, f]
    rw [if_neg (by simp [hp])] at h1 h2
    simp [e, f] at h1 h2
    rw [u1 e, v1 f, show u.i = v.i by omega]
  · have f : v.k = 2 := by rw [← hk]; exact e
    have hp : place u = place v := by simp [place, e, f]
    rw [if_neg (by simp [hp])] at h1 h2
    simp [e, f] at h1 h2
    have := less_total u.s.data.toList v.s.data.toList
    rw [h1, h2] at this
    have he : u.s.data.toList = v.s.data.toList := by simpa using this
    rw [(u2 e).1, (v2 f).1, he]
  · have f : v.k = 3 := by rw [← hk]; exact e
    have hp : place u = place v := by
      by_cases hp : place u = place v
      · exact hp
      · exfalso
        rw [if_pos hp] at h1
        rw [if_pos (fun x => hp x.symm)] at h2
        simp at h1 h2; omega
    rw [u3 e, v3 f]
    simp only [place, e, f] at hp
    cases hb : u.b <;> cases hc : v.b <;> simp [hb, hc] at hp ⊢
theorem sameRow_eq {a b : List V} (ha : a.all V.right = true) (hb : b.all V.right = true) : sameRow a b = true ↔ a = b := by
  constructor
  · intro h
    induction a generalizing b with
    | nil => cases b with
      | nil => rfl
      | cons => cases h
    | cons u a ih => cases b with
      | nil => cases h
      | cons v b =>
        simp only [List.all_cons, Bool.and_eq_true] at ha hb
        simp only [sameRow, Bool.and_eq_true, decide_eq_true_eq] at h
        rw [same_eq ha.1 hb.1 h.1.1 h.1.2, ih ha.2 hb.2 h.2]
  · rintro rfl; exact sameRow_self a
theorem rowB_one {ks : List UInt8} {a b : List V} (ha : rfits ks a = 0) (hb : rfits ks b = 0) (ka : ∀ u ∈ a, u.ok) (kb' : ∀ u ∈ b, u.ok) : (rowB a == rowB b) = sameRow a b := by
  rw [Bool.eq_iff_iff, sameRow_eq (rfits_zero ha).2.2.1 (rfits_zero hb).2.2.1]
  simp only [beq_iff_eq]
  constructor
  · intro h
    have h1 := rread_rowB ha ka
    rw [h, rread_rowB hb kb'] at h1
    exact (Option.some.inj h1).symm
  · rintro rfl; rfl
end Go.Proofs.YthdnphnipfpdkaaDoor.Lp
