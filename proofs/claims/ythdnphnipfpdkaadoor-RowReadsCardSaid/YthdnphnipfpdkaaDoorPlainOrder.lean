/-
  The bytes stand as the values do, plain. No program in sight. No conditions.
-/
import Derived.Test.YthdnphnipfpdkaaDoorPlainKey
import Derived.Test.YthdnphnipfpdkaaDoorPlainBehind
namespace Go.Proofs.YthdnphnipfpdkaaDoor.Lp
open Go.RowKit

/-- Which kinds stand ahead, and false ahead of true. -/
def place (v : V) : Int := if v.k = 3 then (if v.b then 2 else 1) else if v.k = 1 then 3 else if v.k = 2 then 4 else 0
def vless (u v : V) : Bool :=
  if place u ≠ place v then decide (place u < place v)
  else (decide (u.k = 1) && decide (u.i < v.i)) || (decide (u.k = 2) && Op.bytesLess u.s.data.toList v.s.data.toList)
def vsame (u v : V) : Bool := !vless u v && !vless v u

theorem less_irrefl (l : List UInt8) : Op.bytesLess l l = false := by
  induction l with
  | nil => rfl
  | cons x l ih => rw [less_cons, ih]; simp [UInt8.lt_irrefl]
theorem ofNat_eq {a b : Nat} (h : a % 256 = b % 256) : UInt8.ofNat a = UInt8.ofNat b := by
  apply UInt8.toNat_inj.1; simp [h]
theorem be_mod (m : Nat) : ∀ k, be (m % 256 ^ k) k = be m k := by
  intro k
  induction k generalizing m with
  | zero => rfl
  | succ k ih =>
    rw [be_succ, be_succ]
    congr 1
    · apply ofNat_eq
      rw [Nat.pow_succ, Nat.mod_mul_right_div_self, Nat.mod_mod]
    · rw [← ih (m % 256 ^ (k + 1)), ← ih m, Nat.mod_mod_of_dvd _ (Nat.pow_dvd_pow _ (Nat.le_succ _))]
theorem split_lt {P q q' r r' : Nat} (hr : r < P) (hr' : r' < P) : P * q + r < P * q' + r' ↔ (q < q' ∨ (q = q' ∧ r < r')) := by
  rcases Nat.lt_trichotomy q q' with h | h | h
  · have h2 : P * q + P ≤ P * q' := by rw [← Nat.mul_succ]; exact Nat.mul_le_mul_left _ h
    constructor
    · intro _; exact .inl h
    · intro _; omega
  · subst h; constructor
    · intro h2; exact .inr ⟨rfl, by omega⟩
    · intro h2; rcases h2 with h2 | h2 <;> omega
  · have h2 : P * q' + P ≤ P * q := by rw [← Nat.mul_succ]; exact Nat.mul_le_mul_left _ h
    constructor
    · intro _; omega
    · intro h3; omega
theorem split_eq {P q q' r r' : Nat} (hr : r < P) (hr' : r' < P) : P * q + r = P * q' + r' ↔ (q = q' ∧ r = r') := by
  have h1 := split_lt (q := q) (q' := q') hr hr'
  have h2 := split_lt (q := q') (q' := q) hr' hr
  constructor
  · intro h
    have a : ¬ (q < q' ∨ (q = q' ∧ r < r')) := fun x => by have := h1.2 x; omega
    have b : ¬ (q' < q ∨ (q' = q ∧ r' < r)) := fun x => by have := h2.2 x; omega
    omega
  · rintro ⟨rfl, rfl⟩; rfl
/-- Of two texts one is less, or they are the same. -/
theorem less_total (s t : List UInt8) : (s == t) = (!Op.bytesLess s t && !Op.bytesLess t s) := by
  induction s generalizing t with
  | nil => cases t with
    | nil => rfl
    | cons b t => rw [less_nil_l]; rfl
  | cons a s ih =>
    cases t with
    | nil => rw [less_nil_l, Bool.not_true, Bool.and_false]; rfl
    | cons b t =>
      rw [less_cons, less_cons]
      by_cases h1 : a < b
      · have h2 : (a == b) = false := by rw [beq_eq_false_iff_ne]; rintro rfl; exact UInt8.lt_irrefl _ h1
        simp [h1, h2]
      · by_cases h2 : b < a
        · have h3 : (a == b) = false := by rw [beq_eq_false_iff_ne]; rintro rfl; exact UInt8.lt_irrefl _ h2
          simp [h2, h3]
        · have h3 : a = b := UInt8.le_antisymm (UInt8.not_lt.1 h2) (UInt8.not_lt.1 h1)
          subst h3
          have := ih t
          simp [UInt8.lt_irrefl, this]
theorem less_asymm {s t : List UInt8} (h : Op.bytesLess s t = true) : Op.bytesLess t s = false := by
  induction s generalizing t with
  | nil => cases t with
    | nil => cases h
    | cons b t => exact less_nil_r _
  | cons a s ih =>
    cases t with
    | nil => rw [less_nil_r] at h; cases h
    | cons b t =>
      rw [less_cons] at h ⊢
      by_cases h1 : a < b
      · have h2 : ¬ b < a := UInt8.lt_asymm h1
        have h3 : (b == a) = false := by rw [beq_eq_false_iff_ne]; rintro rfl; exact UInt8.lt_irrefl _ h1
        simp [h2, h3]
      · simp only [h1, decide_false, Bool.false_or, Bool.and_eq_true, beq_iff_eq] at h
        obtain ⟨rfl, h2⟩ := h
        simp [UInt8.lt_irrefl, ih h2]
/-- Numbers' bytes stand as the numbers do. -/
theorem be_less (k : Nat) : ∀ (m n : Nat) (x y : List UInt8), m < 256 ^ k → n < 256 ^ k → Op.bytesLess (be m k ++ x) (be n k ++ y) = (decide (m < n) || (decide (m = n) && Op.bytesLess x y)) := by
  induction k with
  | zero =>
    intro m n x y hm hn
    have h1 : m = 0 := by simpa using hm
    have h2 : n = 0 := by simpa using hn
    subst h1 h2; simp [be]
  | succ k ih =>
    intro m n x y hm hn
    have hp : 0 < 256 ^ k := Nat.pow_pos (by omega)
    have hm1 : m / 256 ^ k < 256 := by rw [Nat.div_lt_iff_lt_mul hp, Nat.mul_comm, ← Nat.pow_succ]; exact hm
    have hn1 : n / 256 ^ k < 256 := by rw [Nat.div_lt_iff_lt_mul hp, Nat.mul_comm, ← Nat.pow_succ]; exact hn
    have hrm := Nat.mod_lt m hp
    have hrn := Nat.mod_lt n hp
    rw [be_succ, be_succ, List.cons_append, List.cons_append, less_cons, ← be_mod m k, ← be_mod n k, ih _ _ x y hrm hrn]
    have em := Nat.div_add_mod m (256 ^ k)
    have en := Nat.div_add_mod n (256 ^ k)
    have e1 : (UInt8.ofNat (m / 256 ^ k) < UInt8.ofNat (n / 256 ^ k)) ↔ m / 256 ^ k < n / 256 ^ k := by
      rw [UInt8.lt_iff_toNat_lt]; simp; rw [Nat.mod_eq_of_lt hm1, Nat.mod_eq_of_lt hn1]
    have e2 : (UInt8.ofNat (m / 256 ^ k) == UInt8.ofNat (n / 256 ^ k)) = decide (m / 256 ^ k = n / 256 ^ k) := by
      rw [Bool.eq_iff_iff, beq_iff_eq, decide_eq_true_iff, ← UInt8.toNat_inj]; simp; rw [Nat.mod_eq_of_lt hm1, Nat.mod_eq_of_lt hn1]
    have l1 := split_lt (q := m / 256 ^ k) (q' := n / 256 ^ k) hrm hrn
    have l2 := split_eq (q := m / 256 ^ k) (q' := n / 256 ^ k) hrm hrn
    rw [em, en] at l1 l2
    rw [e2, Bool.eq_iff_iff]
    simp only [Bool.or_eq_true, Bool.and_eq_true, decide_eq_true_iff, e1, l1, l2]
    constructor
    · rintro (h | ⟨h, h2 | ⟨h2, h3⟩⟩)
      · exact .inl (.inl h)
      · exact .inl (.inr ⟨h, h2⟩)
      · exact .inr ⟨⟨h, h2⟩, h3⟩
    · rintro ((h | ⟨h, h2⟩) | ⟨⟨h, h2⟩, h3⟩)
      · exact .inl h
      · exact .inr ⟨h, .inl h2⟩
      · exact .inr ⟨h, .inr ⟨h2, h3⟩⟩
theorem up_less {i j : Int} (hi : inR i) (hj : inR j) : (up i < up j ↔ i < j) ∧ (up i = up j ↔ i = j) := by
  unfold up; unfold inR at hi hj; omega
/-- Texts' bytes, ended by a nought that none of them holds, stand as the texts do. -/
theorem text_less (s t x y : List UInt8) (hs : s.contains 0 = false) (ht : t.contains 0 = false) :
    Op.bytesLess (s ++ (0 :: x)) (t ++ (0 :: y)) = (Op.bytesLess s t || ((s == t) && Op.bytesLess x y)) := by
  induction s generalizing t with
  | nil =>
    cases t with
    | nil => simp only [List.nil_append]; rw [less_cons]; simp [less_irrefl, UInt8.lt_irrefl]
    | cons b t =>
      have hb : b ≠ 0 := by intro h; subst h; simp at ht
      have : (0 : UInt8) < b := by
        rw [UInt8.lt_iff_toNat_lt]
        have : b.toNat ≠ 0 := fun h => hb (UInt8.toNat_inj.1 h)
        show 0 < b.toNat; omega
      simp only [List.nil_append, List.cons_append]
      rw [less_cons, less_nil_l]; simp [this]
  | cons a s ih =>
    have ha : a ≠ 0 := by intro h; subst h; simp at hs
    have hs2 : s.contains 0 = false := by simp at hs ⊢; exact hs.2
    cases t with
    | nil =>
      have h1 : ¬ a < 0 := by rw [UInt8.lt_iff_toNat_lt]; show ¬ a.toNat < 0; omega
      have h2 : (a == 0) = false := beq_eq_false_iff_ne.2 ha
      simp only [List.nil_append, List.cons_append]
      rw [less_cons, less_nil_r]; simp [h1, h2]
    | cons b t =>
      have ht2 : t.contains 0 = false := by simp at ht ⊢; exact ht.2
      simp only [List.cons_append]
      rw [less_cons, less_cons, ih t hs2 ht2]
      by_cases h1 : a < b
      · simp [h1]
      · by_cases h2 : a = b
        · subst h2; simp [UInt8.lt_irrefl]
        · have h3 : (a == b) = false := beq_eq_false_iff_ne.2 h2
          simp [h1, h3]
theorem right_zero {v : V} (h : v.right = true) (hk : v.k = 2) : v.s.data.toList.contains 0 = false := by
  unfold V.right rightB at h; rw [hk] at h
  simp [textOk] at h
  simpa using h.2.2
/-- A value's bytes stand as the value does; where two are the same, what is behind decides. -/
theorem kb_less {u v : V} (hu : u.right = true) (hv : v.right = true) (ku : u.ok) (kv : v.ok) (x y : List UInt8) :
    Op.bytesLess (kb u ++ x) (kb v ++ y) = (vless u v || (vsame u v && Op.bytesLess x y)) := by
  have ui := up_less ku.2.1 kv.2.1
  have vi := up_less kv.2.1 ku.2.1
  have l1 := up_lt ku.2.1
  have l2 := up_lt kv.2.1
  have zu := right_zero hu
  have zv := right_zero hv
  have ru := right_kinds hu
  have rv := right_kinds hv
  clear hu hv ku kv
  obtain ⟨k, i, s, b⟩ := u
  obtain ⟨k', i', s', b'⟩ := v
  simp only at ru rv ui vi l1 l2 zu zv
  rcases ru with rfl | rfl | rfl | rfl <;> rcases rv with rfl | rfl | rfl | rfl
  · simp [kb, less_cons, vless, vsame, place, UInt8.lt_irrefl]
  · simp [kb, less_cons, vless, vsame, place]
  · simp [kb, less_cons, vless, vsame, place]
  · simp [kb, less_cons, vless, vsame, place]; cases b' <;> simp
  · simp [kb, less_cons, vless, vsame, place]
  · have e : Op.bytesLess (kb ⟨1, i, s, b⟩ ++ x) (kb ⟨1, i', s', b'⟩ ++ y) = (decide (up i < up i') || (decide (up i = up i') && Op.bytesLess x y)) := by
      show Op.bytesLess (3 :: (be (up i) 8 ++ x)) (3 :: (be (up i') 8 ++ y)) = _
      rw [less_cons, be_less 8 _ _ _ _ (by omega) (by omega)]; simp [UInt8.lt_irrefl]
    rw [e]
    simp only [vless, vsame, place]
    by_cases h1 : i < i'
    · simp [ui.1, h1]
    · by_cases h2 : i = i'
      · subst h2; simp
      · have h3 : i' < i := by omega
        simp [ui.1, ui.2, h1, h2, h3]
  · simp [kb, less_cons, vless, vsame, place]
  · simp [kb, less_cons, vless, vsame, place]; cases b' <;> simp
  · simp [kb, less_cons, vless, vsame, place]
  · simp [kb, less_cons, vless, vsame, place]
  · have e : Op.bytesLess (kb ⟨2, i, s, b⟩ ++ x) (kb ⟨2, i', s', b'⟩ ++ y) = (Op.bytesLess s.data.toList s'.data.toList || ((s.data.toList == s'.data.toList) && Op.bytesLess x y)) := by
      show Op.bytesLess (4 :: ((s.data.toList ++ [0]) ++ x)) (4 :: ((s'.data.toList ++ [0]) ++ y)) = _
      rw [less_cons, List.append_assoc, List.append_assoc]
      show (decide ((4 : UInt8) < 4) || (4 == 4 && Op.bytesLess (s.data.toList ++ (0 :: x)) (s'.data.toList ++ (0 :: y)))) = _
      rw [text_less _ _ _ _ (zu rfl) (zv rfl)]; simp [UInt8.lt_irrefl]
    rw [e]
    have et := less_total s.data.toList s'.data.toList
    simp only [vless, vsame, place]
    cases h1 : Op.bytesLess s.data.toList s'.data.toList <;> cases h2 : Op.bytesLess s'.data.toList s.data.toList <;> simp_all
  · simp [kb, less_cons, vless, vsame, place]; cases b' <;> simp
  · simp [kb, less_cons, vless, vsame, place]; cases b <;> simp
  · simp [kb, less_cons, vless, vsame, place]; cases b <;> simp
  · simp [kb, less_cons, vless, vsame, place]; cases b <;> simp
  · cases b <;> cases b' <;> simp [kb, less_cons, vless, vsame, place, UInt8.lt_irrefl]

/-- The order is one-sided. -/
theorem vless_not {u v : V} (h : vless u v = true) : vless v u = false := by
  unfold vless at *
  by_cases hp : place u = place v
  · simp only [hp, ne_eq, not_true_eq_false, if_false] at h ⊢
    rw [Bool.or_eq_true, Bool.and_eq_true, Bool.and_eq_true] at h
    rcases h with ⟨h1, h2⟩ | ⟨h1, h2⟩
    · have k1 : u.k = 1 := by simpa using h1
      have i1 : u.i < v.i := by simpa using h2
      have k2 : v.k ≠ 2 := by
        intro e; simp [place, k1, e] at hp
      simp [k2]; intro _; omega
    · have k1 : u.k = 2 := by simpa using h1
      have k2 : v.k ≠ 1 := by
        intro e; simp [place, k1, e] at hp
      have et := less_total v.s.data.toList u.s.data.toList
      rw [h2] at et
      have hne : v.s.data.toList ≠ u.s.data.toList := by
        intro e; rw [e, less_irrefl] at h2; cases h2
      have l2 : Op.bytesLess v.s.data.toList u.s.data.toList = false := by
        cases h3 : Op.bytesLess v.s.data.toList u.s.data.toList
        · rfl
        · exact absurd (less_asymm h2) (by rw [h3]; simp)
      simp [k2, l2]
  · have hq : ¬ place v = place u := fun e => hp e.symm
    simp only [hp, hq, ne_eq, not_false_eq_true, if_true] at h ⊢
    simp only [decide_eq_true_iff, decide_eq_false_iff_not] at h ⊢; omega
theorem same_kb {u v : V} (hu : u.right = true) (hv : v.right = true) (ku : u.ok) (kv : v.ok) (h : vsame u v = true) : kb u = kb v := by
  have h1 := kb_less hu hv ku kv [] []
  have h2 := kb_less hv hu kv ku [] []
  have h3 : vsame v u = true := by unfold vsame at *; rw [Bool.and_comm]; exact h
  unfold vsame at h h3
  rw [Bool.and_eq_true, Bool.not_eq_true', Bool.not_eq_true'] at h h3
  simp only [List.append_nil, h.1, h3.1, less_irrefl, Bool.and_false, Bool.or_false] at h1 h2
  have := less_total (kb u) (kb v)
  rw [h1, h2] at this
  simpa using this
/-- Of two rows those bytes are less whose value is, at the first place where they are not the same. -/
theorem kbs_less {a b : List V} {i : Nat} (ha : i < a.length) (hb : i < b.length) (ra : a.all V.right = true) (rb : b.all V.right = true) (ka : ∀ u ∈ a, u.ok) (kb' : ∀ u ∈ b, u.ok)
    (hp : kbs (a.take i) = kbs (b.take i)) (hs : vsame a[i] b[i] = false) : Op.bytesLess (kbs a) (kbs b) = vless a[i] b[i] := by
  have ea : kbs a = kbs (a.take i) ++ (kb a[i] ++ kbs (a.drop (i + 1))) := by
    conv => lhs; rw [← List.take_append_drop i a, kbs_append, List.drop_eq_getElem_cons ha]
    rfl
  have eb : kbs b = kbs (b.take i) ++ (kb b[i] ++ kbs (b.drop (i + 1))) := by
    conv => lhs; rw [← List.take_append_drop i b, kbs_append, List.drop_eq_getElem_cons hb]
    rfl
  have h1 := List.all_eq_true.1 ra a[i] (List.getElem_mem ha)
  have h2 := List.all_eq_true.1 rb b[i] (List.getElem_mem hb)
  rw [ea, eb, hp, less_prefix, kb_less h1 h2 (ka _ (List.getElem_mem ha)) (kb' _ (List.getElem_mem hb)), hs]
  simp
theorem kbs_next {a b : List V} {i : Nat} (ha : i < a.length) (hb : i < b.length) (ra : a.all V.right = true) (rb : b.all V.right = true) (ka : ∀ u ∈ a, u.ok) (kb' : ∀ u ∈ b, u.ok)
    (hp : kbs (a.take i) = kbs (b.take i)) (hs : vsame a[i] b[i] = true) : kbs (a.take (i + 1)) = kbs (b.take (i + 1)) := by
  have h1 := List.all_eq_true.1 ra a[i] (List.getElem_mem ha)
  have h2 := List.all_eq_true.1 rb b[i] (List.getElem_mem hb)
  rw [List.take_succ_eq_append_getElem ha, List.take_succ_eq_append_getElem hb, kbs_snoc, kbs_snoc, hp, same_kb h1 h2 (ka _ (List.getElem_mem ha)) (kb' _ (List.getElem_mem hb)) hs]
theorem vsame_comm (u v : V) : vsame u v = vsame v u := by unfold vsame; rw [Bool.and_comm]
theorem vless_turn {u v : V} (h : vsame u v = false) : vless v u = !vless u v := by
  cases h1 : vless u v
  · cases h2 : vless v u
    · unfold vsame at h; rw [h1, h2] at h; cases h
    · rfl
  · rw [vless_not h1]; rfl
end Go.Proofs.YthdnphnipfpdkaaDoor.Lp
