/-
 Contracts and laws, joined: PlainSort, PlainApart, PlainSame. Conditions: those of each.
-/
import Derived.Test.YtkfjmgmjbljnbaaGreatDoorBGT
import Derived.Test.YtkfjmgmjbljnbaaGreatDoorBGB
namespace Go.Proofs.YtkfjmgmjbljnbaaGreatDoor.Lp
open Go.RowKit
end Go.Proofs.YtkfjmgmjbljnbaaGreatDoor.Lp
namespace Go.Proofs.YtkfjmgmjbljnbaaGreatDoor.Lp
open Go.RowKit
theorem dec_inj {a b : Nat} (h : Lib.decDigits a = Lib.decDigits b) : a = b := by
 have h1 := dvf_decDigits a
 have h2 := dvf_decDigits b
 rw [h, h2] at h1
 omega
theorem dec_head (u : Nat) : ∃ c l, Lib.decDigits u = c :: l ∧ isDig c = true := by
 obtain ⟨h1, h2⟩ := decDigits_all u
 cases h : Lib.decDigits u with
 | nil => exact absurd h h2
 | cons c l =>
   rw [h, List.all_cons, Bool.and_eq_true] at h1
   exact ⟨c, l, rfl, h1.1⟩
theorem itoa_head (n : Int) : ∃ c l, Lib.itoa n = c :: l ∧ (c = 45 ∨ isDig c = true) := by
 unfold Lib.itoa
 by_cases h : n < 0
 ·rw [if_pos h]; exact ⟨45, _, rfl, .inl rfl⟩
 ·rw [if_neg h]
  obtain ⟨c, l, h1, h2⟩ := dec_head n.toNat
  exact ⟨c, l, h1, .inr h2⟩
def litKind (c : UInt8) : Int := if c = 39 then 2 else if c = 84 ∨ c = 70 then 3 else if c = 78 then 0 else 1
theorem lit_kind {v : V} (h : v.k = 0 ∨ v.k = 1 ∨ v.k = 2 ∨ v.k = 3) : ∃ c l, lit v = c :: l ∧ litKind c = v.k := by
 rcases h with h | h | h | h
 ·exact ⟨78, [85, 76, 76], by simp [lit, h], by rw [h]; rfl⟩
 ·obtain ⟨c, l, h1, h2⟩ := itoa_head v.i
  refine ⟨c, l, by simp [lit, h, h1], ?_⟩
  rw [h]
  have hne : c ≠ 39 ∧ ¬ (c = 84 ∨ c = 70) ∧ c ≠ 78 := by
   rcases h2 with rfl | h2
   ·decide
   ·refine ⟨?_, ?_, ?_⟩
    ·rintro rfl; cases h2
    ·rintro (rfl | rfl) <;> cases h2
    ·rintro rfl; cases h2
  unfold litKind
  rw [if_neg hne.1, if_neg hne.2.1, if_neg hne.2.2]
 ·exact ⟨39, quo v.s.data.toList ++ [39], by simp [lit, h, litT], by rw [h]; rfl⟩
 ·cases hb : v.b
  ·exact ⟨70, [65, 76, 83, 69], by simp [lit, h, hb], by rw [h]; rfl⟩
  ·exact ⟨84, [82, 85, 69], by simp [lit, h, hb], by rw [h]; rfl⟩
end Go.Proofs.YtkfjmgmjbljnbaaGreatDoor.Lp
namespace Go.Proofs.YtkfjmgmjbljnbaaGreatDoor.Lp
open Go.RowKit
def sameX (sc : List Tb) : X → X → Bool
 | .lit k i s b, .lit k' i' s' b' => k == k' && i == i' && s == s' && b == b'
 | .col t s, .col t' s' => findX sc t s == findX sc t' s'
 | .un op x, .un op' x' => op == op' && sameX sc x x'
 | .bin op a b, .bin op' a' b' => op == op' && (sameX sc a a' && sameX sc b b')
 | .isn n x, .isn n' x' => n == n' && sameX sc x x'
 | .agg op x, .agg op' x' => op == op' && sameX sc x x'
 | .cnt, .cnt => true
 | _, _ => false
def flatK (sc : List Tb) : List Int := sc.flatMap fun tb => tb.cs.map (·.k)
theorem hitsC_at (s : List UInt8) : ∀ (l : List Col) (a0 a : Nat) (k : Int), (a, k) ∈ hitsC s a0 l → a0 ≤ a ∧ (l.map (·.k))[a - a0]? = some k ∧ a - a0 < l.length
 | [], _, _, _, h => by simp [hitsC] at h
 | c :: r, a0, a, k, h => by
   unfold hitsC at h
   rcases List.mem_append.1 h with h | h
   ·split at h
    ·simp only [List.mem_singleton, Prod.mk.injEq] at h
     obtain ⟨rfl, rfl⟩ := h
     simp
    ·simp at h
   ·obtain ⟨h1, h2, h3⟩ := hitsC_at s r (a0 + 1) a k h
    refine ⟨by omega, ?_, by simp; omega⟩
    rw [show a - a0 = (a - (a0 + 1)) + 1 by omega]
    simpa using h2
theorem hits_at (t s : List UInt8) : ∀ (l : List Tb) (a0 a : Nat) (k : Int), (a, k) ∈ hits t s a0 l → a0 ≤ a ∧ (flatK l)[a - a0]? = some k
 | [], _, _, _, h => by simp [hits] at h
 | c :: r, a0, a, k, h => by
   unfold hits at h
   have e : flatK (c :: r) = c.cs.map (·.k) ++ flatK r := by simp [flatK]
   rw [e]
   rcases List.mem_append.1 h with h | h
   ·split at h
    ·obtain ⟨h1, h2, h3⟩ := hitsC_at s c.cs a0 a k h
     exact ⟨h1, by rw [List.getElem?_append_left (by simpa using h3)]; exact h2⟩
    ·simp at h
   ·obtain ⟨h1, h2⟩ := hits_at t s r (a0 + c.cs.length) a k h
    refine ⟨by omega, ?_⟩
    rw [List.getElem?_append_right (by simp; omega)]
    rw [← h2]
    congr 1
    simp
    omega
theorem findX_at {sc : List Tb} {t s : List UInt8} {p : Nat × Int} (h : findX sc t s = some p) : (flatK sc)[p.1]? = some p.2 := by
 unfold findX at h
 split at h
 ·have := hits_at t s sc 0 p.1 p.2 (List.mem_of_getLast? h)
  simpa using this.2
 ·cases h
theorem findX_one {sc : List Tb} {t s t' s' : List UInt8} {p q : Nat × Int} (h : findX sc t s = some p) (h' : findX sc t' s' = some q) (he : p.1 = q.1) : p = q := by
 have h1 := findX_at h
 have h2 := findX_at h'
 rw [he, h2] at h1
 injection h1 with h1
 exact Prod.ext he h1.symm
def Stp (r : List UInt8) : Prop := ∀ c l, r = c :: l → c = 32 ∨ c = 41
theorem Stp.nil : Stp [] := fun _ _ h => by cases h
theorem Stp.blank (l : List UInt8) : Stp (32 :: l) := fun c m h => by injection h with h _; exact .inl h.symm
theorem Stp.close (l : List UInt8) : Stp (41 :: l) := fun c m h => by injection h with h _; exact .inr h.symm
theorem span_eq (p : UInt8 → Bool) : ∀ (a b r t : List UInt8), a.all p = true → b.all p = true → (∀ c l, r = c :: l → p c = false) → (∀ c l, t = c :: l → p c = false) → a ++ r = b ++ t → a = b ∧ r = t
 | [], [], _, _, _, _, _, _, h => ⟨rfl, h⟩
 | [], c :: b, r, t, _, hb, hr, _, h => by
   have h1 := hr c (b ++ t) h
   rw [List.all_cons, Bool.and_eq_true, h1] at hb
   exact absurd hb.1 (by decide)
 | c :: a, [], r, t, ha, _, _, ht, h => by
   have h1 := ht c (a ++ r) h.symm
   rw [List.all_cons, Bool.and_eq_true, h1] at ha
   exact absurd ha.1 (by decide)
 | c :: a, d :: b, r, t, ha, hb, hr, ht, h => by
   rw [List.all_cons, Bool.and_eq_true] at ha hb
   rw [List.cons_append, List.cons_append, List.cons.injEq] at h
   obtain ⟨h1, h2⟩ := span_eq p a b r t ha.2 hb.2 hr ht h.2
   exact ⟨by rw [h.1, h1], h2⟩
theorem dig_stp {r : List UInt8} (h : Stp r) : ∀ c l, r = c :: l → isDig c = false := fun c l e => by rcases h c l e with rfl | rfl <;> decide
theorem dec_read {u v : Nat} {r t : List UInt8} (hr : Stp r) (ht : Stp t) (h : Lib.decDigits u ++ r = Lib.decDigits v ++ t) : u = v ∧ r = t := by
 obtain ⟨h1, h2⟩ := span_eq isDig _ _ r t (decDigits_all u).1 (decDigits_all v).1 (dig_stp hr) (dig_stp ht) h
 exact ⟨dec_inj h1, h2⟩
theorem itoa_nat {n : Int} (h : 0 ≤ n) : Lib.itoa n = Lib.decDigits n.toNat := by unfold Lib.itoa; rw [if_neg (by omega)]
theorem itoa_read {a b : Int} {r t : List UInt8} (ha : 0 ≤ a) (hb : 0 ≤ b) (hr : Stp r) (ht : Stp t) (h : Lib.itoa a ++ r = Lib.itoa b ++ t) : a = b ∧ r = t := by
 rw [itoa_nat ha, itoa_nat hb] at h
 obtain ⟨h1, h2⟩ := dec_read hr ht h
 exact ⟨by omega, h2⟩
theorem quo_read : ∀ (a b r t : List UInt8), Stp r → Stp t → quo a ++ 39 :: r = quo b ++ 39 :: t → a = b ∧ r = t
 | [], [], _, _, _, _, h => by
   rw [quo_nil] at h
   injection h with _ h
   exact ⟨rfl, h⟩
 | [], c :: b, r, t, hr, _, h => by
   rw [quo_nil, quo_cons] at h
   by_cases hc : c = 39
   ·rw [if_pos hc] at h
    simp only [List.nil_append, List.cons_append, List.cons.injEq, true_and] at h
    rcases hr _ _ h with h | h <;> cases h
   ·rw [if_neg hc] at h
    simp only [List.nil_append, List.cons_append, List.cons.injEq] at h
    exact absurd h.1.symm hc
 | c :: a, [], r, t, _, ht, h => by
   rw [quo_nil, quo_cons] at h
   by_cases hc : c = 39
   ·rw [if_pos hc] at h
    simp only [List.nil_append, List.cons_append, List.cons.injEq, true_and] at h
    rcases ht _ _ h.symm with h | h <;> cases h
   ·rw [if_neg hc] at h
    simp only [List.nil_append, List.cons_append, List.cons.injEq] at h
    exact absurd h.1 hc
 | c :: a, d :: b, r, t, hr, ht, h => by
   rw [quo_cons, quo_cons] at h
   by_cases hc : c = 39
   ·by_cases hd : d = 39
    ·rw [if_pos hc, if_pos hd] at h
     obtain ⟨h1, h2⟩ := quo_read a b r t hr ht (by simpa using h)
     exact ⟨by rw [h1, hc, hd], h2⟩
    ·rw [if_pos hc, if_neg hd] at h
     simp only [List.cons_append, List.nil_append, List.cons.injEq] at h
     exact absurd h.1.symm hd
   ·by_cases hd : d = 39
    ·rw [if_neg hc, if_pos hd] at h
     simp only [List.cons_append, List.nil_append, List.cons.injEq] at h
     exact absurd h.1 hc
    ·rw [if_neg hc, if_neg hd] at h
     simp only [List.cons_append, List.nil_append, List.cons.injEq] at h
     obtain ⟨h1, h2⟩ := quo_read a b r t hr ht h.2
     exact ⟨by rw [h.1, h1], h2⟩
theorem litX_ok {k i : Int} {s : List UInt8} {b : Bool} (h : litOk k i s b) : litX k i s b = lit ⟨k, i, ⟨s.toArray⟩, b⟩ := by
 unfold litX
 rw [if_neg]
 rintro ⟨rfl, h2⟩
 rcases h with h | h | h | h
 ·omega
 ·exact absurd h.1 (by decide)
 ·exact absurd h.1 (by decide)
 ·exact absurd h.1 (by decide)
theorem lit_read {k i k' i' : Int} {s s' : List UInt8} {b b' : Bool} {r t : List UInt8} (h : litOk k i s b) (h' : litOk k' i' s' b') (hr : Stp r) (ht : Stp t) (he : litX k i s b ++ r = litX k' i' s' b' ++ t) : (k = k' ∧ i = i' ∧ s = s' ∧ b = b') ∧ r = t := by
 rw [litX_ok h, litX_ok h'] at he
 have kk : k = 0 ∨ k = 1 ∨ k = 2 ∨ k = 3 := by rcases h with h | h | h | h <;> simp [h.1]
 have kk' : k' = 0 ∨ k' = 1 ∨ k' = 2 ∨ k' = 3 := by rcases h' with h | h | h | h <;> simp [h.1]
 obtain ⟨c, l, e1, e2⟩ := lit_kind (v := ⟨k, i, ⟨s.toArray⟩, b⟩) kk
 obtain ⟨d, m, e3, e4⟩ := lit_kind (v := ⟨k', i', ⟨s'.toArray⟩, b'⟩) kk'
 have hk : k = k' := by
  have he2 := he
  rw [e1, e3, List.cons_append, List.cons_append, List.cons.injEq] at he2
  have e2' : litKind c = k := e2
  have e4' : litKind d = k' := e4
  rw [← e2', ← e4', he2.1]
 subst hk
 clear e1 e2 e3 e4 kk kk'
 unfold lit at he
 rcases h with ⟨rfl, h1, h2, h3, h4⟩ | ⟨rfl, h1, h2, h3⟩ | ⟨rfl, h1, h2, h3⟩ | ⟨rfl, h1, h2⟩
 ·rcases h' with ⟨-, g1, g2, g3, g4⟩ | ⟨g0, _⟩ | ⟨g0, _⟩ | ⟨g0, _⟩
  ·simp only [if_true] at he
   obtain ⟨q1, q2⟩ := itoa_read h1 g1 hr ht he
   exact ⟨⟨rfl, q1, by rw [h3, g3], by rw [h4, g4]⟩, q2⟩
  all_goals exact absurd g0 (by decide)
 ·rcases h' with ⟨g0, _⟩ | ⟨-, g1, g2, g3⟩ | ⟨g0, _⟩ | ⟨g0, _⟩
  ·exact absurd g0 (by decide)
  ·have he : litT s ++ r = litT s' ++ t := by simpa using he
   unfold litT at he
   have he : quo s ++ 39 :: r = quo s' ++ 39 :: t := by simpa using he
   obtain ⟨q1, q2⟩ := quo_read s s' r t hr ht he
   exact ⟨⟨rfl, by rw [h1, g1], q1, by rw [h3, g3]⟩, q2⟩
  all_goals exact absurd g0 (by decide)
 ·rcases h' with ⟨g0, _⟩ | ⟨g0, _⟩ | ⟨-, g1, g2, g3⟩ | ⟨g0, _⟩
  ·exact absurd g0 (by decide)
  ·exact absurd g0 (by decide)
  ·have he : ([78, 85, 76, 76] : List UInt8) ++ r = [78, 85, 76, 76] ++ t := by simpa using he
   exact ⟨⟨rfl, by rw [h1, g1], by rw [h2, g2], by rw [h3, g3]⟩, List.append_cancel_left he⟩
  ·exact absurd g0 (by decide)
 ·rcases h' with ⟨g0, _⟩ | ⟨g0, _⟩ | ⟨g0, _⟩ | ⟨-, g1, g2⟩
  ·exact absurd g0 (by decide)
  ·exact absurd g0 (by decide)
  ·exact absurd g0 (by decide)
  ·have he : (if b = true then ([84, 82, 85, 69] : List UInt8) else [70, 65, 76, 83, 69]) ++ r = (if b' = true then [84, 82, 85, 69] else [70, 65, 76, 83, 69]) ++ t := by simpa using he
   have hb : b = b' ∧ r = t := by
    cases b <;> cases b' <;> simp at he ⊢ <;> first | exact he | exact he.2.2.2.2 | exact he.2.2.2
   exact ⟨⟨rfl, by rw [h1, g1], by rw [h2, g2], hb.1⟩, hb.2⟩
def cls (c : UInt8) : Nat := if c = 35 then 1 else if c = 40 then 2 else if c = 67 ∨ c = 83 ∨ c = 77 then 3 else 0
def xcls : X → Nat
 | .lit .. => 0
 | .col .. => 1
 | .un .. => 2
 | .bin .. => 2
 | .isn .. => 2
 | .agg .. => 3
 | .cnt => 3
theorem dig_cls {c : UInt8} (h : isDig c = true) : cls c = 0 ∧ c ≠ 45 ∧ c ≠ 42 ∧ c ≠ 78 := by
 refine ⟨?_, ?_, ?_, ?_⟩
 ·unfold cls
  rw [if_neg (by rintro rfl; cases h), if_neg (by rintro rfl; cases h), if_neg (by rintro (rfl | rfl | rfl) <;> cases h)]
 all_goals (rintro rfl; cases h)
theorem show_head (sc : List Tb) (x : X) (hw : x.wf) : ∃ c l, showX sc x = c :: l ∧ cls c = xcls x ∧ c ≠ 45 ∧ c ≠ 42 ∧ (c = 78 → l = [85, 76, 76]) := by
 cases x with
 | lit k i s b =>
   have hw : litOk k i s b := hw
   rw [show showX sc (.lit k i s b) = litX k i s b from rfl, litX_ok hw]
   unfold lit
   rcases hw with ⟨rfl, h1, h2, h3, h4⟩ | ⟨rfl, h1, h2, h3⟩ | ⟨rfl, h1, h2, h3⟩ | ⟨rfl, h1, h2⟩
   ·obtain ⟨c, l, q1, q2⟩ := dec_head i.toNat
    obtain ⟨d1, d2, d3, d4⟩ := dig_cls q2
    exact ⟨c, l, by simp only [if_true]; rw [itoa_nat h1, q1], d1, d2, d3, fun h => absurd h d4⟩
   ·exact ⟨39, _, rfl, rfl, by decide, by decide, fun h => absurd h (by decide)⟩
   ·exact ⟨78, [85, 76, 76], rfl, rfl, by decide, by decide, fun _ => rfl⟩
   ·cases b
    ·exact ⟨70, _, rfl, rfl, by decide, by decide, fun h => absurd h (by decide)⟩
    ·exact ⟨84, _, rfl, rfl, by decide, by decide, fun h => absurd h (by decide)⟩
 | col t s => exact ⟨35, _, rfl, rfl, by decide, by decide, fun h => absurd h (by decide)⟩
 | un op x => exact ⟨40, _, rfl, rfl, by decide, by decide, fun h => absurd h (by decide)⟩
 | bin op a b => exact ⟨40, _, rfl, rfl, by decide, by decide, fun h => absurd h (by decide)⟩
 | isn n x => exact ⟨40, _, rfl, rfl, by decide, by decide, fun h => absurd h (by decide)⟩
 | agg op x =>
   have h := hw.1
   simp only [aggOps, List.mem_cons, List.not_mem_nil, or_false] at h
   rcases h with rfl | rfl | rfl | rfl
   ·exact ⟨67, _, rfl, rfl, by decide, by decide, fun h => absurd h (by decide)⟩
   ·exact ⟨83, _, rfl, rfl, by decide, by decide, fun h => absurd h (by decide)⟩
   ·exact ⟨77, _, rfl, rfl, by decide, by decide, fun h => absurd h (by decide)⟩
   ·exact ⟨77, _, rfl, rfl, by decide, by decide, fun h => absurd h (by decide)⟩
 | cnt => exact ⟨67, _, rfl, rfl, by decide, by decide, fun h => absurd h (by decide)⟩
def known (sc : List Tb) : X → Prop
 | .lit .. => True
 | .col t s => ∃ p, findX sc t s = some p
 | .un _ x => known sc x
 | .bin _ a b => known sc a ∧ known sc b
 | .isn _ x => known sc x
 | .agg _ x => known sc x
 | .cnt => True
def notB (x : UInt8) (c : UInt8) : Bool := !(c == x)
theorem not_head {x : UInt8} {l : List UInt8} : ∀ c m, x :: l = c :: m → notB x c = false := fun c m h => by
 injection h with h _
 subst h
 simp [notB]
theorem bin_blank : ∀ op ∈ binOps, op.all (notB 32) = true ∧ op ≠ [73, 83] := by decide
theorem agg_open : ∀ op ∈ aggOps, op.all (notB 40) = true := by decide
theorem un_not {sc : List Tb} {a : X} (hw : a.wf) {op : List UInt8} (hop : op = uNot ∨ op = [45]) {r t : List UInt8} (h : op ++ 32 :: r = showX sc a ++ 32 :: t) : False := by
 obtain ⟨c, l, h1, -, h2, -, h3⟩ := show_head sc a hw
 rw [h1] at h
 rcases hop with rfl | rfl
 ·simp only [uNot, List.cons_append, List.nil_append, List.cons.injEq] at h
  have h4 := h3 h.1.symm
  subst h4
  simp at h
 ·simp only [List.cons_append, List.nil_append, List.cons.injEq] at h
  exact h2 h.1.symm
theorem is_tail (n : Bool) : (if n then sIsNot else sIs) = [73, 83] ++ 32 :: (if n then [78, 79, 84, 32, 78, 85, 76, 76] else [78, 85, 76, 76]) := by cases n <;> rfl
theorem show_read (sc : List Tb) : ∀ (x y : X) (r t : List UInt8), x.wf → y.wf → known sc x → known sc y → Stp r → Stp t → showX sc x ++ r = showX sc y ++ t → sameX sc x y = true ∧ r = t := by
 intro x
 have hcl : ∀ {x y : X} {r t : List UInt8}, x.wf → y.wf → showX sc x ++ r = showX sc y ++ t → xcls x = xcls y := by
  intro x y r t hx hy h
  obtain ⟨c, l, h1, h2, -⟩ := show_head sc x hx
  obtain ⟨d, m, h3, h4, -⟩ := show_head sc y hy
  rw [h1, h3, List.cons_append, List.cons_append, List.cons.injEq] at h
  rw [← h2, ← h4, h.1]
 induction x with
 | lit k i s b =>
   intro y r t hx hy kx ky hr ht h
   have hc := hcl hx hy h
   cases y with
   | lit k' i' s' b' =>
     obtain ⟨⟨rfl, rfl, rfl, rfl⟩, q⟩ := lit_read hx hy hr ht h
     exact ⟨by simp [sameX], q⟩
   | _ => exact absurd hc (by simp [xcls])
 | col tt s =>
   intro y r t hx hy kx ky hr ht h
   have hc := hcl hx hy h
   cases y with
   | col t' s' =>
     obtain ⟨p, hp⟩ := kx
     obtain ⟨q, hq⟩ := ky
     have e1 : atX sc tt s = p.1 := by simp [atX, hp]
     have e2 : atX sc t' s' = q.1 := by simp [atX, hq]
     have h : (35 :: Lib.itoa (atX sc tt s)) ++ r = (35 :: Lib.itoa (atX sc t' s')) ++ t := h
     rw [e1, e2, List.cons_append, List.cons_append, List.cons.injEq] at h
     obtain ⟨q1, q2⟩ := itoa_read (by omega) (by omega) hr ht h.2
     have := findX_one hp hq (by omega)
     exact ⟨by simp [sameX, hp, hq, this], q2⟩
   | _ => exact absurd hc (by simp [xcls])
 | un op x ih =>
   intro y r t hx hy kx ky hr ht h
   have hc := hcl hx hy h
   have ex : showX sc (.un op x) ++ r = 40 :: (op ++ 32 :: (showX sc x ++ 41 :: r)) := by simp [showX]
   rw [ex] at h
   cases y with
   | un op' x' =>
     have ey : showX sc (.un op' x') ++ t = 40 :: (op' ++ 32 :: (showX sc x' ++ 41 :: t)) := by simp [showX]
     rw [ey, List.cons.injEq] at h
     have nb : ∀ o, (o = uNot ∨ o = [45]) → o.all (notB 32) = true := by rintro o (rfl | rfl) <;> decide
     obtain ⟨q1, q2⟩ := span_eq (notB 32) op op' _ _ (nb _ hx.1) (nb _ hy.1) not_head not_head h.2
     injection q2 with _ q2
     obtain ⟨q3, q4⟩ := ih x' _ _ hx.2 hy.2 kx ky (Stp.close _) (Stp.close _) q2
     injection q4 with _ q4
     exact ⟨by simp [sameX, q1, q3], q4⟩
   | bin op' a b =>
     have ey : showX sc (.bin op' a b) ++ t = 40 :: (showX sc a ++ 32 :: (op' ++ 32 :: (showX sc b ++ 41 :: t))) := by simp [showX]
     rw [ey, List.cons.injEq] at h
     exact (un_not hy.2.1 hx.1 h.2).elim
   | isn n x' =>
     have ey : showX sc (.isn n x') ++ t = 40 :: (showX sc x' ++ 32 :: ((if n then sIsNot else sIs) ++ 41 :: t)) := by simp [showX]
     rw [ey, List.cons.injEq] at h
     exact (un_not (a := x') hy hx.1 h.2).elim
   | _ => exact absurd hc (by simp [xcls])
 | bin op a b iha ihb =>
   intro y r t hx hy kx ky hr ht h
   have hc := hcl hx hy h
   have ex : showX sc (.bin op a b) ++ r = 40 :: (showX sc a ++ 32 :: (op ++ 32 :: (showX sc b ++ 41 :: r))) := by simp [showX]
   rw [ex] at h
   cases y with
   | un op' x' =>
     have ey : showX sc (.un op' x') ++ t = 40 :: (op' ++ 32 :: (showX sc x' ++ 41 :: t)) := by simp [showX]
     rw [ey, List.cons.injEq] at h
     exact (un_not hx.2.1 hy.1 h.2.symm).elim
   | bin op' a' b' =>
     have ey : showX sc (.bin op' a' b') ++ t = 40 :: (showX sc a' ++ 32 :: (op' ++ 32 :: (showX sc b' ++ 41 :: t))) := by simp [showX]
     rw [ey, List.cons.injEq] at h
     obtain ⟨q1, q2⟩ := iha a' _ _ hx.2.1 hy.2.1 kx.1 ky.1 (Stp.blank _) (Stp.blank _) h.2
     injection q2 with _ q2
     obtain ⟨q3, q4⟩ := span_eq (notB 32) op op' _ _ (bin_blank _ hx.1).1 (bin_blank _ hy.1).1 not_head not_head q2
     injection q4 with _ q4
     obtain ⟨q5, q6⟩ := ihb b' _ _ hx.2.2 hy.2.2 kx.2 ky.2 (Stp.close _) (Stp.close _) q4
     injection q6 with _ q6
     exact ⟨by simp [sameX, q1, q3, q5], q6⟩
   | isn n x' =>
     have ey : showX sc (.isn n x') ++ t = 40 :: (showX sc x' ++ 32 :: ((if n then sIsNot else sIs) ++ 41 :: t)) := by simp [showX]
     rw [ey, List.cons.injEq] at h
     obtain ⟨q1, q2⟩ := iha x' _ _ hx.2.1 hy kx.1 ky (Stp.blank _) (Stp.blank _) h.2
     injection q2 with _ q2
     rw [is_tail, List.append_assoc, List.cons_append] at q2
     obtain ⟨q3, q4⟩ := span_eq (notB 32) op [73, 83] _ _ (bin_blank _ hx.1).1 (by decide) not_head not_head q2
     exact absurd q3 (bin_blank _ hx.1).2
   | _ => exact absurd hc (by simp [xcls])
 | isn n x ih =>
   intro y r t hx hy kx ky hr ht h
   have hc := hcl hx hy h
   have ex : showX sc (.isn n x) ++ r = 40 :: (showX sc x ++ 32 :: ((if n then sIsNot else sIs) ++ 41 :: r)) := by simp [showX]
   rw [ex] at h
   cases y with
   | un op' x' =>
     have ey : showX sc (.un op' x') ++ t = 40 :: (op' ++ 32 :: (showX sc x' ++ 41 :: t)) := by simp [showX]
     rw [ey, List.cons.injEq] at h
     exact (un_not (a := x) hx hy.1 h.2.symm).elim
   | bin op' a' b' =>
     have ey : showX sc (.bin op' a' b') ++ t = 40 :: (showX sc a' ++ 32 :: (op' ++ 32 :: (showX sc b' ++ 41 :: t))) := by simp [showX]
     rw [ey, List.cons.injEq] at h
     obtain ⟨q1, q2⟩ := ih a' _ _ hx hy.2.1 kx ky.1 (Stp.blank _) (Stp.blank _) h.2
     injection q2 with _ q2
     rw [is_tail, List.append_assoc, List.cons_append] at q2
     obtain ⟨q3, q4⟩ := span_eq (notB 32) [73, 83] op' _ _ (by decide) (bin_blank _ hy.1).1 not_head not_head q2
     exact absurd q3.symm (bin_blank _ hy.1).2
   | isn n' x' =>
     have ey : showX sc (.isn n' x') ++ t = 40 :: (showX sc x' ++ 32 :: ((if n' then sIsNot else sIs) ++ 41 :: t)) := by simp [showX]
     rw [ey, List.cons.injEq] at h
     obtain ⟨q1, q2⟩ := ih x' _ _ hx hy kx ky (Stp.blank _) (Stp.blank _) h.2
     injection q2 with _ q2
     have q3 : n = n' ∧ r = t := by
      cases n <;> cases n' <;> simp [sIs, sIsNot] at q2 ⊢ <;> exact q2
     exact ⟨by simp [sameX, q1, q3.1], q3.2⟩
   | _ => exact absurd hc (by simp [xcls])
 | agg op x ih =>
   intro y r t hx hy kx ky hr ht h
   have hc := hcl hx hy h
   have ex : showX sc (.agg op x) ++ r = op ++ 40 :: (showX sc x ++ 41 :: r) := by simp [showX]
   rw [ex] at h
   cases y with
   | agg op' x' =>
     have ey : showX sc (.agg op' x') ++ t = op' ++ 40 :: (showX sc x' ++ 41 :: t) := by simp [showX]
     rw [ey] at h
     obtain ⟨q3, q4⟩ := span_eq (notB 40) op op' _ _ (agg_open _ hx.1) (agg_open _ hy.1) not_head not_head h
     injection q4 with _ q4
     obtain ⟨q5, q6⟩ := ih x' _ _ hx.2 hy.2 kx ky (Stp.close _) (Stp.close _) q4
     injection q6 with _ q6
     exact ⟨by simp [sameX, q3, q5], q6⟩
   | cnt =>
     have ey : showX sc .cnt ++ t = uCount ++ 40 :: (42 :: 41 :: t) := rfl
     rw [ey] at h
     obtain ⟨q3, q4⟩ := span_eq (notB 40) op uCount _ _ (agg_open _ hx.1) (by decide) not_head not_head h
     injection q4 with _ q4
     obtain ⟨c, l, h1, -, -, h2, -⟩ := show_head sc x hx.2
     rw [h1, List.cons_append, List.cons.injEq] at q4
     exact absurd q4.1 h2
   | _ => exact absurd hc (by simp [xcls])
 | cnt =>
   intro y r t hx hy kx ky hr ht h
   have hc := hcl hx hy h
   have ex : showX sc .cnt ++ r = uCount ++ 40 :: (42 :: 41 :: r) := rfl
   rw [ex] at h
   cases y with
   | agg op' x' =>
     have ey : showX sc (.agg op' x') ++ t = op' ++ 40 :: (showX sc x' ++ 41 :: t) := by simp [showX]
     rw [ey] at h
     obtain ⟨q3, q4⟩ := span_eq (notB 40) uCount op' _ _ (by decide) (agg_open _ hy.1) not_head not_head h
     injection q4 with _ q4
     obtain ⟨c, l, h1, -, -, h2, -⟩ := show_head sc x' hy.2
     rw [h1, List.cons_append, List.cons.injEq] at q4
     exact absurd q4.1.symm h2
   | cnt =>
     have ey : showX sc .cnt ++ t = uCount ++ 40 :: (42 :: 41 :: t) := rfl
     rw [ey] at h
     have h := List.append_cancel_left h
     simp only [List.cons.injEq, true_and] at h
     exact ⟨rfl, h⟩
   | _ => exact absurd hc (by simp [xcls])
theorem same_show (sc : List Tb) : ∀ x y : X, sameX sc x y = true → showX sc x = showX sc y := by
 intro x
 induction x with
 | lit k i s b =>
   intro y h
   cases y with
   | lit k' i' s' b' =>
     simp only [sameX, Bool.and_eq_true, beq_iff_eq] at h
     obtain ⟨⟨⟨rfl, rfl⟩, rfl⟩, rfl⟩ := h
     rfl
   | _ => cases h
 | col t s =>
   intro y h
   cases y with
   | col t' s' =>
     simp only [sameX, beq_iff_eq] at h
     simp [showX, atX, h]
   | _ => cases h
 | un op x ih =>
   intro y h
   cases y with
   | un op' x' =>
     simp only [sameX, Bool.and_eq_true, beq_iff_eq] at h
     simp [showX, h.1, ih _ h.2]
   | _ => cases h
 | bin op a b iha ihb =>
   intro y h
   cases y with
   | bin op' a' b' =>
     simp only [sameX, Bool.and_eq_true, beq_iff_eq] at h
     simp [showX, h.1, iha _ h.2.1, ihb _ h.2.2]
   | _ => cases h
 | isn n x ih =>
   intro y h
   cases y with
   | isn n' x' =>
     simp only [sameX, Bool.and_eq_true, beq_iff_eq] at h
     simp [showX, h.1, ih _ h.2]
   | _ => cases h
 | agg op x ih =>
   intro y h
   cases y with
   | agg op' x' =>
     simp only [sameX, Bool.and_eq_true, beq_iff_eq] at h
     simp [showX, h.1, ih _ h.2]
   | _ => cases h
 | cnt =>
   intro y h
   cases y with
   | cnt => rfl
   | _ => cases h
theorem same_is_show {sc : List Tb} {x y : X} (hx : x.wf) (hy : y.wf) (kx : known sc x) (ky : known sc y) : sameX sc x y = (showX sc x == showX sc y) := by
 rw [Bool.eq_iff_iff, beq_iff_eq]
 exact ⟨same_show sc x y, fun h => (show_read sc x y [] [] hx hy kx ky Stp.nil Stp.nil (by rw [h])).1⟩
theorem same_refl (sc : List Tb) : ∀ x : X, sameX sc x x = true := by
 intro x
 induction x with
 | lit => simp [sameX]
 | col => simp [sameX]
 | un _ _ ih => simp [sameX, ih]
 | bin _ _ _ iha ihb => simp [sameX, iha, ihb]
 | isn _ _ ih => simp [sameX, ih]
 | agg _ _ ih => simp [sameX, ih]
 | cnt => rfl
end Go.Proofs.YtkfjmgmjbljnbaaGreatDoor.Lp
