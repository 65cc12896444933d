/-
 A bound node seen flat: its name, kind, value, place and parts; two are the same just if they are so seen. No conditions.
-/
import Derived.Test.YtkfjmgmjbljnbaaGreatDoorBGY
import Derived.Test.YtkfjmgmjbljnbaaGreatDoorBGE
namespace Go.Proofs.YtkfjmgmjbljnbaaGreatDoor
open Go.RowKit
def nOp : Lp.X → List UInt8
 | .lit .. => sLit
 | .col .. => sCol
 | .un op _ => unN op
 | .bin op _ _ => op
 | .isn n _ => isN n
 | .agg op _ => op
 | .cnt => Lp.sCnt
def nKd (sc : List Lp.Tb) : Lp.X → Int
 | .lit k _ _ _ => k
 | .col t s => match Lp.findX sc t s with
   | none => 0
   | some p => p.2
 | .un op _ => (Lp.kindU op 0).1
 | .bin op _ _ => binK op
 | .isn _ _ => 3
 | .agg op x => (Lp.kindA op (Lp.kindX sc x false).1).1
 | .cnt => 1
def nV : Lp.X → Lp.V
 | .lit k i s b => ⟨k, i, ⟨s.toArray⟩, b⟩
 | _ => nul
def nAt (sc : List Lp.Tb) : Lp.X → Int
 | .col t s => match Lp.findX sc t s with
   | none => 0
   | some p => (p.1 : Nat)
 | _ => 0
def nKs : Lp.X → List Lp.X
 | .un _ x => [x]
 | .bin _ a b => [a, b]
 | .isn _ x => [x]
 | .agg _ x => [x]
 | _ => []
theorem nks_len (x : Lp.X) : (nKs x).length ≤ 2 := by cases x <;> simp [nKs]
theorem nd_view {S : Nat → Prop} {w : World} {sc : List Lp.Tb} {x : Lp.X} {g : Nat} (h : NT S w sc x g) : ∃ (A : Option Addr) (c : Nat) (gs : List Nat), w.heap[g]? = some (.cells (ndv (nOp x) (nKd sc x) (nV x) (nAt sc x) A gs.length c) 66 (0, 0)) ∧ gs.length = (nKs x).length ∧ Rds w A (gs.map ptr) ∧ ∀ (i : Nat) (hx : i < (nKs x).length) (hg : i < gs.length), NT S w sc (nKs x)[i] gs[i] := by
 have one : ∀ {A : Option Addr} {g1 : Nat} {y : Lp.X}, NT S w sc y g1 → ∀ (i : Nat) (hx : i < [y].length) (hg : i < [g1].length), NT S w sc [y][i] [g1][i] := by
  intro A g1 y hy i h1 h2
  obtain rfl : i = 0 := by simpa using h1
  exact hy
 have pr : ∀ {A : Option Addr} {gs : List Nat}, Prts S w A gs → Rds w A (gs.map ptr) := by
  rintro A gs ⟨b, off, rfl, -, hc⟩
  exact .inr ⟨b, off, rfl, hc⟩
 cases x with
 | lit k i s b => exact ⟨none, 0, [], h.2, rfl, .inl rfl, fun i hx => absurd hx (Nat.not_lt_zero _)⟩
 | cnt => exact ⟨none, 0, [], h.2, rfl, .inl rfl, fun i hx => absurd hx (Nat.not_lt_zero _)⟩
 | col t s =>
   obtain ⟨-, p, h1, h2⟩ := h
   refine ⟨none, 0, [], ?_, rfl, .inl rfl, fun i hx => absurd hx (Nat.not_lt_zero _)⟩
   have e1 : nKd sc (.col t s) = p.2 := by simp [nKd, h1]
   have e2 : nAt sc (.col t s) = ((p.1 : Nat) : Int) := by simp [nAt, h1]
   rw [e1, e2]
   exact h2
 | un op x => obtain ⟨-, A, c, g1, h1, h2, h3⟩ := h; exact ⟨A, c, [g1], h1, rfl, pr h2, one (A := A) h3⟩
 | isn n x => obtain ⟨-, A, c, g1, h1, h2, h3⟩ := h; exact ⟨A, c, [g1], h1, rfl, pr h2, one (A := A) h3⟩
 | agg op x => obtain ⟨-, A, c, g1, h1, h2, h3⟩ := h; exact ⟨A, c, [g1], h1, rfl, pr h2, one (A := A) h3⟩
 | bin op a b =>
   obtain ⟨-, A, c, g1, g2, h1, h2, h3, h4⟩ := h
   refine ⟨A, c, [g1, g2], h1, rfl, pr h2, ?_⟩
   intro i h1 h2
   match i, h1 with
   | 0, _ => exact h3
   | 1, _ => exact h4
def all2 (f : Lp.X → Lp.X → Bool) : List Lp.X → List Lp.X → Bool
 | [], [] => true
 | x :: xs, y :: ys => f x y && all2 f xs ys
 | _, _ => false
def clsO (op : List UInt8) : Nat := if op = sLit then 0 else if op = sCol then 1 else if op = Lp.uNot ∨ op = sNeg then 2 else if op ∈ Lp.binOps then 3 else if op = Lp.sIs ∨ op = Lp.sIsNot then 4 else if op ∈ Lp.aggOps then 5 else 6
def clsX : Lp.X → Nat
 | .lit .. => 0
 | .col .. => 1
 | .un .. => 2
 | .bin .. => 3
 | .isn .. => 4
 | .agg .. => 5
 | .cnt => 6
theorem cls_of {x : Lp.X} (h : x.wf) : clsO (nOp x) = clsX x := by
 have hb : ∀ o ∈ Lp.binOps, clsO o = 3 := by decide
 have ha : ∀ o ∈ Lp.aggOps, clsO o = 5 := by decide
 cases x with
 | lit => exact (by decide : clsO sLit = 0)
 | col => exact (by decide : clsO sCol = 1)
 | un op x =>
   rcases h.1 with rfl | rfl
   ·exact (by decide : clsO (unN Lp.uNot) = 2)
   ·exact (by decide : clsO (unN [45]) = 2)
 | bin op a b => exact hb op h.1
 | isn n x => cases n; exact (by decide : clsO (isN false) = 4); exact (by decide : clsO (isN true) = 4)
 | agg op x => exact ha op h.1
 | cnt => exact (by decide : clsO Lp.sCnt = 6)
theorem same_cls {sc : List Lp.Tb} {x y : Lp.X} (h : Lp.sameX sc x y = true) : clsX x = clsX y := by
 cases x <;> cases y <;> first | rfl | (simp [Lp.sameX] at h)
theorem same_kind (sc : List Lp.Tb) : ∀ (x y : Lp.X) (g : Bool), Lp.sameX sc x y = true → Lp.kindX sc x g = Lp.kindX sc y g := by
 intro x
 induction x with
 | lit k i s b => intro y g h; cases y <;> simp [Lp.sameX] at h; simp [Lp.kindX, h]
 | col t s => intro y g h; cases y <;> simp [Lp.sameX] at h; simp [Lp.kindX, h]
 | un op x ih => intro y g h; cases y <;> simp [Lp.sameX] at h; simp [Lp.kindX, h.1, ih _ g h.2]
 | bin op a b iha ihb => intro y g h; cases y <;> simp [Lp.sameX] at h; simp [Lp.kindX, h.1, iha _ g h.2.1, ihb _ g h.2.2]
 | isn n x ih => intro y g h; cases y <;> simp [Lp.sameX] at h; simp [Lp.kindX, ih _ g h.2]
 | agg op x ih => intro y g h; cases y <;> simp [Lp.sameX] at h; simp [Lp.kindX, h.1, ih _ false h.2]
 | cnt => intro y g h; cases y <;> simp [Lp.sameX] at h; rfl
def vEq (u v : Lp.V) : Bool := u.k == v.k && u.i == v.i && u.s.data.toList == v.s.data.toList && u.b == v.b
def sameN (sc : List Lp.Tb) (x y : Lp.X) : Bool := nOp x == nOp y && nKd sc x == nKd sc y && vEq (nV x) (nV y) && nAt sc x == nAt sc y && ((nKs x).length == (nKs y).length && all2 (Lp.sameX sc) (nKs x) (nKs y))
theorem un_inj {a b : List UInt8} (ha : a = Lp.uNot ∨ a = [45]) (hb : b = Lp.uNot ∨ b = [45]) : (unN a == unN b) = (a == b) := by
 rcases ha with rfl | rfl <;> rcases hb with rfl | rfl <;> decide
theorem same_flat {sc : List Lp.Tb} {x y : Lp.X} (hx : x.wf) (hy : y.wf) (kx : Lp.known sc x) (ky : Lp.known sc y) : Lp.sameX sc x y = sameN sc x y := by
 by_cases hc : clsX x = clsX y
 ·cases x <;> cases y <;> first | (simp [clsX] at hc; done) | skip
  case lit k i s b k' i' s' b' =>
   show (k == k' && i == i' && s == s' && b == b') = (sLit == sLit && k == k' && (k == k' && i == i' && s == s' && b == b') && (0 : Int) == 0 && true)
   simp only [beq_self_eq_true, Bool.true_and, Bool.and_true]
   cases (k == k') <;> simp
  case col t s t' s' =>
   show (Lp.findX sc t s == Lp.findX sc t' s') = (sCol == sCol && nKd sc (.col t s) == nKd sc (.col t' s') && vEq nul nul && nAt sc (.col t s) == nAt sc (.col t' s') && true)
   obtain ⟨p, hp⟩ := kx
   obtain ⟨q, hq⟩ := ky
   simp only [nKd, nAt, hp, hq]
   obtain ⟨p1, p2⟩ := p
   obtain ⟨q1, q2⟩ := q
   have e0 : vEq nul nul = true := by decide
   rw [e0]
   have e1 : ((p1 : Int) == (q1 : Int)) = (p1 == q1) := by
    by_cases h : p1 = q1
    ·subst h; simp
    ·rw [beq_eq_false_iff_ne.2 h, beq_eq_false_iff_ne.2 (by omega)]
   have e2 : (some (p1, p2) == some (q1, q2)) = (p1 == q1 && p2 == q2) := rfl
   rw [e1, e2]
   simp only [beq_self_eq_true, Bool.true_and, Bool.and_true]
   cases (p1 == q1) <;> cases (p2 == q2) <;> rfl
  case un op a op' a' =>
   show (op == op' && Lp.sameX sc a a') = (unN op == unN op' && (Lp.kindU op 0).1 == (Lp.kindU op' 0).1 && vEq nul nul && (0 : Int) == 0 && (true && (Lp.sameX sc a a' && true)))
   rw [un_inj hx.1 hy.1, show vEq nul nul = true by decide]
   by_cases h : op = op'
   ·subst h; simp
   ·rw [beq_eq_false_iff_ne.2 h]; rfl
  case bin op a b op' a' b' =>
   show (op == op' && (Lp.sameX sc a a' && Lp.sameX sc b b')) = (op == op' && binK op == binK op' && vEq nul nul && (0 : Int) == 0 && (true && (Lp.sameX sc a a' && (Lp.sameX sc b b' && true))))
   rw [show vEq nul nul = true by decide]
   by_cases h : op = op'
   ·subst h; simp
   ·rw [beq_eq_false_iff_ne.2 h]; rfl
  case isn n a n' a' =>
   show (n == n' && Lp.sameX sc a a') = (isN n == isN n' && (3 : Int) == 3 && vEq nul nul && (0 : Int) == 0 && (true && (Lp.sameX sc a a' && true)))
   rw [show vEq nul nul = true by decide, show (isN n == isN n') = (n == n') by cases n <;> cases n' <;> decide]
   simp
  case agg op a op' a' =>
   show (op == op' && Lp.sameX sc a a') = (op == op' && (Lp.kindA op (Lp.kindX sc a false).1).1 == (Lp.kindA op' (Lp.kindX sc a' false).1).1 && vEq nul nul && (0 : Int) == 0 && (true && (Lp.sameX sc a a' && true)))
   rw [show vEq nul nul = true by decide]
   by_cases h : op = op'
   ·subst h
    cases hs : Lp.sameX sc a a'
    ·simp
    ·rw [same_kind sc a a' false hs]; simp
   ·rw [beq_eq_false_iff_ne.2 h]; rfl
  case cnt => exact (by decide : true = (Lp.sCnt == Lp.sCnt && (1 : Int) == 1 && vEq nul nul && (0 : Int) == 0 && (true && true)))
 ·have h1 : Lp.sameX sc x y = false := by
   cases h : Lp.sameX sc x y
   ·rfl
   ·exact absurd (same_cls h) hc
  have h2 : (nOp x == nOp y) = false := beq_eq_false_iff_ne.2 fun e => hc (by rw [← cls_of hx, ← cls_of hy, e])
  rw [h1]
  unfold sameN
  rw [h2]
  rfl
theorem known_of (sc : List Lp.Tb) : ∀ (x : Lp.X) (g : Bool), (Lp.kindX sc x g).2 = 0 → Lp.known sc x := by
 intro x
 induction x with
 | lit => intro _ _; trivial
 | cnt => intro _ _; trivial
 | col t s =>
   intro g h
   show ∃ p, Lp.findX sc t s = some p
   unfold Lp.kindX at h
   split at h
   ·exact absurd h (by decide)
   ·rename_i p hp; exact ⟨p, hp⟩
 | un op x ih => intro g h; exact ih g (thenK_ok (show (Lp.thenK (Lp.kindX sc x g) (Lp.kindU op)).2 = 0 from h)).1
 | bin op a b iha ihb =>
   intro g h
   obtain ⟨h1, h2, -⟩ := thenK_ok (show (Lp.thenK (Lp.kindX sc a g) fun k => Lp.thenK (Lp.kindX sc b g) (Lp.kindB op k)).2 = 0 from h)
   exact ⟨iha g h1, ihb g (thenK_ok h2).1⟩
 | isn n x ih => intro g h; exact ih g (thenK_ok (show (Lp.thenK (Lp.kindX sc x g) fun _ => ((3, 0) : Int × Int)).2 = 0 from h)).1
 | agg op x ih =>
   intro g h
   cases g
   ·exact absurd h (by decide : ¬ ((3 : Int) = 0))
   ·exact ih false (thenK_ok (show (Lp.thenK (Lp.kindX sc x false) (Lp.kindA op)).2 = 0 from h)).1
end Go.Proofs.YtkfjmgmjbljnbaaGreatDoor
