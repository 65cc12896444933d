/-
 The parts of the document's expression: in memory, and how a node's kind is made of its parts'. No conditions.
-/
import Derived.Test.YtkfjmgmjbljnbaaGreatDoorBKindL
import Derived.Test.YtkfjmgmjbljnbaaGreatDoorBOpenT
import Derived.Test.YtkfjmgmjbljnbaaGreatDoorBGE
namespace Go.Proofs.YtkfjmgmjbljnbaaGreatDoor
open Go.RowKit
def rcs (l : List RC) : List Value := l.flatMap RC.cells
theorem rcs_at {l : List RC} {i k : Nat} (hi : i < l.length) (hk : k < 8) : (rcs l)[i * 8 + k]? = ((l[i]).cells)[k]? := flat_at (f := RC.cells) (n := 8) (fun _ => rfl) l i k hi hk
theorem rcs_cells {w : World} {A : Option Addr} {l : List RC} (h : Rds w A (rcs l)) {i : Nat} (hi : i < l.length) : ∃ b off, A = some ⟨b, off, none⟩ ∧ w.cell? ⟨b, off + i * 8, none⟩ = some (.int .u8 (l[i]).k) ∧ w.cell? ⟨b, off + i * 8 + 1, none⟩ = some (.int .u8 (l[i]).vk) ∧ w.cell? ⟨b, off + i * 8 + 2, none⟩ = some (.int .i64 (l[i]).vi) ∧ w.cell? ⟨b, off + i * 8 + 3, none⟩ = some (.string (l[i]).vs) ∧ w.cell? ⟨b, off + i * 8 + 4, none⟩ = some (.bool (l[i]).vb) ∧ w.cell? ⟨b, off + i * 8 + 5, none⟩ = some (.string (l[i]).t) ∧ w.cell? ⟨b, off + i * 8 + 6, none⟩ = some (.string (l[i]).s) ∧ w.cell? ⟨b, off + i * 8 + 7, none⟩ = some (.slice (l[i]).A (l[i]).n (l[i]).c) := by
 rcases h with hn | ⟨b, off, rfl, hc⟩
 ·have := rcs_at hi (k := 0) (by decide)
  rw [hn] at this
  simp [RC.cells] at this
 ·have at_ := fun (k : Nat) (hk : k < 8) (u : Value) (hu : ((l[i]).cells)[k]? = some u) => hc (i * 8 + k) u ((rcs_at hi hk).trans hu)
  exact ⟨b, off, rfl, at_ 0 (by decide) _ rfl, at_ 1 (by decide) _ rfl, at_ 2 (by decide) _ rfl, at_ 3 (by decide) _ rfl, at_ 4 (by decide) _ rfl, at_ 5 (by decide) _ rfl, at_ 6 (by decide) _ rfl, at_ 7 (by decide) _ rfl⟩
def Pts (S : Nat → Prop) (w : World) (A : Option Addr) (xs : List Lp.X) (rs : List RC) : Prop := rs.length = xs.length ∧ Rds w A (rcs rs) ∧ ∀ (i : Nat) (hx : i < xs.length) (hr : i < rs.length), RX S w xs[i] rs[i]
theorem Pts.below {S : Nat → Prop} {w w' : World} {A : Option Addr} {xs : List Lp.X} {rs : List RC} (h : Pts S w A xs rs) (hb : Below w.heap.size w w') : Pts S w' A xs rs := ⟨h.1, h.2.1.below hb, fun i hx hr => (h.2.2 i hx hr).below hb⟩
def rcN (k : Int) (s : List UInt8) (A : Option Addr) (n : Nat) : RC := ⟨k, 0, 0, ⟨#[]⟩, false, ⟨#[]⟩, ⟨s.toArray⟩, A, n, n⟩
def kids : Lp.X → List Lp.X
 | .un _ x => [x]
 | .bin _ a b => [a, b]
 | .isn _ x => [x]
 | .agg _ x => [x]
 | _ => []
def nodK : Lp.X → Int
 | .un .. => 3
 | .bin .. => 4
 | .isn .. => 5
 | .agg .. => 6
 | .cnt => 6
 | .lit .. => 1
 | .col .. => 2
def nodS : Lp.X → List UInt8
 | .un op _ => op
 | .bin op _ _ => op
 | .isn n _ => if n then Lp.uNot else []
 | .agg op _ => op
 | .cnt => Lp.uCount
 | _ => []
theorem pts_one {S : Nat → Prop} {w : World} {g : Nat} {x : Lp.X} {r : RC} (h : w.heap[g]? = some (.cells r.cells.toArray 35 (0, 0))) (hx : RX S w x r) : Pts S w (some ⟨g, 0, none⟩) [x] [r] := by
 refine ⟨rfl, ?_, ?_⟩
 ·have := rds_blk r.cells h
  simpa [rcs] using this
 ·intro i h1 h2
  obtain rfl : i = 0 := by simpa using h1
  exact hx
theorem rx_pts {S : Nat → Prop} {w : World} {x : Lp.X} {r : RC} (h : RX S w x r) (hk : kids x ≠ []) : ∃ A rs, r = rcN (nodK x) (nodS x) A (kids x).length ∧ Pts S w A (kids x) rs := by
 cases x with
 | lit => exact absurd rfl hk
 | col => exact absurd rfl hk
 | cnt => exact absurd rfl hk
 | un op x => obtain ⟨g, r1, rfl, -, h2, h3⟩ := h; exact ⟨_, [r1], rfl, pts_one h2 h3⟩
 | isn n x => obtain ⟨g, r1, rfl, -, h2, h3⟩ := h; exact ⟨_, [r1], rfl, pts_one h2 h3⟩
 | agg op x => obtain ⟨g, r1, rfl, -, h2, h3⟩ := h; exact ⟨_, [r1], rfl, pts_one h2 h3⟩
 | bin op a b =>
   obtain ⟨g, r1, r2, rfl, -, h2, h3, h4⟩ := h
   refine ⟨_, [r1, r2], rfl, rfl, ?_, ?_⟩
   ·have := rds_blk (r1.cells ++ r2.cells) h2
    simpa [rcs] using this
   ·intro i h1 h2
    match i, h1 with
    | 0, _ => exact h3
    | 1, _ => exact h4
def endX : Lp.X → List Int → Int × Int
 | .un op _, ks => Lp.kindU op (ks.headD 0)
 | .bin op _ _, ks => Lp.kindB op (ks.headD 0) (ks.tail.headD 0)
 | .agg op _, ks => Lp.kindA op (ks.headD 0)
 | _, _ => (3, 0)
theorem kind_nod (sc : List Lp.Tb) (x : Lp.X) {gr gr2 : Bool} (hk : kids x ≠ []) (hg : nodK x = 6 ∧ gr = true ∧ gr2 = false ∨ nodK x ≠ 6 ∧ gr2 = gr) : Lp.kindX sc x gr = if firstE sc gr2 (kids x) = 0 then endX x ((kids x).map fun y => (Lp.kindX sc y gr2).1) else (0, firstE sc gr2 (kids x)) := by
 have one : ∀ (y : Lp.X) (f : Int → Int × Int), Lp.thenK (Lp.kindX sc y gr2) f = if firstE sc gr2 [y] = 0 then f (Lp.kindX sc y gr2).1 else (0, firstE sc gr2 [y]) := by
  intro y f
  have e : firstE sc gr2 [y] = (Lp.kindX sc y gr2).2 := by
   show (if (Lp.kindX sc y gr2).2 = 0 then (0 : Int) else _) = _
   split
   ·rename_i h; exact h.symm
   ·rfl
  rw [e]; rfl
 cases x with
 | lit => exact absurd rfl hk
 | col => exact absurd rfl hk
 | cnt => exact absurd rfl hk
 | un op y =>
   obtain rfl : gr2 = gr := by rcases hg with ⟨h, -⟩ | ⟨-, h⟩; cases h; exact h
   exact one y _
 | isn n y =>
   obtain rfl : gr2 = gr := by rcases hg with ⟨h, -⟩ | ⟨-, h⟩; cases h; exact h
   exact one y _
 | agg op y =>
   obtain ⟨rfl, rfl⟩ : gr = true ∧ gr2 = false := by rcases hg with ⟨-, h⟩ | ⟨h, -⟩; exact h; exact absurd rfl h
   exact one y _
 | bin op a b =>
   obtain rfl : gr2 = gr := by rcases hg with ⟨h, -⟩ | ⟨-, h⟩; cases h; exact h
   show (if (Lp.kindX sc a gr2).2 = 0 then (if (Lp.kindX sc b gr2).2 = 0 then Lp.kindB op (Lp.kindX sc a gr2).1 (Lp.kindX sc b gr2).1 else (0, (Lp.kindX sc b gr2).2)) else (0, (Lp.kindX sc a gr2).2)) = if (if (Lp.kindX sc a gr2).2 = 0 then (if (Lp.kindX sc b gr2).2 = 0 then (0 : Int) else (Lp.kindX sc b gr2).2) else (Lp.kindX sc a gr2).2) = 0 then Lp.kindB op (Lp.kindX sc a gr2).1 (Lp.kindX sc b gr2).1 else (0, if (Lp.kindX sc a gr2).2 = 0 then (if (Lp.kindX sc b gr2).2 = 0 then (0 : Int) else (Lp.kindX sc b gr2).2) else (Lp.kindX sc a gr2).2)
   by_cases h1 : (Lp.kindX sc a gr2).2 = 0
   ·by_cases h2 : (Lp.kindX sc b gr2).2 = 0
    ·simp [h1, h2]
    ·simp [h1, h2]
   ·simp [h1]
def cmpOps : List (List UInt8) := [[61], [60, 62], [60], [60, 61], [62], [62, 61]]
def NoL (k : Int) : Prop := (k == 1) = false ∧ (k == 2) = false ∧ (k == 5) = false
inductive EndK (x : Lp.X) : Prop
 | isn (h1 : nodK x = 5) (h2 : ∀ ks, endX x ks = (3, 0))
 | tru (hk : NoL (nodK x)) (h1 : nodS x = Lp.uNot ∨ nodS x = Lp.uAnd ∨ nodS x = Lp.uOr) (h2 : ∀ ks, ks.length = (kids x).length → endX x ks = if Lp.allK ks 3 then (3, 0) else (0, 8))
 | num (hk : NoL (nodK x)) (h1 : nodS x ∈ ([[45], [43], [42], [47], [37], Lp.uSum] : List (List UInt8))) (h2 : ∀ ks, ks.length = (kids x).length → endX x ks = if Lp.allK ks 1 then (1, 0) else (0, 8))
 | cnt (hk : NoL (nodK x)) (h1 : nodS x = Lp.uCount) (h2 : ∀ ks, endX x ks = (1, 0))
 | low (hk : NoL (nodK x)) (h1 : nodS x = Lp.uMin ∨ nodS x = Lp.uMax) (h0 : (kids x).length = 1) (h2 : ∀ a, endX x [a] = (a, 0))
 | cmp (hk : NoL (nodK x)) (h1 : nodS x ∈ cmpOps) (h0 : (kids x).length = 2) (h2 : ∀ a b, endX x [a, b] = if a ≠ 0 ∧ b ≠ 0 ∧ a ≠ b then (0, 8) else (3, 0))
theorem one_of {ks : List Int} (h : ks.length = 1) : ∃ a, ks = [a] := by
 match ks, h with
 | [a], _ => exact ⟨a, rfl⟩
theorem two_of {ks : List Int} (h : ks.length = 2) : ∃ a b, ks = [a, b] := by
 match ks, h with
 | [a, b], _ => exact ⟨a, b, rfl⟩
theorem fit_all1 (a k : Int) : Lp.allK [a] k = Lp.fitK a k := by simp [Lp.allK, Lp.fitK, Bool.or_comm]
theorem fit_all2 (a b k : Int) : Lp.allK [a, b] k = (Lp.fitK a k && Lp.fitK b k) := by simp [Lp.allK, Lp.fitK, Bool.or_comm]
theorem fit_cmp (a b : Int) : (if Lp.fitK a b || Lp.fitK b a then ((3, 0) : Int × Int) else (0, 8)) = if a ≠ 0 ∧ b ≠ 0 ∧ a ≠ b then (0, 8) else (3, 0) := by
 unfold Lp.fitK
 by_cases h1 : a = 0
 ·subst h1; simp
 ·by_cases h2 : b = 0
  ·subst h2; simp
  ·by_cases h3 : a = b
   ·subst h3; simp
   ·have h4 : ¬ b = a := fun h => h3 h.symm
    simp [h1, h2, h3, h4]
theorem bin_tru {op : List UInt8} (a b : Lp.X) (h : op = Lp.uAnd ∨ op = Lp.uOr) (h1 : op = Lp.uNot ∨ op = Lp.uAnd ∨ op = Lp.uOr) : EndK (.bin op a b) :=
 .tru ⟨rfl, rfl, rfl⟩ h1 fun ks hl => by
  obtain ⟨p, q, rfl⟩ := two_of hl
  rw [fit_all2]
  exact if_pos h
theorem bin_num {op : List UInt8} (a b : Lp.X) (h : ¬ (op = Lp.uAnd ∨ op = Lp.uOr)) (h1 : op ∈ Lp.arith) (h2 : op ∈ ([[45], [43], [42], [47], [37], Lp.uSum] : List (List UInt8))) : EndK (.bin op a b) :=
 .num ⟨rfl, rfl, rfl⟩ h2 fun ks hl => by
  obtain ⟨p, q, rfl⟩ := two_of hl
  rw [fit_all2]
  show Lp.kindB op p q = _
  unfold Lp.kindB
  rw [if_neg h, if_pos h1]
theorem bin_cmp {op : List UInt8} (a b : Lp.X) (h : ¬ (op = Lp.uAnd ∨ op = Lp.uOr)) (h1 : ¬ op ∈ Lp.arith) (h2 : op ∈ cmpOps) : EndK (.bin op a b) :=
 .cmp ⟨rfl, rfl, rfl⟩ h2 rfl fun p q => by
  show Lp.kindB op p q = _
  unfold Lp.kindB
  rw [if_neg h, if_neg h1]
  exact fit_cmp p q
theorem bin_cls : ∀ op ∈ Lp.binOps, ((op = Lp.uAnd ∨ op = Lp.uOr) ∧ (op = Lp.uNot ∨ op = Lp.uAnd ∨ op = Lp.uOr)) ∨ (¬ (op = Lp.uAnd ∨ op = Lp.uOr) ∧ op ∈ Lp.arith ∧ op ∈ ([[45], [43], [42], [47], [37], Lp.uSum] : List (List UInt8))) ∨ (¬ (op = Lp.uAnd ∨ op = Lp.uOr) ∧ ¬ op ∈ Lp.arith ∧ op ∈ cmpOps) := by decide
theorem agg_cls : ∀ op ∈ Lp.aggOps, op = Lp.uCount ∨ op = Lp.uSum ∨ op = Lp.uMin ∨ op = Lp.uMax := by decide
theorem end_of {x : Lp.X} (hw : x.wf) (hk : kids x ≠ []) : EndK x := by
 cases x with
 | lit => exact absurd rfl hk
 | col => exact absurd rfl hk
 | cnt => exact absurd rfl hk
 | isn n y => exact .isn rfl fun _ => rfl
 | un op y =>
   rcases hw.1 with rfl | rfl
   ·refine .tru ⟨rfl, rfl, rfl⟩ (.inl rfl) fun ks hl => ?_
    obtain ⟨p, rfl⟩ := one_of hl
    rw [fit_all1]
    rfl
   ·refine .num ⟨rfl, rfl, rfl⟩ (by show ([45] : List UInt8) ∈ _; decide) fun ks hl => ?_
    obtain ⟨p, rfl⟩ := one_of hl
    rw [fit_all1]
    rfl
 | bin op a b =>
   rcases bin_cls op hw.1 with ⟨h1, h2⟩ | ⟨h1, h2, h3⟩ | ⟨h1, h2, h3⟩
   ·exact bin_tru a b h1 h2
   ·exact bin_num a b h1 h2 h3
   ·exact bin_cmp a b h1 h2 h3
 | agg op y =>
   rcases agg_cls op hw.1 with rfl | rfl | rfl | rfl
   ·exact .cnt ⟨rfl, rfl, rfl⟩ rfl fun _ => rfl
   ·refine .num ⟨rfl, rfl, rfl⟩ (by show Lp.uSum ∈ _; decide) fun ks hl => ?_
    obtain ⟨p, rfl⟩ := one_of hl
    rw [fit_all1]
    rfl
   ·exact .low ⟨rfl, rfl, rfl⟩ (.inl rfl) rfl fun _ => rfl
   ·exact .low ⟨rfl, rfl, rfl⟩ (.inr rfl) rfl fun _ => rfl
theorem cmp_facts : ∀ o ∈ cmpOps, (o == [78, 79, 84]) = false ∧ (o == [65, 78, 68]) = false ∧ (o == [79, 82]) = false ∧ (o == [45]) = false ∧ (o == [43]) = false ∧ (o == [42]) = false ∧ (o == [47]) = false ∧ (o == [37]) = false ∧ (o == [83, 85, 77]) = false ∧ (o == [67, 79, 85, 78, 84]) = false ∧ (o == [77, 73, 78]) = false ∧ (o == [77, 65, 88]) = false := by decide
end Go.Proofs.YtkfjmgmjbljnbaaGreatDoor
