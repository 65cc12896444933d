/-
  Words for lapidarylaw15.build: made pairs, nodes, a pair stored in place. No conditions.
-/
import Derived.Test.YtpkipleoodcplaaSmall5
import Derived.Laws.OwnMore
import Derived.WalkSmall
namespace Go.Proofs.Ytpkipleoodcplaa
open Go.RowKit

/-- A made pair: the program's tree, the document's, their shape. -/
structure Pr where
  v : Value
  r : RC
  e : Ex
def Pr.cells (p : Pr) : List Value := p.v :: p.r.cells
def prv (l : List Pr) : List Value := l.flatMap Pr.cells
def Pr.ok (w : World) (p : Pr) : Prop := PT w p.e p.v ∧ RT w p.e p.r
def total (l : List Pr) : Nat := (l.map fun p => p.e.size).sum
theorem prv_append (l m : List Pr) : prv (l ++ m) = prv l ++ prv m := by simp [prv]
theorem prv_length (l : List Pr) : (prv l).length = l.length * 9 := by
  induction l with
  | nil => rfl
  | cons p l ih => simp only [prv, List.flatMap_cons, List.length_append, List.length_cons] at ih ⊢; rw [ih]; simp [Pr.cells, RC.cells]; omega
theorem prv_one (l : List Pr) (h : ∀ p ∈ l, p.v.oneCell' = true) : ∀ u ∈ prv l, u.oneCell' = true := by
  intro u hu
  obtain ⟨p, hp, hu⟩ := List.mem_flatMap.1 hu
  simp only [Pr.cells, RC.cells, List.mem_cons, List.not_mem_nil, or_false] at hu
  rcases hu with rfl | rfl | rfl | rfl | rfl | rfl | rfl | rfl | rfl
  · exact h p hp
  all_goals rfl
theorem total_append (l m : List Pr) : total (l ++ m) = total l + total m := by simp [total]
theorem total_one (p : Pr) : total [p] = p.e.size := by simp [total]
theorem ex_pos : ∀ e : Ex, 1 ≤ e.size
  | .leaf => Nat.le_refl _
  | .one x => by unfold Ex.size; omega
  | .two a b => by unfold Ex.size; omega
theorem total_len (l : List Pr) : l.length ≤ total l := by
  induction l with
  | nil => exact Nat.le_refl _
  | cons p l ih => have := ex_pos p.e; simp [total] at ih ⊢; omega
theorem Pr.keep {w w' : World} {p : Pr} (hs : Stays w w') (h : p.ok w) : p.ok w' := ⟨PT.keep hs h.1, RT.keep hs h.2⟩
theorem prs_keep {w w' : World} {l : List Pr} (hs : Stays w w') (h : ∀ p ∈ l, p.ok w) : ∀ p ∈ l, p.ok w' := fun p hp => Pr.keep hs (h p hp)
theorem pairInfo : (Try.prog.info? 35).map (fun i => (i.zero, i.size, i.bytes)) = some (some (.agg #[.nilIface, .int .u8 0, .int .u8 0, .int .i64 0, .string ⟨#[]⟩, .bool false, .string ⟨#[]⟩, .string ⟨#[]⟩, .slice none 0 0]), 9, 120) := by kernel_rfl
/-- A node: what it does, its value, its texts. -/
structure Nd where
  d : Nat
  k : Int
  i : Int
  s : ByteArray
  b : Bool
  S : ByteArray
  T : ByteArray
def Nd.cells (n : Nd) : List Value := [.int .u8 n.d, .int .u8 n.k, .int .i64 n.i, .string n.s, .bool n.b, .string n.S, .string n.T]
def ndv (l : List Nd) : List Value := l.flatMap Nd.cells
def Nd.ok (n : Nd) : Prop := n.d < 256 ∧ n.s.size ≤ 9223372036854775807 ∧ n.S.size ≤ 9223372036854775807 ∧ n.T.size ≤ 9223372036854775807
theorem ndv_at {l : List Nd} {k : Nat} {n : Nd} (h : l[k]? = some n) (j : Nat) (hj : j < 7) : (ndv l)[k * 7 + j]? = n.cells[j]? := by
  induction l generalizing k with
  | nil => simp at h
  | cons m l ih =>
    cases k with
    | zero =>
      simp only [List.getElem?_cons_zero, Option.some.injEq] at h
      subst h
      simp only [ndv, List.flatMap_cons, Nat.zero_mul, Nat.zero_add]
      rw [List.getElem?_append_left (by simp [Nd.cells]; omega)]
    | succ k =>
      simp only [List.getElem?_cons_succ] at h
      have := ih h
      simp only [ndv, List.flatMap_cons] at this ⊢
      rw [List.getElem?_append_right (by simp [Nd.cells]; omega), ← this]
      congr 1
      simp [Nd.cells]; omega
/-- The nodes of an argument, from its address on. -/
def RdsN (w : World) (A : Option Addr) (l : List Nd) : Prop := Rds w A (ndv l) ∧ ∀ n ∈ l, n.ok
theorem RdsN.below {w w' : World} {A : Option Addr} {l : List Nd} (h : RdsN w A l) (hb : Below w.heap.size w w') : RdsN w' A l := ⟨h.1.below hb, h.2⟩
theorem RdsN.at_ {w : World} {A : Option Addr} {l : List Nd} {k : Nat} {n : Nd} (h : RdsN w A l) (hk : l[k]? = some n) :
    n.ok ∧ ∃ b off, A = some ⟨b, off, none⟩ ∧ w.cell? ⟨b, off + k * 7, none⟩ = some (.int .u8 n.d) ∧ w.cell? ⟨b, off + k * 7 + 1, none⟩ = some (.int .u8 n.k) ∧ w.cell? ⟨b, off + k * 7 + 2, none⟩ = some (.int .i64 n.i) ∧ w.cell? ⟨b, off + k * 7 + 3, none⟩ = some (.string n.s) ∧ w.cell? ⟨b, off + k * 7 + 4, none⟩ = some (.bool n.b) ∧ w.cell? ⟨b, off + k * 7 + 5, none⟩ = some (.string n.S) ∧ w.cell? ⟨b, off + k * 7 + 6, none⟩ = some (.string n.T) := by
  refine ⟨h.2 n (List.mem_of_getElem? hk), ?_⟩
  rcases h.1 with h0 | ⟨b, off, hA, hc⟩
  · have := ndv_at hk 0 (by omega)
    rw [h0] at this
    simp [Nd.cells] at this
  · simp only [Nat.add_assoc]
    exact ⟨b, off, hA, hc _ _ (ndv_at hk 0 (by omega)), hc _ _ (ndv_at hk 1 (by omega)), hc _ _ (ndv_at hk 2 (by omega)), hc _ _ (ndv_at hk 3 (by omega)), hc _ _ (ndv_at hk 4 (by omega)), hc _ _ (ndv_at hk 5 (by omega)), hc _ _ (ndv_at hk 6 (by omega))⟩
theorem own_under5 {w w' : World} {B n size : Nat} {e : TypeId} {v : Value} {xs : List Value} (h : w.ownsRow B e size v n xs) (hb : Below w.heap.size w w') : w'.ownsRow B e size v n xs := by
  refine ⟨h.1, ?_⟩
  rcases h.2 with ⟨rfl, h2⟩ | ⟨g, cap, cur, rfl, h3, h4, h5⟩
  · exact .inl ⟨rfl, h2⟩
  · exact .inr ⟨g, cap, cur, rfl, h3, box_below h4 hb, h5⟩
end Go.Proofs.Ytpkipleoodcplaa
