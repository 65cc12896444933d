/-
  Expressions in memory: the program's trees and the document's, by their shape alone. No conditions.
-/
import Derived.Test.YtpkipleoodcplaaMem
import Derived.KernelRfl
namespace Go.Proofs.Ytpkipleoodcplaa
open Go.RowKit

/-- An expression's shape: without parts, with one, with two. -/
inductive Ex where
  | leaf : Ex
  | one : Ex → Ex
  | two : Ex → Ex → Ex
def Ex.size : Ex → Nat
  | .leaf => 1
  | .one x => x.size + 1
  | .two a b => a.size + b.size + 1
def Ex.deep : Ex → Nat
  | .leaf => 1
  | .one x => x.deep + 1
  | .two a b => max a.deep b.deep + 1
theorem Ex.deep_le : ∀ e : Ex, e.deep ≤ e.size
  | .leaf => Nat.le_refl _
  | .one x => by have := x.deep_le; unfold Ex.deep Ex.size; omega
  | .two a b => by have := a.deep_le; have := b.deep_le; unfold Ex.deep Ex.size; omega
theorem Ex.deep_pos : ∀ e : Ex, 1 ≤ e.deep
  | .leaf => Nat.le_refl _
  | .one x => by unfold Ex.deep; omega
  | .two a b => by unfold Ex.deep; omega
/-- The document's expression, as cells. -/
structure RC where
  k : Int
  vk : Int
  vi : Int
  vs : ByteArray
  vb : Bool
  t : ByteArray
  s : ByteArray
  A : Option Addr
  n : Nat
  c : Nat
def RC.cells (r : RC) : List Value := [.int .u8 r.k, .int .u8 r.vk, .int .i64 r.vi, .string r.vs, .bool r.vb, .string r.t, .string r.s, .slice r.A r.n r.c]
def PT (w : World) : Ex → Value → Prop
  | .leaf, v =>
    (∃ g k i s b, v = .iface 48 (.pointer (some ⟨g, 0, none⟩)) ∧ w.heap[g]? = some (.cells #[.int .u8 k, .int .i64 i, .string s, .bool b] 50 (0, 0))) ∨
    (∃ g t s, v = .iface 54 (.pointer (some ⟨g, 0, none⟩)) ∧ w.heap[g]? = some (.cells #[.string t, .string s] 56 (0, 0))) ∨
    (∃ g s, v = .iface 64 (.pointer (some ⟨g, 0, none⟩)) ∧ w.heap[g]? = some (.cells #[.string s, .nilIface] 66 (0, 0)))
  | .one x, v =>
    (∃ g s T g2, v = .iface 41 (.pointer (some ⟨g, 0, none⟩)) ∧ w.heap[g]? = some (.cells #[.string s, .iface T (.pointer (some ⟨g2, 0, none⟩))] 43 (0, 0)) ∧ PT w x (.iface T (.pointer (some ⟨g2, 0, none⟩)))) ∨
    (∃ g b T g2, v = .iface 44 (.pointer (some ⟨g, 0, none⟩)) ∧ w.heap[g]? = some (.cells #[.iface T (.pointer (some ⟨g2, 0, none⟩)), .bool b] 46 (0, 0)) ∧ PT w x (.iface T (.pointer (some ⟨g2, 0, none⟩)))) ∨
    (∃ g s T g2, v = .iface 64 (.pointer (some ⟨g, 0, none⟩)) ∧ w.heap[g]? = some (.cells #[.string s, .iface T (.pointer (some ⟨g2, 0, none⟩))] 66 (0, 0)) ∧ PT w x (.iface T (.pointer (some ⟨g2, 0, none⟩))))
  | .two a b, v =>
    ∃ g s T g2 T3 g3, v = .iface 47 (.pointer (some ⟨g, 0, none⟩)) ∧ w.heap[g]? = some (.cells #[.string s, .iface T (.pointer (some ⟨g2, 0, none⟩)), .iface T3 (.pointer (some ⟨g3, 0, none⟩))] 52 (0, 0)) ∧ PT w a (.iface T (.pointer (some ⟨g2, 0, none⟩))) ∧ PT w b (.iface T3 (.pointer (some ⟨g3, 0, none⟩)))
def RT (w : World) : Ex → RC → Prop
  | .leaf, r => r.n = 0
  | .one x, r => r.n = 1 ∧ ∃ g r1, r.A = some ⟨g, 0, none⟩ ∧ w.heap[g]? = some (.cells r1.cells.toArray 33 (0, 0)) ∧ RT w x r1
  | .two a b, r => r.n = 2 ∧ ∃ g r1 r2, r.A = some ⟨g, 0, none⟩ ∧ w.heap[g]? = some (.cells (r1.cells ++ r2.cells).toArray 33 (0, 0)) ∧ RT w a r1 ∧ RT w b r2
/-- A tree's value is a pointer behind an interface. -/
theorem PT.form {w : World} {e : Ex} {v : Value} (h : PT w e v) : ∃ T g, v = .iface T (.pointer (some ⟨g, 0, none⟩)) := by
  cases e with
  | leaf =>
    rcases h with ⟨g, _, _, _, _, h, _⟩ | ⟨g, _, _, h, _⟩ | ⟨g, _, h, _⟩
    · exact ⟨_, g, h⟩
    · exact ⟨_, g, h⟩
    · exact ⟨_, g, h⟩
  | one x =>
    rcases h with ⟨g, _, _, _, h, _⟩ | ⟨g, _, _, _, h, _⟩ | ⟨g, _, _, _, h, _⟩
    · exact ⟨_, g, h⟩
    · exact ⟨_, g, h⟩
    · exact ⟨_, g, h⟩
  | two a b =>
    obtain ⟨g, _, _, _, _, _, h, _⟩ := h
    exact ⟨_, g, h⟩
/-- What is no row of made pairs, and wholly free, stays. -/
def Stays (w w' : World) : Prop := ∀ (g : Nat) (cs : Array Value) (t : TypeId), w.heap[g]? = some (.cells cs t (0, 0)) → t ≠ 35 → t ≠ 3 → w'.heap[g]? = some (.cells cs t (0, 0))
theorem Stays.refl (w : World) : Stays w w := fun _ _ _ h _ _ => h
theorem Stays.trans {a b c : World} (h : Stays a b) (k : Stays b c) : Stays a c := fun g cs t hg ht hi => k g cs t (h g cs t hg ht hi) ht hi
theorem stays_below {w w' : World} (hb : Below w.heap.size w w') : Stays w w' := fun _ _ _ h _ _ => box_below h hb
theorem stays_grown {w w' : World} {B n size : Nat} {v : Value} {xs : List Value} (ho : w.ownsRow B 35 size v n xs) (hg : w.grownBy w' v.ownBlock) : Stays w w' :=
  fun _ _ _ h ht _ => box_far ho h (fun e => ht e.symm) hg
theorem stays_set {w : World} {g o : Nat} {v : Value} (h : ∀ (cs : Array Value) (t : TypeId) (fz : Nat × Nat), w.heap[g]? = some (.cells cs t fz) → t = 35 ∨ t = 3) : Stays w (w.setCell ⟨g, o, none⟩ v) := by
  intro g2 cs t hg ht hi
  by_cases e : g2 = g
  · subst e
    rcases h _ _ _ hg with h | h
    · exact absurd h ht
    · exact absurd h hi
  · have := (Below.refl w.heap.size w).setCell (p := ⟨g, o, none⟩)
    simp [World.setCell, Array.getElem?_modify, Ne.symm e, hg]
theorem PT.keep {w w' : World} (hs : Stays w w') : ∀ {e : Ex} {v : Value}, PT w e v → PT w' e v
  | .leaf, v, h => by
    rcases h with ⟨g, k, i, s, b, h1, h2⟩ | ⟨g, t, s, h1, h2⟩ | ⟨g, s, h1, h2⟩
    · exact .inl ⟨g, k, i, s, b, h1, hs _ _ _ h2 (by decide) (by decide)⟩
    · exact .inr (.inl ⟨g, t, s, h1, hs _ _ _ h2 (by decide) (by decide)⟩)
    · exact .inr (.inr ⟨g, s, h1, hs _ _ _ h2 (by decide) (by decide)⟩)
  | .one x, v, h => by
    rcases h with ⟨g, s, T, g2, h1, h2, h3⟩ | ⟨g, b, T, g2, h1, h2, h3⟩ | ⟨g, s, T, g2, h1, h2, h3⟩
    · exact .inl ⟨g, s, T, g2, h1, hs _ _ _ h2 (by decide) (by decide), PT.keep hs h3⟩
    · exact .inr (.inl ⟨g, b, T, g2, h1, hs _ _ _ h2 (by decide) (by decide), PT.keep hs h3⟩)
    · exact .inr (.inr ⟨g, s, T, g2, h1, hs _ _ _ h2 (by decide) (by decide), PT.keep hs h3⟩)
  | .two a b, v, h => by
    obtain ⟨g, s, T, g2, T3, g3, h1, h2, h3, h4⟩ := h
    exact ⟨g, s, T, g2, T3, g3, h1, hs _ _ _ h2 (by decide) (by decide), PT.keep hs h3, PT.keep hs h4⟩
theorem RT.keep {w w' : World} (hs : Stays w w') : ∀ {e : Ex} {r : RC}, RT w e r → RT w' e r
  | .leaf, r, h => h
  | .one x, r, h => by
    obtain ⟨h0, g, r1, h1, h2, h3⟩ := h
    exact ⟨h0, g, r1, h1, hs _ _ _ h2 (by decide) (by decide), RT.keep hs h3⟩
  | .two a b, r, h => by
    obtain ⟨h0, g, r1, r2, h1, h2, h3, h4⟩ := h
    exact ⟨h0, g, r1, r2, h1, hs _ _ _ h2 (by decide) (by decide), RT.keep hs h3, RT.keep hs h4⟩
end Go.Proofs.Ytpkipleoodcplaa
