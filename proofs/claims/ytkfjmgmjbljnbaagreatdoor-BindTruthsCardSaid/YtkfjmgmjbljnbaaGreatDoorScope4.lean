/-
  What the laws' scopes keep: tables, each with its columns in a row of their own. No conditions.
-/
import Derived.Test.YtkfjmgmjbljnbaaGreatDoorScope3
import Derived.Deep.RegionHeld3
namespace Go.Proofs.YtkfjmgmjbljnbaaGreatDoor
open Go.RowKit

/-- Two rows of the call's own, of two types: one stays where the other grows. -/
theorem own_twoS {w w' : World} {B1 B2 n1 n2 s1 s2 : Nat} {e1 e2 : TypeId} {v1 v2 : Value} {x1 x2 : List Value} (h1 : w.ownsRow B1 e1 s1 v1 n1 x1) (h2 : w.ownsRow B2 e2 s2 v2 n2 x2) (hne : e2 ≠ e1) (hg : w.grownBy w' v2.ownBlock) :
    w'.ownsRow B1 e1 s1 v1 n1 x1 := by
  refine h1.kept hg ?_
  rcases h1.2 with ⟨rfl, _⟩ | ⟨g, cap, cur, rfl, _, hgg, _⟩
  · exact .inl rfl
  · exact .inr (own_ne h2 hgg hne)
def TabIn (W : World) (B : Nat) (p : TabA) : Prop := W.ownsRow B 55 2 (.slice p.2.1 p.1.cs.length p.2.2) p.1.cs.length (colv p.1.cs) ∧ p.1.n.length ≤ maxLen ∧ p.1.cs.length ≤ 8 ∧ p.1.cs.length ≤ p.2.2 ∧ ∀ u ∈ p.1.cs, ColOk u ∧ 1 ≤ u.k ∧ u.k ≤ 3
def TabsIn (W : World) (B : Nat) (l : List TabA) : Prop := ∀ p ∈ l, TabIn W B p
theorem TabsIn.below {W W' : World} {B : Nat} {l : List TabA} (h : TabsIn W B l) (hb : Below W.heap.size W W') : TabsIn W' B l := fun p hp => ⟨own_under (h p hp).1 hb, (h p hp).2⟩
theorem TabsIn.two {W W' : World} {B B2 n2 s2 : Nat} {e2 : TypeId} {v2 : Value} {x2 : List Value} {l : List TabA} (h : TabsIn W B l) (h2 : W.ownsRow B2 e2 s2 v2 n2 x2) (hne : e2 ≠ 55) (hg : W.grownBy W' v2.ownBlock) : TabsIn W' B l :=
  fun p hp => ⟨own_twoS (h p hp).1 h2 hne hg, (h p hp).2⟩
theorem TabsIn.snoc {W : World} {B : Nat} {l : List TabA} {p : TabA} (h : TabsIn W B l) (hp : TabIn W B p) : TabsIn W B (l ++ [p]) := fun q hq => by
  rcases List.mem_append.1 hq with hq | hq
  · exact h q hq
  · rw [List.mem_singleton] at hq; rw [hq]; exact hp
theorem tbv_snoc (l : List TabA) (p : TabA) : tbv (l ++ [p]) = tbv l ++ [.string ⟨p.1.n.toArray⟩, .slice p.2.1 p.1.cs.length p.2.2] := by simp [tbv]
theorem tbv_cells {w : World} {A : Option Addr} {l : List TabA} (h : Rds w A (tbv l)) {i : Nat} (hi : i < l.length) : ∃ b off, A = some ⟨b, off, none⟩ ∧ w.cell? ⟨b, off + i * 2, none⟩ = some (.string ⟨(l[i]).1.n.toArray⟩) ∧ w.cell? ⟨b, off + i * 2 + 1, none⟩ = some (.slice (l[i]).2.1 (l[i]).1.cs.length (l[i]).2.2) := by
  obtain ⟨h0, h1⟩ := tbv_at hi
  rcases h with hn | ⟨b, off, rfl, hc⟩
  · rw [hn] at h0; simp at h0
  · exact ⟨b, off, rfl, hc _ _ h0, by rw [Nat.add_assoc]; exact hc _ _ h1⟩
theorem two_cells {w : World} {g : Nat} {a b : Value} {t : TypeId} (h : w.heap[g]? = some (.cells #[a, b] t (0, 0))) : w.cell? ⟨g, 0, none⟩ = some a ∧ w.cell? ⟨g, 1, none⟩ = some b := ⟨box_cells h 0, box_cells h 1⟩
theorem tabInfoB : (Tryz.prog.info? 58).map (fun i => (i.zero, i.size, i.bytes)) = some (some (.agg #[.string ⟨#[]⟩, .slice none 0 0]), 2, 40) := by kernel_rfl
theorem tabInfoM : (Tryz.prog.info? 90).map (fun i => (i.zero, i.size, i.bytes)) = some (some (.agg #[.string ⟨#[]⟩, .slice none 0 0]), 2, 40) := by kernel_rfl
/-- What scope leaves. -/
def ScPost (most : Nat) (w : World) (e : Ending) (w' : World) : Prop :=
  Below w.heap.size w w' ∧ ((e = .returned (.tuple #[.slice none 0 0, .slice none 0 0, .bool false])) ∨ ∃ (l : List TabA) (A1 : Option Addr) (c1 : Nat) (A2 : Option Addr) (c2 : Nat), e = .returned (.tuple #[.slice A1 l.length c1, .slice A2 l.length c2, .bool true]) ∧ ScA w' A1 l ∧ ScA w' A2 l ∧ l.length ≤ most ∧
    ∀ p ∈ l, p.1.cs.length ≤ 8 ∧ ∀ u ∈ p.1.cs, 1 ≤ u.k ∧ u.k ≤ 3)
theorem ScPost.no {most : Nat} {w w' : World} (hb : Below w.heap.size w w') : ScPost most w (.returned (.tuple #[.slice none 0 0, .slice none 0 0, .bool false])) w' := ⟨hb, .inl rfl⟩
theorem ScPost.yes {most : Nat} {w w' : World} {B1 n : Nat} {l : List TabA} {A1 A2 : Option Addr} {c1 c2 : Nat} (hn : n = l.length) (hm : l.length ≤ most) (hb : Below w.heap.size w w') (h1 : w'.ownsRow B1 58 2 (.slice A1 n c1) n (tbv l)) (h2 : w'.ownsRow B1 90 2 (.slice A2 n c2) n (tbv l)) (hT : TabsIn w' B1 l) :
    ScPost most w (.returned (.tuple #[.slice A1 n c1, .slice A2 n c2, .bool true])) w' := by
  subst hn
  have ok : ∀ u ∈ l, TabOk w' u := fun u hu => ⟨(hT u hu).2.1, Rds.own (hT u hu).1, (hT u hu).2.2.2.1, fun c hc => ((hT u hu).2.2.2.2 c hc).1⟩
  exact ⟨hb, .inr ⟨l, A1, c1, A2, c2, rfl, ⟨Rds.own h1, ok⟩, ⟨Rds.own h2, ok⟩, hm, fun p hp => ⟨(hT p hp).2.2.1, fun u hu => ((hT p hp).2.2.2.2 u hu).2⟩⟩⟩
end Go.Proofs.YtkfjmgmjbljnbaaGreatDoor
