/-
  Values as literals, plain. No program in sight. No conditions.
-/
import Derived.Test.YtmdmcfobdbccmaaDoorPlainKey
import Derived.Test.YtmdmcfobdbccmaaDoorPlainDec
import Derived.Lib.Replace
import Derived.Lib.SplitLaws
namespace Go.Proofs.YtmdmcfobdbccmaaDoor.Lp
open Go.RowKit

/-- A text's signs, each quote twice. -/
def quo (l : List UInt8) : List UInt8 := l.flatMap fun c => if c = 39 then [39, 39] else [c]
theorem quo_nil : quo [] = [] := rfl
theorem quo_cons (c : UInt8) (l : List UInt8) : quo (c :: l) = (if c = 39 then [39, 39] else [c]) ++ quo l := rfl
theorem quo_snoc (l : List UInt8) (c : UInt8) : quo (l ++ [c]) = quo l ++ (if c = 39 then [39, 39] else [c]) := by simp [quo]
theorem quo_append (l m : List UInt8) : quo (l ++ m) = quo l ++ quo m := by simp [quo]
theorem quo_none {l : List UInt8} (h : (39 : UInt8) ∉ l) : quo l = l := by
  induction l with
  | nil => rfl
  | cons c l ih =>
    rw [quo_cons, if_neg (fun e => h (by rw [e]; simp)), ih (fun g => h (by simp [g]))]; rfl
theorem quo_len (l : List UInt8) : (quo l).length = l.length + l.count 39 := by
  induction l with
  | nil => rfl
  | cons c l ih =>
    rw [quo_cons, List.length_append, ih]
    by_cases h : c = 39
    · subst h; simp; omega
    · rw [if_neg h, List.count_cons_of_ne (by simpa using h)]; simp; omega
theorem idx_split (s : List UInt8) : (Lib.index s [39] = -1 ∧ (39 : UInt8) ∉ s) ∨ ∃ a r, s = a ++ 39 :: r ∧ (39 : UInt8) ∉ a ∧ Lib.index s [39] = (a.length : Nat) := by
  induction s with
  | nil => left; exact ⟨by simp [Lib.index], by simp⟩
  | cons b l ih =>
    by_cases h : b = 39
    · subst h
      right; exact ⟨[], l, rfl, by simp, by rw [Lib.index]; simp [List.isPrefixOf]⟩
    · have hp : ([39] : List UInt8).isPrefixOf (b :: l) = false := by simp [List.isPrefixOf, Ne.symm h]
      have hix : Lib.index (b :: l) [39] = if Lib.index l [39] == -1 then -1 else Lib.index l [39] + 1 := by rw [Lib.index, hp]; simp
      rcases ih with ⟨h1, h2⟩ | ⟨a, r, h1, h2, h3⟩
      · left; refine ⟨by rw [hix, h1]; rfl, ?_⟩
        intro g; rcases List.mem_cons.1 g with g | g
        · exact h g.symm
        · exact h2 g
      · right; refine ⟨b :: a, r, by rw [h1]; rfl, ?_, ?_⟩
        · intro g; rcases List.mem_cons.1 g with g | g
          · exact h g.symm
          · exact h2 g
        · rw [hix, if_neg (by simp; omega), h3]; simp
theorem replaceK_quo (k : Nat) : ∀ s : List UInt8, s.count 39 ≤ k → Lib.replaceK [39] [39, 39] k s = quo s := by
  induction k with
  | zero =>
    intro s h
    have : (39 : UInt8) ∉ s := fun g => by have := List.count_pos_iff.2 g; omega
    rw [quo_none this]; rfl
  | succ k ih =>
    intro s h
    rcases idx_split s with ⟨h1, h2⟩ | ⟨a, r, h1, h2, h3⟩
    · rw [Lib.replaceK, if_pos (by rw [h1]; rfl), quo_none h2]
    · rw [Lib.replaceK_hit _ _ _ _ _ h3]
      have e1 : s.take a.length = a := by rw [h1]; simp
      have e2 : s.drop (a.length + [(39 : UInt8)].length) = r := by rw [h1, List.length_singleton, List.drop_append]; simp
      rw [e1, e2, ih r (by rw [h1] at h; simp at h; omega), h1, quo_append, quo_none h2, quo_cons, if_pos rfl]
      simp
theorem replace_quo (s : List UInt8) : Lib.replaceAll s [39] [39, 39] = quo s := by
  unfold Lib.replaceAll Lib.replace
  rw [if_neg (by decide)]
  unfold Lib.replaceNum
  rw [if_pos (.inl (by decide)), Lib.count_one]
  exact replaceK_quo _ _ (Nat.le_refl _)
/-- A value's literal. -/
def litT (l : List UInt8) : List UInt8 := [39] ++ quo l ++ [39]
def lit (v : V) : List UInt8 :=
  if v.k = 1 then Lib.itoa v.i else if v.k = 2 then litT v.s.data.toList else if v.k = 3 then (if v.b then [84, 82, 85, 69] else [70, 65, 76, 83, 69]) else [78, 85, 76, 76]
end Go.Proofs.YtmdmcfobdbccmaaDoor.Lp
