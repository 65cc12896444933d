/-
  What the document's three, back, And, Or and Not give. No conditions.
-/
import Derived.Test.YthojikijelijnaaDoorCell4
namespace Go.Proofs.YthojikijelijnaaDoor
open Go.RowKit

theorem ba {w w' : World} (h : Below w.heap.size w w') (o : Obj) : Below w.heap.size w (w'.alloc o) := h.alloc h.size o
def Lp.three (k : Int) (b : Bool) : Int := if k = 0 then 1 else if k = 3 then (if b then 2 else 0) else -1
def Lp.bkK (n : Int) : Int := if n = 1 then 0 else 3
def Lp.bkB (n : Int) : Bool := if n = 1 then false else n == 2
theorem truth2_any (b : Bool) (w : World) : Calls Tryd.prog 51 #[.bool b] w fun e w' => e = .returned (.agg #[.int .u8 3, .int .i64 0, .string ⟨#[]⟩, .bool b]) ∧ (w.alloc (.cells #[.int .u8 3, .int .i64 0, .string ⟨#[]⟩, .bool b] 24)) = w' := by
  go_enter Tryd.func51, Tryd.ntmps51
  go_wp2
  exact bodyPost_ret (v := .agg #[.int .u8 3, .int .i64 0, .string ⟨#[]⟩, .bool b]) (by simp [results, Tryd.results51, go_sem]) rfl ⟨rfl, rfl⟩
theorem three_g (k i : Int) (s : ByteArray) (b : Bool) (w : World) : Calls Tryd.prog 39 #[.agg #[.int .u8 k, .int .i64 i, .string s, .bool b]] w fun e w' => e = .returned (.int .i64 (Lp.three k b)) ∧ Below w.heap.size w w' := by
  have hb0 := ba (Below.refl w.heap.size w) (.cells #[.int .u8 k, .int .i64 i, .string s, .bool b] 24)
  by_cases h0 : k = 0
  · subst h0
    have hb0 := ba (Below.refl w.heap.size w) (.cells #[.int .u8 0, .int .i64 i, .string s, .bool b] 24)
    go_enter Tryd.func39, Tryd.ntmps39
    go_wp2
    go_ret
    exact ⟨rfl, hb0⟩
  · by_cases h3 : k = 3
    · subst h3
      cases b
      · have e : Lp.three 3 false = 0 := rfl
        rw [e]; clear e
        go_enter Tryd.func39, Tryd.ntmps39
        go_wp2
        go_ret
        exact ⟨rfl, hb0⟩
      · have e : Lp.three 3 true = 2 := rfl
        rw [e]; clear e
        go_enter Tryd.func39, Tryd.ntmps39
        go_wp2
        go_ret
        exact ⟨rfl, hb0⟩
    · have e : Lp.three k b = -1 := by unfold Lp.three; rw [if_neg h0, if_neg h3]
      rw [e]; clear e
      have e1 : (k == 0) = false := by simpa using h0
      have e2 : (k != 3) = true := by simpa using h3
      go_enter Tryd.func39, Tryd.ntmps39
      go_wp2
      go_ret
      exact ⟨rfl, hb0⟩
theorem back_g (n : Int) (w : World) : Calls Tryd.prog 40 #[.int .i64 n] w fun e w' => e = .returned (.agg #[.int .u8 (Lp.bkK n), .int .i64 0, .string ⟨#[]⟩, .bool (Lp.bkB n)]) ∧ Below w.heap.size w w' := by
  by_cases h1 : n = 1
  · subst h1
    go_enter Tryd.func40, Tryd.ntmps40
    go_wp2
    exact bodyPost_ret (v := .agg #[.int .u8 0, .int .i64 0, .string ⟨#[]⟩, .bool false]) (by simp [results, Tryd.results40, go_sem]) rfl ⟨rfl, ba (Below.refl _ _) _⟩
  · have e1 : (n == 1) = false := by simpa using h1
    have k1 : Lp.bkK n = 3 := if_neg h1
    have k2 : Lp.bkB n = (n == 2) := if_neg h1
    rw [k1, k2]
    clear k1 k2 h1
    go_enter Tryd.func40, Tryd.ntmps40
    go_wp2_with (go_at_call 51; refine (truth2_any _ _).mono ?_; rintro e w' ⟨rfl, rfl⟩)
    exact bodyPost_ret (v := .agg #[.int .u8 3, .int .i64 0, .string ⟨#[]⟩, .bool (n == 2)]) (by simp [results, Tryd.results40, go_sem]) rfl ⟨rfl, ba (ba (Below.refl _ _) _) _⟩
theorem TwoBox.set4 {g : Nat} {k i : Int} {s : ByteArray} {b : Bool} {k' i' : Int} {s' : ByteArray} {b' : Bool} {w : World} (h : TwoBox g k i s b k' i' s' b' w) {g' : Nat} (h1 : g' ≠ g) (h2 : g' ≠ g + 1) (u0 u1 u2 u3 : Value) :
    TwoBox g k i s b k' i' s' b' ((((w.setCell ⟨g', 0, none⟩ u0).setCell ⟨g', 1, none⟩ u1).setCell ⟨g', 2, none⟩ u2).setCell ⟨g', 3, none⟩ u3) := by
  have e : ∀ (W : World) (j o gg : Nat) (u : Value), g' ≠ gg → (W.setCell ⟨g', j, none⟩ u).cell? ⟨gg, o, none⟩ = W.cell? ⟨gg, o, none⟩ := by
    intro W j o gg u hne
    exact World.cell?_setCell_other _ _ _ _ (by intro q; injection q with q1; exact hne q1)
  unfold TwoBox at *
  simp only [e _ _ _ _ _ h1, e _ _ _ _ _ h2]
  exact h
theorem set4_same {w : World} {g : Nat} {t : TypeId} {a0 a1 a2 a3 : Value} (h : w.heap[g]? = some (.cells #[a0, a1, a2, a3] t (0, 0))) (u0 u1 u2 u3 : Value) :
    ((((w.setCell ⟨g, 0, none⟩ u0).setCell ⟨g, 1, none⟩ u1).setCell ⟨g, 2, none⟩ u2).setCell ⟨g, 3, none⟩ u3).heap[g]? = some (.cells #[u0, u1, u2, u3] t (0, 0)) := by
  simp [World.setCell, Array.getElem?_modify, h]
theorem below_set4 {w w1 : World} (h : Below w.heap.size w w1) {g : Nat} (hg : w.heap.size ≤ g) (u0 u1 u2 u3 : Value) : Below w.heap.size w ((((w1.setCell ⟨g, 0, none⟩ u0).setCell ⟨g, 1, none⟩ u1).setCell ⟨g, 2, none⟩ u2).setCell ⟨g, 3, none⟩ u3) :=
  (((h.setCell (p := ⟨g, 0, none⟩) hg u0).setCell (p := ⟨g, 1, none⟩) hg u1).setCell (p := ⟨g, 2, none⟩) hg u2).setCell (p := ⟨g, 3, none⟩) hg u3
def Lp.andK (k : Int) (b : Bool) (k' : Int) (b' : Bool) : Int := min (Lp.three k b) (Lp.three k' b')
def Lp.orK (k : Int) (b : Bool) (k' : Int) (b' : Bool) : Int := max (Lp.three k b) (Lp.three k' b')
def Lp.bad2 (k : Int) (b : Bool) (k' : Int) (b' : Bool) : Bool := decide (Lp.three k b < 0) || decide (Lp.three k' b' < 0)
def TruthPost (bad : Bool) (n : Int) (w : World) (e : Ending) (w' : World) : Prop :=
  e = .returned (.tuple #[.agg #[.int .u8 (if bad then 0 else Lp.bkK n), .int .i64 0, .string ⟨#[]⟩, .bool (if bad then false else Lp.bkB n)], .int .i64 (if bad then 8 else 0)]) ∧ Below w.heap.size w w'
theorem truth_bad {bad : Bool} {n : Int} {w w' : World} (h : bad = true) (hb : Below w.heap.size w w') : TruthPost bad n w (.returned (.tuple #[.agg #[.int .u8 0, .int .i64 0, .string ⟨#[]⟩, .bool false], .int .i64 8])) w' := by
  subst h; exact ⟨rfl, hb⟩
theorem truth_good {bad : Bool} {n m : Int} {w w' : World} (h : bad = false) (hn : n = m) (hb : Below w.heap.size w w') : TruthPost bad n w (.returned (.tuple #[.agg #[.int .u8 (Lp.bkK m), .int .i64 0, .string ⟨#[]⟩, .bool (Lp.bkB m)], .int .i64 0])) w' := by
  subst h hn; exact ⟨rfl, hb⟩
end Go.Proofs.YthojikijelijnaaDoor
