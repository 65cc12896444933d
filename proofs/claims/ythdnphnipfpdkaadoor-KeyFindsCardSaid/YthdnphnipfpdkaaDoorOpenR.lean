/-
  How a list of rows of values that came in reads. No conditions.
-/
import Derived.Test.YthdnphnipfpdkaaDoorOpenV
namespace Go.Proofs.YthdnphnipfpdkaaDoor
open Go.ChangeShapes Go.WideShapes Go.ChangeAt Go.RowKit Go.Deep
open Go.ChangeMaps (open_string shut_string)

/-- A row: where it lies, its room, its values. -/
abbrev RowV := Option Addr × Nat × List Lp.V
def RowV.val (x : RowV) : Value := .slice x.1 x.2.2.length x.2.1
def RdsR (w : World) (A : Option Addr) (R : List RowV) : Prop := Rds w A (R.map RowV.val) ∧ ∀ x ∈ R, RdsV w x.1 x.2.2 ∧ x.2.2.length ≤ x.2.1 ∧ ∀ u ∈ x.2.2, u.ok
theorem RdsR.below {w w' : World} {A : Option Addr} {R : List RowV} (h : RdsR w A R) (hb : Below w.heap.size w w') : RdsR w' A R :=
  ⟨h.1.below hb, fun x hx => ⟨(h.2 x hx).1.below hb, (h.2 x hx).2⟩⟩
theorem rowsSize : Tryd.prog.cellsOf 28 = 1 := by kernel_rfl

section
variable {H : Type} {enc : TypeId × Value → H} {W : World} {base : Nat} {spare : Nat → Bool} {held : Bool}
theorem rows_of_trod {fuel : Nat} {cs : List Value} {x : DataW H × List MemPlace} (h : DataW.trod enc Tryd.prog W base spare held fuel 37 cs = some x) :
    ∃ (A : Option Addr) (c : Nat) (R : List RowV), cs = [.slice A R.length c] ∧ RdsR W A R ∧ R.length ≤ c := by
  rcases open_slice Tryd.underlying37 h with ⟨hcs, _⟩ | ⟨a, len, cap, m, n, D, Pl, hcs, _, hl, _, hm, _, hi⟩
  · exact ⟨none, 0, [], hcs, ⟨Rds.nil_, fun _ h => by cases h⟩, Nat.le_refl _⟩
  · have hlm : len ≤ m := by rw [hm]; split <;> omega
    have hv : ∀ i : Fin len, ∃ u : RowV, (RdsV W u.1 u.2.2 ∧ u.2.2.length ≤ u.2.1 ∧ ∀ v ∈ u.2.2, v.ok) ∧ W.cell? (a.add i.1) = some u.val := by
      intro i
      obtain ⟨cs', hc, ht⟩ := hi i.1 (by omega)
      rw [rowsSize] at hc
      obtain ⟨_, hcl, hat⟩ := World.cells?_some hc
      obtain ⟨A', c', l', he, h1, h2, h3⟩ := vals_of_trod ht
      refine ⟨(A', c', l'), ⟨h1, h2, h3⟩, ?_⟩
      have := hat 0 (by omega)
      rw [he, Nat.mul_one] at this
      have e0 : (a.add i.1).add 0 = a.add i.1 := rfl
      rw [e0] at this
      exact this
    let f : Fin len → RowV := fun i => Classical.choose (hv i)
    have hf : ∀ i, (RdsV W (f i).1 (f i).2.2 ∧ (f i).2.2.length ≤ (f i).2.1 ∧ ∀ v ∈ (f i).2.2, v.ok) ∧ W.cell? (a.add i.1) = some (f i).val := fun i => Classical.choose_spec (hv i)
    have hlen : (List.ofFn f).length = len := List.length_ofFn
    refine ⟨some a, cap, List.ofFn f, by rw [hlen]; exact hcs, ⟨?_, ?_⟩, by rw [hlen]; exact hl⟩
    · rcases Nat.eq_zero_or_pos len with h0 | h0
      · left
        have : ((List.ofFn f).map RowV.val).length = 0 := by rw [List.length_map, hlen, h0]
        exact List.eq_nil_of_length_eq_zero this
      · have hz := (hf ⟨0, h0⟩).2
        obtain ⟨b, off, spot⟩ := a
        have hspot : spot = none := by
          have hz' : W.cell? ⟨b, off, spot⟩ = some (f ⟨0, h0⟩).val := by simpa [Addr.add] using hz
          simpa using World.cell?_spot hz'
        subst hspot
        refine .inr ⟨b, off, rfl, fun q u hu => ?_⟩
        have hq : q < ((List.ofFn f).map RowV.val).length := (List.getElem?_eq_some_iff.1 hu).1
        rw [List.length_map, hlen] at hq
        have hat := (hf ⟨q, hq⟩).2
        rw [addr_add] at hat
        simp only at hat
        rw [hat, ← hu, List.getElem?_map, List.getElem?_eq_getElem (by rw [hlen]; exact hq), List.getElem_ofFn]
        rfl
    · intro u hu
      obtain ⟨i, rfl⟩ := (List.mem_ofFn).1 hu
      exact (hf i).1
end

/-- A list of rows that came in. -/
theorem open_rows {H : Type} {enc : TypeId × Value → H} {W : World} {base : Nat} {v : Value} {d : DataW H} {p : List MemPlace} {r : Reach}
    (hv : Value.okWide Tryd.prog W r base 37 v) (h : DataW.Trod enc Tryd.prog W 0 (fun _ => true) true 37 v d p) :
    ∃ (A : Option Addr) (c : Nat) (R : List RowV), v = .slice A R.length c ∧ RdsR W A R ∧ R.length ≤ c := by
  obtain ⟨a0, len0, cap0, rfl⟩ := okWide_slice Tryd.underlying37 hv
  obtain ⟨fuel, hf⟩ := h
  obtain ⟨A, c, R, hcs, h1, h2⟩ := rows_of_trod hf
  simp [Value.cells] at hcs
  obtain ⟨rfl, rfl, rfl⟩ := hcs
  exact ⟨_, _, R, rfl, h1, h2⟩
end Go.Proofs.YthdnphnipfpdkaaDoor
