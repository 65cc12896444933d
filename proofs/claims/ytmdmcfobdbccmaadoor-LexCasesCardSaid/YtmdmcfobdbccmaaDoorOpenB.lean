/-
  How a slice of truth values that came in reads. No conditions.
-/
import Derived.Test.YtmdmcfobdbccmaaDoorOpen
import Derived.Test.YtmdmcfobdbccmaaDoorWalkLexCases
import Derived.Deep.Grids
namespace Go.Proofs.YtmdmcfobdbccmaaDoor
open Go.ChangeShapes Go.WideShapes Go.ChangeAt Go.RowKit Go.Lib Go.Shelf Go.Deep
open Go.ChangeMaps (open_string shut_string)

set_option maxRecDepth 100000 in
/-- A slice of truth values that came in. -/
theorem open_bits {H : Type} {enc : TypeId × Value → H} {W : World} {base : Nat} {v : Value} {d : DataW H} {p : List MemPlace} {r : Reach}
    (hv : Value.okWide Tryd.prog W r base 39 v) (h : DataW.Trod enc Tryd.prog W 0 (fun _ => true) true 39 v d p) :
    ∃ (A : Option Addr) (c : Nat) (l : List Bool), v = .slice A l.length c ∧ Rds W A (bov l) ∧ l.length ≤ 9223372036854775807 := by
  obtain ⟨a0, len0, cap0, rfl⟩ := okWide_slice Tryd.underlying39 hv
  obtain ⟨fuel, hf⟩ := h
  rcases open_bools Tryd.underlying39 Tryd.underlying4 (by kernel_rfl) hf with ⟨hcs, _⟩ | ⟨x, l, c, B, hcs, _, hl, hm, _, hcell⟩
  · simp [Value.cells] at hcs
    obtain ⟨rfl, rfl, rfl⟩ := hcs
    exact ⟨none, 0, [], rfl, Rds.nil_, by simp⟩
  · simp [Value.cells] at hcs
    obtain ⟨rfl, rfl, rfl⟩ := hcs
    have hlen : ((List.range len0).map B).length = len0 := by simp
    refine ⟨some x, cap0, (List.range len0).map B, by rw [hlen], ?_, by rw [hlen]; unfold maxLen at hm; omega⟩
    rcases Nat.eq_zero_or_pos len0 with h0 | h0
    · left; subst h0; rfl
    · have h1 := hcell 0 (by omega)
      obtain ⟨b, off, spot⟩ := x
      have hspot : spot = none := by simpa [Addr.add] using World.cell?_spot h1
      subst hspot
      refine .inr ⟨b, off, rfl, fun j u hu => ?_⟩
      have hj : j < len0 := by
        have := (List.getElem?_eq_some_iff.1 hu).1
        simpa [bov] using this
      have hc := hcell j (by omega)
      have e : (⟨b, off, none⟩ : Addr).add j = ⟨b, off + j, none⟩ := by unfold Addr.add; split <;> simp_all
      rw [e] at hc
      rw [hc]
      simp only [bov, List.map_map, List.getElem?_map, List.getElem?_range hj, Option.map_some, Option.some.injEq] at hu
      rw [← hu]; rfl
end Go.Proofs.YtmdmcfobdbccmaaDoor
