/-
  How values and rows of values that came in read. No conditions.
-/
import Derived.Test.YthdnphnipfpdkaaDoorOpen
import Derived.Test.YthdnphnipfpdkaaDoorKeyBytes
import Derived.Deep.Slices
import Derived.Deep.Fields
import Derived.ChangeSame
namespace Go.Proofs.YthdnphnipfpdkaaDoor
open Go.ChangeShapes Go.WideShapes Go.ChangeAt Go.RowKit Go.Deep
open Go.ChangeMaps (open_string shut_string)

theorem addr_add (b off j : Nat) : (⟨b, off, none⟩ : Addr).add j = ⟨b, off + j, none⟩ := by unfold Addr.add; split <;> simp_all
theorem valSize : Tryd.prog.cellsOf 36 = 4 := by kernel_rfl
theorem kindU8 : Tryd.prog.underlying 34 = some (.int .u8) := Tryd.underlying34

section
variable {H : Type} {enc : TypeId × Value → H} {W : World} {base : Nat} {spare : Nat → Bool} {held : Bool}
/-- A value's cells. -/
theorem val_of_cells {fuel : Nat} {cs : List Value} {x : DataW H × List MemPlace} (hlen : cs.length = 4) (h : DataW.trod enc Tryd.prog W base spare held fuel 36 cs = some x) : ∃ u : Lp.V, cs = u.cells ∧ u.ok := by
  match cs, hlen with
  | [c0, c1, c2, c3], _ =>
    obtain ⟨ys, n', hn', hy, hl2, hyl, hf⟩ := DataW.trod_struct Tryd.underlying36 h
    have h0 := hf 0 _ rfl
    have h1 := hf 1 _ rfl
    have h2 := hf 2 _ rfl
    have h3 := hf 3 _ rfl
    have e1 : Tryd.prog.cellsOf 2 = 1 := by kernel_rfl
    have e2 : Tryd.prog.cellsOf 9 = 1 := by kernel_rfl
    have e3 : Tryd.prog.cellsOf 4 = 1 := by kernel_rfl
    have e4 : Tryd.prog.cellsOf 34 = 1 := by kernel_rfl
    simp [e1, e2, e3, e4] at h0 h1 h2 h3
    match ys, hyl with
    | [y0, y1, y2, y3], _ =>
      simp at h0 h1 h2 h3
      obtain ⟨k, ek, _, wk⟩ := DataW.trod_int Tryd.underlying34 h0
      obtain ⟨i, ei, _, wi⟩ := DataW.trod_int Tryd.underlying2 h1
      obtain ⟨s, es, _, ws⟩ := DataW.trod_string Tryd.underlying9 h2
      obtain ⟨b, eb, _⟩ := DataW.trod_bool Tryd.underlying4 h3
      simp only [List.cons.injEq, and_true] at ek ei es eb
      subst ek ei es eb
      simp [Lit.wf, IntKind.min, IntKind.max, IntKind.bits, IntKind.signed] at wk wi
      refine ⟨⟨k, i, s, b⟩, rfl, ?_, ?_, ?_, ?_⟩
      · unfold maxLen at ws; simp only; omega
      · simp only [Lp.inR]; omega
      · exact wk.1
      · exact wk.2

/-- A row of values, however it is reached. -/
theorem vals_of_trod {fuel : Nat} {cs : List Value} {x : DataW H × List MemPlace} (h : DataW.trod enc Tryd.prog W base spare held fuel 28 cs = some x) :
    ∃ (A : Option Addr) (c : Nat) (l : List Lp.V), cs = [.slice A l.length c] ∧ RdsV W A l ∧ l.length ≤ c ∧ ∀ u ∈ l, u.ok := by
  rcases open_slice Tryd.underlying28 h with ⟨hcs, _⟩ | ⟨a, len, cap, m, n, D, Pl, hcs, _, hl, _, hm, _, hi⟩
  · exact ⟨none, 0, [], hcs, Rds.nil_, Nat.le_refl _, fun _ h => by cases h⟩
  · have hlm : len ≤ m := by rw [hm]; split <;> omega
    have hv : ∀ i : Fin len, ∃ u : Lp.V, u.ok ∧ ∀ j, j < 4 → W.cell? ((a.add (i.1 * 4)).add j) = u.cells[j]? := by
      intro i
      obtain ⟨cs', hc, ht⟩ := hi i.1 (by omega)
      rw [valSize] at hc
      obtain ⟨_, hcl, hat⟩ := World.cells?_some hc
      obtain ⟨u, hu, hok⟩ := val_of_cells hcl ht
      exact ⟨u, hok, fun j hj => by rw [← hu]; exact hat j hj⟩
    let f : Fin len → Lp.V := fun i => Classical.choose (hv i)
    have hf : ∀ i, (f i).ok ∧ ∀ j, j < 4 → W.cell? ((a.add (i.1 * 4)).add j) = (f i).cells[j]? := fun i => Classical.choose_spec (hv i)
    have hlen : (List.ofFn f).length = len := List.length_ofFn
    refine ⟨some a, cap, List.ofFn f, by rw [hlen]; exact hcs, ?_, by rw [hlen]; exact hl, ?_⟩
    · rcases Nat.eq_zero_or_pos len with h0 | h0
      · left
        have : (Lp.vv (List.ofFn f)).length = 0 := by rw [Lp.vv_length, hlen, h0]
        exact List.eq_nil_of_length_eq_zero this
      · have hz := (hf ⟨0, h0⟩).2 0 (by omega)
        obtain ⟨b, off, spot⟩ := a
        have hspot : spot = none := by
          have hz' : W.cell? ⟨b, off, spot⟩ = (f ⟨0, h0⟩).cells[0]? := by simpa [Addr.add] using hz
          have hs : (f ⟨0, h0⟩).cells[0]? = some (.int .u8 (f ⟨0, h0⟩).k) := rfl
          rw [hs] at hz'
          simpa using World.cell?_spot hz'
        subst hspot
        refine .inr ⟨b, off, rfl, fun q u hu => ?_⟩
        have hq : q < (Lp.vv (List.ofFn f)).length := (List.getElem?_eq_some_iff.1 hu).1
        rw [Lp.vv_length, hlen] at hq
        have hi2 : q / 4 < len := by omega
        have hq2 : q = (q / 4) * 4 + q % 4 := by omega
        have hat := (hf ⟨q / 4, hi2⟩).2 (q % 4) (Nat.mod_lt _ (by omega))
        have e : ((⟨b, off, none⟩ : Addr).add (q / 4 * 4)).add (q % 4) = ⟨b, off + q, none⟩ := by
          rw [Go.Deep.add_add, ← hq2]; exact addr_add b off q
        rw [e] at hat
        rw [hat]
        have hv2 := Lp.vv_at (l := List.ofFn f) (i := q / 4) (j := q % 4) (by rw [hlen]; exact hi2) (Nat.mod_lt _ (by omega))
        rw [← hq2, hu, List.getElem_ofFn] at hv2
        exact hv2.symm
    · intro u hu
      obtain ⟨i, rfl⟩ := (List.mem_ofFn).1 hu
      exact (hf i).1
end

/-- A slice of values that came in. -/
theorem open_vals {H : Type} {enc : TypeId × Value → H} {W : World} {base : Nat} {v : Value} {d : DataW H} {p : List MemPlace} {r : Reach}
    (hv : Value.okWide Tryd.prog W r base 28 v) (h : DataW.Trod enc Tryd.prog W 0 (fun _ => true) true 28 v d p) :
    ∃ (A : Option Addr) (c : Nat) (l : List Lp.V), v = .slice A l.length c ∧ RdsV W A l ∧ l.length ≤ c ∧ ∀ u ∈ l, u.ok := by
  obtain ⟨a0, len0, cap0, rfl⟩ := okWide_slice Tryd.underlying28 hv
  obtain ⟨fuel, hf⟩ := h
  obtain ⟨A, c, l, hcs, h1, h2, h3⟩ := vals_of_trod hf
  simp [Value.cells] at hcs
  obtain ⟨rfl, rfl, rfl⟩ := hcs
  exact ⟨_, _, l, rfl, h1, h2, h3⟩

/-- A value that came in. -/
theorem open_val {H : Type} {enc : TypeId × Value → H} {W : World} {base : Nat} {v : Value} {d : DataW H} {p : List MemPlace} {r : Reach}
    (hv : Value.okWide Tryd.prog W r base 36 v) (h : DataW.Trod enc Tryd.prog W 0 (fun _ => true) true 36 v d p) :
    ∃ u : Lp.V, v = .agg #[.int .u8 u.k, .int .i64 u.i, .string u.s, .bool u.b] ∧ u.ok := by
  obtain ⟨cs, rfl, hsz⟩ := okWide_struct Tryd.underlying36 hv
  obtain ⟨fuel, hf⟩ := h
  obtain ⟨u, hu, hok⟩ := val_of_cells (cs := cs.toList) (by simpa using hsz.trans valSize) (by simpa [Value.cells] using hf)
  refine ⟨u, ?_, hok⟩
  have : cs = u.cells.toArray := by rw [← hu]
  rw [this]; rfl
end Go.Proofs.YthdnphnipfpdkaaDoor
