/-
  How values that came in read; the listed tables; a world for the witness. No conditions.
-/
import Derived.Test.YthojikijelijnaaDoorAwake2
import Derived.ProofKit
import Derived.OpenShut
import Derived.ShutString
import Derived.ChangeOld
import Derived.Lib.LaidIn
import Derived.Lib.LaidU8T
import Derived.Deep.DeepHandedRow
import Derived.Deep.DeepWitnessRowRef
import Derived.Deep.Slices
import Derived.Deep.Fields
import Derived.ChangeSame
namespace Go.Proofs.YthojikijelijnaaDoor
open Go.ChangeShapes Go.WideShapes Go.ChangeAt Go.RowKit Go.Deep Go.Lib Go.Shelf
open Go.ChangeMaps (open_string shut_string)

theorem addr_add (b off j : Nat) : (⟨b, off, none⟩ : Addr).add j = ⟨b, off + j, none⟩ := by unfold Addr.add; split <;> simp_all
theorem valSize : Tryd.prog.cellsOf 24 = 4 := by kernel_rfl
theorem kindU8 : Tryd.prog.underlying 22 = some (.int .u8) := Tryd.underlying22

section
variable {H : Type} {enc : TypeId × Value → H} {W : World} {base : Nat} {spare : Nat → Bool} {held : Bool}
/-- A value's cells. -/
theorem val_of_cells {fuel : Nat} {cs : List Value} {x : DataW H × List MemPlace} (hlen : cs.length = 4) (h : DataW.trod enc Tryd.prog W base spare held fuel 24 cs = some x) : ∃ u : Lp.V, cs = u.cells ∧ u.ok := by
  match cs, hlen with
  | [c0, c1, c2, c3], _ =>
    obtain ⟨ys, n', hn', hy, hl2, hyl, hf⟩ := DataW.trod_struct Tryd.underlying24 h
    have h0 := hf 0 _ rfl
    have h1 := hf 1 _ rfl
    have h2 := hf 2 _ rfl
    have h3 := hf 3 _ rfl
    have e1 : Tryd.prog.cellsOf 2 = 1 := by kernel_rfl
    have e2 : Tryd.prog.cellsOf 9 = 1 := by kernel_rfl
    have e3 : Tryd.prog.cellsOf 4 = 1 := by kernel_rfl
    have e4 : Tryd.prog.cellsOf 22 = 1 := by kernel_rfl
    simp [e1, e2, e3, e4] at h0 h1 h2 h3
    match ys, hyl with
    | [y0, y1, y2, y3], _ =>
      simp at h0 h1 h2 h3
      obtain ⟨k, ek, _, wk⟩ := DataW.trod_int Tryd.underlying22 h0
      obtain ⟨i, ei, _, wi⟩ := DataW.trod_int Tryd.underlying2 h1
      obtain ⟨s, es, _, ws⟩ := DataW.trod_string Tryd.underlying9 h2
      obtain ⟨b, eb, _⟩ := DataW.trod_bool Tryd.underlying4 h3
      simp only [List.cons.injEq, and_true] at ek ei es eb
      subst ek ei es eb
      simp [Lit.wf, IntKind.min, IntKind.max, IntKind.bits, IntKind.signed] at wk wi
      refine ⟨⟨k, i, s, b⟩, rfl, ?_, ?_, ?_, ?_⟩
      · unfold maxLen at ws; simp only; omega
      · simp only [Lp.inR]; omega
      · exact wk.1
      · exact wk.2
end

/-- A value that came in. -/
theorem open_val {H : Type} {enc : TypeId × Value → H} {W : World} {base : Nat} {v : Value} {d : DataW H} {p : List MemPlace} {r : Reach}
    (hv : Value.okWide Tryd.prog W r base 24 v) (h : DataW.Trod enc Tryd.prog W 0 (fun _ => true) true 24 v d p) :
    ∃ u : Lp.V, v = .agg #[.int .u8 u.k, .int .i64 u.i, .string u.s, .bool u.b] ∧ u.ok := by
  obtain ⟨cs, rfl, hsz⟩ := okWide_struct Tryd.underlying24 hv
  obtain ⟨fuel, hf⟩ := h
  obtain ⟨u, hu, hok⟩ := val_of_cells (cs := cs.toList) (by simpa using hsz.trans valSize) (by simpa [Value.cells] using hf)
  refine ⟨u, ?_, hok⟩
  have : cs = u.cells.toArray := by rw [← hu]
  rw [this]; rfl

theorem tabs_of {W : World} (hL : laidMet Tryd.prog Rows.cellLiteralsRow.laid W) (hS : W.ShapedOpen Tryd.prog) : Aw W := by
  have r1 := Lib.laidMet.reads hL (.tail _ (.tail _ (.head _)))
  have r2 := Lib.laidMet.reads hL (.tail _ (.tail _ (.tail _ (.head _))))
  have r3 := Lib.laidMet.reads hL (.tail _ (.tail _ (.tail _ (.tail _ (.head _)))))
  have e1 : (Rows.laid_internal_strconv_uint64pow10 : DataW Unit) = Lib.tabData .u64 Lib.pow10Tab := by kernel_rfl
  have e2 : (Rows.laid_unicode_utf8_acceptRanges : DataW Unit) = Lib.acceptData := by kernel_rfl
  have e3 : Rows.laid_unicode_utf8_first = Lib.firstData := by kernel_rfl
  rw [e1] at r1
  rw [e2] at r2
  rw [e3] at r3
  exact ⟨utf8Tabs_of_readsT (U8Types.of196 Tryd.laysValid) ⟨by kernel_rfl, by kernel_rfl, by kernel_rfl, by kernel_rfl, by kernel_rfl, by kernel_rfl, by kernel_rfl⟩ r3 r2, pow_reads r1, ml_shaped hS⟩
/-- A world for the witness: the settled one, the tables as laid. -/
noncomputable def laidWorld (os : Os) : World :=
  let w0 := World.holding Tryd.prog os ⟨#[], #[], []⟩
  let put (h : Array Obj) (g : Nat) (d : DataW Unit) : Array Obj := h.modify g fun
    | .cells _ t frozen => .cells (cell3 d).toArray t frozen
    | o => o
  let h1 := put w0.heap 4 Rows.laid_math_bits_deBruijn32tab
  let h2 := put h1 5 Rows.laid_math_bits_deBruijn64tab
  let h3 := put h2 3 Rows.laid_internal_strconv_uint64pow10
  let h4 := put h3 1 Rows.laid_unicode_utf8_acceptRanges
  let h5 := put h4 0 Rows.laid_unicode_utf8_first
  { w0 with heap := h5 }
end Go.Proofs.YthojikijelijnaaDoor
