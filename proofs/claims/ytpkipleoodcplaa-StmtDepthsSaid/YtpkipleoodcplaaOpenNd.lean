/-
  How the nodes of an expression that came in read. No conditions.
-/
import Derived.Test.YtpkipleoodcplaaPair5
import Derived.ProofKit
import Derived.OpenShut
import Derived.ShutString
import Derived.ChangeOld
import Derived.ChangeArms
import Derived.ChangeSame
import Derived.Below
import Derived.WideShapes
import Derived.Deep.Slices
import Derived.Deep.Fields
namespace Go.Proofs.Ytpkipleoodcplaa
open Go.ChangeShapes Go.WideShapes Go.ChangeAt Go.RowKit Go.Deep
open Go.ChangeMaps (open_string shut_string)

theorem nd_add (b off j : Nat) : (⟨b, off, none⟩ : Addr).add j = ⟨b, off + j, none⟩ := by unfold Addr.add; split <;> simp_all
theorem flat_len {E : Type} {n : Nat} {f : E → List Value} (hf : ∀ e, (f e).length = n) : ∀ l : List E, (l.flatMap f).length = l.length * n
  | [] => by simp
  | e :: l => by rw [List.flatMap_cons, List.length_append, hf, flat_len hf l, List.length_cons, Nat.succ_mul, Nat.add_comm]
theorem flat_at {E : Type} {n : Nat} {f : E → List Value} (hf : ∀ e, (f e).length = n) : ∀ (l : List E) (i j : Nat) (hi : i < l.length), j < n → (l.flatMap f)[i * n + j]? = (f l[i])[j]?
  | [], i, j, hi, _ => by simp at hi
  | e :: l, 0, j, _, hj => by
    rw [List.flatMap_cons, Nat.zero_mul, Nat.zero_add, List.getElem?_append_left (by rw [hf]; exact hj)]
    rfl
  | e :: l, i + 1, j, hi, hj => by
    have h := flat_at hf l i j (by simpa using hi) hj
    rw [List.flatMap_cons, List.getElem?_append_right (by rw [hf, Nat.succ_mul]; omega), hf, show (i + 1) * n + j - n = i * n + j by rw [Nat.succ_mul]; omega, h]
    rfl
/-- Records one behind the other, each found in its place. -/
theorem recs_of {E : Type} {n : Nat} {f : E → List Value} (hf : ∀ e, (f e).length = n) (hn : 0 < n) (hne : ∀ e, ∃ v, (f e)[0]? = some v) {P : E → Prop} {W : World} {a : Addr} {len : Nat}
    (hv : ∀ i, i < len → ∃ u : E, P u ∧ ∀ j, j < n → W.cell? ((a.add (i * n)).add j) = (f u)[j]?) : ∃ l : List E, l.length = len ∧ Rds W (some a) (l.flatMap f) ∧ ∀ u ∈ l, P u := by
  let g : Fin len → E := fun i => Classical.choose (hv i.1 i.2)
  have hg : ∀ i : Fin len, P (g i) ∧ ∀ j, j < n → W.cell? ((a.add (i.1 * n)).add j) = (f (g i))[j]? := fun i => Classical.choose_spec (hv i.1 i.2)
  have hlen : (List.ofFn g).length = len := List.length_ofFn
  refine ⟨List.ofFn g, hlen, ?_, ?_⟩
  · rcases Nat.eq_zero_or_pos len with h0 | h0
    · left
      have : ((List.ofFn g).flatMap f).length = 0 := by rw [flat_len hf, hlen, h0, Nat.zero_mul]
      exact List.eq_nil_of_length_eq_zero this
    · have hz := (hg ⟨0, h0⟩).2 0 hn
      obtain ⟨b, off, spot⟩ := a
      have hspot : spot = none := by
        obtain ⟨v, hv0⟩ := hne (g ⟨0, h0⟩)
        have hz' : W.cell? ⟨b, off, spot⟩ = some v := by rw [← hv0, ← hz]; simp [Addr.add]
        simpa using World.cell?_spot hz'
      subst hspot
      refine .inr ⟨b, off, rfl, fun q u hu => ?_⟩
      have hq : q < ((List.ofFn g).flatMap f).length := (List.getElem?_eq_some_iff.1 hu).1
      rw [flat_len hf, hlen] at hq
      have hi2 : q / n < len := Nat.div_lt_of_lt_mul (by rw [Nat.mul_comm]; exact hq)
      have hq2 : q = (q / n) * n + q % n := by rw [Nat.mul_comm]; exact (Nat.div_add_mod q n).symm
      have hat := (hg ⟨q / n, hi2⟩).2 (q % n) (Nat.mod_lt _ hn)
      have e : ((⟨b, off, none⟩ : Addr).add (q / n * n)).add (q % n) = ⟨b, off + q, none⟩ := by
        rw [Go.Deep.add_add, ← hq2]; exact nd_add b off q
      rw [e] at hat
      have h2 := flat_at hf (List.ofFn g) (q / n) (q % n) (by rw [hlen]; exact hi2) (Nat.mod_lt _ hn)
      rw [← hq2, hu, List.getElem_ofFn] at h2
      rw [hat]
      exact h2.symm
  · intro u hu
    obtain ⟨i, rfl⟩ := (List.mem_ofFn).1 hu
    exact (hg i).1
theorem strSize5 : Try.prog.cellsOf 9 = 1 := by kernel_rfl
theorem kindSize5 : Try.prog.cellsOf 28 = 1 := by kernel_rfl
theorem i64Size5 : Try.prog.cellsOf 2 = 1 := by kernel_rfl
theorem u8Size5 : Try.prog.cellsOf 5 = 1 := by kernel_rfl
theorem boolSize5 : Try.prog.cellsOf 4 = 1 := by kernel_rfl
theorem valSize5 : Try.prog.cellsOf 30 = 4 := by kernel_rfl
theorem nodeSize5 : Try.prog.cellsOf 59 = 7 := by kernel_rfl
section
variable {H : Type} {enc : TypeId × Value → H} {W : World} {base : Nat} {spare : Nat → Bool} {held : Bool}
set_option maxRecDepth 100000 in
theorem val5_of_cells {fuel : Nat} {cs : List Value} {x : DataW H × List MemPlace} (hlen : cs.length = 4) (h : DataW.trod enc Try.prog W base spare held fuel 30 cs = some x) : ∃ (k i : Int) (s : ByteArray) (b : Bool), cs = [.int .u8 k, .int .i64 i, .string s, .bool b] ∧ s.size ≤ 9223372036854775807 := by
  match cs, hlen with
  | [c0, c1, c2, c3], _ =>
    obtain ⟨ys, n', hn', hy, hl2, hyl, hf⟩ := DataW.trod_struct Try.underlying30 h
    have h0 := hf 0 _ rfl
    have h1 := hf 1 _ rfl
    have h2 := hf 2 _ rfl
    have h3 := hf 3 _ rfl
    simp [i64Size5, strSize5, boolSize5, kindSize5] at h0 h1 h2 h3
    match ys, hyl with
    | [y0, y1, y2, y3], _ =>
      try simp at h0 h1 h2 h3
      obtain ⟨k, ek, _, wk⟩ := DataW.trod_int Try.underlying28 h0
      obtain ⟨i, ei, _, wi⟩ := DataW.trod_int Try.underlying2 h1
      obtain ⟨s, es, _, ws⟩ := DataW.trod_string Try.underlying9 h2
      obtain ⟨b, eb, _⟩ := DataW.trod_bool Try.underlying4 h3
      simp only [List.cons.injEq, and_true] at ek ei es eb
      subst ek ei es eb
      refine ⟨k, i, s, b, rfl, ?_⟩
      unfold maxLen at ws; omega
set_option maxRecDepth 100000 in
/-- A node's cells. -/
theorem nd_of_cells {fuel : Nat} {cs : List Value} {x : DataW H × List MemPlace} (hlen : cs.length = 7) (h : DataW.trod enc Try.prog W base spare held fuel 59 cs = some x) : ∃ u : Nd, cs = u.cells ∧ u.ok := by
  match cs, hlen with
  | [c0, c1, c2, c3, c4, c5, c6], _ =>
    obtain ⟨ys, n', hn', hy, hl2, hyl, hf⟩ := DataW.trod_struct Try.underlying59 h
    have h0 := hf 0 _ rfl
    have h1 := hf 1 _ rfl
    have h2 := hf 2 _ rfl
    have h3 := hf 3 _ rfl
    simp [u8Size5, valSize5, strSize5] at h0 h1 h2 h3
    match ys, hyl with
    | [y0, y1, y2, y3], _ =>
      try simp at h0 h1 h2 h3
      obtain ⟨d, ed, _, wd⟩ := DataW.trod_int Try.underlying5 h0
      obtain ⟨k, i, s, b, ev, ws⟩ := val5_of_cells rfl h1
      obtain ⟨S, eS, _, wS⟩ := DataW.trod_string Try.underlying9 h2
      obtain ⟨T, eT, _, wT⟩ := DataW.trod_string Try.underlying9 h3
      simp only [List.cons.injEq, and_true] at ed ev eS eT
      obtain ⟨rfl, rfl, rfl, rfl⟩ := ev
      subst ed eS eT
      simp [Lit.wf, IntKind.min, IntKind.max, IntKind.bits, IntKind.signed] at wd wS wT
      refine ⟨⟨d.toNat, k, i, s, b, S, T⟩, ?_, ?_, ws, ?_, ?_⟩
      · simp only [Nd.cells, Int.toNat_of_nonneg wd.1]
      · show d.toNat < 256; omega
      · unfold maxLen at wS; simp only; omega
      · unfold maxLen at wT; simp only; omega
set_option maxRecDepth 100000 in
theorem nodes_of_trod {fuel : Nat} {cs : List Value} {x : DataW H × List MemPlace} (h : DataW.trod enc Try.prog W base spare held fuel 22 cs = some x) :
    ∃ (A : Option Addr) (c : Nat) (l : List Nd), cs = [.slice A l.length c] ∧ RdsN W A l ∧ l.length ≤ 9223372036854775807 := by
  rcases open_slice Try.underlying22 h with ⟨hcs, _⟩ | ⟨a, len, cap, m, n, D, Pl, hcs, _, hl, hcap, hm, _, hi⟩
  · exact ⟨none, 0, [], hcs, ⟨Rds.nil_, fun _ h => by cases h⟩, Nat.zero_le _⟩
  · have hlm : len ≤ m := by rw [hm]; split <;> omega
    obtain ⟨l, h1, h2, h3⟩ := recs_of (f := Nd.cells) (n := 7) (P := Nd.ok) (W := W) (a := a) (len := len) (fun _ => rfl) (by omega) (fun e => ⟨_, rfl⟩) (fun i hlt => by
      obtain ⟨cs', hc, ht⟩ := hi i (by omega)
      rw [nodeSize5] at hc
      obtain ⟨_, hcl, hat⟩ := World.cells?_some hc
      obtain ⟨u, hu, hok⟩ := nd_of_cells hcl ht
      exact ⟨u, hok, fun j hj => by rw [← hu]; exact hat j hj⟩)
    exact ⟨some a, cap, l, by rw [h1]; exact hcs, ⟨h2, h3⟩, by rw [h1]; unfold maxLen at hcap; omega⟩
end
set_option maxRecDepth 100000 in
/-- A list of nodes that came in. -/
theorem open_nodes {H : Type} {enc : TypeId × Value → H} {W : World} {base : Nat} {v : Value} {d : DataW H} {p : List MemPlace} {r : Reach}
    (hv : Value.okWide Try.prog W r base 22 v) (h : DataW.Trod enc Try.prog W 0 (fun _ => true) true 22 v d p) :
    ∃ (A : Option Addr) (c : Nat) (l : List Nd), v = .slice A l.length c ∧ RdsN W A l ∧ l.length ≤ 9223372036854775807 := by
  obtain ⟨a0, len0, cap0, rfl⟩ := okWide_slice Try.underlying22 hv
  obtain ⟨fuel, hf⟩ := h
  obtain ⟨A, c, R, hcs, h1, h2⟩ := nodes_of_trod hf
  simp [Value.cells] at hcs
  obtain ⟨rfl, rfl, rfl⟩ := hcs
  exact ⟨_, _, R, rfl, h1, h2⟩
end Go.Proofs.Ytpkipleoodcplaa
