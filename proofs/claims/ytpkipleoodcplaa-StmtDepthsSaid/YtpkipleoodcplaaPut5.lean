/-
  Words for lapidarylaw15.build's last pair, stored in place. No conditions.
-/
import Derived.Test.YtpkipleoodcplaaPair5
namespace Go.Proofs.Ytpkipleoodcplaa
open Go.RowKit

/-- A pair's nine cells stored from an offset on. -/
def put9 (w : World) (g o : Nat) (p : Pr) : World :=
  ((((((((w.setCell ⟨g, o, none⟩ p.v).setCell ⟨g, o + 1, none⟩ (.int .u8 p.r.k)).setCell ⟨g, o + 2, none⟩ (.int .u8 p.r.vk)).setCell ⟨g, o + 3, none⟩ (.int .i64 p.r.vi)).setCell ⟨g, o + 4, none⟩ (.string p.r.vs)).setCell ⟨g, o + 5, none⟩ (.bool p.r.vb)).setCell ⟨g, o + 6, none⟩ (.string p.r.t)).setCell ⟨g, o + 7, none⟩ (.string p.r.s)).setCell ⟨g, o + 8, none⟩ (.slice p.r.A p.r.n p.r.c)
theorem set_past {α : Type} (l m : List α) (n j : Nat) (hn : n = l.length) (u : α) : (l ++ m).set (n + j) u = l ++ m.set j u := by
  subst hn
  rw [List.set_append_right _ _ (by omega)]
  simp
theorem put9_own {w : World} {B g n c : Nat} {L0 : List Pr} {p : Pr} (p' : Pr) (h : w.ownsRow B 35 9 (.slice (some ⟨g, 0, none⟩) n c) n (prv (L0 ++ [p]))) :
    (put9 w g (L0.length * 9) p').ownsRow B 35 9 (.slice (some ⟨g, 0, none⟩) n c) n (prv (L0 ++ [p'])) := by
  have h9 := ((((((((((h.stored (L0.length * 9 + 0) p'.v).1.stored (L0.length * 9 + 1) (.int .u8 p'.r.k)).1.stored (L0.length * 9 + 2) (.int .u8 p'.r.vk)).1.stored (L0.length * 9 + 3) (.int .i64 p'.r.vi)).1.stored (L0.length * 9 + 4) (.string p'.r.vs)).1.stored (L0.length * 9 + 5) (.bool p'.r.vb)).1.stored (L0.length * 9 + 6) (.string p'.r.t)).1.stored (L0.length * 9 + 7) (.string p'.r.s)).1.stored (L0.length * 9 + 8) (.slice p'.r.A p'.r.n p'.r.c)).1)
  have e : (prv [p']) = p'.cells := by simp [prv]
  have e0 : (prv [p]) = p.cells := by simp [prv]
  have hl := (prv_length L0).symm
  rw [prv_append, e0] at h9
  simp only [set_past _ _ _ _ hl] at h9
  rw [prv_append, e]
  simpa only [Pr.cells, RC.cells, List.set_cons_zero, List.set_cons_succ, put9, Nat.add_zero] using h9
theorem put9_below {a w : World} {B g o : Nat} {p : Pr} (h : Below B a w) (hg : B ≤ g) : Below B a (put9 w g o p) :=
  ((((((((h.setCell (p := ⟨g, o, none⟩) hg _).setCell (p := ⟨g, o + 1, none⟩) hg _).setCell (p := ⟨g, o + 2, none⟩) hg _).setCell (p := ⟨g, o + 3, none⟩) hg _).setCell (p := ⟨g, o + 4, none⟩) hg _).setCell (p := ⟨g, o + 5, none⟩) hg _).setCell (p := ⟨g, o + 6, none⟩) hg _).setCell (p := ⟨g, o + 7, none⟩) hg _).setCell (p := ⟨g, o + 8, none⟩) hg _
theorem heap_set_other {w : World} {g o g2 : Nat} {v : Value} (h : g2 ≠ g) : (w.setCell ⟨g, o, none⟩ v).heap[g2]? = w.heap[g2]? := by
  simp [World.setCell, Array.getElem?_modify, Ne.symm h]
theorem put9_far {w : World} {g o g2 : Nat} {p : Pr} (h : g2 ≠ g) : (put9 w g o p).heap[g2]? = w.heap[g2]? := by
  simp only [put9, heap_set_other h]
theorem put9_stays {w : World} {B g n c o : Nat} {xs : List Value} {p : Pr} (h : w.ownsRow B 35 9 (.slice (some ⟨g, 0, none⟩) n c) n xs) : Stays w (put9 w g o p) := by
  intro g2 cs t hg ht _
  have hne : g2 ≠ g := by
    rintro rfl
    exact own_ne h hg (fun e => ht e.symm) rfl
  rw [put9_far hne]
  exact hg
def BuildInv (B : Nat) (k : Nat) (v3 : Value) (wr : World) : Prop :=
  ∃ (L : List Pr) (A : Option Addr) (c : Nat), v3 = .slice A L.length c ∧ wr.ownsRow B 35 9 (.slice A L.length c) L.length (prv L) ∧ (∀ p ∈ L, p.ok wr) ∧ total L ≤ k
theorem BuildInv.below {B k : Nat} {v : Value} {w w' : World} (h : BuildInv B k v w) (hb : Below w.heap.size w w') : BuildInv B k v w' := by
  obtain ⟨L, A, c, h1, h2, h3, h4⟩ := h
  exact ⟨L, A, c, h1, own_under5 h2 hb, prs_keep (stays_below hb) h3, h4⟩
theorem BuildInv.mono {B k k' : Nat} {v : Value} {w : World} (h : BuildInv B k v w) (hk : k ≤ k') : BuildInv B k' v w := by
  obtain ⟨L, A, c, h1, h2, h3, h4⟩ := h
  exact ⟨L, A, c, h1, h2, h3, by omega⟩
def BuildPost (w : World) (e : Ending) (w' : World) : Prop :=
  Below w.heap.size w w' ∧ ∃ v, e = .returned v ∧ BuildInv w.heap.size 60 v w'
def isLit (D k : Nat) : Bool := decide (D < 3) || (decide (5 ≤ D) && decide (k = 0) && decide (D ≠ 13)) || (decide (7 ≤ D) && decide (D ≤ 9) && decide (k < 2))
/-- What a round leaves: one part more. -/
def Round (w : World) (k : Nat) (s3 : Value) (w' : World) : Prop := Below w.heap.size w w' ∧ BuildInv w.heap.size (k + 1) s3 w'
theorem round_app {w wc wd w4 : World} {L : List Pr} {A A4 : Option Addr} {c c4 k : Nat} (p : Pr) (hbw : Below w.heap.size w wc)
    (hown : wc.ownsRow w.heap.size 35 9 (.slice A L.length c) L.length (prv L)) (hok : ∀ q ∈ L, q.ok wc) (htot : total L ≤ k)
    (hbd : Below wc.heap.size wc wd) (hp : p.ok wd) (hps : p.e.size = 1)
    (hown4 : w4.ownsRow w.heap.size 35 9 (.slice A4 (L.length + 1) c4) (L.length + 1) (prv L ++ prv [p])) (hg4 : wd.grownBy w4 (Value.ownBlock (.slice A L.length c))) (hb4 : Below w.heap.size wd w4) :
    Round w k (.slice A4 (L.length + 1) c4) w4 := by
  have hs : Stays wd w4 := stays_grown (own_under5 hown hbd) hg4
  refine ⟨(hbw.trans (hbd.mono hbw.size)).trans hb4, L ++ [p], A4, c4, by simp, ?_, ?_, ?_⟩
  · rw [prv_append, List.length_append]; exact hown4
  · intro q hq
    rcases List.mem_append.1 hq with hq | hq
    · exact Pr.keep ((stays_below hbd).trans hs) (hok q hq)
    · rw [List.mem_singleton] at hq
      subst hq
      exact Pr.keep hs hp
  · rw [total_append, total_one, hps]; omega
theorem isLit_no {D k : Nat} (h : isLit D k = false) : 3 ≤ D ∧ (5 ≤ D → k ≠ 0 ∨ D = 13) ∧ (7 ≤ D → D ≤ 9 → 2 ≤ k) := by
  simp only [isLit, Bool.or_eq_false_iff, Bool.and_eq_false_iff, decide_eq_false_iff_not] at h
  omega
theorem row_room {L : List Pr} {k : Nat} (h1 : L.length ≤ total L) (h2 : total L ≤ k) (h3 : k < 60) : L.length + 1 ≤ 60 := by omega
/-- The last pair of a row of the call's own: where it lies, and what it holds. -/
theorem last_cells {w : World} {B c : Nat} {A : Option Addr} {L0 : List Pr} {p : Pr} (h : w.ownsRow B 35 9 (.slice A (L0 ++ [p]).length c) (L0 ++ [p]).length (prv (L0 ++ [p]))) :
    ∃ g, A = some ⟨g, 0, none⟩ ∧ B ≤ g ∧ g < w.heap.size ∧ (∀ j, w.frozen? ⟨g, j, none⟩ = false) ∧ ∀ j, j < 9 → w.cell? ⟨g, L0.length * 9 + j, none⟩ = p.cells[j]? := by
  obtain ⟨g, cap, hv, _⟩ := h.form (by simp)
  injection hv with hA _ hc
  subst hA
  subst hc
  have hlt := h.lt g rfl
  refine ⟨g, rfl, hlt.1, hlt.2, fun j => h.frozenAt j, fun j hj => ?_⟩
  rw [h.cellAt _ (by simp; omega), prv_append, List.getElem?_append_right (by rw [prv_length]; omega), prv_length, Nat.add_sub_cancel_left]
  simp [prv]
theorem round_put {w wc wd : World} {L0 : List Pr} {p p' : Pr} {g c k : Nat} (hbw : Below w.heap.size w wc)
    (hown : wc.ownsRow w.heap.size 35 9 (.slice (some ⟨g, 0, none⟩) (L0 ++ [p]).length c) (L0 ++ [p]).length (prv (L0 ++ [p]))) (hok : ∀ q ∈ L0 ++ [p], q.ok wc) (htot : total (L0 ++ [p]) ≤ k)
    (hbd : Below wc.heap.size wc wd) (hp : p'.ok wd) (hps : p'.e.size = p.e.size + 1) (hg : w.heap.size ≤ g) :
    Round w k (.slice (some ⟨g, 0, none⟩) (L0 ++ [p]).length c) (put9 wd g (L0.length * 9) p') := by
  have hown2 := own_under5 hown hbd
  have hs : Stays wd (put9 wd g (L0.length * 9) p') := put9_stays hown2
  refine ⟨put9_below (hbw.trans (hbd.mono hbw.size)) hg, L0 ++ [p'], some ⟨g, 0, none⟩, c, by simp, ?_, ?_, ?_⟩
  · have := put9_own p' hown2
    simpa using this
  · intro q hq
    rcases List.mem_append.1 hq with hq | hq
    · exact Pr.keep ((stays_below hbd).trans hs) (hok q (List.mem_append_left _ hq))
    · rw [List.mem_singleton] at hq
      subst hq
      exact Pr.keep hs hp
  · rw [total_append, total_one] at htot ⊢; omega
end Go.Proofs.Ytpkipleoodcplaa
