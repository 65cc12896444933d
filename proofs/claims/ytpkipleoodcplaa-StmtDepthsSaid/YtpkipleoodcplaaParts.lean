/-
  What stmt.parts gives of a tree: its parts. No conditions.
-/
import Derived.Test.YtpkipleoodcplaaTree
import Derived.Test.YtpkipleoodcplaaAssert5
import Derived.BigRegion
namespace Go.Proofs.Ytpkipleoodcplaa
open Go.RowKit
attribute [local go_sem] te_Lit_Unary te_Lit_Binary te_Lit_Is te_Lit_Agg te_Col_Unary te_Col_Binary te_Col_Is te_Col_Agg te_Unary_Unary te_Unary_Binary te_Unary_Is te_Unary_Agg te_Binary_Unary te_Binary_Binary te_Binary_Is te_Binary_Agg te_Is_Unary te_Is_Binary te_Is_Is te_Is_Agg te_Agg_Unary te_Agg_Binary te_Agg_Is te_Agg_Agg

/-- The parts of a tree, in a slice. -/
def PartsPost (w : World) (e : Ex) (en : Ending) (w' : World) : Prop :=
  Below w.heap.size w w' ∧
  match e with
  | .leaf => en = .returned (.slice none 0 0)
  | .one x => ∃ g p, en = .returned (.slice (some ⟨g, 0, none⟩) 1 1) ∧ w'.cell? ⟨g, 0, none⟩ = some p ∧ PT w' x p
  | .two a b => ∃ g p q, en = .returned (.slice (some ⟨g, 0, none⟩) 2 2) ∧ w'.cell? ⟨g, 0, none⟩ = some p ∧ w'.cell? ⟨g, 1, none⟩ = some q ∧ PT w' a p ∧ PT w' b q
set_option maxRecDepth 100000 in
set_option maxHeartbeats 4000000 in
theorem parts_leaf (v : Value) (w : World) (h : PT w .leaf v) : Calls Try.prog 18 #[v] w (PartsPost w .leaf) := by
  rcases h with ⟨g, k, i, s, b, rfl, h2⟩ | ⟨g, t, s, rfl, h2⟩ | ⟨g, s, rfl, h2⟩
  · go_enter Try.func18, Try.ntmps18
    go_wp2
    go_ret
    exact ⟨Below.refl _ _, rfl⟩
  · go_enter Try.func18, Try.ntmps18
    go_wp2
    go_ret
    exact ⟨Below.refl _ _, rfl⟩
  · have hc := box_cells h2
    go_enter Try.func18, Try.ntmps18
    go_wp2
    go_ret
    exact ⟨Below.refl _ _, rfl⟩
set_option maxRecDepth 100000 in
set_option maxHeartbeats 4000000 in
theorem parts_one (x : Ex) (v : Value) (w : World) (h : PT w (.one x) v) : Calls Try.prog 18 #[v] w (PartsPost w (.one x)) := by
  rcases h with ⟨g, s, T, g2, rfl, h2, h3⟩ | ⟨g, b, T, g2, rfl, h2, h3⟩ | ⟨g, s, T, g2, rfl, h2, h3⟩
  · have hc := box_cells h2
    have hb1 : Below w.heap.size w (w.alloc (.cells #[.iface T (.pointer (some ⟨g2, 0, none⟩))] 27)) := (Below.refl _ _).alloc (Nat.le_refl _) _
    have hn := box_cells (heap_alloc_new w (.cells #[.iface T (.pointer (some ⟨g2, 0, none⟩))] 27)) 0
    have h4 := PT.keep (stays_below hb1) h3
    clear h3
    go_enter Try.func18, Try.ntmps18
    go_wp2
    go_ret
    exact ⟨hb1, _, _, rfl, hn, h4⟩
  · have hc := box_cells h2
    have hb1 : Below w.heap.size w (w.alloc (.cells #[.iface T (.pointer (some ⟨g2, 0, none⟩))] 27)) := (Below.refl _ _).alloc (Nat.le_refl _) _
    have hn := box_cells (heap_alloc_new w (.cells #[.iface T (.pointer (some ⟨g2, 0, none⟩))] 27)) 0
    have h4 := PT.keep (stays_below hb1) h3
    clear h3
    go_enter Try.func18, Try.ntmps18
    go_wp2
    go_ret
    exact ⟨hb1, _, _, rfl, hn, h4⟩
  · have hc := box_cells h2
    have hb1 : Below w.heap.size w (w.alloc (.cells #[.iface T (.pointer (some ⟨g2, 0, none⟩))] 27)) := (Below.refl _ _).alloc (Nat.le_refl _) _
    have hn := box_cells (heap_alloc_new w (.cells #[.iface T (.pointer (some ⟨g2, 0, none⟩))] 27)) 0
    have h4 := PT.keep (stays_below hb1) h3
    clear h3
    go_enter Try.func18, Try.ntmps18
    go_wp2
    go_ret
    exact ⟨hb1, _, _, rfl, hn, h4⟩
set_option maxRecDepth 100000 in
set_option maxHeartbeats 4000000 in
theorem parts_two (a b : Ex) (v : Value) (w : World) (h : PT w (.two a b) v) : Calls Try.prog 18 #[v] w (PartsPost w (.two a b)) := by
  obtain ⟨g, s, T, g2, T3, g3, rfl, h2, h3, h4⟩ := h
  have hc := box_cells h2
  have hb1 : Below w.heap.size w (w.alloc (.cells #[.iface T (.pointer (some ⟨g2, 0, none⟩)), .iface T3 (.pointer (some ⟨g3, 0, none⟩))] 27)).drew := ((Below.refl _ _).alloc (Nat.le_refl _) _).drew
  have hn := box_cells (heap_alloc_new w (.cells #[.iface T (.pointer (some ⟨g2, 0, none⟩)), .iface T3 (.pointer (some ⟨g3, 0, none⟩))] 27))
  have h5 := PT.keep (stays_below hb1) h3
  have h6 := PT.keep (stays_below hb1) h4
  clear h3 h4
  go_enter Try.func18, Try.ntmps18
  go_wp2
  go_region
  all_goals
    go_wp2
    go_ret
    exact ⟨hb1, w.heap.size, _, _, rfl, hn 0, hn 1, h5, h6⟩
end Go.Proofs.Ytpkipleoodcplaa
