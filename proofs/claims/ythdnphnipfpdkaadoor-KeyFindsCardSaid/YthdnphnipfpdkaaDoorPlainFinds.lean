/-
  Of rows those stand from a value's bytes on, up to what is behind these, whose first value is that one: plain. No program in sight. No conditions.
-/
import Derived.Test.YthdnphnipfpdkaaDoorPlainBehind
import Derived.Test.YthdnphnipfpdkaaDoorPlainOrder
namespace Go.Proofs.YthdnphnipfpdkaaDoor
open Go.RowKit

theorem begins_split {o p : List UInt8} (h : begins o p = true) : ∃ t, o = p ++ t := by
  unfold begins at h
  simp only [Bool.and_eq_true, beq_iff_eq, decide_eq_true_eq] at h
  exact ⟨o.drop p.length, by conv => lhs; rw [← List.take_append_drop p.length o, h.2]⟩
theorem begins_app (p t : List UInt8) : begins (p ++ t) p = true := by simp [begins]
theorem kb_head (v : Lp.V) : ∃ x t, Lp.kb v = x :: t ∧ x ≠ 255 := by
  unfold Lp.kb
  split
  · exact ⟨1, [], rfl, by decide⟩
  · split
    · exact ⟨2, _, rfl, by decide⟩
    · split
      · exact ⟨3, _, rfl, by decide⟩
      · exact ⟨4, _, rfl, by decide⟩
theorem kb_notall (v : Lp.V) : (Lp.kb v).all (· == 255) = false := by
  obtain ⟨x, t, h, hx⟩ := kb_head v
  rw [h]; simp [hx]
theorem same_kind {u v : Lp.V} (hu : u.right = true) (hv : v.right = true) (h : Lp.vsame u v = true) : u.k = v.k := by
  have h1 := Lp.right_kinds hu
  have h2 := Lp.right_kinds hv
  simp only [Lp.vsame, Bool.and_eq_true, Bool.not_eq_true'] at h
  obtain ⟨g1, g2⟩ := h
  unfold Lp.vless at g1 g2
  by_cases hp : Lp.place u = Lp.place v
  · unfold Lp.place at hp
    rcases h1 with e | e | e | e <;> rcases h2 with f | f | f | f <;> simp [e, f] at hp ⊢ <;> (revert hp; split <;> simp)
  · exfalso
    rw [if_pos hp] at g1
    rw [if_pos (fun e => hp e.symm)] at g2
    simp at g1 g2
    omega

/-- What the first value of a row tells. -/
def firstIs (row : List Lp.V) (v : Lp.V) : Bool := match row with
  | [] => false
  | u :: _ => decide (u.k = v.k) && Lp.vsame u v
theorem finds {v : Lp.V} {row : List Lp.V} {r : List UInt8} (hv : v.right = true) (kv : v.ok) (hr : row.all Lp.V.right = true) (kr : ∀ u ∈ row, u.ok) (hb : BehindOf (Lp.kb v) r) :
    (!Op.bytesLess (Lp.kbs row) (Lp.kb v) && Op.bytesLess (Lp.kbs row) r) = firstIs row v := by
  rw [behind_in _ hb (kb_notall v)]
  cases row with
  | nil =>
    obtain ⟨x, t, h, _⟩ := kb_head v
    rw [h]; exact begins_nil_cons x t
  | cons u rest =>
    have hu : u.right = true := List.all_eq_true.1 hr u (by simp)
    have ku := kr u (by simp)
    have e : Lp.kbs (u :: rest) = Lp.kb u ++ Lp.kbs rest := by simp [Lp.kbs]
    rw [e]
    show _ = (decide (u.k = v.k) && Lp.vsame u v)
    cases hs : Lp.vsame u v
    · rw [Bool.and_false, Bool.eq_false_iff]
      intro hbg
      obtain ⟨t, ht⟩ := begins_split hbg
      have h1 := Lp.kb_less hu hv ku kv (Lp.kbs rest) t
      have h2 := Lp.kb_less hv hu kv ku t (Lp.kbs rest)
      rw [ht, Lp.less_irrefl] at h1
      rw [ht, Lp.less_irrefl] at h2
      have g1 : Lp.vless u v = false := by cases g : Lp.vless u v <;> simp [g] at h1 ⊢
      have g2 : Lp.vless v u = false := by cases g : Lp.vless v u <;> simp [g] at h2 ⊢
      rw [Lp.vsame, g1, g2] at hs
      cases hs
    · rw [same_kind hu hv hs, decide_eq_true rfl, Bool.and_true, Lp.same_kb hu hv ku kv hs]
      exact begins_app _ _
theorem firstIs_none (v : Lp.V) {row : List Lp.V} (h : row.length = 0) : firstIs row v = false := by
  cases row with
  | nil => rfl
  | cons => simp at h
theorem firstIs_at (v : Lp.V) {row : List Lp.V} (h : 0 < row.length) : firstIs row v = (decide (row[0].k = v.k) && Lp.vsame row[0] v) := by
  cases row with
  | nil => simp at h
  | cons u r => rfl
theorem firstIs_take (v : Lp.V) {row : List Lp.V} {k : Nat} (h : 0 < row.length) (hk : 0 < k) : firstIs (row.take k) v = (decide (row[0].k = v.k) && Lp.vsame row[0] v) := by
  cases row with
  | nil => simp at h
  | cons u r => cases k with
    | zero => omega
    | succ k => rfl
end Go.Proofs.YthdnphnipfpdkaaDoor
