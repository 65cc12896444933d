/-
  What lapidarylaw14's back gives, and lapidaryref14's Same of one and the same tokens. Conditions: at most 10^6 tokens.
-/
import Derived.Test.YtmdmcfobdbccmaaDoorLexS
import Derived.Deep.QuietTactic
import Derived.BigQuiet
namespace Go.Proofs.YtmdmcfobdbccmaaDoor
open Go.RowKit

theorem tkv_at {l : List Lp.Tok} {i j : Nat} (h : i < l.length) (hj : j < 3) : (Lp.tkv l)[i * 3 + j]? = l[i].cells[j]? := by
  induction l generalizing i with
  | nil => simp at h
  | cons v l ih =>
    rw [show Lp.tkv (v :: l) = v.cells ++ Lp.tkv l from rfl]
    cases i with
    | zero => rw [List.getElem?_append_left (by simp [Lp.Tok.cells]; omega)]; simp
    | succ i =>
      rw [List.getElem?_append_right (by simp [Lp.Tok.cells]; omega)]
      have : (i + 1) * 3 + j - v.cells.length = i * 3 + j := by simp [Lp.Tok.cells]; omega
      rw [this, ih (by simpa using h)]
      simp
theorem RdsT.cells {w : World} {A : Option Addr} {l : List Lp.Tok} (h : RdsT w A l) {i : Nat} (hi : i < l.length) : ∃ b off, A = some ⟨b, off, none⟩ ∧
    w.cell? ⟨b, off + i * 3, none⟩ = some (.int .u8 l[i].k) ∧ w.cell? ⟨b, off + i * 3 + 1, none⟩ = some (.string ⟨l[i].s.toArray⟩) ∧ w.cell? ⟨b, off + i * 3 + 2, none⟩ = some (.int .i64 l[i].n) := by
  rcases h with h0 | ⟨b, off, rfl, hc⟩
  · have := tkv_length l; rw [h0] at this; simp at this; omega
  · refine ⟨b, off, rfl, ?_, ?_, ?_⟩
    · exact hc (i * 3) _ (tkv_at hi (j := 0) (by omega))
    · have := hc (i * 3 + 1) _ (tkv_at hi (j := 1) (by omega)); rw [← Nat.add_assoc] at this; exact this
    · have := hc (i * 3 + 2) _ (tkv_at hi (j := 2) (by omega)); rw [← Nat.add_assoc] at this; exact this
theorem drewN_under (w : World) (n : Nat) : Below w.heap.size w (w.drewN n) := ⟨rfl, rfl, rfl, Nat.le_refl _, fun _ _ => rfl⟩
set_option maxRecDepth 100000 in
set_option maxHeartbeats 4000000 in
theorem tsame_any (A1 A2 : Option Addr) (n1 n2 c1 c2 : Nat) (l : List Lp.Tok) (hn1 : n1 = l.length) (hn2 : n2 = l.length) (w : World) (h1 : RdsT w A1 l) (h2 : RdsT w A2 l) (hl : l.length ≤ 1000000) :
    Calls Tryd.prog 12 #[.slice A1 n1 c1, .slice A2 n2 c2] w fun e w' => e = .returned (.bool true) ∧ Below w.heap.size w w' := by
  subst hn1 hn2
  have hnn : ((l.length : Int) != (l.length : Int)) = false := by simp
  go_enter Tryd.func12, Tryd.ntmps12
  go_wp2_with fail
  clear hnn
  go_loopg [5, 13] (l.length + 1) (fun gk _ s13 wr => ∃ i : Nat, i ≤ l.length ∧ gk + i = l.length + 1 ∧ s13 = .int .i64 i ∧ Below w.heap.size w wr)
  case atStart => exact ⟨0, by omega, by omega, rfl, Below.refl _ _⟩
  case round =>
    obtain ⟨i, hi, hgk, rfl, hbw⟩ := hrel
    have g1 := Rds.below h1 hbw
    have g2 := Rds.below h2 hbw
    by_cases hlt : i < l.length
    · obtain ⟨b1, o1, rfl, q0, q1, q2⟩ := RdsT.cells g1 hlt
      obtain ⟨b2, o2, rfl, p0, p1, p2⟩ := RdsT.cells g2 hlt
      generalize l[i] = v at *
      obtain ⟨k, vs, vn⟩ := v
      simp only at q0 q1 q2 p0 p1 p2
      have e1 : (k != k) = false := by simp
      have e2 : (vn != vn) = false := by simp
      have i1 : (i : Int) < (l.length : Int) := by omega
      have i0 : (0 : Int) ≤ (i : Int) := by omega
      clear g1 g2
      go_wp2_with fail
      go_quiet (fail)
      have hbw4 := hbw.trans (drewN_under wr nq |>.mono hbw.size)
      go_wp2
      go_roundg (gk - 1)
      case measure => omega
      case rel => exact ⟨i + 1, by omega, by omega, by go_num, hbw4⟩
    · obtain rfl : i = l.length := by omega
      clear g1 g2
      go_wp2
      go_ret
      exact ⟨rfl, hbw⟩
set_option maxRecDepth 100000 in
set_option maxHeartbeats 4000000 in
theorem back_any (A : Option Addr) (n c : Nat) (l : List Lp.Tok) (hn : n = l.length) (w : World) (h : RdsT w A l) (hl : l.length ≤ 1000000) :
    Calls Tryd.prog 13 #[.slice A n c] w fun e w' => (∃ A' c', e = .returned (.slice A' l.length c') ∧ w'.ownsRow w.heap.size 36 3 (.slice A' l.length c') l.length (Lp.tkv l)) ∧ Below w.heap.size w w' := by
  subst hn
  obtain ⟨iT, hiT, hz0, hz1, hz2⟩ := info_parts rtokInfo
  go_enter Tryd.func13, Tryd.ntmps13
  go_wp2_with fail
  go_loopg [3, 5, 8] (l.length + 1) (fun gk s3 _ s8 wr => ∃ (i : Nat) (A1 : Option Addr) (c1 : Nat), i ≤ l.length ∧ gk + i = l.length + 1 ∧ s8 = .int .i64 i ∧ s3 = .slice A1 i c1 ∧ wr.ownsRow w.heap.size 36 3 (.slice A1 i c1) i (Lp.tkv (l.take i)) ∧ Below w.heap.size w wr)
  case atStart => exact ⟨0, none, 0, by omega, by omega, rfl, rfl, World.ownsRow_nil _ _ _ _, Below.refl _ _⟩
  case round =>
    obtain ⟨i, A1, c1, hi, hgk, rfl, rfl, hown, hbw⟩ := hrel
    have g1 := Rds.below h hbw
    have hsz := hbw.size
    by_cases hlt : i < l.length
    · obtain ⟨b1, o1, rfl, q0, q1, q2⟩ := RdsT.cells g1 hlt
      have htk : Hid (Lp.tkv (l.take (i + 1)) = Lp.tkv (l.take i) ++ Lp.tkv [l[i]]) := by
        show _ = _
        rw [List.take_succ_eq_append_getElem hlt, tkv_append]
      generalize l[i] = v at *
      obtain ⟨k, vs, vn⟩ := v
      simp only at q0 q1 q2
      have i1 : (i : Int) < (l.length : Int) := by omega
      have i0 : (0 : Int) ≤ (i : Int) := by omega
      clear g1
      go_wp2_with (at_builtin; refine wpList_app _ rfl (.tmp 12) (.tmp 14) _ rfl w.heap.size 36 iT _ 3 32 Tryd.underlying27 hiT hz0 hz1 hz2 rfl (by omega) _ _ _ _ rfl ((hown.alloc _).alloc _) _ 1 1 (Lp.tkv [(⟨k, vs, vn⟩ : Lp.Tok)]) rfl rfl (rds_blk (Lp.tkv [(⟨k, vs, vn⟩ : Lp.Tok)]) (heap_new2 wr _ _)) (by simp [Value.oneCell', Lp.tkv, Lp.Tok.cells]) (by simp only [maxLen]; omega) (by omega) (by simp; omega) ?_; intro A2 c2 w2 hown2 hb2 _ _)
      rw [← htk.out] at hown2
      have hbw2 := ((hbw.alloc hsz _).alloc (by simp; omega) _).trans hb2
      clear hb2 hown hbw
      go_wp2
      go_roundg (gk - 1)
      case measure => omega
      case rel => exact ⟨i + 1, A2, c2, by omega, by omega, by go_num, rfl, hown2, hbw2⟩
    · obtain rfl : i = l.length := by omega
      rw [List.take_length] at hown
      clear g1
      go_wp2
      go_ret
      exact ⟨⟨A1, c1, rfl, hown⟩, hbw⟩
end Go.Proofs.YtmdmcfobdbccmaaDoor
