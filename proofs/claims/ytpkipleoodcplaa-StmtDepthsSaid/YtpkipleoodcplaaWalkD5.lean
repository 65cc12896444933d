/-
  stmt.Walk with the closure of StmtDepths: the greatest depth. Conditions: at most 10^6 parts.
-/
import Derived.Test.YtpkipleoodcplaaWalkC5
import Derived.Deep.RegionWith
namespace Go.Proofs.Ytpkipleoodcplaa
open Go.RowKit

theorem fi_depths : ∀ args w, Sem.run Try.prog (callFunc 11 args) w = .ok (.enter 11 args) w := fun _ _ => rfl
set_option maxRecDepth 100000 in
set_option maxHeartbeats 4000000 in
theorem stepD_any (e : Ex) (v : Value) (k ga : Nat) (w : World) (hs : e.size ≤ 1000000) (h : PT w e v) (_ : k ≤ 1000000) (hk : w.heap[ga]? = some (.cells #[.int .i64 k] 3 (0, 0))) :
    Calls Try.prog 11 #[v, .pointer (some ⟨ga, 0, none⟩)] w (StepPost ga w (stD e k)) := by
  obtain ⟨T, g, rfl⟩ := h.form
  have hdl := e.deep_le
  have hdp := e.deep_pos
  obtain ⟨D, hD⟩ : ∃ D, e.deep = D := ⟨_, rfl⟩
  have hcall := Lib.hid (fun w' (hst : Stays w w') => depth_any e _ w' (PT.keep hst h) hs)
  rw [hD] at hcall hdl hdp
  have hR : stD e k = (true, max k D) := by rw [← hD]; rfl
  rw [hR]
  clear hD hR h
  have hkc := box_cells hk 0
  have hlt := heap_lt hk
  have hst0 : Stays w w.drew := fun _ _ _ h _ _ => h
  have hbd : Below w.heap.size w w.drew := (Below.refl _ _).drew
  go_enter Try.func11, Try.ntmps11
  go_wp2_with fail
  go_region_with (go_at_call 12; refine (hcall.out _ hst0).mono ?_; rintro e2 w2 ⟨rfl, hb2⟩; have hk2 := box_below (box_drew hk) hb2; have hc2 := box_cells hk2 0; have hf2 := frozen_of_row w2 ga 0 _ _ hk2)
  all_goals
    have hmx : (if k < D then (D : Int) else (k : Int)) = ((max k D : Nat) : Int) := by split <;> omega
    rw [hmx]
    obtain ⟨M, hM⟩ : ∃ M, max k D = M := ⟨_, rfl⟩
    have HM := Lib.hid hM
    rw [hM]
    clear hmx hM
    have hb3 : Below w.heap.size w w2 := hbd.trans (hb2.mono hbd.size)
    have hk3 := heap_set_own (v := .int .i64 (M : Nat)) hk2
    have hbs := below_set (v := .int .i64 (M : Nat)) hk2
    have ht3 : But ga w2 (w2.setCell ⟨ga, 0, none⟩ (.int .i64 (M : Nat))) := but_set
    obtain ⟨w3, hw3⟩ : ∃ w3, w2.setCell ⟨ga, 0, none⟩ (.int .i64 (M : Nat)) = w3 := ⟨_, rfl⟩
    rw [hw3] at hk3 hbs ht3 ⊢
    have hb4 : Below ga w w3 := (below_ga hb3 hk).trans hbs
    have ht4 : But ga w w3 := (but_below hb3).trans ht3
    have hc2 := Lib.hid (hcall.out w3 (ht4.stays hk))
    clear hw3 hk2 hb2 hbs ht3 hb3 hf2 hkc hcall
    go_wp2_with fail
    refine hc2.out.mono ?_
    rintro e3 w4 ⟨rfl, hb5⟩
    have hk5 := box_below hk3 hb5
    have hb6 := hb4.trans (below_ga hb5 hk3)
    have ht6 := ht4.trans (but_below hb5)
    clear hb4 hb5 ht4 hk3
    go_wp2
    go_ret
    have hD1 : (1 : Int) ≤ (D : Int) := by omega
    refine ⟨?_, ?_, hb6, ht6⟩
    · show Ending.returned (.bool (decide (1 ≤ (D : Int)))) = .returned (.bool true)
      rw [decide_eq_true hD1]
    · show w4.heap[ga]? = some (.cells #[.int .i64 ((max k D : Nat) : Int)] 3 (0, 0))
      rw [HM.out]
      exact hk5
set_option maxHeartbeats 4000000 in
theorem walkD_any (ga : Nat) (e : Ex) (v : Value) (w : World) (hs : e.size ≤ 1000000) (h : PT w e v) (hk : w.heap[ga]? = some (.cells #[.int .i64 (0 : Nat)] 3 (0, 0))) :
    Calls Try.prog 8 #[v, .func (.func 11) #[] #[.pointer (some ⟨ga, 0, none⟩)]] w
      (StepPost ga w (true, e.deep)) := by
  have H := walk_any 11 fi_depths #[.pointer (some ⟨ga, 0, none⟩)] ga (fun _ => True) (fun _ _ _ _ => trivial) stD (fun k e => k ≤ 1000000 ∧ e.size ≤ 1000000) ?_ ?_ ?_ ?_ e v w 0 ⟨by omega, hs⟩ h trivial hk
  · rw [runD] at H
    simpa using H
  · intro e v w k hq hp _ hk
    exact stepD_any e v k ga w hq.2 hp hq.1 hk
  · intro x k hq
    have h1 : (Ex.one x).size = x.size + 1 := rfl
    have h2 := (Ex.one x).deep_le
    refine ⟨?_, by omega⟩
    show max k (Ex.one x).deep ≤ 1000000
    omega
  · intro a b k hq
    have h1 : (Ex.two a b).size = a.size + b.size + 1 := rfl
    have h2 := (Ex.two a b).deep_le
    refine ⟨?_, by omega⟩
    show max k (Ex.two a b).deep ≤ 1000000
    omega
  · intro a b k hq
    have h1 : (Ex.two a b).size = a.size + b.size + 1 := rfl
    have h2 := (Ex.two a b).deep_le
    have h3 := a.deep_le
    refine ⟨?_, by omega⟩
    rw [runD]
    show max (max k (Ex.two a b).deep) a.deep ≤ 1000000
    omega
end Go.Proofs.Ytpkipleoodcplaa
