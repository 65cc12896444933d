/-
 bind's Same, of any two bound expressions. Conditions: right expressions, bound in one scope.
-/
import Derived.Test.YtkfjmgmjbljnbaaGreatDoorBSame1
set_option maxRecDepth 100000
set_option maxHeartbeats 8000000
namespace Go.Proofs.YtkfjmgmjbljnbaaGreatDoor
open Go.RowKit
def SameOk (sc : List Lp.Tb) (x : Lp.X) : Prop := x.wf → Lp.known sc x → ∀ y : Lp.X, y.wf → Lp.known sc y → ∀ (S S' : Nat → Prop) (w : World) (g g' : Nat), NT S w sc x g → NT S' w sc y g' → Calls Tryz.prog 38 #[ptr g, ptr g'] w fun e w' => e = .returned (.bool (Lp.sameX sc x y)) ∧ ∃ m, w' = w.drewN m
theorem nt_drewN {S : Nat → Prop} {w : World} {sc : List Lp.Tb} {x : Lp.X} {g : Nat} (h : NT S w sc x g) (m : Nat) : NT S (w.drewN m) sc x g := NT.turn (w := w) (w' := w.drewN m) (fun _ h _ => ⟨h, rfl⟩) h
theorem all2_zip {f : Lp.X → Lp.X → Bool} : ∀ {xs ys : List Lp.X}, xs.length = ys.length → all2 f xs ys = (List.zipWith f xs ys).all id
 | [], [], _ => rfl
 | x :: xs, [], h => by simp at h
 | [], y :: ys, h => by simp at h
 | x :: xs, y :: ys, h => by
   show (f x y && all2 f xs ys) = _
   rw [all2_zip (f := f) (xs := xs) (ys := ys) (by simpa using h)]
   simp
theorem kid_ok {sc : List Lp.Tb} {x : Lp.X} (hw : x.wf) (hk : Lp.known sc x) : ∀ z ∈ nKs x, z.wf ∧ Lp.known sc z := by
 cases x with
 | lit => intro z h; cases h
 | col => intro z h; cases h
 | cnt => intro z h; cases h
 | un op x => intro z h; rw [List.mem_singleton.1 h]; exact ⟨hw.2, hk⟩
 | isn n x => intro z h; rw [List.mem_singleton.1 h]; exact ⟨hw, hk⟩
 | agg op x => intro z h; rw [List.mem_singleton.1 h]; exact ⟨hw.2, hk⟩
 | bin op a b =>
   intro z h
   rcases List.mem_cons.1 h with rfl | h
   ·exact ⟨hw.2.1, hk.1⟩
   ·rw [List.mem_singleton.1 h]; exact ⟨hw.2.2, hk.2⟩
theorem same_of {sc : List Lp.Tb} {x : Lp.X} (ih : ∀ z ∈ nKs x, SameOk sc z) : SameOk sc x := by
 intro hx kx y hy ky S S' w g g' h h'
 obtain ⟨A, c, gs, hc, hl, hr, hn⟩ := nd_view h
 obtain ⟨A', c', gs', hc', hl', hr', hn'⟩ := nd_view h'
 rw [same_flat hx hy kx ky]
 have hE : ∀ m, Calls Tryz.prog 73 #[.slice A gs.length c, .slice A' gs'.length c', .func (.func 38) #[] #[]] (w.drewN m) fun e w' => e = .returned (.bool ((nKs x).length == (nKs y).length && all2 (Lp.sameX sc) (nKs x) (nKs y))) ∧ ∃ n, w' = w.drewN n := by
  intro m
  refine quiet_on ?_
  by_cases hlen : (nKs x).length = (nKs y).length
  ·have hz : (List.zipWith (Lp.sameX sc) (nKs x) (nKs y)).length = (nKs x).length := by rw [List.length_zipWith, ← hlen, Nat.min_self]
   have h0 := equal_nodes 38 (fun _ _ => rfl) A A' c c' (nKs x).length gs gs' (List.zipWith (Lp.sameX sc) (nKs x) (nKs y)) (w.drewN m) (rds_drewN hr m) (rds_drewN hr' m) hl (hl'.trans hlen.symm) hz (by have := nks_len x; omega) ?_
   ·rw [← all2_zip hlen] at h0
    rw [hl, hl', ← hlen, beq_self_eq_true, Bool.true_and]
    exact h0
   ·intro j a a' b ha ha' hb m2
    obtain ⟨h1, h2⟩ := List.getElem?_eq_some_iff.1 ha
    obtain ⟨h1', h2'⟩ := List.getElem?_eq_some_iff.1 ha'
    have j1 : j < (nKs x).length := by omega
    have j2 : j < (nKs y).length := by omega
    obtain ⟨h3, h4⟩ := List.getElem?_eq_some_iff.1 hb
    rw [List.getElem_zipWith] at h4
    subst h2 h2' h4
    have kz := kid_ok hx kx _ (List.getElem_mem j1)
    have kz' := kid_ok hy ky _ (List.getElem_mem j2)
    rw [World.drewN_drewN]
    have := ih _ (List.getElem_mem j1) kz.1 kz.2 _ kz'.1 kz'.2 S S' (w.drewN (m + m2)) gs[j] gs'[j] (nt_drewN (hn j j1 h1) _) (nt_drewN (hn' j j2 h1') _)
    exact this.mono fun e w' ⟨e1, n, e2⟩ => ⟨e1, m2 + n, by rw [e2, World.drewN_drewN, World.drewN_drewN, Nat.add_assoc]⟩
  ·rw [beq_eq_false_iff_ne.2 hlen, Bool.false_and]
   exact equal_len A A' c c' gs.length gs'.length _ (w.drewN m) (by omega)
 exact same_step g g' (nOp x) (nOp y) (nKd sc x) (nKd sc y) (nV x) (nV y) (nAt sc x) (nAt sc y) A A' gs.length c gs'.length c' _ w hc hc' hE
theorem same_any (sc : List Lp.Tb) : ∀ x : Lp.X, SameOk sc x := by
 intro x
 induction x with
 | lit => exact same_of fun z h => by cases h
 | col => exact same_of fun z h => by cases h
 | cnt => exact same_of fun z h => by cases h
 | un op x ih => exact same_of fun z h => by rw [List.mem_singleton.1 h]; exact ih
 | isn n x ih => exact same_of fun z h => by rw [List.mem_singleton.1 h]; exact ih
 | agg op x ih => exact same_of fun z h => by rw [List.mem_singleton.1 h]; exact ih
 | bin op a b iha ihb =>
   refine same_of fun z h => ?_
   rcases List.mem_cons.1 h with rfl | h
   ·exact iha
   ·rw [List.mem_singleton.1 h]; exact ihb
theorem same_nil2 (w : World) : Calls Tryz.prog 38 #[.pointer none, .pointer none] w fun e w' => e = .returned (.bool true) ∧ w = w' := by
 go_enter Tryz.func38, Tryz.ntmps38
 go_wp2
 go_ret
 exact ⟨rfl, rfl⟩
theorem same_nilr (g : Nat) (w : World) : Calls Tryz.prog 38 #[.pointer (some ⟨g, 0, none⟩), .pointer none] w fun e w' => e = .returned (.bool false) ∧ w = w' := by
 go_enter Tryz.func38, Tryz.ntmps38
 go_wp2
 go_ret
 exact ⟨rfl, rfl⟩
end Go.Proofs.YtkfjmgmjbljnbaaGreatDoor
