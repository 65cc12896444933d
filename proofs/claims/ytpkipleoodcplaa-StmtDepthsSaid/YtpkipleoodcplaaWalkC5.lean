/-
  stmt.Walk with the closures of StmtWalks and StmtDepths: how far it comes, and how deep. Conditions: at most 10^6 parts.
-/
import Derived.Test.YtpkipleoodcplaaWalk5
import Derived.Test.YtpkipleoodcplaaDepth
namespace Go.Proofs.Ytpkipleoodcplaa
open Go.RowKit

/-- One more part; go on until it is the m-th. -/
def stC (m : Nat) (_ : Ex) (k : Nat) : Bool × Nat := (decide (k + 1 ≠ m), k + 1)
def stD (e : Ex) (k : Nat) : Bool × Nat := (true, max k e.deep)
theorem Ex.size_pos : ∀ e : Ex, 1 ≤ e.size
  | .leaf => Nat.le_refl _
  | .one x => by unfold Ex.size; omega
  | .two a b => by unfold Ex.size; omega
theorem runC (m : Nat) : ∀ (e : Ex) (k : Nat), run (stC m) e k = if k < m ∧ m ≤ k + e.size then (false, m) else (true, k + e.size)
  | .leaf, k => by
    unfold run stC Ex.size
    by_cases h : k + 1 = m
    · rw [if_pos (by omega)]; simp [h]
    · rw [if_neg (by omega)]; simp [h]
  | .one x, k => by
    have ih := runC m x (k + 1)
    have hs := x.size_pos
    unfold run
    show (if decide (k + 1 ≠ m) = true then run (stC m) x (k + 1) else (false, k + 1)) = _
    rw [show (Ex.one x).size = x.size + 1 from rfl, ih]
    by_cases h : k + 1 = m
    · rw [if_neg (by simp [h]), if_pos (by omega), h]
    · rw [if_pos (by simp [h])]
      by_cases h2 : k + 1 < m ∧ m ≤ k + 1 + x.size
      · rw [if_pos h2, if_pos (by omega)]
      · rw [if_neg h2, if_neg (by omega)]
        congr 1; omega
  | .two a b, k => by
    have iha := runC m a (k + 1)
    have ihb := runC m b
    have hsa := a.size_pos
    have hsb := b.size_pos
    unfold run
    show (if decide (k + 1 ≠ m) = true then (if (run (stC m) a (k + 1)).1 then run (stC m) b (run (stC m) a (k + 1)).2 else (false, (run (stC m) a (k + 1)).2)) else (false, k + 1)) = _
    rw [show (Ex.two a b).size = a.size + b.size + 1 from rfl, iha]
    by_cases h : k + 1 = m
    · rw [if_neg (by simp [h]), if_pos (by omega), h]
    · rw [if_pos (by simp [h])]
      by_cases h2 : k + 1 < m ∧ m ≤ k + 1 + a.size
      · rw [if_pos h2]
        simp only [Bool.false_eq_true, if_false]
        rw [if_pos (by omega)]
      · rw [if_neg h2]
        simp only [if_true]
        rw [ihb]
        by_cases h3 : k + 1 + a.size < m ∧ m ≤ k + 1 + a.size + b.size
        · rw [if_pos h3, if_pos (by omega)]
        · rw [if_neg h3, if_neg (by omega)]
          congr 1; omega
theorem runD : ∀ (e : Ex) (k : Nat), run stD e k = (true, max k e.deep)
  | .leaf, k => rfl
  | .one x, k => by
    have ih := runD x (max k (Ex.one x).deep)
    unfold run
    show run stD x (max k (Ex.one x).deep) = _
    rw [ih]
    have : (Ex.one x).deep = x.deep + 1 := rfl
    congr 1; omega
  | .two a b, k => by
    have iha := runD a (max k (Ex.two a b).deep)
    have ihb := runD b
    unfold run
    show (if (run stD a (max k (Ex.two a b).deep)).1 then run stD b (run stD a (max k (Ex.two a b).deep)).2 else _) = _
    rw [iha]
    simp only [if_true]
    rw [ihb]
    have : (Ex.two a b).deep = max a.deep b.deep + 1 := rfl
    congr 1; omega
theorem below_set {ga : Nat} {w : World} {k : Nat} {v : Value} (h : w.heap[ga]? = some (.cells #[.int .i64 k] 3 (0, 0))) : Below ga w (w.setCell ⟨ga, 0, none⟩ v) := ((Below.refl w.heap.size w).mono (Nat.le_of_lt (heap_lt h))).setCell (p := ⟨ga, 0, none⟩) (Nat.le_refl _) v
theorem fi_walks : ∀ args w, Sem.run Try.prog (callFunc 9 args) w = .ok (.enter 9 args) w := fun _ _ => rfl
set_option maxHeartbeats 4000000 in
theorem walkC_any (ga gm m : Nat) (hm : m < 256) (hlt : gm < ga) (e : Ex) (v : Value) (w : World) (hs : e.size < 1000000) (h : PT w e v)
    (hgm : w.heap[gm]? = some (.cells #[.int .u8 m] 5 (0, 0))) (hk : w.heap[ga]? = some (.cells #[.int .i64 (0 : Nat)] 3 (0, 0))) :
    Calls Try.prog 8 #[v, .func (.func 9) #[] #[.pointer (some ⟨ga, 0, none⟩), .pointer (some ⟨gm, 0, none⟩)]] w
      (StepPost ga w (if 0 < m ∧ m ≤ e.size then (false, m) else (true, e.size))) := by
  have H := walk_any 9 fi_walks #[.pointer (some ⟨ga, 0, none⟩), .pointer (some ⟨gm, 0, none⟩)] ga (fun w => w.heap[gm]? = some (.cells #[.int .u8 m] 5 (0, 0)))
    (fun w w' h hb => (hb.block gm hlt).trans h) (stC m) (fun k e => k + e.size < 1000000) ?_ ?_ ?_ ?_ e v w 0 (by omega) h hgm hk
  · rw [runC] at H
    simpa using H
  · intro e v w k hq _ hi hk
    refine (step_any v k m ga gm w hk hi (by have := e.size_pos; omega) hm).mono ?_
    rintro en w' ⟨rfl, rfl⟩
    exact ⟨rfl, heap_set_own hk, below_set hk, but_set⟩
  · intro x k hq
    have : (Ex.one x).size = x.size + 1 := rfl
    show k + 1 + x.size < 1000000
    omega
  · intro a b k hq
    have : (Ex.two a b).size = a.size + b.size + 1 := rfl
    show k + 1 + a.size < 1000000
    omega
  · intro a b k hq
    have : (Ex.two a b).size = a.size + b.size + 1 := rfl
    show (run (stC m) a (k + 1)).2 + b.size < 1000000
    rw [runC]
    split
    · show m + b.size < 1000000
      omega
    · show k + 1 + a.size + b.size < 1000000
      omega
end Go.Proofs.Ytpkipleoodcplaa
