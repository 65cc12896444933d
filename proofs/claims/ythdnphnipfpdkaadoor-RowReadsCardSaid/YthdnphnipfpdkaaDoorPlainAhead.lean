/-
  Where the first 0 stands in bytes, plain. No program in sight. No conditions.
-/
import Derived.Test.YthdnphnipfpdkaaDoorPlainRead
import Derived.Lib.Bytealg
namespace Go.Proofs.YthdnphnipfpdkaaDoor.Lp
open Go.RowKit

theorem ahead_cons (x : UInt8) (l : List UInt8) : ahead (x :: l) = if x = 0 then [] else x :: ahead l := by
  unfold ahead
  rw [List.takeWhile_cons]
  by_cases h : x = 0 <;> simp [h]
theorem index_ahead {l : List UInt8} (h : (ahead l).length < l.length) : Lib.indexByte l 0 = ((ahead l).length : Int) := by
  induction l with
  | nil => simp [ahead] at h
  | cons x l ih =>
    rw [ahead_cons] at h ⊢
    unfold Lib.indexByte
    by_cases hx : x = 0
    · simp [hx]
    · rw [if_neg hx] at h ⊢
      have h2 : (ahead l).length < l.length := by simpa using h
      have e : (x == 0) = false := by simpa using hx
      rw [e, ih h2]
      have e2 : (((ahead l).length : Int) == -1) = false := by simp
      simp [e2]
theorem index_none {l : List UInt8} (h : ¬ (ahead l).length < l.length) : Lib.indexByte l 0 = -1 := by
  induction l with
  | nil => rfl
  | cons x l ih =>
    rw [ahead_cons] at h
    unfold Lib.indexByte
    by_cases hx : x = 0
    · rw [if_pos hx] at h; simp at h
    · rw [if_neg hx] at h
      have h2 : ¬ (ahead l).length < l.length := by simpa using h
      have e : (x == 0) = false := by simpa using hx
      rw [e, ih h2]; rfl
theorem take_ahead (l : List UInt8) : l.take (ahead l).length = ahead l := by
  induction l with
  | nil => rfl
  | cons x l ih =>
    rw [ahead_cons]
    by_cases hx : x = 0
    · rw [if_pos hx]; rfl
    · rw [if_neg hx, List.length_cons, List.take_succ_cons, ih]
end Go.Proofs.YthdnphnipfpdkaaDoor.Lp
