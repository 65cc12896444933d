/-
  BindNames, plain: the texts, the scope; the column's closure. Conditions: none.
-/
import Derived.Test.YtkfjmgmjbljnbaaGreatDoorGU
namespace Go.Proofs.YtkfjmgmjbljnbaaGreatDoor
open Go.RowKit

def chN (i : Nat) : List UInt8 := [UInt8.ofNat (97 + i)]
def chB (i : Nat) : ByteArray := ⟨(chN i).toArray⟩
def scN (a b : Nat) : List Lp.Tb := [⟨[116], [⟨chN a, 1⟩]⟩, ⟨[117], [⟨chN b, 1⟩]⟩]
def txtN (a b : Nat) : Nat → List UInt8
  | 0 => [116, 46] ++ chN a
  | 1 => [117, 46] ++ chN b
  | 2 => chN a
  | _ => chN b
def chkN (a b k : Nat) : Bool := match Lp.condS (txtN a b k) with
  | some (.col t s) => (match Lp.findX (scN a b) t s with
    | none => decide (2 ≤ k) && a == b
    | some p => p.1 == k % 2 && !(decide (2 ≤ k) && a == b))
  | _ => false
set_option maxRecDepth 100000 in
theorem chkN_all : ∀ a < 8, ∀ b < 8, ∀ k < 4, chkN a b k = true := by decide +kernel
theorem chN_len (a : Nat) : (chN a).length = 1 := rfl
theorem txtN_len (a b k : Nat) : (txtN a b k).length ≤ 3 := by
  unfold txtN
  split <;> simp [chN]
theorem names_at {a b k : Nat} (ha : a < 8) (hb : b < 8) (hk : k < 4) : ∃ t s, Lp.condS (txtN a b k) = some (.col t s) ∧ (Lp.X.col t s).wf ∧ ((2 ≤ k ∧ a = b) ∧ Lp.findX (scN a b) t s = none ∨ ¬ (2 ≤ k ∧ a = b) ∧ ∃ q, Lp.findX (scN a b) t s = some (k % 2, q)) := by
  have h := chkN_all a ha b hb k hk
  unfold chkN at h
  split at h
  · rename_i t s hx
    refine ⟨t, s, hx, (Lp.condS_ok (by have := txtN_len a b k; omega) hx).1, ?_⟩
    split at h
    · rename_i hf
      simp only [Bool.and_eq_true, decide_eq_true_iff, beq_iff_eq] at h
      exact .inl ⟨h, hf⟩
    · rename_i p hf
      simp only [Bool.and_eq_true, beq_iff_eq, Bool.not_eq_true', Bool.and_eq_false_iff, decide_eq_false_iff_not, beq_eq_false_iff_ne] at h
      refine .inr ⟨?_, p.2, ?_⟩
      · rintro ⟨h1, h2⟩
        rcases h.2 with h3 | h3
        · exact h3 h1
        · exact h3 h2
      · rw [hf, ← h.1]
  · cases h
theorem cond_va : Lp.condS [118, 46, 97] = some (.col [118] [97]) := by kernel_rfl
theorem find_va (a b : Nat) : Lp.findX (scN a b) [118] [97] = none := by
  unfold Lp.findX scN
  rw [if_neg]
  rintro ⟨h, -⟩
  simp [Lp.hits, Lp.here] at h
theorem sliceN : ∀ i < 8, (⟨#[97, 98, 99, 100, 101, 102, 103, 104]⟩ : ByteArray).extract i (i + 1) = chB i := by
  intro i hi
  match i, hi with
  | 0, _ => rfl
  | 1, _ => rfl
  | 2, _ => rfl
  | 3, _ => rfl
  | 4, _ => rfl
  | 5, _ => rfl
  | 6, _ => rfl
  | 7, _ => rfl
theorem chB_size (i : Nat) : (chB i).size ≤ 1 := Nat.le_refl 1
set_option maxRecDepth 100000 in
set_option maxHeartbeats 2000000 in
theorem column_any (i : Nat) (hi : i < 8) (w : World) : Calls Tryz.prog 28 #[.int .i64 i] w fun e w' => e = .returned (.agg #[.string (chB i), .int .u8 1]) ∧ Below w.heap.size w w' := by
  have hs := Lib.hid (sliceN i hi)
  have h0 : (0 : Int) ≤ (i : Int) := by omega
  have h1 : (i : Int) + 1 ≤ 8 := by omega
  have h2 : (i : Int) < 8 := by omega
  clear hi
  go_enter Tryz.func28, Tryz.ntmps28
  go_wp2
  refine bodyPost_ret (v := .agg #[.string (chB i), .int .u8 1]) ?_ rfl ⟨rfl, ?_⟩
  · rw [← hs.out]
    simp [results, Tryz.results28, go_sem]
  · exact (Below.refl _ _).alloc (Nat.le_refl _) _
end Go.Proofs.YtkfjmgmjbljnbaaGreatDoor
