/-
  What cell's open, truth, bit and rank give. No conditions.
-/
import Derived.Test.YthojikijelijnaaDoorRight
import Derived.Test.YthojikijelijnaaDoorMem
import Derived.Test.YthojikijelijnaaDoorPlainLess
import Derived.Test.YthojikijelijnaaDoorAssert
import Derived.Deep.QuietTactic
import Derived.BigQuiet
import Derived.Deep.RegionHeld3
namespace Go.Proofs.YthojikijelijnaaDoor
open Go.RowKit
attribute [local go_sem] ta_i_i ta_i_s ta_i_b ta1_i ta_s_i ta_s_s ta_s_b ta1_s ta_b_i ta_b_s ta_b_b ta1_b ta_n_i ta_n_s ta_n_b

/-- A value's box. -/
def bx (k i : Int) (s : ByteArray) (b : Bool) : Obj := .cells #[.int .u8 k, .int .i64 i, .string s, .bool b] 24
theorem open_1 (i : Int) (s : ByteArray) (b : Bool) (w : World) : Calls Tryd.prog 30 #[.agg #[.int .u8 1, .int .i64 i, .string s, .bool b]] w fun e w' => e = .returned (.iface 2 (.int .i64 i)) ∧ w.alloc (.cells #[.int .u8 1, .int .i64 i, .string s, .bool b] 24) = w' := by
  go_enter Tryd.func30, Tryd.ntmps30
  go_wp2
  go_ret
  exact ⟨rfl, rfl⟩
theorem open_2 (i : Int) (s : ByteArray) (b : Bool) (w : World) : Calls Tryd.prog 30 #[.agg #[.int .u8 2, .int .i64 i, .string s, .bool b]] w fun e w' => e = .returned (.iface 9 (.string s)) ∧ w.alloc (.cells #[.int .u8 2, .int .i64 i, .string s, .bool b] 24) = w' := by
  go_enter Tryd.func30, Tryd.ntmps30
  go_wp2
  go_ret
  exact ⟨rfl, rfl⟩
theorem open_3 (i : Int) (s : ByteArray) (b : Bool) (w : World) : Calls Tryd.prog 30 #[.agg #[.int .u8 3, .int .i64 i, .string s, .bool b]] w fun e w' => e = .returned (.iface 4 (.bool b)) ∧ w.alloc (.cells #[.int .u8 3, .int .i64 i, .string s, .bool b] 24) = w' := by
  go_enter Tryd.func30, Tryd.ntmps30
  go_wp2
  go_ret
  exact ⟨rfl, rfl⟩
/-- No kind of a value that is known. -/
def NoK (k : Int) : Prop := (k == 1) = false ∧ (k == 2) = false ∧ (k == 3) = false
theorem open_n (k i : Int) (s : ByteArray) (b : Bool) (hk : NoK k) (w : World) : Calls Tryd.prog 30 #[.agg #[.int .u8 k, .int .i64 i, .string s, .bool b]] w fun e w' => e = .returned .nilIface ∧ w.alloc (.cells #[.int .u8 k, .int .i64 i, .string s, .bool b] 24) = w' := by
  obtain ⟨h1, h2, h3⟩ := hk
  go_enter Tryd.func30, Tryd.ntmps30
  go_wp2
  go_ret
  exact ⟨rfl, rfl⟩
set_option maxRecDepth 100000 in
theorem truth_b (b : Bool) (w : World) : Calls Tryd.prog 38 #[.iface 4 (.bool b)] w fun e w' => e = .returned (.agg #[.int .u8 3, .int .i64 0, .string ⟨#[]⟩, .bool b]) ∧ w.alloc (.cells #[.int .u8 3, .int .i64 0, .string ⟨#[]⟩, .bool b] 24) = w' := by
  go_enter Tryd.func38, Tryd.ntmps38
  go_wp2
  exact bodyPost_ret (v := .agg #[.int .u8 3, .int .i64 0, .string ⟨#[]⟩, .bool b]) (by simp [results, Tryd.results38, go_sem]) rfl ⟨rfl, rfl⟩
theorem bit_any (b : Bool) (w : World) : Calls Tryd.prog 50 #[.bool b] w fun e w' => e = .returned (.int .i64 (if b then 1 else 0)) ∧ w = w' := by
  cases b
  · go_enter Tryd.func50, Tryd.ntmps50
    go_wp2
    go_ret
    exact ⟨rfl, rfl⟩
  · go_enter Tryd.func50, Tryd.ntmps50
    go_wp2
    go_ret
    exact ⟨rfl, rfl⟩
theorem rank_1 (w : World) : Calls Tryd.prog 47 #[.int .u8 1] w fun e w' => e = .returned (.int .i64 2) ∧ w = w' := by
  go_enter Tryd.func47, Tryd.ntmps47
  go_wp2
  go_ret
  exact ⟨rfl, rfl⟩
theorem rank_2 (w : World) : Calls Tryd.prog 47 #[.int .u8 2] w fun e w' => e = .returned (.int .i64 3) ∧ w = w' := by
  go_enter Tryd.func47, Tryd.ntmps47
  go_wp2
  go_ret
  exact ⟨rfl, rfl⟩
theorem rank_3 (w : World) : Calls Tryd.prog 47 #[.int .u8 3] w fun e w' => e = .returned (.int .i64 1) ∧ w = w' := by
  go_enter Tryd.func47, Tryd.ntmps47
  go_wp2
  go_ret
  exact ⟨rfl, rfl⟩
theorem rank_n (k : Int) (hk : NoK k) (w : World) : Calls Tryd.prog 47 #[.int .u8 k] w fun e w' => e = .returned (.int .i64 0) ∧ w = w' := by
  obtain ⟨h1, h2, h3⟩ := hk
  go_enter Tryd.func47, Tryd.ntmps47
  go_wp2
  go_ret
  exact ⟨rfl, rfl⟩
def Lp.rank (k : Int) : Int := if k = 1 then 2 else if k = 2 then 3 else if k = 3 then 1 else 0
theorem kcases (k : Int) : k = 1 ∨ k = 2 ∨ k = 3 ∨ NoK k := by
  by_cases h1 : k = 1
  · exact .inl h1
  · by_cases h2 : k = 2
    · exact .inr (.inl h2)
    · by_cases h3 : k = 3
      · exact .inr (.inr (.inl h3))
      · exact .inr (.inr (.inr ⟨beq_eq_false_iff_ne.2 h1, beq_eq_false_iff_ne.2 h2, beq_eq_false_iff_ne.2 h3⟩))
theorem rank_any (k : Int) (w : World) : Calls Tryd.prog 47 #[.int .u8 k] w fun e w' => e = .returned (.int .i64 (Lp.rank k)) ∧ w = w' := by
  rcases kcases k with rfl | rfl | rfl | h
  · exact rank_1 w
  · exact rank_2 w
  · exact rank_3 w
  · have e : Lp.rank k = 0 := by
      have h1 := beq_eq_false_iff_ne.1 h.1
      have h2 := beq_eq_false_iff_ne.1 h.2.1
      have h3 := beq_eq_false_iff_ne.1 h.2.2
      simp [Lp.rank, h1, h2, h3]
    rw [e]; exact rank_n k h w
/-! What is compared. -/
def Lp.cmpI (a b : Int) : Int := if a < b then -1 else if b < a then 1 else 0
def Lp.cmpS (a b : List UInt8) : Int := if Op.bytesLess a b then -1 else if Op.bytesLess b a then 1 else 0
theorem cmpI_any (a b : Int) (w : World) : Calls Tryd.prog 46 #[.int .i64 a, .int .i64 b] w fun e w' => e = .returned (.int .i64 (Lp.cmpI a b)) ∧ w = w' := by
  rcases Int.lt_trichotomy a b with h | h | h
  · have e : Lp.cmpI a b = -1 := if_pos h
    rw [e]; clear e
    go_enter Tryd.func46, Tryd.ntmps46
    go_wp2
    go_ret
    exact ⟨rfl, rfl⟩
  · subst h
    have e : Lp.cmpI a a = 0 := by simp [Lp.cmpI]
    rw [e]; clear e
    go_enter Tryd.func46, Tryd.ntmps46
    go_wp2
    go_ret
    exact ⟨rfl, rfl⟩
  · have e : Lp.cmpI a b = 1 := by unfold Lp.cmpI; rw [if_neg (by omega), if_pos h]
    have h2 : ¬ a < b := by omega
    rw [e]; clear e
    go_enter Tryd.func46, Tryd.ntmps46
    go_wp2
    go_ret
    exact ⟨rfl, rfl⟩
theorem cmpL_any (a b : Int) (w : World) : Calls Tryd.prog 48 #[.int .i64 a, .int .i64 b] w fun e w' => e = .returned (.int .i64 (Lp.cmpI a b)) ∧ w = w' := by
  rcases Int.lt_trichotomy a b with h | h | h
  · have e : Lp.cmpI a b = -1 := if_pos h
    rw [e]; clear e
    go_enter Tryd.func48, Tryd.ntmps48
    go_wp2
    go_ret
    exact ⟨rfl, rfl⟩
  · subst h
    have e : Lp.cmpI a a = 0 := by simp [Lp.cmpI]
    rw [e]; clear e
    go_enter Tryd.func48, Tryd.ntmps48
    go_wp2
    go_ret
    exact ⟨rfl, rfl⟩
  · have e : Lp.cmpI a b = 1 := by unfold Lp.cmpI; rw [if_neg (by omega), if_pos h]
    have h2 : ¬ a < b := by omega
    rw [e]; clear e
    go_enter Tryd.func48, Tryd.ntmps48
    go_wp2
    go_ret
    exact ⟨rfl, rfl⟩
theorem cmpS_any (a b : ByteArray) (w : World) : Calls Tryd.prog 49 #[.string a, .string b] w fun e w' => e = .returned (.int .i64 (Lp.cmpS a.data.toList b.data.toList)) ∧ w = w' := by
  rw [← ByteArray.toList_eq, ← ByteArray.toList_eq]
  cases h1 : Op.bytesLess a.toList b.toList
  · cases h2 : Op.bytesLess b.toList a.toList
    · have e : Lp.cmpS a.toList b.toList = 0 := by simp [Lp.cmpS, h1, h2]
      have he : (a.toList == b.toList) = true := by rw [Lp.less_total, h1, h2]; rfl
      rw [e]; clear e
      go_enter Tryd.func49, Tryd.ntmps49
      go_wp2
      go_ret
      exact ⟨rfl, rfl⟩
    · have e : Lp.cmpS a.toList b.toList = 1 := by simp [Lp.cmpS, h1, h2]
      have he : (a.toList == b.toList) = false := by rw [Lp.less_total, h1, h2]; rfl
      rw [e]; clear e
      go_enter Tryd.func49, Tryd.ntmps49
      go_wp2
      go_ret
      exact ⟨rfl, rfl⟩
  · have e : Lp.cmpS a.toList b.toList = -1 := by simp [Lp.cmpS, h1]
    rw [e]; clear e
    go_enter Tryd.func49, Tryd.ntmps49
    go_wp2
    go_ret
    exact ⟨rfl, rfl⟩
end Go.Proofs.YthojikijelijnaaDoor
