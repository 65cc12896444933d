/-
 eval's number, truth, stands, two. Conditions: numbers of 64 bits.
-/
import Derived.Test.YtkfjmgmjbljnbaaGreatDoorYPlainEval
import Derived.Test.YtkfjmgmjbljnbaaGreatDoorYZB
import Derived.Test.YtkfjmgmjbljnbaaGreatDoorYRowsV
set_option maxRecDepth 100000
set_option maxHeartbeats 8000000
namespace Go.Proofs.YtkfjmgmjbljnbaaGreatDoor
open Go.RowKit
def EvPost (p : Lp.V × Int) (w : World) (e : Ending) (w' : World) : Prop := e = .returned (.tuple #[vv4 p.1, .int .i64 p.2]) ∧ Below w.heap.size w w'
theorem EvPost.mk {p : Lp.V × Int} {w w' : World} {k i E : Int} {s : ByteArray} {b : Bool} (h : p = (⟨k, i, s, b⟩, E)) (hb : Below w.heap.size w w') : EvPost p w (.returned (.tuple #[.agg #[.int .u8 k, .int .i64 i, .string s, .bool b], .int .i64 E])) w' := by
 subst h; exact ⟨rfl, hb⟩
theorem number_any (n : Int) (w : World) : Calls Tryz.prog 89 #[.int .i64 n] w fun e w' => e = .returned (.agg #[.int .u8 1, .int .i64 n, .string ⟨#[]⟩, .bool false]) ∧ (w.alloc (.cells #[.int .u8 1, .int .i64 n, .string ⟨#[]⟩, .bool false] 31)) = w' := by
 go_enter Tryz.func89, Tryz.ntmps89
 go_wp2
 exact bodyPost_ret (v := .agg #[.int .u8 1, .int .i64 n, .string ⟨#[]⟩, .bool false]) (by simp [results, Tryz.results89, go_sem]) rfl ⟨rfl, rfl⟩
theorem etruth_any (b : Bool) (w : World) : Calls Tryz.prog 87 #[.bool b] w fun e w' => e = .returned (.agg #[.int .u8 3, .int .i64 0, .string ⟨#[]⟩, .bool b]) ∧ (w.alloc (.cells #[.int .u8 3, .int .i64 0, .string ⟨#[]⟩, .bool b] 31)) = w' := by
 go_enter Tryz.func87, Tryz.ntmps87
 go_wp2
 exact bodyPost_ret (v := .agg #[.int .u8 3, .int .i64 0, .string ⟨#[]⟩, .bool b]) (by simp [results, Tryz.results87, go_sem]) rfl ⟨rfl, rfl⟩
theorem stands_any (op : List UInt8) (c : Int) (w : World) : Calls Tryz.prog 134 #[.string ⟨op.toArray⟩, .int .i64 c] w fun e w' => e = .returned (.bool (Lp.standsX op c)) ∧ w = w' := by
 obtain ⟨r, hr⟩ : ∃ r, Lp.standsX op c = r := ⟨_, rfl⟩
 rw [hr]
 have HR := Lib.hid hr
 clear hr
 by_cases h1 : op = [61]
 ·subst h1
  have hr : decide (c = 0) = r := HR.out
  have e1 : (c == 0) = r := by rw [← hr, Bool.eq_iff_iff]; simp
  clear hr HR
  go_enter Tryz.func134, Tryz.ntmps134
  go_wp2
  go_ret
  exact ⟨rfl, rfl⟩
 ·by_cases h2 : op = [60, 62]
  ·subst h2
   have hr : decide (c ≠ 0) = r := HR.out
   have e1 : (c != 0) = r := by rw [← hr, Bool.eq_iff_iff]; simp
   clear hr HR h1
   go_enter Tryz.func134, Tryz.ntmps134
   go_wp2
   go_ret
   exact ⟨rfl, rfl⟩
  ·by_cases h3 : op = [60]
   ·subst h3
    have hr : decide (c < 0) = r := HR.out
    clear HR h1 h2
    go_enter Tryz.func134, Tryz.ntmps134
    go_wp2
    go_ret
    exact ⟨rfl, rfl⟩
   ·by_cases h4 : op = [60, 61]
    ·subst h4
     have hr : decide (c ≤ 0) = r := HR.out
     clear HR h1 h2 h3
     go_enter Tryz.func134, Tryz.ntmps134
     go_wp2
     go_ret
     exact ⟨rfl, rfl⟩
    ·by_cases h5 : op = [62]
     ·subst h5
      have hr : decide (0 < c) = r := HR.out
      clear HR h1 h2 h3 h4
      go_enter Tryz.func134, Tryz.ntmps134
      go_wp2
      go_ret
      exact ⟨rfl, rfl⟩
     ·have hr : decide (0 ≤ c) = r := by
       have := HR.out
       unfold Lp.standsX at this
       rwa [if_neg h1, if_neg h2, if_neg h3, if_neg h4, if_neg h5] at this
      have e1 : (op == [61]) = false := beq_eq_false_iff_ne.2 h1
      have e2 : (op == [60, 62]) = false := beq_eq_false_iff_ne.2 h2
      have e3 : (op == [60]) = false := beq_eq_false_iff_ne.2 h3
      have e4 : (op == [60, 61]) = false := beq_eq_false_iff_ne.2 h4
      have e5 : (op == [62]) = false := beq_eq_false_iff_ne.2 h5
      clear HR h1 h2 h3 h4 h5
      go_enter Tryz.func134, Tryz.ntmps134
      go_wp2
      go_ret
      exact ⟨rfl, rfl⟩
def W3 (w : World) (a b : Lp.V) : World := ((w.alloc (.cells #[.int .u8 a.k, .int .i64 a.i, .string a.s, .bool a.b] 31)).alloc (.cells #[.int .u8 b.k, .int .i64 b.i, .string b.s, .bool b.b] 31)).alloc (.cells #[.int .u8 0, .int .i64 0, .string ⟨#[]⟩, .bool false] 31)
theorem w3_facts (w : World) (a b : Lp.V) : Below w.heap.size w (W3 w a b) ∧ (W3 w a b).heap[w.heap.size]? = some (.cells #[.int .u8 a.k, .int .i64 a.i, .string a.s, .bool a.b] 31 (0, 0)) ∧
 (W3 w a b).heap[w.heap.size + 1]? = some (.cells #[.int .u8 b.k, .int .i64 b.i, .string b.s, .bool b.b] 31 (0, 0)) ∧ (W3 w a b).heap[w.heap.size + 1 + 1]? = some (.cells #[.int .u8 0, .int .i64 0, .string ⟨#[]⟩, .bool false] 31 (0, 0)) ∧ (W3 w a b).heap.size = w.heap.size + 1 + 1 + 1 := by
 refine ⟨ba (ba (ba (Below.refl _ _) _) _) _, box_alloc (box_alloc (heap_alloc_new w _) _) _, box_alloc (heap_new2 w _ _) _, ?_, by simp [W3]⟩
 have := heap_alloc_new ((w.alloc (.cells #[.int .u8 a.k, .int .i64 a.i, .string a.s, .bool a.b] 31)).alloc (.cells #[.int .u8 b.k, .int .i64 b.i, .string b.s, .bool b.b] 31)) (.cells #[.int .u8 0, .int .i64 0, .string ⟨#[]⟩, .bool false] 31)
 simpa [W3] using this
theorem twoX_null {op : List UInt8} {a b : Lp.V} (h : a.k = 0 ∨ b.k = 0) : Lp.twoX op a b = (Lp.nullV, 0) := if_pos h
theorem twoX_some {op : List UInt8} {a b : Lp.V} (h1 : a.k ≠ 0) (h2 : b.k ≠ 0) : Lp.twoX op a b = Lp.numE (Lp.reckV op a.i b.i) (Lp.reckE op a.i b.i) := if_neg (by rintro (h | h); exact h1 h; exact h2 h)
theorem two_any (op : List UInt8) (hop : op ∈ Lp.arith) (a b : Lp.V) (w : World) (ha : Lp.inR a.i) (hb : Lp.inR b.i) :
 Calls Tryz.prog 88 #[.string ⟨op.toArray⟩, vv4 a, vv4 b] w (EvPost (Lp.twoX op a b) w) := by
 obtain ⟨hb0, q1, q2, q3, hz⟩ := w3_facts w a b
 unfold vv4
 by_cases h1 : a.k = 0
 ·have HR := Lib.hid (twoX_null (op := op) (a := a) (b := b) (.inl h1))
  rw [h1]
  clear q1 q2 q3 hz hop ha hb
  unfold W3 at hb0
  rw [h1] at hb0
  clear h1
  go_enter Tryz.func88, Tryz.ntmps88
  go_wp2
  exact bodyPost_ret (v := .tuple #[.agg #[.int .u8 0, .int .i64 0, .string ⟨#[]⟩, .bool false], .int .i64 0]) (by simp [results, Tryz.results88, go_sem]) rfl (EvPost.mk HR.out hb0)
 ·by_cases h2 : b.k = 0
  ·have HR := Lib.hid (twoX_null (op := op) (a := a) (b := b) (.inr h2))
   have e1 : (a.k == 0) = false := beq_eq_false_iff_ne.2 h1
   unfold W3 at hb0
   rw [h2] at hb0 ⊢
   clear q1 q2 q3 hz hop ha hb h1 h2
   go_enter Tryz.func88, Tryz.ntmps88
   go_wp2
   exact bodyPost_ret (v := .tuple #[.agg #[.int .u8 0, .int .i64 0, .string ⟨#[]⟩, .bool false], .int .i64 0]) (by simp [results, Tryz.results88, go_sem]) rfl (EvPost.mk HR.out hb0)
  ·have HR := Lib.hid (twoX_some (op := op) h1 h2)
   have e1 : (a.k == 0) = false := beq_eq_false_iff_ne.2 h1
   have e2 : (b.k == 0) = false := beq_eq_false_iff_ne.2 h2
   have HB := Lib.hid (And.intro ha hb)
   clear q1 q2 hz ha hb h1 h2
   have HW := Lib.hid (And.intro hb0 q3)
   clear hb0 q3
   obtain ⟨n, hn⟩ : ∃ n, Lp.reckV op a.i b.i = n := ⟨_, rfl⟩
   obtain ⟨E, hE⟩ : ∃ E, Lp.reckE op a.i b.i = E := ⟨_, rfl⟩
   rw [hn, hE] at HR
   simp only [Lp.arith, List.mem_cons, List.not_mem_nil, or_false] at hop
   have HN := Lib.hid (And.intro hn hE)
   clear hn hE
   rcases hop with rfl | rfl | rfl | rfl | rfl
   all_goals
    go_enter Tryz.func88, Tryz.ntmps88
    go_wp2_with fail
    first
     | refine (add_any a.i b.i _ HB.out.1 HB.out.2).mono ?_
     | refine (sub_any a.i b.i _ HB.out.1 HB.out.2).mono ?_
     | refine (mul_any a.i b.i _ HB.out.1 HB.out.2).mono ?_
     | refine (div_any a.i b.i _ HB.out.1).mono ?_
     | refine (mod_any a.i b.i _).mono ?_
    rintro e w1 ⟨rfl, rfl⟩
    have hN := HN.out
    simp only [Lp.reckV, Lp.reckE, if_true, if_false, List.cons.injEq, and_true, show ((45 : UInt8) = 43) = False by decide, show ((42 : UInt8) = 43) = False by decide, show ((42 : UInt8) = 45) = False by decide, show ((47 : UInt8) = 43) = False by decide, show ((47 : UInt8) = 45) = False by decide, show ((47 : UInt8) = 42) = False by decide, show ((37 : UInt8) = 43) = False by decide, show ((37 : UInt8) = 45) = False by decide, show ((37 : UInt8) = 42) = False by decide, show ((37 : UInt8) = 47) = False by decide] at hN
    rw [hN.1, hN.2]
    clear hN HN HB
    have hW := HW.out
    unfold W3 at hW
    generalize ((w.alloc (.cells #[.int .u8 a.k, .int .i64 a.i, .string a.s, .bool a.b] 31)).alloc (.cells #[.int .u8 b.k, .int .i64 b.i, .string b.s, .bool b.b] 31)).alloc (.cells #[.int .u8 0, .int .i64 0, .string ⟨#[]⟩, .bool false] 31) = V at *
    obtain ⟨hb0, q3⟩ := hW
    clear HW
    by_cases h0 : E = 0
    ·subst h0
     have HQ := Lib.hid (HR.out.trans (if_pos rfl))
     clear HR
     go_wp2_with fail
     refine (number_any n _).mono ?_
     rintro e w2 ⟨rfl, rfl⟩
     have hr1 := box_alloc q3 (.cells #[.int .u8 1, .int .i64 n, .string ⟨#[]⟩, .bool false] 31)
     have hb1 := ba hb0 (.cells #[.int .u8 1, .int .i64 n, .string ⟨#[]⟩, .bool false] 31)
     have hc1 := box_cells hr1
     have hf1 := fun j => frozen_of_row _ _ j _ _ hr1
     have HCE := Lib.hid (box_cells (set4_same hr1 (.int .u8 1) (.int .i64 n) (.string ⟨#[]⟩) (.bool false)))
     have k5 := below_set4 hb1 (g := w.heap.size + 1 + 1) (by omega) (.int .u8 1) (.int .i64 n) (.string ⟨#[]⟩) (.bool false)
     have K5 := Lib.hid k5
     clear hb0 q3 hr1 hb1 k5
     go_wp2
     have hcE := HCE.out
     exact bodyPost_ret (v := .tuple #[.agg #[.int .u8 1, .int .i64 n, .string ⟨#[]⟩, .bool false], .int .i64 0]) (by simp [results, Tryz.results88, go_sem, hcE]) rfl (EvPost.mk HQ.out K5.out)
    ·have e3 : (E == 0) = false := beq_eq_false_iff_ne.2 h0
     have e4 : (E != 0) = true := by rw [bne, e3]; rfl
     have HQ := Lib.hid (HR.out.trans (if_neg h0))
     have hc1 := box_cells q3
     have hf1 := fun j => frozen_of_row _ _ j _ _ q3
     have HCE := Lib.hid (box_cells (set4_same q3 (.int .u8 0) (.int .i64 0) (.string ⟨#[]⟩) (.bool false)))
     have k5 := below_set4 hb0 (g := w.heap.size + 1 + 1) (by omega) (.int .u8 0) (.int .i64 0) (.string ⟨#[]⟩) (.bool false)
     have K5 := Lib.hid k5
     clear hb0 q3 k5 h0 HR
     go_wp2
     have hcE := HCE.out
     exact bodyPost_ret (v := .tuple #[.agg #[.int .u8 0, .int .i64 0, .string ⟨#[]⟩, .bool false], .int .i64 E]) (by simp [results, Tryz.results88, go_sem, hcE]) rfl (EvPost.mk HQ.out K5.out)
end Go.Proofs.YtkfjmgmjbljnbaaGreatDoor
