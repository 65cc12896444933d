/-
 bind's Same. Conditions: right expressions, bound in one scope.
-/
import Derived.Test.YtkfjmgmjbljnbaaGreatDoorBEqV
import Derived.BigQuiet
set_option maxRecDepth 100000
set_option maxHeartbeats 8000000
namespace Go.Proofs.YtkfjmgmjbljnbaaGreatDoor
open Go.RowKit
def Says2 (fi : FuncId) (w : World) (gs gs2 : List Nat) (bs : List Bool) : Prop :=
 ∀ (j : Nat) (g g2 : Nat) (b : Bool), gs[j]? = some g → gs2[j]? = some g2 → bs[j]? = some b → ∀ m, Calls Tryz.prog fi #[ptr g, ptr g2] (w.drewN m) fun e w' => e = .returned (.bool b) ∧ ∃ n, w' = w.drewN n
theorem allb_snoc (bs : List Bool) {k : Nat} (h : k < bs.length) (h1 : (bs.take k).all id = true) : (bs.take (k + 1)).all id = bs[k] := by
 rw [List.take_succ_eq_append_getElem h, List.all_append, h1]
 simp
theorem rds_drewN {w : World} {A : Option Addr} {xs : List Value} (h : Rds w A xs) (m : Nat) : Rds (w.drewN m) A xs := h
theorem quiet_on {w : World} {n : Nat} {f : FuncId} {args : Array Value} {v : Value} (h : Calls Tryz.prog f args (w.drewN n) fun e w' => e = .returned v ∧ ∃ m, w' = (w.drewN n).drewN m) : Calls Tryz.prog f args (w.drewN n) fun e w' => e = .returned v ∧ ∃ m, w' = w.drewN m :=
 h.mono fun _ _ ⟨h1, m, h2⟩ => ⟨h1, n + m, by rw [h2, World.drewN_drewN]⟩
theorem equal_nodes (fi : FuncId) (hfi : ∀ args w, Sem.run Tryz.prog (callFunc fi args) w = .ok (.enter fi args) w) (A A2 : Option Addr) (c c2 n : Nat) (gs gs2 : List Nat) (bs : List Bool) (w : World) (hA : Rds w A (gs.map ptr)) (hA2 : Rds w A2 (gs2.map ptr)) (h1 : gs.length = n) (h2 : gs2.length = n) (hl : bs.length = n) (hn : n ≤ 10) (hS : Says2 fi w gs gs2 bs) :
 Calls Tryz.prog 73 #[.slice A n c, .slice A2 n c2, .func (.func fi) #[] #[]] w fun e w' => e = .returned (.bool (bs.all id)) ∧ ∃ m, w' = w.drewN m := by
 have HA := Lib.hid (And.intro hA hA2)
 have HS := Lib.hid hS
 have hn' : (n : Int) ≤ 10 := by omega
 have HL := Lib.hid (And.intro h1 (And.intro h2 hl))
 have hnn : ((n : Int) != (n : Int)) = false := by simp
 clear hA hA2 hS h1 h2 hl
 go_enter Tryz.func73, Tryz.ntmps73
 go_wp2_with fail
 go_loopw [7, 8, 9, 17] (fun _ _ _ s17 wr => ∃ k m : Nat, k ≤ n ∧ s17 = .int .i64 k ∧ (bs.take k).all id = true ∧ wr = w.drewN m) (fun _ _ _ s17 _ => n - (intOf s17).toNat)
 case atStart => exact ⟨0, 0, Nat.zero_le _, rfl, rfl, rfl⟩
 case round =>
  obtain ⟨k, m, hk, rfl, hq, rfl⟩ := hrel
  by_cases hlt : k < n
  ·have hltb : k < bs.length := by have := HL.out; omega
   have hg1 : k < gs.length := by have := HL.out; omega
   have hg2 : k < gs2.length := by have := HL.out; omega
   obtain ⟨b, off, hAA, hcell⟩ := (rds_drewN HA.out.1 m).at_ (show (gs.map ptr)[k]? = some (ptr gs[k]) by rw [List.getElem?_map, List.getElem?_eq_getElem hg1]; rfl)
   obtain ⟨b', off', hAA', hcell'⟩ := (rds_drewN HA.out.2 m).at_ (show (gs2.map ptr)[k]? = some (ptr gs2[k]) by rw [List.getElem?_map, List.getElem?_eq_getElem hg2]; rfl)
   have hC := HS.out k gs[k] gs2[k] bs[k] (List.getElem?_eq_getElem hg1) (List.getElem?_eq_getElem hg2) (List.getElem?_eq_getElem hltb) m
   have hall := allb_snoc bs hltb hq
   have HY := Lib.hid (fun (h : bs[k] = false) => (show bs.all id = false from List.all_eq_false.2 ⟨bs[k], List.getElem_mem hltb, by rw [h]; decide⟩))
   generalize gs[k] = g at *
   generalize gs2[k] = g2 at *
   generalize bs[k] = bb at *
   subst hAA hAA'
   unfold ptr at hcell hcell' hC
   have HC := Lib.hid hC
   have HQ := Lib.hid hall
   clear hC hall hq hltb hg1 hg2
   go_wp2_with fail
   refine HC.out.mono ?_
   rintro e w1 ⟨rfl, m2, rfl⟩
   cases bb
   ·have HZ := Lib.hid (HY.out rfl)
    go_wp2
    go_ret
    exact ⟨by rw [HZ.out]; rfl, _, rfl⟩
   ·go_wp2
    go_roundw
    case rel => exact ⟨k + 1, m2, by omega, by go_num, HQ.out, by trivial⟩
    case measure => simp [intOf]; omega
  ·have hk2 : k = bs.length := by have := HL.out; omega
   have HQ := Lib.hid (show bs.all id = true by rwa [hk2, List.take_length] at hq)
   clear hq hk2
   go_wp2
   go_ret
   exact ⟨by rw [HQ.out]; rfl, _, rfl⟩
theorem equal_len (A A2 : Option Addr) (c c2 n m : Nat) (f : Value) (w : World) (h : n ≠ m) :
 Calls Tryz.prog 73 #[.slice A n c, .slice A2 m c2, f] w fun e w' => e = .returned (.bool false) ∧ ∃ m, w' = w.drewN m := by
 have e1 : ((n : Int) != (m : Int)) = true := by rw [bne, beq_eq_false_iff_ne.2 (by omega)]; rfl
 clear h
 go_enter Tryz.func73, Tryz.ntmps73
 go_wp2
 go_ret
 exact ⟨rfl, 0, rfl⟩
attribute [local go_sem] eqG_run
attribute [-go_sem] run_eql_struct
theorem same_step (g g2 : Nat) (o1 o2 : List UInt8) (k1 k2 : Int) (v1 v2 : Lp.V) (a1 a2 : Int) (A A2 : Option Addr) (n c n2 c2 : Nat) (be : Bool) (w : World)
 (h1 : w.heap[g]? = some (.cells (ndv o1 k1 v1 a1 A n c) 66 (0, 0))) (h2 : w.heap[g2]? = some (.cells (ndv o2 k2 v2 a2 A2 n2 c2) 66 (0, 0)))
 (hE : ∀ m, Calls Tryz.prog 73 #[.slice A n c, .slice A2 n2 c2, .func (.func 38) #[] #[]] (w.drewN m) fun e w' => e = .returned (.bool be) ∧ ∃ n, w' = w.drewN n) :
 Calls Tryz.prog 38 #[ptr g, ptr g2] w fun e w' => e = .returned (.bool (o1 == o2 && k1 == k2 && vEq v1 v2 && a1 == a2 && be)) ∧ ∃ m, w' = w.drewN m := by
 obtain ⟨x1, x2, x3, x4⟩ := v1
 obtain ⟨y1, y2, y3, y4⟩ := v2
 have HE := Lib.hid hE
 have c1 := box_cells h1
 have c2' := box_cells h2
 simp only [ndv] at c1 c2'
 clear hE h1 h2
 unfold ptr
 cases e1 : (o1 == o2)
 ·go_enter Tryz.func38, Tryz.ntmps38
  go_wp2_with fail
  go_quiet (fail)
  go_wp2
  go_ret
  exact ⟨rfl, _, rfl⟩
 ·cases e2 : (k1 == k2)
  ·go_enter Tryz.func38, Tryz.ntmps38
   go_wp2_with fail
   go_quiet (fail)
   go_wp2
   go_ret
   exact ⟨rfl, _, rfl⟩
  ·have HV := Lib.hid (fun (w : World) => eqV_run x1 x2 y1 y2 x3 y3 x4 y4 w)
   cases e3 : vEq ⟨x1, x2, x3, x4⟩ ⟨y1, y2, y3, y4⟩
   ·rw [e3] at HV
    have hv := HV.out
    go_enter Tryz.func38, Tryz.ntmps38
    go_wp2_with fail
    go_quiet (fail)
    go_wp2
    go_ret
    exact ⟨rfl, _, rfl⟩
   ·rw [e3] at HV
    have hv := HV.out
    cases e4 : (a1 == a2)
    ·go_enter Tryz.func38, Tryz.ntmps38
     go_wp2_with fail
     go_quiet (fail)
     go_wp2
     go_ret
     exact ⟨rfl, _, rfl⟩
    ·go_enter Tryz.func38, Tryz.ntmps38
     go_wp2_with fail
     go_quiet (with_reducible (go_at_call 73; exact HE.out _))
     go_wp2
     go_ret
     exact ⟨by simp, _, rfl⟩
end Go.Proofs.YtkfjmgmjbljnbaaGreatDoor
