/-
  bind.Truth. Conditions: at most 100 tables, 10000 columns; a right expression, or none.
-/
import Derived.Test.YtkfjmgmjbljnbaaGreatDoorGF
namespace Go.Proofs.YtkfjmgmjbljnbaaGreatDoor
open Go.RowKit

/-- A condition's error. -/
def truE (sc : List Lp.Tb) (x : Lp.X) : Int := if (Lp.kindX sc x false).2 = 0 then (if Lp.fitK (Lp.kindX sc x false).1 3 then 0 else 8) else (Lp.kindX sc x false).2
def TruPost (sc : List Lp.Tb) (x : Lp.X) (w : World) (e : Ending) (w' : World) : Prop :=
  Below w.heap.size w w' ∧ if truE sc x = 0 then ∃ g, e = .returned (.tuple #[ptr g, .int .i64 0]) ∧ NT (fun k => w.heap.size ≤ k) w' sc x g else e = .returned (.tuple #[.pointer none, .int .i64 (truE sc x)])
theorem tru_no {sc : List Lp.Tb} {x : Lp.X} {w w' : World} {E : Int} (h : truE sc x = E) (h0 : E ≠ 0) (hb : Below w.heap.size w w') : TruPost sc x w (.returned (.tuple #[.pointer none, .int .i64 E])) w' := by
  subst h
  exact ⟨hb, by rw [if_neg h0]⟩
theorem tru_yes {sc : List Lp.Tb} {x : Lp.X} {w w' : World} {g : Nat} (h : truE sc x = 0) (hb : Below w.heap.size w w') (hn : NT (fun k => w.heap.size ≤ k) w' sc x g) : TruPost sc x w (.returned (.tuple #[ptr g, .int .i64 0])) w' :=
  ⟨hb, by rw [if_pos h]; exact ⟨g, rfl, hn⟩⟩
set_option maxRecDepth 100000 in
set_option maxHeartbeats 4000000 in
theorem bindTruth_any (A : Option Addr) (c : Nat) (sc : List Lp.Tb) (x : Lp.X) (T : TypeId) (g0 : Nat) (w : World) (hn : sc.length ≤ 100) (hw : Lp.wide sc ≤ 10000) (hx : x.wf) (hp : PX 0 w x (.iface T (.pointer (some ⟨g0, 0, none⟩)))) (hS : ScM w A sc) :
    Calls Tryz.prog 36 #[.slice A sc.length c, .iface T (.pointer (some ⟨g0, 0, none⟩))] w (TruPost sc x w) := by
  have HB := Lib.hid (bindExpr_any A c sc false x _ w hn hw hx hp hS)
  clear hn hw hx hp hS
  go_enter Tryz.func36, Tryz.ntmps36
  go_wp2_with fail
  refine HB.out.mono ?_
  rintro e w1 ⟨hb1, hr⟩
  have HB1 := Lib.hid hb1
  by_cases hk : (Lp.kindX sc x false).2 = 0
  · rw [if_pos hk] at hr
    obtain ⟨g, rfl, hnt⟩ := hr
    have HN := Lib.hid hnt
    obtain ⟨op, v, a, An, n, cn, hc⟩ := hnt.kind hk
    have HF := Lib.hid (fits_any g op _ v a An n cn 3 w1 hc)
    have HT : Hid (truE sc x = if Lp.fitK (Lp.kindX sc x false).1 3 then 0 else 8) := by show _ = _; unfold truE; rw [if_pos hk]
    generalize Lp.fitK (Lp.kindX sc x false).1 3 = b at *
    clear hnt hc hb1 hk HB
    unfold ptr at HF ⊢
    go_wp2_with fail
    refine HF.out.mono ?_
    rintro e w2 ⟨rfl, rfl⟩
    cases b
    · go_wp2
      go_ret2
      exact tru_no HT.out (by decide) HB1.out
    · go_wp2
      go_ret2
      exact tru_yes HT.out HB1.out HN.out
  · rw [if_neg hk] at hr
    subst hr
    have HT : Hid (truE sc x = (Lp.kindX sc x false).2) := by show _ = _; unfold truE; rw [if_neg hk]
    have HK := Lib.hid hk
    have e1 : ((Lp.kindX sc x false).2 == 0) = false := beq_eq_false_iff_ne.2 hk
    generalize (Lp.kindX sc x false).2 = E at *
    clear hb1 HB hk
    go_wp2
    go_ret2
    exact tru_no HT.out HK.out HB1.out
set_option maxRecDepth 100000 in
set_option maxHeartbeats 4000000 in
theorem bindTruth_nil (A : Option Addr) (n c : Nat) (w : World) : Calls Tryz.prog 36 #[.slice A n c, .nilIface] w fun e w' => e = .returned (.tuple #[.pointer none, .int .i64 0]) ∧ w = w' := by
  go_enter Tryz.func36, Tryz.ntmps36
  go_wp2
  go_ret2
  exact ⟨rfl, rfl⟩
end Go.Proofs.YtkfjmgmjbljnbaaGreatDoor
