/-
  The document's Truth, of one condition. Conditions: at most 100 tables, 10000 columns in all; a right expression.
-/
import Derived.Test.YtkfjmgmjbljnbaaGreatDoorKind17
import Derived.Test.YtkfjmgmjbljnbaaGreatDoorTruthB
namespace Go.Proofs.YtkfjmgmjbljnbaaGreatDoor
open Go.RowKit

set_option maxRecDepth 100000 in
set_option maxHeartbeats 4000000 in
theorem truth17_one (A : Option Addr) (c : Nat) (l : List TabA) (x : Lp.X) (r : RC) (g : Nat) (w : World) (hA : ScA w A l) (hn : l.length ≤ 100) (hw : Lp.wide (scOf l) ≤ 10000) (hx : x.wf) (hg : w.heap[g]? = some (.cells r.cells.toArray 35 (0, 0))) (S : Nat → Prop) (hr : RX S w x r) :
    Calls Tryz.prog 37 #[.slice A l.length c, .slice (some ⟨g, 0, none⟩) 1 1] w fun e w' => e = .returned (.int .i64 (truE (scOf l) x)) ∧ Below w.heap.size w w' := by
  obtain ⟨rk, rvk, rvi, rvs, rvb, rt, rs, rA, rn, rc⟩ := r
  have hbx : Below w.heap.size w (w.alloc (.cells #[.int .u8 rk, .int .u8 rvk, .int .i64 rvi, .string rvs, .bool rvb, .string rt, .string rs, .slice rA rn rc] 35)) := (Below.refl _ _).alloc (Nat.le_refl _) _
  have HC := Lib.hid (kind17_any A c l hn hw x hx false S _ _ (hA.below hbx) (RX.below hbx hr))
  simp only [RC.val] at HC
  have hc := box_cells hg
  simp only [RC.cells] at hc
  have HB := Lib.hid hbx
  have HT := Lib.hid (show truE (scOf l) x = if (Lp.kindX (scOf l) x false).2 = 0 then (if Lp.fitK (Lp.kindX (scOf l) x false).1 3 then 0 else 8) else (Lp.kindX (scOf l) x false).2 from rfl)
  generalize Lp.kindX (scOf l) x false = p at *
  obtain ⟨p1, p2⟩ := p
  generalize truE (scOf l) x = E at *
  clear hA hn hw hx hg hr hbx
  go_enter Tryz.func37, Tryz.ntmps37
  go_wp2_with fail
  go_loopw [6, 7, 8, 11] (fun _ _ _ s11 wr => (s11 = .int .i64 0 ∧ w = wr) ∨ (s11 = .int .i64 1 ∧ E = 0 ∧ Below w.heap.size w wr)) (fun _ _ _ s11 _ => 1 - (intOf s11).toNat)
  case atStart => exact .inl ⟨rfl, rfl⟩
  case round =>
    rcases hrel with ⟨rfl, rfl⟩ | ⟨rfl, hE, hb⟩
    · go_wp2_with fail
      refine HC.out.mono ?_
      rintro e w2 ⟨rfl, hb2⟩
      have HQ := Lib.hid (HB.out.trans (hb2.mono HB.out.size))
      by_cases h2 : p2 = 0
      · subst h2
        cases e1 : (p1 == 0)
        · have n1 : (p1 != 0) = true := by rw [bne, e1]; rfl
          cases e2 : (p1 == 3)
          · have n2 : (p1 != 3) = true := by rw [bne, e2]; rfl
            have HE := Lib.hid (show E = 8 by rw [HT.out]; simp [Lp.fitK, e1, e2])
            clear hb2 hc HT
            go_wp2
            go_ret
            exact ⟨by rw [HE.out]; rfl, HQ.out⟩
          · have n2 : (p1 != 3) = false := by rw [bne, e2]; rfl
            have HE := Lib.hid (show E = 0 by rw [HT.out]; simp [Lp.fitK, e2])
            clear hb2 hc HT
            go_wp2
            go_roundw
            case rel => exact .inr ⟨by go_num, HE.out, HQ.out⟩
            case measure => simp [intOf]
        · have n1 : (p1 != 0) = false := by rw [bne, e1]; rfl
          have HE := Lib.hid (show E = 0 by rw [HT.out]; simp [Lp.fitK, e1])
          clear hb2 hc HT
          go_wp2
          go_roundw
          case rel => exact .inr ⟨by go_num, HE.out, HQ.out⟩
          case measure => simp [intOf]
      · have e1 : (p2 != 0) = true := by rw [bne, beq_eq_false_iff_ne.2 h2]; rfl
        have HE := Lib.hid (show E = p2 by rw [HT.out]; exact if_neg h2)
        clear hb2 hc HT h2
        go_wp2
        go_ret
        exact ⟨by rw [HE.out]; rfl, HQ.out⟩
    · have HE := Lib.hid hE
      have HQ := Lib.hid hb
      clear hE hb hc
      go_wp2
      go_ret
      exact ⟨by rw [HE.out]; rfl, HQ.out⟩
end Go.Proofs.YtkfjmgmjbljnbaaGreatDoor
