/-
 BindExprs: the walk. Conditions: the listed tables as laid; the arguments as they came in.
-/
import Derived.Test.YtkfjmgmjbljnbaaGreatDoorBGU
import Derived.Test.YtkfjmgmjbljnbaaGreatDoorBScope17
import Derived.Test.YtkfjmgmjbljnbaaGreatDoorBKind17
import Derived.Test.YtkfjmgmjbljnbaaGreatDoorBShow17
import Derived.Test.YtkfjmgmjbljnbaaGreatDoorBSafe17
import Derived.Test.YtkfjmgmjbljnbaaGreatDoorBSafe1
import Derived.Deep.RegionHeldLaw
set_option maxRecDepth 100000
set_option maxHeartbeats 8000000
namespace Go.Proofs.YtkfjmgmjbljnbaaGreatDoor
open Go.RowKit
theorem bel_to {w0 W : World} {v : Value} {f : FuncId} {args : Array Value} (hb : Below w0.heap.size w0 W) (h : Calls Tryz.prog f args W fun e w' => e = .returned v ∧ Below W.heap.size W w') : Calls Tryz.prog f args W fun e w' => e = .returned v ∧ Below w0.heap.size w0 w' :=
 h.mono fun _ _ ⟨h1, h2⟩ => ⟨h1, hb.trans (h2.mono hb.size)⟩
theorem keep9 {w W : World} {g gz : Nat} {u u0 u1 u2 u3 u4 u5 u6 u7 : Value} (hb : Below w.heap.size w W) (h : w.cell? ⟨g, 1, none⟩ = some u) (h0 : w.cell? ⟨gz, 0, none⟩ = some u0) (h1 : w.cell? ⟨gz, 1, none⟩ = some u1) (h2 : w.cell? ⟨gz, 2, none⟩ = some u2) (h3 : w.cell? ⟨gz, 3, none⟩ = some u3) (h4 : w.cell? ⟨gz, 4, none⟩ = some u4) (h5 : w.cell? ⟨gz, 5, none⟩ = some u5) (h6 : w.cell? ⟨gz, 6, none⟩ = some u6) (h7 : w.cell? ⟨gz, 7, none⟩ = some u7) :
 W.cell? ⟨g, 1, none⟩ = some u ∧ W.cell? ⟨gz, 0, none⟩ = some u0 ∧ W.cell? ⟨gz, 1, none⟩ = some u1 ∧ W.cell? ⟨gz, 2, none⟩ = some u2 ∧ W.cell? ⟨gz, 3, none⟩ = some u3 ∧ W.cell? ⟨gz, 4, none⟩ = some u4 ∧ W.cell? ⟨gz, 5, none⟩ = some u5 ∧ W.cell? ⟨gz, 6, none⟩ = some u6 ∧ W.cell? ⟨gz, 7, none⟩ = some u7 :=
 ⟨cell_bel h hb, cell_bel h0 hb, cell_bel h1 hb, cell_bel h2 hb, cell_bel h3 hb, cell_bel h4 hb, cell_bel h5 hb, cell_bel h6 hb, cell_bel h7 hb⟩
theorem exprs_walk (A : Option Addr) (c : Nat) (la : List TabA) (s : ByteArray) (gr : Bool) (w : World) (hA : ScA w A la) (hT : Tabs w) (hR : Resv w) (hL : LitT w) :
 Calls Tryz.prog 11 #[.slice A la.length c, .string s, .bool gr] w fun e w' => e = .returned (.bool true) ∧ Below w.heap.size w w' := by
 have HA := Lib.hid (awake17 w hT hR hL)
 have HT := Lib.hid (And.intro hT (And.intro hR hL))
 have HS := Lib.hid hA
 have hok : ∀ x, Lp.condS (s.data.toList.take 600) = some x → x.wf ∧ x.size ≤ 2000 := fun x h => Lp.condS_ok (by rw [List.length_take]; omega) h
 have HOK := Lib.hid hok
 clear hT hR hL hA hok
 go_enter Tryz.func11, Tryz.ntmps11
 go_wp2_with fail
 refine HA.out.mono ?_
 rintro e w1 ⟨rfl, hb1⟩
 go_wp2_with fail
 refine (scope17_any A c la 2 (Nat.le_refl _) w1 (HS.out.below hb1)).mono ?_
 rintro e w2 ⟨hb2, hsc⟩
 have hB := hb1.trans (hb2.mono hb1.size)
 have HC := Lib.hid (condition_any s w2 (tabs_below HT.out.1 hB) (resv_below HT.out.2.1 hB))
 have HB := Lib.hid hB
 generalize hq : Lp.condS (s.data.toList.take 600) = q at *
 rcases hsc with rfl | ⟨l, A1, c1, A2, c2, rfl, hS1, hS2, hl2, h8⟩
 ·clear hb1 hb2 hB hq
  go_wp2_with fail
  refine HC.out.mono ?_
  rintro e w3 ⟨hb3, hc⟩
  have HB3 := Lib.hid (HB.out.trans (hb3.mono HB.out.size))
  cases q with
  | none =>
    obtain ⟨⟨k, vk, vi, vs, vb, tt, ss, Ar, nn, cr⟩, rfl⟩ := hc
    simp only [RC.val]
    clear hb3 HC
    go_wp2
    go_ret
    exact ⟨rfl, HB3.out.alloc HB3.out.size _⟩
  | some x =>
    obtain ⟨T, g, ⟨k, vk, vi, vs, vb, tt, ss, Ar, nn, cr⟩, rfl, -, -⟩ := hc
    simp only [RC.val]
    clear hb3 HC
    go_wp2
    go_ret
    exact ⟨rfl, HB3.out.alloc HB3.out.size _⟩
 ·have hwd := wide_scOf (fun p hp => (h8 p hp).1)
  have hwd2 : Lp.wide (scOf l) ≤ 10000 := by omega
  have HSC := Lib.hid (And.intro hS1 (And.intro hS2 (And.intro hl2 hwd2)))
  clear hb1 hb2 hB hq hS1 hS2 hl2 h8 hwd hwd2
  go_wp2_with fail
  refine HC.out.mono ?_
  rintro e w3 ⟨hb3, hc⟩
  have HB3 := Lib.hid (HB.out.trans (hb3.mono HB.out.size))
  cases q with
  | none =>
    obtain ⟨⟨k, vk, vi, vs, vb, tt, ss, Ar, nn, cr⟩, rfl⟩ := hc
    simp only [RC.val]
    clear hb3 HC
    go_wp2
    go_ret
    exact ⟨rfl, HB3.out.alloc HB3.out.size _⟩
  | some x =>
    obtain ⟨T, g, ⟨k, vk, vi, vs, vb, tt, ss, Ar, nn, cr⟩, rfl, hp, hrx⟩ := hc
    simp only [RC.val]
    have hz := heap_alloc_new w3 (.cells #[.int .u8 k, .int .u8 vk, .int .i64 vi, .string vs, .bool vb, .string tt, .string ss, .slice Ar nn cr] 35)
    have hbx : Below w3.heap.size w3 (w3.alloc (.cells #[.int .u8 k, .int .u8 vk, .int .i64 vi, .string vs, .bool vb, .string tt, .string ss, .slice Ar nn cr] 35)) := (Below.refl _ _).alloc (Nat.le_refl _) _
    have hwf := HOK.out x rfl
    have HX := Lib.hid (And.intro hz (And.intro (RX.below hbx hrx) (And.intro (hb3.trans (hbx.mono hb3.size)) hwf)))
    have hBE := bindExpr_any A1 c1 (scOf l) gr x (.iface T (.pointer (some ⟨g, 0, none⟩))) _ (by rw [scOf_len]; have := HSC.out.2.2.1; omega) HSC.out.2.2.2 hwf.1 (PX.mono (Nat.zero_le _) (PX.keep (stays_below hbx) hp)) ((HSC.out.1.below hb3).below hbx).scm
    rw [scOf_len] at hBE
    have HBE := Lib.hid hBE
    clear hz hbx hp hrx hb3 HC hBE HOK hwf
    go_wp2_with fail
    refine HBE.out.mono ?_
    rintro e w4 ⟨hb4, hr⟩
    have hk4 := HX.out.2.2.1.trans (hb4.mono HX.out.2.2.1.size)
    have hz4 := box_below HX.out.1 hb4
    have hl2 : l.length ≤ 100 := by have := HSC.out.2.2.1; omega
    have hKD := kind17_any A2 c2 l hl2 HSC.out.2.2.2 x HX.out.2.2.2.1 gr _ w4 _ (HSC.out.2.1.below hk4) (HX.out.2.1.below hb4)
    simp only [RC.val] at hKD
    have HKD := Lib.hid hKD
    have cz := box_cells hz4
    have HZ := Lib.hid (And.intro hz4 (And.intro hk4 (And.intro (HX.out.2.1.below hb4) HX.out.2.2.2)))
    clear hKD hz4 hk4 HX HBE
    by_cases h0 : (Lp.kindX (scOf l) x gr).2 = 0
    ·rw [if_pos h0] at hr
     obtain ⟨g4, rfl, hnt⟩ := hr
     have HN := Lib.hid hnt
     unfold ptr
     clear hb4 hnt
     go_wp2_with fail
     refine HKD.out.mono ?_
     rintro e w5 ⟨rfl, hb5⟩
     rw [h0]
     have hn5 := HN.out.below hb5
     obtain ⟨op, v, a, An, n, cn, hcell⟩ := hn5.kind h0
     have cg := box_cells hcell 1
     simp only [ndv] at cg
     have hz5 := box_below HZ.out.1 hb5
     have hk5 := HZ.out.2.1.trans (hb5.mono HZ.out.2.1.size)
     have hK5 := HB.out.trans (hk5.mono HB.out.size)
     have hr5 := HZ.out.2.2.1.below hb5
     have hA5 := HSC.out.2.1.below hk5
     obtain ⟨TT, hTT⟩ : ∃ TT, shB (scOf l) x = TT := ⟨_, rfl⟩
     obtain ⟨bs, hbs⟩ : ∃ bs, Lp.safeX x = bs := ⟨_, rfl⟩
     have H1 := Lib.hid (fun (W : World) (hb : Below w5.heap.size w5 W) => hTT ▸ show_any (scOf l) HSC.out.2.2.2 x HZ.out.2.2.2.1 (by have := HZ.out.2.2.2.2; omega) _ w5 W g4 hn5 (HT.out.2.2.below hK5) hb)
     have H2 := Lib.hid (fun (W : World) (hb : Below w5.heap.size w5 W) => hTT ▸ bel_to hb (show17_any A2 c2 l hl2 HSC.out.2.2.2 x HZ.out.2.2.2.1 (by have := HZ.out.2.2.2.2; omega) _ W _ (hA5.below hb) (hr5.below hb)))
     have H3 := Lib.hid (fun (W : World) (hb : Below w5.heap.size w5 W) => hbs ▸ bel_to hb (safe_any (scOf l) x HZ.out.2.2.2.1 _ g4 W (hn5.below hb)))
     have H4 := Lib.hid (fun (W : World) (hb : Below w5.heap.size w5 W) => hbs ▸ bel_to hb (safe17_any x HZ.out.2.2.2.1 _ W _ (hr5.below hb)))
     simp only [RC.val] at H2 H4
     unfold ptr at H1 H3
     have c0 := box_cells hz5 0
     have c1 := box_cells hz5 1
     have c2' := box_cells hz5 2
     have c3 := box_cells hz5 3
     have c4 := box_cells hz5 4
     have c5 := box_cells hz5 5
     have c6 := box_cells hz5 6
     have c7 := box_cells hz5 7
     simp only [List.getElem?_toArray, List.getElem?_cons_zero, List.getElem?_cons_succ] at c0 c1 c2' c3 c4 c5 c6 c7 cg
     have HQ := Lib.hid hK5
     generalize (Lp.kindX (scOf l) x gr).1 = p1 at *
     clear cz hz5 hk5 hK5 hr5 hA5 hTT hbs hcell hn5 hb5 h0 HKD HN
     go_wp2_with fail
     first | go_region_held_law (fun w' => w'.cell? ⟨g4, 1, none⟩ = some (.int .u8 p1) ∧ w'.cell? ⟨w3.heap.size, 0, none⟩ = some (.int .u8 k) ∧ w'.cell? ⟨w3.heap.size, 1, none⟩ = some (.int .u8 vk) ∧ w'.cell? ⟨w3.heap.size, 2, none⟩ = some (.int .i64 vi) ∧ w'.cell? ⟨w3.heap.size, 3, none⟩ = some (.string vs) ∧ w'.cell? ⟨w3.heap.size, 4, none⟩ = some (.bool vb) ∧ w'.cell? ⟨w3.heap.size, 5, none⟩ = some (.string tt) ∧ w'.cell? ⟨w3.heap.size, 6, none⟩ = some (.string ss) ∧ w'.cell? ⟨w3.heap.size, 7, none⟩ = some (.slice Ar nn cr))
      (first | go_keep | exact hd2)
      ((first
        | (go_simp; go_at_call 33; refine (H1.out _ (by first | exact Below.refl _ _ | assumption | exact (Below.refl _ _).drew)).mono ?_; rintro e w2 ⟨rfl, hb⟩; have hd2 := keep9 hb cg c0 c1 c2' c3 c4 c5 c6 c7)
        | (go_simp; go_at_call 34; refine (H2.out _ (by first | exact Below.refl _ _ | assumption | exact (Below.refl _ _).drew)).mono ?_; rintro e w2 ⟨rfl, hb⟩; have hd2 := keep9 hb cg c0 c1 c2' c3 c4 c5 c6 c7)
        | (go_simp; go_at_call 21; refine (H3.out _ (by first | exact Below.refl _ _ | assumption | exact (Below.refl _ _).drew)).mono ?_; rintro e w2 ⟨rfl, hb⟩; have hd2 := keep9 hb cg c0 c1 c2' c3 c4 c5 c6 c7)
        | (go_simp; go_at_call 35; refine (H4.out _ (by first | exact Below.refl _ _ | assumption | exact (Below.refl _ _).drew)).mono ?_; rintro e w2 ⟨rfl, hb⟩; have hd2 := keep9 hb cg c0 c1 c2' c3 c4 c5 c6 c7))) | fail
     all_goals
      go_wp2
      go_ret
      exact ⟨rfl, HQ.out.trans (hb.mono HQ.out.size)⟩
    ·rw [if_neg h0] at hr
     subst hr
     have e1 : ((Lp.kindX (scOf l) x gr).2 != 0) = true := by rw [bne, beq_eq_false_iff_ne.2 h0]; rfl
     clear hb4
     go_wp2_with fail
     refine HKD.out.mono ?_
     rintro e w5 ⟨rfl, hb5⟩
     have HQ := Lib.hid (HB.out.trans ((HZ.out.2.1.trans (hb5.mono HZ.out.2.1.size)).mono HB.out.size))
     generalize (Lp.kindX (scOf l) x gr).2 = E at *
     clear cz hb5 h0 HKD
     go_wp2_with fail
     first | go_region | fail
     all_goals
      go_wp2
      go_ret
      exact ⟨rfl, HQ.out.drew⟩
end Go.Proofs.YtkfjmgmjbljnbaaGreatDoor
