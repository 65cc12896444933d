/-
 BindSame: the walk. Conditions: the listed tables as laid; the arguments as they came in.
-/
import Derived.Test.YtkfjmgmjbljnbaaGreatDoorBGU
import Derived.Test.YtkfjmgmjbljnbaaGreatDoorBScope17
import Derived.Test.YtkfjmgmjbljnbaaGreatDoorBShow17
import Derived.Test.YtkfjmgmjbljnbaaGreatDoorBSame2
import Derived.Deep.RegionHeldLaw
set_option maxRecDepth 100000
set_option maxHeartbeats 16000000
namespace Go.Proofs.YtkfjmgmjbljnbaaGreatDoor
open Go.RowKit
theorem keep16 {w W : World} {g gz : Nat} {u0 u1 u2 u3 u4 u5 u6 u7 v0 v1 v2 v3 v4 v5 v6 v7 : Value} (hb : Below w.heap.size w W) (h0 : w.cell? ⟨g, 0, none⟩ = some u0) (h1 : w.cell? ⟨g, 1, none⟩ = some u1) (h2 : w.cell? ⟨g, 2, none⟩ = some u2) (h3 : w.cell? ⟨g, 3, none⟩ = some u3) (h4 : w.cell? ⟨g, 4, none⟩ = some u4) (h5 : w.cell? ⟨g, 5, none⟩ = some u5) (h6 : w.cell? ⟨g, 6, none⟩ = some u6) (h7 : w.cell? ⟨g, 7, none⟩ = some u7) (j0 : w.cell? ⟨gz, 0, none⟩ = some v0) (j1 : w.cell? ⟨gz, 1, none⟩ = some v1) (j2 : w.cell? ⟨gz, 2, none⟩ = some v2) (j3 : w.cell? ⟨gz, 3, none⟩ = some v3) (j4 : w.cell? ⟨gz, 4, none⟩ = some v4) (j5 : w.cell? ⟨gz, 5, none⟩ = some v5) (j6 : w.cell? ⟨gz, 6, none⟩ = some v6) (j7 : w.cell? ⟨gz, 7, none⟩ = some v7) :
 W.cell? ⟨g, 0, none⟩ = some u0 ∧ W.cell? ⟨g, 1, none⟩ = some u1 ∧ W.cell? ⟨g, 2, none⟩ = some u2 ∧ W.cell? ⟨g, 3, none⟩ = some u3 ∧ W.cell? ⟨g, 4, none⟩ = some u4 ∧ W.cell? ⟨g, 5, none⟩ = some u5 ∧ W.cell? ⟨g, 6, none⟩ = some u6 ∧ W.cell? ⟨g, 7, none⟩ = some u7 ∧ W.cell? ⟨gz, 0, none⟩ = some v0 ∧ W.cell? ⟨gz, 1, none⟩ = some v1 ∧ W.cell? ⟨gz, 2, none⟩ = some v2 ∧ W.cell? ⟨gz, 3, none⟩ = some v3 ∧ W.cell? ⟨gz, 4, none⟩ = some v4 ∧ W.cell? ⟨gz, 5, none⟩ = some v5 ∧ W.cell? ⟨gz, 6, none⟩ = some v6 ∧ W.cell? ⟨gz, 7, none⟩ = some v7 :=
 ⟨cell_bel h0 hb, cell_bel h1 hb, cell_bel h2 hb, cell_bel h3 hb, cell_bel h4 hb, cell_bel h5 hb, cell_bel h6 hb, cell_bel h7 hb, cell_bel j0 hb, cell_bel j1 hb, cell_bel j2 hb, cell_bel j3 hb, cell_bel j4 hb, cell_bel j5 hb, cell_bel j6 hb, cell_bel j7 hb⟩
def SmP (w : World) (q : Option Lp.X) (e : Ending) (w' : World) : Prop :=
 Below w.heap.size w w' ∧ ∃ (v : Value) (rr : RC) (b : Bool), e = .returned (.tuple #[v, rr.val, .bool b]) ∧ ((b = false ∧ v = .nilIface) ∨ (b = true ∧ ∃ x T g, q = some x ∧ v = .iface T (.pointer (some ⟨g, 0, none⟩)) ∧ PX w.heap.size w' x v ∧ RX (fun k => w.heap.size ≤ k) w' x rr))
theorem cond_sm {w w' : World} {q : Option Lp.X} {e : Ending} (h : CondPost w q e w') : SmP w q e w' := by
 obtain ⟨hb, h⟩ := h
 refine ⟨hb, ?_⟩
 cases q with
 | none => obtain ⟨rr, rfl⟩ := h; exact ⟨_, rr, false, rfl, .inl ⟨rfl, rfl⟩⟩
 | some x => obtain ⟨T, g, rr, rfl, h1, h2⟩ := h; exact ⟨_, rr, true, rfl, .inr ⟨rfl, x, T, g, rfl, rfl, h1, h2⟩⟩
theorem same_walk (A : Option Addr) (c : Nat) (la : List TabA) (s1 s2 : ByteArray) (w : World) (hA : ScA w A la) (hT : Tabs w) (hR : Resv w) (hL : LitT w) :
 Calls Tryz.prog 13 #[.slice A la.length c, .string s1, .string s2] w fun e w' => e = .returned (.bool true) ∧ Below w.heap.size w w' := by
 have HA := Lib.hid (awake17 w hT hR hL)
 have HT := Lib.hid (And.intro hT hR)
 have HS := Lib.hid hA
 have hok : ∀ (s : ByteArray) x, Lp.condS (s.data.toList.take 600) = some x → x.wf ∧ x.size ≤ 2000 := fun s x h => Lp.condS_ok (by rw [List.length_take]; omega) h
 have HOK1 := Lib.hid (hok s1)
 have HOK2 := Lib.hid (hok s2)
 clear hT hR hL hA hok
 go_enter Tryz.func13, Tryz.ntmps13
 go_wp2_with fail
 refine HA.out.mono ?_
 rintro e w1 ⟨rfl, hb1⟩
 go_wp2_with fail
 refine (scope17_any A c la 2 (Nat.le_refl _) w1 (HS.out.below hb1)).mono ?_
 rintro e w2 ⟨hb2, hsc⟩
 have hB := hb1.trans (hb2.mono hb1.size)
 have HC1 := Lib.hid ((condition_any s1 w2 (tabs_below HT.out.1 hB) (resv_below HT.out.2 hB)).mono fun _ _ h => cond_sm h)
 have HB := Lib.hid hB
 have HC2 := Lib.hid (fun (W : World) (hb : Below w.heap.size w W) => (condition_any s2 W (tabs_below HT.out.1 hb) (resv_below HT.out.2 hb)).mono fun _ _ h => cond_sm h)
 generalize Lp.condS (s1.data.toList.take 600) = q1 at *
 generalize Lp.condS (s2.data.toList.take 600) = q2 at *
 clear hb1 hB
 obtain ⟨v1, v2, ok, hv, hsc2⟩ : ∃ (v1 v2 : Value) (ok : Bool), e = .returned (.tuple #[v1, v2, .bool ok]) ∧ (ok = true → ∃ (l : List TabA) (A1 : Option Addr) (c1 : Nat) (A2 : Option Addr) (c2 : Nat), v1 = .slice A1 l.length c1 ∧ v2 = .slice A2 l.length c2 ∧ ScA w2 A1 l ∧ ScA w2 A2 l ∧ l.length ≤ 2 ∧ Lp.wide (scOf l) ≤ 10000) := by
  rcases hsc with rfl | ⟨l, A1, c1, A2, c2, rfl, hS1, hS2, hl2, h8⟩
  ·exact ⟨_, _, false, rfl, fun h => by cases h⟩
  ·have hwd := wide_scOf (fun p hp => (h8 p hp).1)
   exact ⟨_, _, true, rfl, fun _ => ⟨l, A1, c1, A2, c2, rfl, rfl, hS1, hS2, hl2, by omega⟩⟩
 subst hv
 have HSC := Lib.hid hsc2
 clear hsc hsc2 hb2
 go_wp2_with fail
 refine HC1.out.mono ?_
 rintro e w3 ⟨hb3, va, ⟨k, vk, vi, vs, vb, tt, ss, Ar, nn, cr⟩, ba, rfl, hqa⟩
 simp only [RC.val]
 have hz3 := heap_alloc_new w3 (.cells #[.int .u8 k, .int .u8 vk, .int .i64 vi, .string vs, .bool vb, .string tt, .string ss, .slice Ar nn cr] 35)
 have hbx3 : Below w3.heap.size w3 (w3.alloc (.cells #[.int .u8 k, .int .u8 vk, .int .i64 vi, .string vs, .bool vb, .string tt, .string ss, .slice Ar nn cr] 35)) := (Below.refl _ _).alloc (Nat.le_refl _) _
 have hk3 := hb3.trans (hbx3.mono hb3.size)
 have H3 := Lib.hid (And.intro hz3 (And.intro hk3 (And.intro hqa hbx3)))
 have HD := Lib.hid (HC2.out _ (HB.out.trans (hk3.mono HB.out.size)))
 clear hz3 hbx3 hk3 hb3 hqa HC1 HC2
 go_wp2_with fail
 refine HD.out.mono ?_
 rintro e w4 ⟨hb4, vb2, ⟨k', vk', vi', vs', vb', tt', ss', Ar', nn', cr'⟩, bb, rfl, hqb⟩
 simp only [RC.val]
 have hz4 := heap_alloc_new w4 (.cells #[.int .u8 k', .int .u8 vk', .int .i64 vi', .string vs', .bool vb', .string tt', .string ss', .slice Ar' nn' cr'] 35)
 have hbx4 : Below w4.heap.size w4 (w4.alloc (.cells #[.int .u8 k', .int .u8 vk', .int .i64 vi', .string vs', .bool vb', .string tt', .string ss', .slice Ar' nn' cr'] 35)) := (Below.refl _ _).alloc (Nat.le_refl _) _
 have hk4 := hb4.trans (hbx4.mono hb4.size)
 have hx4 := box_below H3.out.1 hk4
 have hk24 := H3.out.2.1.trans (hk4.mono H3.out.2.1.size)
 have H4 := Lib.hid (And.intro hz4 (And.intro hk4 (And.intro hx4 (And.intro hk24 (And.intro hqb hbx4)))))
 have HK := Lib.hid (HB.out.trans (hk24.mono HB.out.size))
 clear hz4 hbx4 hk4 hx4 hk24 hb4 hqb HD
 cases ok
 ·go_wp2
  go_ret
  exact ⟨rfl, HK.out⟩
 ·cases ba
  ·go_wp2
   go_ret
   exact ⟨rfl, HK.out⟩
  ·cases bb
   ·go_wp2
    go_ret
    exact ⟨rfl, HK.out⟩
   ·obtain ⟨l, A1, c1, A2, c2, rfl, rfl, hS1, hS2, hl2, hwd⟩ := HSC.out rfl
    obtain ⟨x, T, g, hqx, rfl, hpx, hrx⟩ : ∃ x T g, q1 = some x ∧ va = .iface T (.pointer (some ⟨g, 0, none⟩)) ∧ PX w2.heap.size w3 x va ∧ RX (fun k => w2.heap.size ≤ k) w3 x ⟨k, vk, vi, vs, vb, tt, ss, Ar, nn, cr⟩ := by
     rcases H3.out.2.2.1 with ⟨h, -⟩ | ⟨-, h⟩
     ·cases h
     ·exact h
    obtain ⟨y, T', g', hqy, rfl, hpy, hry⟩ : ∃ y T g, q2 = some y ∧ vb2 = .iface T (.pointer (some ⟨g, 0, none⟩)) ∧ PX (w3.alloc (.cells #[.int .u8 k, .int .u8 vk, .int .i64 vi, .string vs, .bool vb, .string tt, .string ss, .slice Ar nn cr] 35)).heap.size w4 y vb2 ∧ RX (fun j => (w3.alloc (.cells #[.int .u8 k, .int .u8 vk, .int .i64 vi, .string vs, .bool vb, .string tt, .string ss, .slice Ar nn cr] 35)).heap.size ≤ j) w4 y ⟨k', vk', vi', vs', vb', tt', ss', Ar', nn', cr'⟩ := by
     rcases H4.out.2.2.2.2.1 with ⟨h, -⟩ | ⟨-, h⟩
     ·cases h
     ·exact h
    have hx := HOK1.out x hqx
    have hy := HOK2.out y hqy
    have hl100 : l.length ≤ 100 := by omega
    have HW := Lib.hid (And.intro hx (And.intro hy (And.intro hl100 hwd)))
    have hbxk := H3.out.2.2.2.trans (H4.out.2.1.mono H3.out.2.2.2.size)
    have hrx4 := RX.below hbxk hrx
    have hry4 := RX.below H4.out.2.2.2.2.2 hry
    have hS14 := hS1.below H4.out.2.2.2.1
    have hS24 := hS2.below H4.out.2.2.2.1
    have hE1 := bindExpr_any A1 c1 (scOf l) true x (.iface T (.pointer (some ⟨g, 0, none⟩))) _ (by rw [scOf_len]; exact hl100) hwd hx.1 (PX.mono (Nat.zero_le _) (PX.keep (stays_below hbxk) hpx)) hS14.scm
    have hE2 := fun (W : World) (hb : Below (w4.alloc (.cells #[.int .u8 k', .int .u8 vk', .int .i64 vi', .string vs', .bool vb', .string tt', .string ss', .slice Ar' nn' cr'] 35)).heap.size (w4.alloc (.cells #[.int .u8 k', .int .u8 vk', .int .i64 vi', .string vs', .bool vb', .string tt', .string ss', .slice Ar' nn' cr'] 35)) W) => bindExpr_any A1 c1 (scOf l) true y (.iface T' (.pointer (some ⟨g', 0, none⟩))) W (by rw [scOf_len]; exact hl100) hwd hy.1 (PX.keep (stays_below hb) (PX.mono (Nat.zero_le _) (PX.keep (stays_below H4.out.2.2.2.2.2) hpy))) (hS14.below hb).scm
    rw [scOf_len] at hE1 hE2
    have HE1 := Lib.hid hE1
    have HE2 := Lib.hid hE2
    have HR := Lib.hid (And.intro hrx4 (And.intro hry4 (And.intro hS24 (And.intro H4.out.2.2.1 H4.out.1))))
    clear hx hy hbxk hrx4 hry4 hS14 hS24 hE1 hE2 hrx hry hpx hpy hS1 hS2 hl2 hqx hqy HSC HOK1 HOK2 H3 H4
    go_wp2_with fail
    generalize (w4.alloc (.cells #[.int .u8 k', .int .u8 vk', .int .i64 vi', .string vs', .bool vb', .string tt', .string ss', .slice Ar' nn' cr'] 35)) = W4 at *
    generalize w4.heap.size = gy at *
    generalize w3.heap.size = gx at *
    refine HE1.out.mono ?_
    rintro e w5 ⟨hb5, hr5⟩
    have HE3 := Lib.hid (HE2.out w5 hb5)
    by_cases h1 : (Lp.kindX (scOf l) x true).2 = 0
    ·rw [if_pos h1] at hr5
     obtain ⟨g5, rfl, hn5⟩ := hr5
     have H5 := Lib.hid (And.intro hb5 (And.intro h1 hn5))
     unfold ptr
     clear hb5 hn5 h1 HE1 HE2
     go_wp2_with fail
     refine HE3.out.mono ?_
     rintro e w6 ⟨hb6, hr6⟩
     have hb46 := H5.out.1.trans (hb6.mono H5.out.1.size)
     have HQ := Lib.hid (HK.out.trans (hb46.mono HK.out.size))
     by_cases h2 : (Lp.kindX (scOf l) y true).2 = 0
     ·rw [if_pos h2] at hr6
      obtain ⟨g6, rfl, hn6⟩ := hr6
      have kx := known_of (scOf l) x true H5.out.2.1
      have ky := known_of (scOf l) y true h2
      have hn56 := H5.out.2.2.below hb6
      obtain ⟨L1, hL1⟩ : ∃ L, Lp.showX (scOf l) x = L := ⟨_, rfl⟩
      obtain ⟨L2, hL2⟩ : ∃ L, Lp.showX (scOf l) y = L := ⟨_, rfl⟩
      have hsame := Lp.same_is_show HW.out.1.1 HW.out.2.1.1 kx ky
      rw [hL1, hL2] at hsame
      obtain ⟨bs, hbs⟩ : ∃ bs, (L1 == L2) = bs := ⟨_, rfl⟩
      rw [hbs] at hsame
      have M1 := Lib.hid (fun (W : World) (hb : Below w6.heap.size w6 W) => (show Calls Tryz.prog 38 #[.pointer (some ⟨g5, 0, none⟩), .pointer (some ⟨g6, 0, none⟩)] W fun e w' => e = .returned (.bool bs) ∧ Below w6.heap.size w6 w' from (hsame ▸ same_any (scOf l) x HW.out.1.1 kx y HW.out.2.1.1 ky _ _ W g5 g6 (hn56.below hb) (hn6.below hb)).mono fun _ _ ⟨e1, m, e2⟩ => ⟨e1, e2 ▸ below_drewN1 m hb⟩))
      have M2 := Lib.hid (fun (W : World) (hb : Below w6.heap.size w6 W) => (show Calls Tryz.prog 38 #[.pointer (some ⟨g5, 0, none⟩), .pointer (some ⟨g5, 0, none⟩)] W fun e w' => e = .returned (.bool true) ∧ Below w6.heap.size w6 w' from (Lp.same_refl (scOf l) x ▸ same_any (scOf l) x HW.out.1.1 kx x HW.out.1.1 kx _ _ W g5 g5 (hn56.below hb) (hn56.below hb)).mono fun _ _ ⟨e1, m, e2⟩ => ⟨e1, e2 ▸ below_drewN1 m hb⟩))
      have M3 := Lib.hid (fun (W : World) (hb : Below w6.heap.size w6 W) => (same_nil2 W).mono fun _ _ ⟨e1, e2⟩ => (⟨e1, e2 ▸ hb⟩ : _ ∧ Below w6.heap.size w6 _))
      have M4 := Lib.hid (fun (W : World) (hb : Below w6.heap.size w6 W) => (same_nilr g5 W).mono fun _ _ ⟨e1, e2⟩ => (⟨e1, e2 ▸ hb⟩ : _ ∧ Below w6.heap.size w6 _))
      have M5 := Lib.hid (fun (W : World) (hb : Below w6.heap.size w6 W) => (show Calls Tryz.prog 34 #[.slice A2 l.length c2, RC.val ⟨k, vk, vi, vs, vb, tt, ss, Ar, nn, cr⟩] W fun e w' => e = .returned (.string ⟨L1.toArray⟩) ∧ Below w6.heap.size w6 w' from hL1 ▸ (show17_any A2 c2 l HW.out.2.2.1 HW.out.2.2.2 x HW.out.1.1 (by have := HW.out.1.2; omega) _ W _ (HR.out.2.2.1.below (hb46.trans (hb.mono hb46.size))) (HR.out.1.below (hb46.trans (hb.mono hb46.size)))).mono fun _ _ ⟨e1, e2⟩ => ⟨e1, hb.trans (e2.mono hb.size)⟩))
      have M6 := Lib.hid (fun (W : World) (hb : Below w6.heap.size w6 W) => (show Calls Tryz.prog 34 #[.slice A2 l.length c2, RC.val ⟨k', vk', vi', vs', vb', tt', ss', Ar', nn', cr'⟩] W fun e w' => e = .returned (.string ⟨L2.toArray⟩) ∧ Below w6.heap.size w6 w' from hL2 ▸ (show17_any A2 c2 l HW.out.2.2.1 HW.out.2.2.2 y HW.out.2.1.1 (by have := HW.out.2.1.2; omega) _ W _ (HR.out.2.2.1.below (hb46.trans (hb.mono hb46.size))) (HR.out.2.1.below (hb46.trans (hb.mono hb46.size)))).mono fun _ _ ⟨e1, e2⟩ => ⟨e1, hb.trans (e2.mono hb.size)⟩))
      simp only [RC.val] at M5 M6
      have hx6 := box_below HR.out.2.2.2.1 hb46
      have hy6 := box_below HR.out.2.2.2.2 hb46
      have a0 := box_cells hx6 0
      have b0 := box_cells hy6 0
      have a1 := box_cells hx6 1
      have b1 := box_cells hy6 1
      have a2 := box_cells hx6 2
      have b2 := box_cells hy6 2
      have a3 := box_cells hx6 3
      have b3 := box_cells hy6 3
      have a4 := box_cells hx6 4
      have b4 := box_cells hy6 4
      have a5 := box_cells hx6 5
      have b5 := box_cells hy6 5
      have a6 := box_cells hx6 6
      have b6 := box_cells hy6 6
      have a7 := box_cells hx6 7
      have b7 := box_cells hy6 7
      simp only [List.getElem?_toArray, List.getElem?_cons_zero, List.getElem?_cons_succ] at a0 a1 a2 a3 a4 a5 a6 a7 b0 b1 b2 b3 b4 b5 b6 b7
      unfold ptr
      clear hx6 hy6 hsame hL1 hL2 kx ky hn56 hn6 h2 hb6 hb46 HE3 H5
      go_wp2_with fail
      first | go_region_held_law (fun w' => w'.cell? ⟨gx, 0, none⟩ = some (.int .u8 k) ∧ w'.cell? ⟨gx, 1, none⟩ = some (.int .u8 vk) ∧ w'.cell? ⟨gx, 2, none⟩ = some (.int .i64 vi) ∧ w'.cell? ⟨gx, 3, none⟩ = some (.string vs) ∧ w'.cell? ⟨gx, 4, none⟩ = some (.bool vb) ∧ w'.cell? ⟨gx, 5, none⟩ = some (.string tt) ∧ w'.cell? ⟨gx, 6, none⟩ = some (.string ss) ∧ w'.cell? ⟨gx, 7, none⟩ = some (.slice Ar nn cr) ∧ w'.cell? ⟨gy, 0, none⟩ = some (.int .u8 k') ∧ w'.cell? ⟨gy, 1, none⟩ = some (.int .u8 vk') ∧ w'.cell? ⟨gy, 2, none⟩ = some (.int .i64 vi') ∧ w'.cell? ⟨gy, 3, none⟩ = some (.string vs') ∧ w'.cell? ⟨gy, 4, none⟩ = some (.bool vb') ∧ w'.cell? ⟨gy, 5, none⟩ = some (.string tt') ∧ w'.cell? ⟨gy, 6, none⟩ = some (.string ss') ∧ w'.cell? ⟨gy, 7, none⟩ = some (.slice Ar' nn' cr'))
       (first | go_keep | exact hd2)
       ((go_simp; first
         | (go_at_call 38; with_reducible refine (M1.out _ (by first | exact Below.refl _ _ | assumption | exact (Below.refl _ _).drew)).mono ?_; rintro e w2 ⟨rfl, hb⟩; have hd2 := keep16 hb a0 a1 a2 a3 a4 a5 a6 a7 b0 b1 b2 b3 b4 b5 b6 b7)
         | (go_at_call 38; with_reducible refine (M2.out _ (by first | exact Below.refl _ _ | assumption | exact (Below.refl _ _).drew)).mono ?_; rintro e w2 ⟨rfl, hb⟩; have hd2 := keep16 hb a0 a1 a2 a3 a4 a5 a6 a7 b0 b1 b2 b3 b4 b5 b6 b7)
         | (go_at_call 38; with_reducible refine (M3.out _ (by first | exact Below.refl _ _ | assumption | exact (Below.refl _ _).drew)).mono ?_; rintro e w2 ⟨rfl, hb⟩; have hd2 := keep16 hb a0 a1 a2 a3 a4 a5 a6 a7 b0 b1 b2 b3 b4 b5 b6 b7)
         | (go_at_call 38; with_reducible refine (M4.out _ (by first | exact Below.refl _ _ | assumption | exact (Below.refl _ _).drew)).mono ?_; rintro e w2 ⟨rfl, hb⟩; have hd2 := keep16 hb a0 a1 a2 a3 a4 a5 a6 a7 b0 b1 b2 b3 b4 b5 b6 b7)
         | (go_at_call 34; with_reducible refine (M5.out _ (by first | exact Below.refl _ _ | assumption | exact (Below.refl _ _).drew)).mono ?_; rintro e w2 ⟨rfl, hb⟩; have hd2 := keep16 hb a0 a1 a2 a3 a4 a5 a6 a7 b0 b1 b2 b3 b4 b5 b6 b7)
         | (go_at_call 34; with_reducible refine (M6.out _ (by first | exact Below.refl _ _ | assumption | exact (Below.refl _ _).drew)).mono ?_; rintro e w2 ⟨rfl, hb⟩; have hd2 := keep16 hb a0 a1 a2 a3 a4 a5 a6 a7 b0 b1 b2 b3 b4 b5 b6 b7))) | fail
      all_goals
       go_wp2
       go_ret
       exact ⟨by simp, HQ.out.trans (hb.mono HQ.out.size)⟩
     ·rw [if_neg h2] at hr6
      subst hr6
      have e2 : ((Lp.kindX (scOf l) y true).2 != 0) = true := by rw [bne, beq_eq_false_iff_ne.2 h2]; rfl
      generalize (Lp.kindX (scOf l) y true).2 = E at *
      clear hb6 h2 hb46 HE3 H5
      go_wp2
      go_ret
      exact ⟨rfl, HQ.out⟩
    ·rw [if_neg h1] at hr5
     subst hr5
     have e1 : ((Lp.kindX (scOf l) x true).2 != 0) = true := by rw [bne, beq_eq_false_iff_ne.2 h1]; rfl
     have HQ5 := Lib.hid (HK.out.trans (hb5.mono HK.out.size))
     generalize (Lp.kindX (scOf l) x true).2 = E at *
     have H5 := Lib.hid hb5
     clear hb5 h1 HE1 HE2
     go_wp2_with fail
     refine HE3.out.mono ?_
     rintro e w6 ⟨hb6, hr6⟩
     have HQ := Lib.hid (HQ5.out.trans (hb6.mono HQ5.out.size))
     obtain ⟨v6, E6, rfl⟩ : ∃ (v : Value) (E6 : Int), e = .returned (.tuple #[v, .int .i64 E6]) := by
      split at hr6
      ·obtain ⟨g6, h, -⟩ := hr6; exact ⟨_, _, h⟩
      ·exact ⟨_, _, hr6⟩
     clear hb6 hr6 HE3
     go_wp2
     go_ret
     exact ⟨rfl, HQ.out⟩
end Go.Proofs.YtkfjmgmjbljnbaaGreatDoor
