/-
  BindKinds: the walk. Conditions: the listed tables as laid.
-/
import Derived.Test.YtkfjmgmjbljnbaaGreatDoorKinds1
import Derived.Deep.RegionHeld3
namespace Go.Proofs.YtkfjmgmjbljnbaaGreatDoor
open Go.RowKit
theorem val_size {a : Nat} : (⟨(valS a).toArray⟩ : ByteArray).size ≤ 4 := by
  match a with
  | 0 => decide
  | 1 => decide
  | 2 => decide
  | _ + 3 => show (4 : Nat) ≤ 4; decide
theorem op_size {a : Nat} : (⟨(opS a).toArray⟩ : ByteArray).size ≤ 5 := by
  match a with
  | 0 => decide
  | 1 => decide
  | _ + 2 => show (5 : Nat) ≤ 5; decide
def valsO : Obj := .cells #[.string ⟨#[78, 85, 76, 76]⟩, .string ⟨#[49]⟩, .string ⟨#[39, 120, 39]⟩, .string ⟨#[84, 82, 85, 69]⟩] 9
def opsO : Obj := .cells #[.string ⟨#[32, 61, 32]⟩, .string ⟨#[32, 43, 32]⟩, .string ⟨#[32, 65, 78, 68, 32]⟩] 9
theorem vals_at {w : World} {g : Nat} (h : w.heap[g]? = some (.cells #[.string ⟨#[78, 85, 76, 76]⟩, .string ⟨#[49]⟩, .string ⟨#[39, 120, 39]⟩, .string ⟨#[84, 82, 85, 69]⟩] 9 (0, 0))) {a : Nat} (ha : a < 4) : w.cell? ⟨g, a, none⟩ = some (.string ⟨(valS a).toArray⟩) := by
  rw [box_cells h a]
  match a, ha with
  | 0, _ => rfl
  | 1, _ => rfl
  | 2, _ => rfl
  | 3, _ => rfl
theorem ops_at {w : World} {g : Nat} (h : w.heap[g]? = some (.cells #[.string ⟨#[32, 61, 32]⟩, .string ⟨#[32, 43, 32]⟩, .string ⟨#[32, 65, 78, 68, 32]⟩] 9 (0, 0))) {a : Nat} (ha : a < 3) : w.cell? ⟨g, a, none⟩ = some (.string ⟨(opS a).toArray⟩) := by
  rw [box_cells h a]
  match a, ha with
  | 0, _ => rfl
  | 1, _ => rfl
  | 2, _ => rfl
theorem tests4 (k : Nat) (h : k < 4) : (k = 0 ∧ ((k : Int) == 0) = true ∧ decide ((k : Int) ≤ 1) = true ∧ ((k : Int) == 3) = false) ∨ (k = 1 ∧ ((k : Int) == 0) = false ∧ decide ((k : Int) ≤ 1) = true ∧ ((k : Int) == 3) = false) ∨
    (k = 2 ∧ ((k : Int) == 0) = false ∧ decide ((k : Int) ≤ 1) = false ∧ ((k : Int) == 3) = false) ∨ (k = 3 ∧ ((k : Int) == 0) = false ∧ decide ((k : Int) ≤ 1) = false ∧ ((k : Int) == 3) = true) := by
  match k, h with
  | 0, _ => exact .inl ⟨rfl, rfl, rfl, rfl⟩
  | 1, _ => exact .inr (.inl ⟨rfl, rfl, rfl, rfl⟩)
  | 2, _ => exact .inr (.inr (.inl ⟨rfl, rfl, rfl, rfl⟩))
  | 3, _ => exact .inr (.inr (.inr ⟨rfl, rfl, rfl, rfl⟩))
theorem tests3 (k : Nat) (h : k < 3) : (k = 0 ∧ ((k : Int) == 1) = false ∧ ((k : Int) == 2) = false) ∨ (k = 1 ∧ ((k : Int) == 1) = true ∧ ((k : Int) == 2) = false) ∨ (k = 2 ∧ ((k : Int) == 1) = false ∧ ((k : Int) == 2) = true) := by
  match k, h with
  | 0, _ => exact .inl ⟨rfl, rfl, rfl⟩
  | 1, _ => exact .inr (.inl ⟨rfl, rfl, rfl⟩)
  | 2, _ => exact .inr (.inr ⟨rfl, rfl, rfl⟩)
/-- bind.Expr in no scope. -/
theorem expr_none {x : Lp.X} {v : Value} {w : World} (hwf : x.wf) (hp : PX 0 w x v) : Calls Tryz.prog 30 #[.slice none 0 0, v, .bool false] w fun e w' => Below w.heap.size w w' ∧ ∃ u, e = .returned (.tuple #[.pointer u, .int .i64 (Lp.kindX [] x false).2]) := by
  refine (bindExpr_any none 0 [] false x v w (by decide) (by decide) hwf hp ⟨[], rfl, .inl rfl, fun p hp => by simp at hp⟩).mono ?_
  rintro e w' ⟨hb, h⟩
  refine ⟨hb, ?_⟩
  by_cases hk : (Lp.kindX [] x false).2 = 0
  · rw [if_pos hk] at h
    obtain ⟨g, h1, -⟩ := h
    exact ⟨_, by rw [hk]; exact h1⟩
  · rw [if_neg hk] at h
    exact ⟨_, h⟩
theorem px_alloc {B : Nat} {w : World} {o : Obj} {x : Lp.X} {v : Value} (h : PX B w x v) : PX 0 (w.alloc o) x v := PX.mono (Nat.zero_le _) (PX.keep (stays_below ((Below.refl _ _).alloc (Nat.le_refl _) o)) h)
theorem px_put8 {B g : Nat} {w : World} {r : RC} {x : Lp.X} {v : Value} (h : PX B w x v) (hg : g < B) : PX 0 (put8 w g r) x v := PX.mono (Nat.zero_le _) (PX.keepB (fun k o hk ho => (put8_far (by omega)).trans ho) h)
theorem tot_alloc {a w w4 : World} {o : Obj} (hb : Below a.heap.size a w) (h : Below (w.alloc o).heap.size (w.alloc o) w4) : Below a.heap.size a w4 :=
  (hb.alloc hb.size o).trans (h.mono (by rw [World.size_alloc]; have := hb.size; omega))
theorem tot_put8 {a w w4 : World} {g : Nat} {r : RC} (hb : Below a.heap.size a w) (hg : a.heap.size ≤ g) (h : Below (put8 w g r).heap.size (put8 w g r) w4) : Below a.heap.size a w4 :=
  (below_set8 hb hg).trans (h.mono (by rw [put8_size]; exact hb.size))
set_option maxRecDepth 100000 in
set_option maxHeartbeats 8000000 in
theorem kinds_walk (a0 b0 : Int) (w : World) (ha0 : 0 ≤ a0) (ha1 : a0 ≤ 255) (hc0 : 0 ≤ b0) (hc1 : b0 ≤ 255) (hT : Tabs w) (hR : Resv w) (hL : LitT w) :
    Calls Tryz.prog 10 #[.int .u8 a0, .int .u8 b0] w fun e w' => e = .returned (.bool true) ∧ Below w.heap.size w w' := by
  have HA := Lib.hid (awake17 w hT hR hL)
  have HT := Lib.hid (And.intro hT hR)
  obtain ⟨a, rfl⟩ := Int.eq_ofNat_of_zero_le ha0
  obtain ⟨b, rfl⟩ := Int.eq_ofNat_of_zero_le hc0
  clear hT hR hL
  go_enter Tryz.func10, Tryz.ntmps10
  go_wp2_with fail
  refine HA.out.mono ?_
  rintro e w1 ⟨rfl, hb1⟩
  go_wp2_with fail
  have eA : ((a : Int) % 4) = ((a % 4 : Nat) : Int) := by omega
  have eB : ((b : Int) % 4) = ((b % 4 : Nat) : Int) := by omega
  have hA4 : a % 4 < 4 := by omega
  have hB4 : b % 4 < 4 := by omega
  rw [eA, eB]
  generalize hka : a % 4 = ka at *
  generalize hkb : b % 4 = kb at *
  have hbW : Below w1.heap.size w1 ((w1.alloc (.cells #[.string ⟨#[78, 85, 76, 76]⟩, .string ⟨#[49]⟩, .string ⟨#[39, 120, 39]⟩, .string ⟨#[84, 82, 85, 69]⟩] 9)).alloc (.cells #[.string ⟨#[32, 61, 32]⟩, .string ⟨#[32, 43, 32]⟩, .string ⟨#[32, 65, 78, 68, 32]⟩] 9)) := ((Below.refl _ _).alloc (Nat.le_refl _) _).alloc (by simp) _
  have hv := box_alloc (heap_alloc_new w1 (.cells #[.string ⟨#[78, 85, 76, 76]⟩, .string ⟨#[49]⟩, .string ⟨#[39, 120, 39]⟩, .string ⟨#[84, 82, 85, 69]⟩] 9)) (.cells #[.string ⟨#[32, 61, 32]⟩, .string ⟨#[32, 43, 32]⟩, .string ⟨#[32, 65, 78, 68, 32]⟩] 9)
  have ho := heap_new2 w1 (.cells #[.string ⟨#[78, 85, 76, 76]⟩, .string ⟨#[49]⟩, .string ⟨#[39, 120, 39]⟩, .string ⟨#[84, 82, 85, 69]⟩] 9) (.cells #[.string ⟨#[32, 61, 32]⟩, .string ⟨#[32, 43, 32]⟩, .string ⟨#[32, 65, 78, 68, 32]⟩] 9)
  have hbT := hb1.trans (hbW.mono hb1.size)
  generalize ((w1.alloc (.cells #[.string ⟨#[78, 85, 76, 76]⟩, .string ⟨#[49]⟩, .string ⟨#[39, 120, 39]⟩, .string ⟨#[84, 82, 85, 69]⟩] 9)).alloc (.cells #[.string ⟨#[32, 61, 32]⟩, .string ⟨#[32, 43, 32]⟩, .string ⟨#[32, 65, 78, 68, 32]⟩] 9)) = W at *
  generalize hgo : w1.heap.size + 1 = go at *
  generalize hgv : w1.heap.size = gv at *
  have HW := Lib.hid (And.intro hv (And.intro ho hbT))
  clear eA eB hb1 hbW hv ho hbT hka hkb hgo hgv HA ha0 ha1 hc0 hc1
  have hA0 : (0 : Int) ≤ (ka : Int) := by omega
  have hA3 : (ka : Int) < 4 := by omega
  have hB0 : (0 : Int) ≤ (kb : Int) := by omega
  have hB3 : (kb : Int) < 4 := by omega
  go_loopw [27] (fun s27 wr => ∃ i : Nat, i ≤ 3 ∧ s27 = .int .i64 i ∧ Below W.heap.size W wr) (fun s27 _ => 3 - (intOf s27).toNat)
  case atStart => exact ⟨0, by omega, rfl, Below.refl _ _⟩
  case round =>
    obtain ⟨i, hi, rfl, hb⟩ := hrel
    by_cases hlt : i < 3
    · have cv := fun (k : Nat) (hk : k < 4) => vals_at (box_below HW.out.1 hb) hk
      have va := cv ka hA4
      have vb := cv kb hB4
      have vo := ops_at (box_below HW.out.2.1 hb) hlt
      have hiI : (i : Int) < 3 := by omega
      have HC := Lib.hid (fun (s : ByteArray) (hs : s.data.toList = valS ka ++ opS i ++ valS kb) (W' : World) (hb' : Below wr.heap.size wr W') => cond_kinds s hA4 hlt hB4 hs W' (tabs_below HT.out.1 ((HW.out.2.2.trans (hb.mono HW.out.2.2.size)).trans (hb'.mono (Nat.le_trans HW.out.2.2.size hb.size)))) (resv_below HT.out.2 ((HW.out.2.2.trans (hb.mono HW.out.2.2.size)).trans (hb'.mono (Nat.le_trans HW.out.2.2.size hb.size)))) |>.mono fun e w' h => And.intro (hb'.trans (h.1.mono hb'.size)) h)
      obtain ⟨Y1, y1, z1, A1⟩ := cat_ok ⟨(valS ka).toArray⟩ ⟨(opS i).toArray⟩ val_size op_size (by decide)
      obtain ⟨Y2, y2, z2, A2⟩ := cat_ok Y1 ⟨(valS kb).toArray⟩ z1 val_size (by decide)
      have hY : Y2.data.toList = valS ka ++ opS i ++ valS kb := by rw [← y2, ba_app, ← y1, ba_app]
      have HC2 := Lib.hid (HC.out Y2 hY)
      generalize hVa : (⟨(valS ka).toArray⟩ : ByteArray) = Va at *
      generalize hVb : (⟨(valS kb).toArray⟩ : ByteArray) = Vb at *
      generalize hVo : (⟨(opS i).toArray⟩ : ByteArray) = Vo at *
      clear y1 y2 z1 z2 hY HC cv hVa hVb hVo
      go_wp2_with fail
      have hbz : Below wr.heap.size wr (wr.alloc (.cells #[.int .u8 0, .int .u8 0, .int .i64 0, .string ⟨#[]⟩, .bool false, .string ⟨#[]⟩, .string ⟨#[]⟩, .slice none 0 0] 35)) := (Below.refl _ _).alloc (Nat.le_refl _) _
      have vaz := cell_bel va hbz
      have vbz := cell_bel vb hbz
      have HZ := Lib.hid (And.intro hbz.drew (show (wr.alloc (.cells #[.int .u8 0, .int .u8 0, .int .i64 0, .string ⟨#[]⟩, .bool false, .string ⟨#[]⟩, .string ⟨#[]⟩, .slice none 0 0] 35)).drew.heap[wr.heap.size]? = _ from heap_alloc_new wr (.cells #[.int .u8 0, .int .u8 0, .int .i64 0, .string ⟨#[]⟩, .bool false, .string ⟨#[]⟩, .string ⟨#[]⟩, .slice none 0 0] 35)))
      clear hbz
      have nva := World.new_ne wr _ va
      have nvb := World.new_ne wr _ vb
      go_region_held3 (fun w' => w'.cell? ⟨gv, ka, none⟩ = some (.string Va) ∧ w'.cell? ⟨gv, kb, none⟩ = some (.string Vb)) (first | go_keep | exact hd2)
        ((first
        | (go_at_call 29; refine (HC2.out _ HZ.out.1).mono ?_; rintro e w3 ⟨hbw, hb3, x, T, g, ⟨k, vk, vi, vs, vbb, tt, ss, Aa, nn, c⟩, rfl, hp, hwf, hk⟩; simp only [RC.val]; have hz3 := box_below HZ.out.2 hb3; have zc := box_cells hz3; have zf := fun j => frozen_of_row _ _ j _ _ hz3; have hd2 := And.intro (cell_bel va hbw) (cell_bel vb hbw))
        | (go_at_call 29; refine (HC2.out _ (by first | exact Below.refl _ _ | exact (Below.refl _ _).drew)).mono ?_; rintro e w3 ⟨hbw, hb3, x, T, g, ⟨k, vk, vi, vs, vbb, tt, ss, Aa, nn, c⟩, rfl, hp, hwf, hk⟩; simp only [RC.val]; have hd2 := And.intro (cell_bel va hbw) (cell_bel vb hbw))))
      all_goals
        have HP := Lib.hid (And.intro hbw hp)
        have HWF := Lib.hid hwf
        have HB := Lib.hid hb
        clear hbw hb3 hp hwf hb HC2 HZ vaz vbz nva nvb va vb vo hd2 A1 A2
        go_wp2_with fail
      refine (expr_none HWF.out ?_).mono ?_
      · exact px_alloc HP.out.2
      rintro e w4 ⟨hb4, u, rfl⟩
      have HT2 := Lib.hid (HB.out.trans ((tot_alloc HP.out.1 hb4).mono HB.out.size))
      clear hb4
      rotate_left
      refine (expr_none HWF.out ?_).mono ?_
      · exact px_put8 (w := w3) (g := wr.heap.size) (r := ⟨k, vk, vi, vs, vbb, tt, ss, Aa, nn, c⟩) HP.out.2 (by show wr.heap.size < (wr.alloc _).heap.size; rw [World.size_alloc]; omega)
      rintro e w4 ⟨hb4, u, rfl⟩
      have HT2 := Lib.hid (HB.out.trans ((tot_put8 (w := w3) (g := wr.heap.size) (r := ⟨k, vk, vi, vs, vbb, tt, ss, Aa, nn, c⟩) HP.out.1 (Nat.le_refl _) hb4).mono HB.out.size))
      clear hb4 zc zf hz3
      all_goals
        generalize (Lp.kindX [] x false).2 = E at *
        have HK := Lib.hid hk
        clear HP HB HWF hk
        go_upto_region 12 with fail
        have hI := tests3 i hlt
        have hKA := tests4 ka hA4
        have hKB := tests4 kb hB4
        clear hA4 hB4
        rcases hI with ⟨hi0, g1, g2⟩ | ⟨hi0, g1, g2⟩ | ⟨hi0, g1, g2⟩
        all_goals
          rcases hKA with ⟨hA, f1, f2, f3⟩ | ⟨hA, f1, f2, f3⟩ | ⟨hA, f1, f2, f3⟩ | ⟨hA, f1, f2, f3⟩
          all_goals
            rcases hKB with ⟨hB, f4, f5, f6⟩ | ⟨hB, f4, f5, f6⟩ | ⟨hB, f4, f5, f6⟩ | ⟨hB, f4, f5, f6⟩
            all_goals
              have f7 : ((ka : Int) == (kb : Int)) = true ∨ ((ka : Int) == (kb : Int)) = false := by cases ((ka : Int) == (kb : Int)) <;> simp
              have hE : E = 0 ∨ E = 8 := by rw [HK.out]; split <;> simp
              rcases f7 with f7 | f7
              all_goals
                first
                  | (exfalso; rw [hA, hB] at f7; exact absurd f7 (by decide))
                  | skip
              rcases hE with hE | hE
              all_goals
                first
                  | (exfalso; have h2 := HK.out; rw [hE, hi0, hA, hB] at h2; exact absurd h2 (by decide))
                  | skip
              clear HK hi0 hA hB
              subst hE
              go_wp2
              go_roundw
              case rel => exact ⟨i + 1, by omega, by go_num, HT2.out⟩
              case measure => simp [intOf]; omega
    · have hi3 : i = 3 := by omega
      subst hi3
      go_wp2
      go_ret
      exact ⟨rfl, HW.out.2.2.trans (hb.mono HW.out.2.2.size)⟩
end Go.Proofs.YtkfjmgmjbljnbaaGreatDoor
