/-
  BindNames: the walk. Conditions: the listed tables as laid.
-/
import Derived.Test.YtkfjmgmjbljnbaaGreatDoorNames1
import Derived.Test.YtkfjmgmjbljnbaaGreatDoorKinds1
import Derived.Deep.RegionHeld3
namespace Go.Proofs.YtkfjmgmjbljnbaaGreatDoor
open Go.RowKit

theorem col_N (s : ByteArray) (k : Int) (w : World) : (Instr.field 55 (.agg #[.string s, .int .u8 k]) 0).run Tryz.prog w = .ok (.string s) w := by kernel_rfl
attribute [local go_sem] col_N
def txtB (a b k : Nat) : ByteArray := ⟨(txtN a b k).toArray⟩
theorem txt_at {w : World} {g a b : Nat} {Y1 Y2 : ByteArray} (h1 : (⟨#[116, 46]⟩ : ByteArray) ++ chB a = Y1) (h2 : (⟨#[117, 46]⟩ : ByteArray) ++ chB b = Y2) (h : w.heap[g]? = some (.cells #[.string Y1, .string Y2, .string (chB a), .string (chB b)] 9 (0, 0))) {k : Nat} (hk : k < 4) : w.cell? ⟨g, k, none⟩ = some (.string (txtB a b k)) := by
  rw [box_cells h k]
  subst h1 h2
  match k, hk with
  | 0, _ => show some (Value.string _) = _; congr 2
  | 1, _ => show some (Value.string _) = _; congr 2
  | 2, _ => rfl
  | 3, _ => rfl
/-- The scope's two tables. -/
theorem sc_names {w : World} {gs g1 g2 a b : Nat} (hs : w.heap[gs]? = some (.cells #[.string ⟨#[116]⟩, .slice (some ⟨g1, 0, none⟩) 1 1, .string ⟨#[117]⟩, .slice (some ⟨g2, 0, none⟩) 1 1] 58 (0, 0))) (h1 : w.heap[g1]? = some (.cells #[.string (chB a), .int .u8 1] 55 (0, 0))) (h2 : w.heap[g2]? = some (.cells #[.string (chB b), .int .u8 1] 55 (0, 0))) : ScM w (some ⟨gs, 0, none⟩) (scN a b) := by
  refine ⟨[(⟨[116], [⟨chN a, 1⟩]⟩, some ⟨g1, 0, none⟩, 1), (⟨[117], [⟨chN b, 1⟩]⟩, some ⟨g2, 0, none⟩, 1)], rfl, rds_blk _ hs, ?_⟩
  intro p hp
  rcases List.mem_cons.1 hp with rfl | hp
  · exact rds_blk _ h1
  · rw [List.mem_singleton] at hp
    subst hp
    exact rds_blk _ h2
/-- What bind.Expr leaves of a column there. -/
def NmPost (k : Nat) (same : Prop) (w : World) (e : Ending) (w' : World) : Prop :=
  Below w.heap.size w w' ∧ ((same ∧ e = .returned (.tuple #[.pointer none, .int .i64 6])) ∨ (¬ same ∧ ∃ g kd, e = .returned (.tuple #[ptr g, .int .i64 0]) ∧ w'.heap[g]? = some (.cells (ndv sCol kd nul ((k : Int) % 2) none 0 0) 66 (0, 0))))
theorem wide_names (a b : Nat) : Lp.wide (scN a b) ≤ 10000 := by simp [Lp.wide, scN]
theorem names_expr {a b k gs : Nat} {t s : List UInt8} {v : Value} {w : World} (hwf : (Lp.X.col t s).wf) (hf : (2 ≤ k ∧ a = b) ∧ Lp.findX (scN a b) t s = none ∨ ¬ (2 ≤ k ∧ a = b) ∧ ∃ q, Lp.findX (scN a b) t s = some (k % 2, q)) (hp : PX 0 w (.col t s) v) (hS : ScM w (some ⟨gs, 0, none⟩) (scN a b)) :
    Calls Tryz.prog 30 #[.slice (some ⟨gs, 0, none⟩) 2 2, v, .bool false] w (NmPost k (2 ≤ k ∧ a = b) w) := by
  refine (bindExpr_any (some ⟨gs, 0, none⟩) 2 (scN a b) false (.col t s) v w (by show (2 : Nat) ≤ 100; decide) (wide_names a b) hwf hp hS).mono ?_
  rintro e w' ⟨hb, h⟩
  refine ⟨hb, ?_⟩
  rcases hf with ⟨h1, h2⟩ | ⟨h1, q, h2⟩
  · have e1 : Lp.kindX (scN a b) (.col t s) false = (0, 6) := by simp [Lp.kindX, h2]
    rw [e1, if_neg (by decide)] at h
    exact .inl ⟨h1, h⟩
  · have e1 : Lp.kindX (scN a b) (.col t s) false = (q, 0) := by simp [Lp.kindX, h2]
    rw [e1, if_pos rfl] at h
    obtain ⟨g, h3, -, p, h5, h6⟩ := h
    rw [h2] at h5
    injection h5 with h5
    subst h5
    refine .inr ⟨h1, g, q, h3, ?_⟩
    have e2 : ((k % 2 : Nat) : Int) = (k : Int) % 2 := by omega
    rw [← e2]
    exact h6
theorem cond_names (s : ByteArray) {a b k : Nat} (ha : a < 8) (hb : b < 8) (hk : k < 4) (hs : s = txtB a b k) (w : World) (hT : Tabs w) (hR : Resv w) :
    Calls Tryz.prog 29 #[.string s] w fun e w' => Below w.heap.size w w' ∧ ∃ t s T g rr, e = .returned (.tuple #[.iface T (.pointer (some ⟨g, 0, none⟩)), RC.val rr, .bool true]) ∧ PX w.heap.size w' (.col t s) (.iface T (.pointer (some ⟨g, 0, none⟩))) ∧ (Lp.X.col t s).wf ∧ ((2 ≤ k ∧ a = b) ∧ Lp.findX (scN a b) t s = none ∨ ¬ (2 ≤ k ∧ a = b) ∧ ∃ q, Lp.findX (scN a b) t s = some (k % 2, q)) := by
  obtain ⟨t, s', h1, h2, h3⟩ := names_at ha hb hk
  have hl : s.data.toList.take 600 = txtN a b k := by
    rw [hs]
    show (txtN a b k).toArray.toList.take 600 = _
    rw [List.take_of_length_le]
    have := txtN_len a b k
    simp; omega
  refine (condition_any s w hT hR).mono ?_
  rintro e w' ⟨hb, hc⟩
  rw [hl, h1] at hc
  obtain ⟨T, g, rr, he, hp, -⟩ := hc
  exact ⟨hb, t, s', T, g, rr, he, hp, h2, h3⟩
theorem cond_va_any (w : World) (hT : Tabs w) (hR : Resv w) :
    Calls Tryz.prog 29 #[.string ⟨#[118, 46, 97]⟩] w fun e w' => Below w.heap.size w w' ∧ ∃ T g rr, e = .returned (.tuple #[.iface T (.pointer (some ⟨g, 0, none⟩)), RC.val rr, .bool true]) ∧ PX w.heap.size w' (.col [118] [97]) (.iface T (.pointer (some ⟨g, 0, none⟩))) := by
  refine (condition_any ⟨#[118, 46, 97]⟩ w hT hR).mono ?_
  rintro e w' ⟨hb, hc⟩
  rw [show ((⟨#[118, 46, 97]⟩ : ByteArray).data.toList.take 600) = [118, 46, 97] from rfl, cond_va] at hc
  obtain ⟨T, g, rr, he, hp, -⟩ := hc
  exact ⟨hb, T, g, rr, he, hp⟩
theorem px_alloc0 {B : Nat} {w : World} {o : Obj} {x : Lp.X} {v : Value} (h : PX B w x v) : PX 0 (w.alloc o) x v := PX.mono (Nat.zero_le _) (PX.keep (stays_below ((Below.refl _ _).alloc (Nat.le_refl _) o)) h)
theorem tot_al {a w w4 : World} {o : Obj} (hb : Below a.heap.size a w) (h : Below (w.alloc o).heap.size (w.alloc o) w4) : Below a.heap.size a w4 :=
  (hb.alloc hb.size o).trans (h.mono (by rw [World.size_alloc]; have := hb.size; omega))
theorem wf_va : (Lp.X.col [118] [97]).wf := ⟨by decide, by decide⟩
theorem va_expr {a b gs : Nat} {v : Value} {w : World} (hp : PX 0 w (.col [118] [97]) v) (hS : ScM w (some ⟨gs, 0, none⟩) (scN a b)) :
    Calls Tryz.prog 30 #[.slice (some ⟨gs, 0, none⟩) 2 2, v, .bool false] w fun e w' => Below w.heap.size w w' ∧ e = .returned (.tuple #[.pointer none, .int .i64 6]) := by
  refine (bindExpr_any (some ⟨gs, 0, none⟩) 2 (scN a b) false (.col [118] [97]) v w (by show (2 : Nat) ≤ 100; decide) (wide_names a b) wf_va hp hS).mono ?_
  rintro e w' ⟨hb, h⟩
  have e1 : Lp.kindX (scN a b) (.col [118] [97]) false = (0, 6) := by simp [Lp.kindX, find_va]
  rw [e1, if_neg (by decide)] at h
  exact ⟨hb, h⟩
set_option maxRecDepth 100000 in
set_option maxHeartbeats 8000000 in
theorem names_walk (a0 b0 : Int) (w : World) (ha0 : 0 ≤ a0) (ha1 : a0 ≤ 255) (hc0 : 0 ≤ b0) (hc1 : b0 ≤ 255) (hT : Tabs w) (hR : Resv w) (hL : LitT w) :
    Calls Tryz.prog 9 #[.int .u8 a0, .int .u8 b0] w fun e w' => e = .returned (.bool true) ∧ Below w.heap.size w w' := by
  have HA := Lib.hid (awake17 w hT hR hL)
  have HT := Lib.hid (And.intro hT hR)
  obtain ⟨a, rfl⟩ := Int.eq_ofNat_of_zero_le ha0
  obtain ⟨b, rfl⟩ := Int.eq_ofNat_of_zero_le hc0
  clear hT hR hL
  have eA : ((a : Int) % 8) = ((a % 8 : Nat) : Int) := by omega
  have eB : ((b : Int) % 8) = ((b % 8 : Nat) : Int) := by omega
  have hA8 : a % 8 < 8 := by omega
  have hB8 : b % 8 < 8 := by omega
  have HEA := Lib.hid eA
  have HEB := Lib.hid eB
  clear eA eB
  go_enter Tryz.func9, Tryz.ntmps9
  go_wp2_with fail
  refine HA.out.mono ?_
  rintro e w1 ⟨rfl, hb1⟩
  go_wp2_with fail
  rw [HEA.out, HEB.out]
  generalize a % 8 = ka at *
  generalize b % 8 = kb at *
  have HB1 := Lib.hid hb1
  clear hb1 HA HEA HEB ha0 ha1 hc0 hc1
  refine (column_any ka hA8 _).mono ?_
  rintro e w2 ⟨rfl, hb2⟩
  have HB2 := Lib.hid (HB1.out.trans (hb2.mono HB1.out.size))
  clear hb2 HB1
  go_wp2_with fail
  refine (column_any kb hB8 _).mono ?_
  rintro e w3 ⟨rfl, hb3⟩
  have hg1 := box_below (heap_alloc_new w2 (.cells #[.string (chB ka), .int .u8 1] 55)) hb3
  have hW4 : Below w3.heap.size w3 ((w3.alloc (.cells #[.string (chB kb), .int .u8 1] 55)).alloc (.cells #[.string ⟨#[116]⟩, .slice (some ⟨w2.heap.size, 0, none⟩) 1 1, .string ⟨#[117]⟩, .slice (some ⟨w3.heap.size, 0, none⟩) 1 1] 58)) := ((Below.refl _ _).alloc (Nat.le_refl _) _).alloc (by simp) _
  have hB3 := tot_al HB2.out hb3
  have hS : ScM ((w3.alloc (.cells #[.string (chB kb), .int .u8 1] 55)).alloc (.cells #[.string ⟨#[116]⟩, .slice (some ⟨w2.heap.size, 0, none⟩) 1 1, .string ⟨#[117]⟩, .slice (some ⟨w3.heap.size, 0, none⟩) 1 1] 58)) (some ⟨w3.heap.size + 1, 0, none⟩) (scN ka kb) := sc_names (heap_new2 w3 (.cells #[.string (chB kb), .int .u8 1] 55) (.cells #[.string ⟨#[116]⟩, .slice (some ⟨w2.heap.size, 0, none⟩) 1 1, .string ⟨#[117]⟩, .slice (some ⟨w3.heap.size, 0, none⟩) 1 1] 58)) (box_below hg1 hW4) (box_alloc (heap_alloc_new w3 (.cells #[.string (chB kb), .int .u8 1] 55)) (.cells #[.string ⟨#[116]⟩, .slice (some ⟨w2.heap.size, 0, none⟩) 1 1, .string ⟨#[117]⟩, .slice (some ⟨w3.heap.size, 0, none⟩) 1 1] 58))
  have HS := Lib.hid (And.intro hS (hB3.trans (hW4.mono hB3.size)))
  obtain ⟨Y1, y1, z1, A1⟩ := cat_ok ⟨#[116, 46]⟩ (chB ka) (Nat.le_refl _) (chB_size ka) (by decide)
  obtain ⟨Y2, y2, z2, A2⟩ := cat_ok ⟨#[117, 46]⟩ (chB kb) (Nat.le_refl _) (chB_size kb) (by decide)
  have HY := Lib.hid (And.intro y1 y2)
  clear hb3 hg1 hW4 hB3 hS HB2 y1 y2 z1 z2
  go_wp2_with fail
  refine (column_any ka hA8 _).mono ?_
  rintro e w4 ⟨rfl, hb4⟩
  have HS4 := Lib.hid (And.intro (HS.out.1.below hb4) (HS.out.2.trans (hb4.mono HS.out.2.size)))
  generalize w3.heap.size + 1 = gs at *
  clear hb4 HS
  go_wp2_with fail
  refine (column_any kb hB8 _).mono ?_
  rintro e w5 ⟨rfl, hb5⟩
  have HS5 := Lib.hid (And.intro (HS4.out.1.below hb5) (HS4.out.2.trans (hb5.mono HS4.out.2.size)))
  clear hb5 HS4
  go_wp2_with fail
  refine (column_any ka hA8 _).mono ?_
  rintro e w6 ⟨rfl, hb6⟩
  have HS6 := Lib.hid (And.intro (HS5.out.1.below hb6) (HS5.out.2.trans (hb6.mono HS5.out.2.size)))
  clear hb6 HS5
  go_wp2_with fail
  refine (column_any kb hB8 _).mono ?_
  rintro e w7 ⟨rfl, hb7⟩
  have HS7 := Lib.hid (And.intro (HS6.out.1.below hb7) (HS6.out.2.trans (hb7.mono HS6.out.2.size)))
  clear hb7 HS6
  go_wp2_with fail
  have hbX : Below w7.heap.size w7 (w7.alloc (.cells #[.string Y1, .string Y2, .string (chB ka), .string (chB kb)] 9)) := (Below.refl _ _).alloc (Nat.le_refl _) _
  have hx := heap_alloc_new w7 (.cells #[.string Y1, .string Y2, .string (chB ka), .string (chB kb)] 9)
  have hSX := HS7.out.1.below hbX
  have hBX := HS7.out.2.trans (hbX.mono HS7.out.2.size)
  generalize (w7.alloc (.cells #[.string Y1, .string Y2, .string (chB ka), .string (chB kb)] 9)) = W at *
  generalize w7.heap.size = gt at *
  have HW := Lib.hid (And.intro hSX (And.intro hBX hx))
  clear hSX hBX hx hbX HS7 A1 A2
  go_loopw [60] (fun s60 wr => ∃ i : Nat, i ≤ 4 ∧ s60 = .int .i64 i ∧ Below W.heap.size W wr) (fun s60 _ => 4 - (intOf s60).toNat)
  case atStart => exact ⟨0, by omega, rfl, Below.refl _ _⟩
  case round =>
    obtain ⟨i, hi, rfl, hb⟩ := hrel
    have hk0 := HW.out.2.1.trans (hb.mono HW.out.2.1.size)
    have HB := Lib.hid hb
    by_cases hlt : i < 4
    · have vt := txt_at HY.out.1 HY.out.2 (box_below HW.out.2.2 hb) hlt
      have hiI : (i : Int) < 4 := by omega
      have HC := Lib.hid (cond_names (txtB ka kb i) hA8 hB8 hlt rfl wr (tabs_below HT.out.1 hk0) (resv_below HT.out.2 hk0))
      have HSr := Lib.hid (HW.out.1.below hb)
      generalize txtB ka kb i = tx at *
      clear hb hk0
      go_wp2_with fail
      refine HC.out.mono ?_
      rintro e w8 ⟨hb8, t, s, T, g, ⟨k, vk, vi, vs, vbb, tt, ss, Aa, nn, c⟩, rfl, hp, hwf, hf⟩
      simp only [RC.val]
      have hbz : Below w8.heap.size w8 (w8.alloc (.cells #[.int .u8 k, .int .u8 vk, .int .i64 vi, .string vs, .bool vbb, .string tt, .string ss, .slice Aa nn c] 35)) := (Below.refl _ _).alloc (Nat.le_refl _) _
      have HE := Lib.hid (names_expr hwf hf (px_alloc0 (o := .cells #[.int .u8 k, .int .u8 vk, .int .i64 vi, .string vs, .bool vbb, .string tt, .string ss, .slice Aa nn c] 35) hp) ((HSr.out.below hb8).below hbz))
      have H8 := Lib.hid (HB.out.trans (hb8.mono HB.out.size))
      clear hb8 hp hwf hf hbz HC vt HSr
      go_wp2_with fail
      refine HE.out.mono ?_
      rintro e w9 ⟨hb9, ⟨⟨hi2, hab⟩, rfl⟩ | ⟨hn, g9, kd, rfl, hcell⟩⟩
      · have H9 := Lib.hid (tot_al H8.out hb9)
        have q1 : decide ((2 : Int) ≤ (i : Int)) = true := decide_eq_true (by omega)
        have q2 : ((ka : Int) == (kb : Int)) = true := by rw [hab]; exact beq_self_eq_true _
        clear hb9 hi2 hab HE H8
        go_wp2
        go_roundw
        case rel => exact ⟨i + 1, by omega, by go_num, H9.out⟩
        case measure => simp [intOf]; omega
      · have H9 := Lib.hid (tot_al H8.out hb9)
        have c0 : w9.cell? ⟨g9, 0, none⟩ = some (.string ⟨#[99, 111, 108]⟩) := box_cells hcell 0
        have c3 : w9.cell? ⟨g9, 6, none⟩ = some (.int .i64 ((i : Int) % 2)) := box_cells hcell 6
        obtain ⟨b1, q1⟩ : ∃ b, decide ((2 : Int) ≤ (i : Int)) = b := ⟨_, rfl⟩
        obtain ⟨b2, q2⟩ : ∃ b, ((ka : Int) == (kb : Int)) = b := ⟨_, rfl⟩
        have hbb : b1 = true → b2 = false := by
          rintro rfl
          cases b2
          · rfl
          · exact absurd ⟨by have := of_decide_eq_true q1; omega, by have := eq_of_beq q2; omega⟩ hn
        clear hb9 hn HE H8 hcell
        cases b1
        · clear hbb q2
          unfold ptr
          go_wp2
          go_roundw
          case rel => exact ⟨i + 1, by omega, by go_num, by first | exact H9.out | exact H9.out.trans (drewN_below2 W.heap.size w9 nq)⟩
          case measure => simp [intOf]; omega
        · have hb2 := hbb rfl
          subst hb2
          clear hbb
          unfold ptr
          go_wp2
          go_roundw
          case rel => exact ⟨i + 1, by omega, by go_num, by first | exact H9.out | exact H9.out.trans (drewN_below2 W.heap.size w9 nq)⟩
          case measure => simp [intOf]; omega
    · have hi4 : i = 4 := by omega
      subst hi4
      have HC := Lib.hid (cond_va_any wr (tabs_below HT.out.1 hk0) (resv_below HT.out.2 hk0))
      have HSr := Lib.hid (HW.out.1.below hb)
      have HK := Lib.hid hk0
      clear hb hk0 hlt hi
      go_wp2_with fail
      refine HC.out.mono ?_
      rintro e w8 ⟨hb8, T, g, ⟨k, vk, vi, vs, vbb, tt, ss, Aa, nn, c⟩, rfl, hp⟩
      simp only [RC.val]
      have hbz : Below w8.heap.size w8 (w8.alloc (.cells #[.int .u8 k, .int .u8 vk, .int .i64 vi, .string vs, .bool vbb, .string tt, .string ss, .slice Aa nn c] 35)) := (Below.refl _ _).alloc (Nat.le_refl _) _
      have HE := Lib.hid (va_expr (px_alloc0 (o := .cells #[.int .u8 k, .int .u8 vk, .int .i64 vi, .string vs, .bool vbb, .string tt, .string ss, .slice Aa nn c] 35) hp) ((HSr.out.below hb8).below hbz))
      have H8 := Lib.hid (HK.out.trans (hb8.mono HK.out.size))
      clear hb8 hp hbz HC HSr
      go_wp2_with fail
      refine HE.out.mono ?_
      rintro e w9 ⟨hb9, rfl⟩
      have H9 := Lib.hid (tot_al H8.out hb9)
      clear hb9 HE H8
      go_wp2
      go_ret
      exact ⟨rfl, H9.out⟩
end Go.Proofs.YtkfjmgmjbljnbaaGreatDoor
