/-
  BindTruths: the walk. Conditions: the listed tables as laid; the arguments as they came in.
-/
import Derived.Test.YtkfjmgmjbljnbaaGreatDoorGU
import Derived.Test.YtkfjmgmjbljnbaaGreatDoorScope17
import Derived.Test.YtkfjmgmjbljnbaaGreatDoorTruthB
import Derived.Test.YtkfjmgmjbljnbaaGreatDoorTruth17
namespace Go.Proofs.YtkfjmgmjbljnbaaGreatDoor
open Go.RowKit

set_option maxRecDepth 100000 in
set_option maxHeartbeats 8000000 in
theorem truths_walk (A : Option Addr) (c : Nat) (la : List TabA) (s : ByteArray) (w : World) (hA : ScA w A la) (hT : Tabs w) (hR : Resv w) (hL : LitT w) :
    Calls Tryz.prog 12 #[.slice A la.length c, .string s] w fun e w' => e = .returned (.bool true) ∧ Below w.heap.size w w' := by
  have HA := Lib.hid (awake17 w hT hR hL)
  have HT := Lib.hid (And.intro hT hR)
  have HS := Lib.hid hA
  have hok : ∀ x, Lp.condS (s.data.toList.take 600) = some x → x.wf := fun x h => (Lp.condS_ok (by rw [List.length_take]; omega) h).1
  have HOK := Lib.hid hok
  clear hT hR hL hA hok
  go_enter Tryz.func12, Tryz.ntmps12
  go_wp2_with fail
  refine HA.out.mono ?_
  rintro e w1 ⟨rfl, hb1⟩
  go_wp2_with fail
  refine (scope17_any A c la 2 (Nat.le_refl _) w1 (HS.out.below hb1)).mono ?_
  rintro e w2 ⟨hb2, hsc⟩
  have hB := hb1.trans (hb2.mono hb1.size)
  have HC := Lib.hid (condition_any s w2 (tabs_below HT.out.1 hB) (resv_below HT.out.2 hB))
  have HB := Lib.hid hB
  generalize hq : Lp.condS (s.data.toList.take 600) = q at *
  rcases hsc with rfl | ⟨l, A1, c1, A2, c2, rfl, hS1, hS2, hl2, h8⟩
  · clear hb1 hb2 hB hq
    go_wp2_with fail
    refine HC.out.mono ?_
    rintro e w3 ⟨hb3, hc⟩
    have HB3 := Lib.hid (HB.out.trans (hb3.mono HB.out.size))
    cases q with
    | none =>
      obtain ⟨⟨k, vk, vi, vs, vb, tt, ss, Ar, nn, cr⟩, rfl⟩ := hc
      simp only [RC.val]
      clear hb3 HC
      go_wp2
      go_ret
      exact ⟨rfl, HB3.out.alloc HB3.out.size _⟩
    | some x =>
      obtain ⟨T, g, ⟨k, vk, vi, vs, vb, tt, ss, Ar, nn, cr⟩, rfl, -, -⟩ := hc
      simp only [RC.val]
      clear hb3 HC
      go_wp2
      go_ret
      exact ⟨rfl, HB3.out.alloc HB3.out.size _⟩
  · have hwd := wide_scOf (fun p hp => (h8 p hp).1)
    have hwd2 : Lp.wide (scOf l) ≤ 10000 := by omega
    have HSC := Lib.hid (And.intro hS1 (And.intro hS2 (And.intro hl2 hwd2)))
    clear hb1 hb2 hB hq hS1 hS2 hl2 h8 hwd hwd2
    go_wp2_with fail
    refine HC.out.mono ?_
    rintro e w3 ⟨hb3, hc⟩
    have HB3 := Lib.hid (HB.out.trans (hb3.mono HB.out.size))
    cases q with
    | none =>
      obtain ⟨⟨k, vk, vi, vs, vb, tt, ss, Ar, nn, cr⟩, rfl⟩ := hc
      simp only [RC.val]
      clear hb3 HC
      go_wp2
      go_ret
      exact ⟨rfl, HB3.out.alloc HB3.out.size _⟩
    | some x =>
      obtain ⟨T, g, ⟨k, vk, vi, vs, vb, tt, ss, Ar, nn, cr⟩, rfl, hp, hrx⟩ := hc
      simp only [RC.val]
      have hz := heap_alloc_new w3 (.cells #[.int .u8 k, .int .u8 vk, .int .i64 vi, .string vs, .bool vb, .string tt, .string ss, .slice Ar nn cr] 35)
      have hbx : Below w3.heap.size w3 (w3.alloc (.cells #[.int .u8 k, .int .u8 vk, .int .i64 vi, .string vs, .bool vb, .string tt, .string ss, .slice Ar nn cr] 35)) := (Below.refl _ _).alloc (Nat.le_refl _) _
      have HX := Lib.hid (And.intro hz (And.intro (RX.below hbx hrx) (And.intro (hb3.trans (hbx.mono hb3.size)) (HOK.out x rfl))))
      have hBT := bindTruth_any A1 c1 (scOf l) x T g _ (by rw [scOf_len]; have := HSC.out.2.2.1; omega) HSC.out.2.2.2 (HOK.out x rfl) (PX.mono (Nat.zero_le _) (PX.keep (stays_below hbx) hp)) ((HSC.out.1.below hb3).below hbx).scm
      rw [scOf_len] at hBT
      have HBT := Lib.hid hBT
      clear hz hbx hp hrx hb3 HC hBT HOK
      go_wp2_with fail
      refine HBT.out.mono ?_
      rintro e w4 ⟨hb4, hr⟩
      have hk4 := HX.out.2.2.1.trans (hb4.mono HX.out.2.2.1.size)
      have hz4 := box_below HX.out.1 hb4
      have hy := heap_alloc_new w4 (.cells #[.int .u8 k, .int .u8 vk, .int .i64 vi, .string vs, .bool vb, .string tt, .string ss, .slice Ar nn cr] 35)
      have hby : Below w4.heap.size w4 (w4.alloc (.cells #[.int .u8 k, .int .u8 vk, .int .i64 vi, .string vs, .bool vb, .string tt, .string ss, .slice Ar nn cr] 35)) := (Below.refl _ _).alloc (Nat.le_refl _) _
      have HR := Lib.hid (truth17_one A2 c2 l x ⟨k, vk, vi, vs, vb, tt, ss, Ar, nn, cr⟩ _ _ (HSC.out.2.1.below (hk4.trans (hby.mono hk4.size))) (by have := HSC.out.2.2.1; omega) HSC.out.2.2.2 HX.out.2.2.2 hy _ ((HX.out.2.1.below hb4).below hby))
      have HK := Lib.hid (HB.out.trans ((hk4.trans (hby.mono hk4.size)).mono HB.out.size))
      have cz := box_cells hz4
      by_cases h0 : truE (scOf l) x = 0
      · rw [if_pos h0] at hr
        obtain ⟨g4, rfl, -⟩ := hr
        rw [h0] at HR
        unfold ptr
        clear hb4 hk4 hz4 hy hby h0 HX HBT
        go_wp2_with fail
        refine (bindTruth_nil _ _ _ _).mono ?_
        rintro e w5 ⟨rfl, rfl⟩
        go_wp2_with fail
        refine HR.out.mono ?_
        rintro e w6 ⟨rfl, hb6⟩
        have HK6 := Lib.hid (HK.out.trans (hb6.mono HK.out.size))
        clear hb6
        go_wp2
        go_ret
        exact ⟨rfl, HK6.out⟩
      · rw [if_neg h0] at hr
        subst hr
        have e1 : (truE (scOf l) x == 0) = false := beq_eq_false_iff_ne.2 h0
        generalize truE (scOf l) x = E at *
        clear hb4 hk4 hz4 hy hby h0 HX HBT
        go_wp2_with fail
        refine (bindTruth_nil _ _ _ _).mono ?_
        rintro e w5 ⟨rfl, rfl⟩
        go_wp2_with fail
        refine HR.out.mono ?_
        rintro e w6 ⟨rfl, hb6⟩
        have HK6 := Lib.hid (HK.out.trans (hb6.mono HK.out.size))
        clear hb6
        go_wp2
        go_ret
        exact ⟨rfl, HK6.out⟩
end Go.Proofs.YtkfjmgmjbljnbaaGreatDoor
