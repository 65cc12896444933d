/-
  The walk of KeyBehind: it returns true, at any three slices of bytes. Condition: unicode/utf8's tables as laid.
-/
import Derived.Test.YthdnphnipfpdkaaDoorAwake3
import Derived.Test.YthdnphnipfpdkaaDoorPlainBehind
namespace Go.Proofs.YthdnphnipfpdkaaDoor
open Go.RowKit

def allFF (l : List UInt8) : Bool := l.all (· == 255)
theorem all_step (l : List UInt8) (k : Nat) (h : k < l.length) : allFF (l.take (k + 1)) = (allFF (l.take k) && (l[k] == 255)) := by
  unfold allFF; rw [List.take_succ_eq_append_getElem h, List.all_append]; simp
theorem byte_eq (x : UInt8) : (((x.toNat : Nat) : Int) == 255) = (x == 255) := by
  rw [Bool.eq_iff_iff, beq_iff_eq, beq_iff_eq, ← UInt8.toNat_inj]; show _ ↔ x.toNat = 255; omega

set_option maxHeartbeats 4000000 in
theorem keyBehind_walk (A1 A2 A3 : Option Addr) (c1 c2 c3 : Nat) (l1 l2 l3 : List UInt8) (w : World) (h1 : Rds w A1 (bv l1)) (h2 : Rds w A2 (bv l2)) (h3 : Rds w A3 (bv l3))
    (hc1 : l1.length ≤ c1) (hc2 : l2.length ≤ c2) (hc3 : l3.length ≤ c3) (hT : Tabs w) :
    Calls Tryd.prog 3 #[.slice A1 l1.length c1, .slice A2 l2.length c2, .slice A3 l3.length c3] w fun e w' => e = .returned (.bool true) ∧ Below w.heap.size w w' := by
  obtain ⟨i0, hi0, hz0, hz1, hz2⟩ := info_parts byteInfo
  go_enter Tryd.func3, Tryd.ntmps3
  go_wp2_with fail
  refine (awake3_any _ hT).mono ?_
  rintro e w1 ⟨rfl, hb1⟩
  have g1 := h1.below hb1; have g2 := h2.below hb1; have g3 := h3.below hb1
  clear h1 h2 h3 hT
  go_wp2_with fail
  refine (cut3_any A1 c1 l1 60 (by decide) w1 g1 (by decide) hc1).mono ?_
  rintro e w2 ⟨AP, cP, rfl, oP, hb2⟩
  have lP : (l1.take (60 : Int).toNat).length ≤ 60 := List.length_take_le _ _
  generalize l1.take (60 : Int).toNat = P at *
  have g2' := g2.below hb2; have g3' := g3.below hb2
  clear g1 g2 g3
  go_wp2_with fail
  refine (cut3_any A2 c2 l2 60 (by decide) w2 g2' (by decide) hc2).mono ?_
  rintro e w3 ⟨AM, cM, rfl, oM, hb3⟩
  have lM : (l2.take (60 : Int).toNat).length ≤ 60 := List.length_take_le _ _
  generalize l2.take (60 : Int).toNat = M at *
  have g3'' := g3'.below hb3
  clear g2' g3'
  go_wp2_with fail
  refine (cut3_any A3 c3 l3 60 (by decide) w3 g3'' (by decide) hc3).mono ?_
  rintro e w4 ⟨AO, cO, rfl, oO, hb4⟩
  clear g3''
  have hbw4 : Below w.heap.size w w4 := ((hb1.trans (hb2.mono hb1.size)).trans (hb3.mono (Nat.le_trans hb1.size hb2.size))).trans (hb4.mono (Nat.le_trans (Nat.le_trans hb1.size hb2.size) hb3.size))
  have rP := (oP.rds.below hb3).below hb4
  have rM := oM.rds.below hb4
  have rO := oO.rds
  have kO := own_le oO
  have kM := own_le oM
  clear oP oM oO hb1 hb2 hb3 hb4 hc1 hc2 hc3
  generalize l3.take (60 : Int).toNat = O at *
  go_wp2_with fail
  refine (copy3_any AP cP P w4 rP (by omega)).mono ?_
  rintro e w5 ⟨AC, cC, rfl, oC, hb5⟩
  go_wp2_with fail
  refine (behind_any AC cC P w5 oC.rds (by omega)).mono ?_
  rintro e w6 ⟨AE, cE, r, hr, rfl, kE, rE, hb6⟩
  have rP6 := (rP.below hb5).below hb6
  have rM6 := (rM.below hb5).below hb6
  have rO6 := (rO.below hb5).below hb6
  have rC6 := oC.rds.below hb6
  have hbw6 : Below w.heap.size w w6 := (hbw4.trans (hb5.mono hbw4.size)).trans (hb6.mono (Nat.le_trans hbw4.size hb5.size))
  have HR := Lib.hid hr
  clear hr rP rM rO oC hb5 hb6 hbw4
  go_wp2_with fail
  refine (same3_any _ _ _ _ P P _ _ rfl rfl _ rC6 rP6).mono ?_
  rintro e w' ⟨rfl, rfl⟩
  have hPP : (P == P) = true := by simp
  go_wp2_with fail
  go_loop [9, 11, 31] (fun s9 _ s31 => ∃ k : Nat, k ≤ P.length ∧ s31 = .int .i64 k ∧ s9 = .bool (allFF (P.take k))) (fun _ _ s31 => P.length - (intOf s31).toNat)
  case atStart => exact ⟨0, Nat.zero_le _, rfl, rfl⟩
  case round =>
    obtain ⟨k, hk, rfl, rfl⟩ := hrel
    by_cases hlt : k < P.length
    · obtain ⟨b, off, rfl, hcell⟩ := rP6.at_ (bv_at hlt)
      have hst := all_step P k hlt
      have hbe := byte_eq P[k]
      have HS := Lib.hid hst
      have HB := Lib.hid hbe
      clear hst hbe
      go_wp2
      all_goals
        go_round
        case rel => exact ⟨k + 1, by omega, by go_num, by rw [HS.out, ← HB.out]; simp_all⟩
        case measure => simp [intOf]; omega
    · have hkl : k = P.length := by omega
      subst hkl
      have e1 : P.take P.length = P := List.take_length
      rw [e1]
      clear e1 hlt hk
      cases hall : allFF P
      · have hless := behind_less M HR.out hall
        have hin := behind_in O HR.out hall
        have HL := Lib.hid hless
        have HI := Lib.hid hin
        clear hless hin hall
        go_wp2_with fail
        refine (copy3_any AP cP P w6 rP6 (by omega)).mono ?_
        rintro e w7 ⟨A7, c7, rfl, o7, hb7⟩
        have rM7 := rM6.below hb7
        have z7 := hb7.size
        go_wp2_with (at_builtin; refine wpList_app _ rfl (.tmp 46) (.tmp 47) _ rfl w6.heap.size 5 i0 _ 1 1 Tryd.underlying22 hi0 hz0 hz1 hz2 rfl (Nat.zero_lt_one) _ _ _ _ rfl o7 AM M.length cM (bv M) rfl (by simp [bv_length]) rM7 (bv_one M) (by simp only [maxLen]; omega) (by omega) (by omega) ?_; intro A8 c8 w8 o8 hb8 _ _)
        rw [← bv_append] at o8
        have hb68 : Below w6.heap.size w6 w8 := hb7.trans hb8
        have rE8 := rE.below hb68
        have rO8 := rO6.below hb68
        have rP8 := rP6.below hb68
        have r8 := Rds.own o8
        have hbw8 : Below w.heap.size w w8 := hbw6.trans (hb68.mono hbw6.size)
        refine (less3_any _ _ _ _ (P ++ M) r _ _ (by simp) rfl _ r8 rE8).mono ?_
        rintro e w' ⟨rfl, rfl⟩
        rw [HL.out]
        clear o7 o8 hb7 hb8 r8 rM7 hb68
        go_wp2_with fail
        refine (less3_any _ _ _ _ O P _ _ rfl rfl _ rO8 rP8).mono ?_
        rintro e w' ⟨rfl, rfl⟩
        cases hq : Op.bytesLess O P
        · have HQ := Lib.hid hq
          clear hq
          go_wp2_with fail
          refine (less3_any _ _ _ _ O r _ _ rfl rfl _ rO8 rE8).mono ?_
          rintro e w' ⟨rfl, rfl⟩
          go_wp2_with fail
          refine (begins3_any _ _ _ _ O P _ _ rfl rfl _ rO8 rP8 kO).mono ?_
          rintro e w' ⟨rfl, rfl⟩
          have hfin : Op.bytesLess O r = (decide (P.length ≤ O.length) && O.take P.length == P) := by
            have := HI.out; rw [HQ.out] at this; simpa [begins] using this
          rw [← hfin]
          clear hfin
          go_wp2
          go_ret
          exact ⟨rfl, hbw8⟩
        · have HQ := Lib.hid hq
          clear hq
          go_wp2_with fail
          refine (begins3_any _ _ _ _ O P _ _ rfl rfl _ rO8 rP8 kO).mono ?_
          rintro e w' ⟨rfl, rfl⟩
          have hfin : (decide (P.length ≤ O.length) && O.take P.length == P) = false := by
            have := HI.out; rw [HQ.out] at this; simpa [begins] using this.symm
          rw [hfin]
          clear hfin
          go_wp2
          go_ret
          exact ⟨rfl, hbw8⟩
      · have hnil := behind_nil HR.out hall
        subst hnil
        clear hall
        go_wp2
        go_ret
        exact ⟨rfl, hbw6⟩
end Go.Proofs.YthdnphnipfpdkaaDoor
