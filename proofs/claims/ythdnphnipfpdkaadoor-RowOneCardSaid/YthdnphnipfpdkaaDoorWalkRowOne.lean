/-
  The walk of RowOne: it returns true, of any kinds and any two rows. Condition: unicode/utf8's tables as laid.
-/
import Derived.Test.YthdnphnipfpdkaaDoorAwake4
namespace Go.Proofs.YthdnphnipfpdkaaDoor
open Go.RowKit

set_option maxRecDepth 100000 in
set_option maxHeartbeats 4000000 in
theorem rowOne_walk (AK : Option Addr) (cK : Nat) (ks : List UInt8) (A1 A2 : Option Addr) (c1 c2 : Nat) (l1 l2 : List Lp.V) (w : World) (hK : Rds w AK (bv ks)) (hkn : ks.length ≤ 9223372036854775807) (h1 : RdsV w A1 l1) (h2 : RdsV w A2 l2)
    (hc1 : l1.length ≤ c1) (hc2 : l2.length ≤ c2) (k1 : ∀ u ∈ l1, u.ok) (k2 : ∀ u ∈ l2, u.ok) (hT : Tabs w) :
    Calls Tryd.prog 7 #[.slice AK ks.length cK, .slice A1 l1.length c1, .slice A2 l2.length c2] w fun e w' => e = .returned (.bool true) ∧ Below w.heap.size w w' := by
  go_enter Tryd.func7, Tryd.ntmps7
  go_wp2_with fail
  refine (awake4_any _ hT).mono ?_
  rintro e w1 ⟨rfl, hb1⟩
  have g1 := (h1.take (min (l1.length : Int) 12).toNat).below hb1
  have g2 := (h2.take (min (l2.length : Int) 12).toNat).below hb1
  have hT1 := tabs_below hT hb1
  have K1 := Lib.hid (fun u (hu : u ∈ l1.take (min (l1.length : Int) 12).toNat) => k1 u (List.mem_of_mem_take hu))
  have K2 := Lib.hid (fun u (hu : u ∈ l2.take (min (l2.length : Int) 12).toNat) => k2 u (List.mem_of_mem_take hu))
  clear h1 h2 hT k1 k2
  go_wp2_with fail
  go_quiet (fail)
  have n1 : Hid ((min (l1.length : Int) 12).toNat = (l1.take (min (l1.length : Int) 12).toNat).length) := by show _ = _; rw [List.length_take]; omega
  have n2 : Hid ((min (l2.length : Int) 12).toNat = (l2.take (min (l2.length : Int) 12).toNat).length) := by show _ = _; rw [List.length_take]; omega
  have m1 : (min (l1.length : Int) 12).toNat ≤ 12 := by omega
  have m2 : (min (l2.length : Int) 12).toNat ≤ 12 := by omega
  have b1 : (min (l1.length : Int) 12).toNat ≤ c1 := by omega
  have b2 : (min (l2.length : Int) 12).toNat ≤ c2 := by omega
  generalize l1.take (min (l1.length : Int) 12).toNat = L1 at *
  generalize l2.take (min (l2.length : Int) 12).toNat = L2 at *
  generalize (min (l1.length : Int) 12).toNat = M1 at *
  generalize (min (l2.length : Int) 12).toNat = M2 at *
  have e1 : L1.length ≤ 12 := by rw [← n1.out]; exact m1
  have e2 : L2.length ≤ 12 := by rw [← n2.out]; exact m2
  have hbq := hb1.trans ((drewN_below w1 nq).mono hb1.size)
  have g1q := g1.below (drewN_below w1 nq)
  have g2q := g2.below (drewN_below w1 nq)
  have hTq := tabs_below hT1 (drewN_below w1 nq)
  have hKq := hK.below hbq
  clear g1 g2 hT1 hb1 hK
  generalize w1.drewN nq = wq at *
  have hx12 : (ks.take 12).length ≤ 12 := by simp; omega
  have HK12 : Hid (ks.take 12 = ks.take 12) := rfl
  obtain ⟨K, hKe⟩ : ∃ K, ks.take 12 = K := ⟨_, rfl⟩
  rw [hKe] at hx12
  have HKE := Lib.hid hKe
  clear hKe HK12
  go_wp2_with fail
  refine (kinds_r _ _ _ ks K rfl HKE.out _ hKq hkn).mono ?_
  rintro e w2 ⟨⟨AX, cX, rfl, rX⟩, hb2⟩
  have g1w := g1q.below hb2
  have g2w := g2q.below hb2
  have hTw := tabs_below hTq hb2
  have hKw := hKq.below hb2
  have hbw2 := hbq.trans (hb2.mono hbq.size)
  clear g1q g2q hTq hKq hb2 hbq
  go_wp2_with fail
  by_cases z1 : Lp.rfits K L1 = 0
  · have Z1 := Lib.hid z1
    clear z1
    refine (rowBytes_right _ _ _ K _ _ _ L1 _ rfl n1.out rfl _ rX (by omega) g1w (by omega) K1.out hTw Z1.out).mono ?_
    rintro e w3 ⟨⟨AP, cP, rfl, oP⟩, hb3⟩
    have g1x := g1w.below hb3
    have g2x := g2w.below hb3
    have hTx := tabs_below hTw hb3
    have hKx := hKw.below hb3
    have rP := oP.rds
    have hbw3 := hbw2.trans (hb3.mono hbw2.size)
    clear g1w g2w hTw hKw hb3 hbw2 oP rX
    go_wp2_with fail
    refine (kinds_r _ _ _ ks K rfl HKE.out _ hKx hkn).mono ?_
    rintro e w4 ⟨⟨AY, cY, rfl, rY⟩, hb4⟩
    have g1y := g1x.below hb4
    have g2y := g2x.below hb4
    have hTy := tabs_below hTx hb4
    have rPy := rP.below hb4
    have hbw4 := hbw3.trans (hb4.mono hbw3.size)
    clear g1x g2x hTx hKx rP hb4 hbw3
    go_wp2_with fail
    by_cases z2 : Lp.rfits K L2 = 0
    · have HONE := Lib.hid (Lp.rowB_one Z1.out z2 K1.out K2.out)
      have Z2 := Lib.hid z2
      clear z2
      refine (rowBytes_right _ _ _ K _ _ _ L2 _ rfl n2.out rfl _ rY (by omega) g2y (by omega) K2.out hTy Z2.out).mono ?_
      rintro e w5 ⟨⟨AQ, cQ, rfl, oQ⟩, hb5⟩
      have g1z := g1y.below hb5
      have g2z := g2y.below hb5
      have rPz := rPy.below hb5
      have rQ := oQ.rds
      have hbw5 := hbw4.trans (hb5.mono hbw4.size)
      clear g1y g2y hTy rPy hb5 hbw4 oQ rY
      go_wp2_with fail
      refine (same3_any _ _ _ _ (Lp.rowB L1) (Lp.rowB L2) _ _ rfl rfl _ rPz rQ).mono ?_
      rintro e w' ⟨rfl, rfl⟩
      rw [HONE.out]
      go_wp2_with fail
      refine (sameRow_any _ _ _ _ _ _ L1 L2 _ n1.out n2.out rfl _ g1z g2z (by omega)).mono ?_
      rintro e w6 ⟨rfl, hb6⟩
      generalize Lp.sameRow L1 L2 = V at *
      have hVV : (V == V) = true := by simp
      go_wp2
      go_ret
      exact ⟨by simp, hbw5.trans (hb6.mono hbw5.size)⟩
    · have Z2 := Lib.hid z2
      have e2 : (Lp.rfits K L2 != 0) = true := by simpa using z2
      clear z2
      refine (rowBytes_wrong _ _ _ K _ _ _ L2 _ rfl n2.out _ rY (by omega) g2y (by omega) K2.out hTy rfl Z2.out).mono ?_
      rintro e w5 ⟨rfl, hb5⟩
      generalize Lp.rfits K L2 = E2 at *
      go_wp2
      go_ret
      exact ⟨rfl, hbw4.trans (hb5.mono hbw4.size)⟩
  · have Z1 := Lib.hid z1
    have e1 : (Lp.rfits K L1 != 0) = true := by simpa using z1
    clear z1
    refine (rowBytes_wrong _ _ _ K _ _ _ L1 _ rfl n1.out _ rX (by omega) g1w (by omega) K1.out hTw rfl Z1.out).mono ?_
    rintro e w3 ⟨rfl, hb3⟩
    generalize Lp.rfits K L1 = E1 at *
    have g2x := g2w.below hb3
    have hTx := tabs_below hTw hb3
    have hKx := hKw.below hb3
    have hbw3 := hbw2.trans (hb3.mono hbw2.size)
    clear g1w g2w hTw hKw hb3 hbw2
    go_wp2_with fail
    refine (kinds_r _ _ _ ks K rfl HKE.out _ hKx hkn).mono ?_
    rintro e w4 ⟨⟨AY, cY, rfl, rY⟩, hb4⟩
    have g2y := g2x.below hb4
    have hTy := tabs_below hTx hb4
    have hbw4 := hbw3.trans (hb4.mono hbw3.size)
    clear g2x hTx hKx hb4 hbw3
    go_wp2_with fail
    by_cases z2 : Lp.rfits K L2 = 0
    · have Z2 := Lib.hid z2
      clear z2
      refine (rowBytes_right _ _ _ K _ _ _ L2 _ rfl n2.out rfl _ rY (by omega) g2y (by omega) K2.out hTy Z2.out).mono ?_
      rintro e w5 ⟨⟨AQ, cQ, rfl, oQ⟩, hb5⟩
      go_wp2
      go_ret
      exact ⟨rfl, hbw4.trans (hb5.mono hbw4.size)⟩
    · have Z2 := Lib.hid z2
      clear z2
      refine (rowBytes_wrong _ _ _ K _ _ _ L2 _ rfl n2.out _ rY (by omega) g2y (by omega) K2.out hTy rfl Z2.out).mono ?_
      rintro e w5 ⟨rfl, hb5⟩
      generalize Lp.rfits K L2 = E2 at *
      go_wp2
      go_ret
      exact ⟨rfl, hbw4.trans (hb5.mono hbw4.size)⟩
end Go.Proofs.YthdnphnipfpdkaaDoor
