/-
  The walk of RowCuts: it returns true, of any kinds, any row, any cut and anything behind. Condition: unicode/utf8's tables as laid.
-/
import Derived.Test.YthdnphnipfpdkaaDoorRowRead
import Derived.Test.YthdnphnipfpdkaaDoorAwake4
namespace Go.Proofs.YthdnphnipfpdkaaDoor
open Go.RowKit

theorem rowRead_none (AK : Option Addr) (nK cK : Nat) (ks : List UInt8) (AP : Option Addr) (nP cP : Nat) (l : List UInt8) (hko : Lp.kindsOk ks = true) (hrr : Lp.rread ks l = none) (hnk : nK = ks.length) (hnp : nP = l.length) (w : World) (hK : Rds w AK (bv ks)) (hkn : ks.length ≤ 70368744177664)
    (hP : Rds w AP (bv l)) (hcP : nP ≤ cP) (hl : l.length ≤ 1000000) (hT : Tabs w) :
    Calls Tryd.prog 36 #[.slice AK nK cK, .slice AP nP cP] w fun e w' => e = .returned (.tuple #[.slice none 0 0, .int .i64 3]) ∧ Below w.heap.size w w' := by
  refine (rowRead_any AK nK cK ks AP nP cP l hnk hnp w hK hkn hP hcP hl hT).mono ?_
  rintro e w' ⟨hb, ⟨hf, _⟩ | ⟨_, ⟨L, A, c, h1, _⟩ | ⟨_, he⟩⟩⟩
  · rw [hko] at hf; cases hf
  · rw [hrr] at h1; cases h1
  · exact ⟨he, hb⟩

set_option maxRecDepth 100000 in
set_option maxHeartbeats 4000000 in
theorem rowCuts_walk (AK : Option Addr) (cK : Nat) (ks : List UInt8) (A1 : Option Addr) (c1 : Nat) (l1 : List Lp.V) (m : Nat) (AM : Option Addr) (cM : Nat) (lm : List UInt8) (w : World) (hK : Rds w AK (bv ks)) (hkn : ks.length ≤ 9223372036854775807)
    (h1 : RdsV w A1 l1) (hc1 : l1.length ≤ c1) (k1 : ∀ u ∈ l1, u.ok) (hm : m < 256) (hM : Rds w AM (bv lm)) (hcM : lm.length ≤ cM) (hT : Tabs w) :
    Calls Tryd.prog 14 #[.slice AK ks.length cK, .slice A1 l1.length c1, .int .u8 m, .slice AM lm.length cM] w fun e w' => e = .returned (.bool true) ∧ Below w.heap.size w w' := by
  obtain ⟨i0, hi0, hz0, hz1, hz2⟩ := info_parts byteInfo
  go_enter Tryd.func14, Tryd.ntmps14
  go_wp2_with fail
  refine (awake4_any _ hT).mono ?_
  rintro e w1 ⟨rfl, hb1⟩
  have g1 := (h1.take (min (l1.length : Int) 12).toNat).below hb1
  have gK := hK.below hb1
  have gM := hM.below hb1
  have hT1 := tabs_below hT hb1
  have K1 := Lib.hid (fun u (hu : u ∈ l1.take (min (l1.length : Int) 12).toNat) => k1 u (List.mem_of_mem_take hu))
  have n1 : Hid ((min (l1.length : Int) 12).toNat = (l1.take (min (l1.length : Int) 12).toNat).length) := by show _ = _; rw [List.length_take]; omega
  have e1 : (l1.take (min (l1.length : Int) 12).toNat).length ≤ 12 := by rw [← n1.out]; omega
  have b0 : (0 : Int) ≤ min (l1.length : Int) 12 := by omega
  have b1 : min (l1.length : Int) 12 ≤ (c1 : Int) := by omega
  have hx12 : (ks.take 12).length ≤ 12 := by simp; omega
  have HKE : Hid (ks.take 12 = ks.take 12) := rfl
  clear h1 hT k1 hK hM
  generalize l1.take (min (l1.length : Int) 12).toNat = L at *
  obtain ⟨K, hKe⟩ : ∃ K, ks.take 12 = K := ⟨_, rfl⟩
  rw [hKe] at hx12
  clear HKE
  have HKE := Lib.hid hKe
  clear hKe
  go_wp2_with fail
  by_cases z : Lp.rfits K L = 0
  · have Z := Lib.hid z
    clear z
    go_region_held3 (fun _ => True) (trivial)
      (first
        | (go_at_call 29; refine (kinds_r _ _ _ ks K rfl HKE.out _ ?_ hkn).mono ?_
           · exact gK.below (by repeat (first | exact Below.refl _ _ | apply Below.drew))
           rintro e w2 ⟨⟨AX, cX, rfl, rX⟩, hb2⟩)
        | (go_at_call 28; refine (rowBytes_right _ _ _ K _ _ _ L _ rfl n1.out rfl _ ?_ (by omega) ?_ (by omega) K1.out ?_ Z.out).mono ?_
           · exact rX.below (by repeat (first | exact Below.refl _ _ | apply Below.drew))
           · exact (g1.below (Below.trans (by repeat (first | exact Below.refl _ _ | apply Below.drew)) hb2)).below (by repeat (first | exact Below.refl _ _ | apply Below.drew))
           · exact tabs_below (tabs_below hT1 (Below.trans (by repeat (first | exact Below.refl _ _ | apply Below.drew)) hb2)) (by repeat (first | exact Below.refl _ _ | apply Below.drew))
           rintro e w3 ⟨⟨AP, cP, rfl, oP⟩, hb3⟩))
    all_goals
      have hb13 : Below w1.heap.size w1 w3 := Below.trans (by repeat (first | exact Below.refl _ _ | apply Below.drew)) (hb2.trans (hb3.mono hb2.size))
      have hbw3 := hb1.trans (hb13.mono hb1.size)
      have gK3 := gK.below hb13
      have gM3 := gM.below hb13
      have hT3 := tabs_below hT1 hb13
      have rP := oP.rds
      have hcP := own_le oP
      have hr := Lp.rfits_zero Z.out
      have HKO := Lib.hid hr.1
      have hPl : (Lp.rowB L).length ≤ 200 := by simp only [Lp.rowB, List.length_cons]; omega
      have hP1 : 1 ≤ (Lp.rowB L).length := by simp [Lp.rowB]
      have HCUT := Lib.hid (fun (j : Nat) (hj : j < (Lp.rowB L).length) => Lp.rread_cut Z.out K1.out hj)
      have HMORE := Lib.hid (fun (t : List UInt8) (ht : t ≠ []) => Lp.rread_more Z.out K1.out ht)
      clear hr g1 hb2 rX hb3 oP hb13 hT1 gK gM hb1 K1 n1 b0 b1 Z
      generalize Lp.rowB L = P at *
      obtain ⟨J, hJ⟩ : ∃ J, m % P.length = J := ⟨_, rfl⟩
      have hJl : J < P.length := by rw [← hJ]; exact Nat.mod_lt _ (by omega)
      have hj1 : (m : Int) % (P.length : Int) = (J : Int) := by rw [← hJ]; simp
      have hj2 : Int.tmod (m : Int) (P.length : Int) = (J : Int) := by rw [Int.tmod_eq_emod_of_nonneg (Int.natCast_nonneg m), hj1]

      have rT := Rds.take rP J
      rw [bv_take] at rT
      have HT := Lib.hid (HCUT.out J hJl)
      have hTl : Hid (J = (P.take J).length) := by show _ = _; rw [List.length_take]; omega
      have hT2 : (P.take J).length ≤ 200 := by rw [List.length_take]; omega
      generalize P.take J = T at *
      have hpz : ((P.length : Int) == 0) = false := beq_eq_false_iff_ne.2 (by omega)
      have hJ0 : (0 : Int) ≤ (J : Int) := by omega
      have hJ1 : (J : Int) ≤ (cP : Int) := by omega
      have hjw : IntKind.i64.wrap (J : Int) = (J : Int) := IntWalk.i64_in _ (by omega)
      have hmw : IntKind.i64.wrap (m : Int) = (m : Int) := IntWalk.i64_in _ (by omega)
      have hpy : ¬ ((P.length : Int) = 0) := by omega
      have hpx : ¬ P = [] := by intro g; rw [g] at hP1; simp at hP1
      go_wp2_with fail
      go_region_held3 (fun _ => True) (trivial)
        (first
          | (go_at_call 29; refine (kinds_r _ _ _ ks K rfl HKE.out _ ?_ hkn).mono ?_
             · exact gK3.below (by repeat (first | exact Below.refl _ _ | apply Below.drew))
             rintro e w4 ⟨⟨AY, cY, rfl, rY⟩, hb4⟩)
          | (go_at_call 36; refine (rowRead_none _ _ _ K _ _ _ T HKO.out HT.out rfl hTl.out _ ?_ (by omega) ?_ (by omega) (by omega) ?_).mono ?_
             · exact rY.below (by repeat (first | exact Below.refl _ _ | apply Below.drew))
             · exact (rT.below (Below.trans (by repeat (first | exact Below.refl _ _ | apply Below.drew)) hb4)).below (by repeat (first | exact Below.refl _ _ | apply Below.drew))
             · exact tabs_below (tabs_below hT3 (Below.trans (by repeat (first | exact Below.refl _ _ | apply Below.drew)) hb4)) (by repeat (first | exact Below.refl _ _ | apply Below.drew))
             rintro e w5 ⟨rfl, hb5⟩))
    all_goals
      have hb35 : Below w3.heap.size w3 w5 := Below.trans (by repeat (first | exact Below.refl _ _ | apply Below.drew)) (hb4.trans (hb5.mono hb4.size))
      have hbw5 := hbw3.trans (hb35.mono hbw3.size)
      have gK5 := gK3.below hb35
      have gM5 := gM3.below hb35
      have hT5 := tabs_below hT3 hb35
      have rP5 := rP.below hb35
      clear hb4 rY hb5 hb35 hbw3 gK3 gM3 hT3 rP hpz hpy hpx hJ hj1 hj2 hJ0 hJ1 hjw hmw HT hTl hT2 rT
      go_wp2_with fail
      refine (kinds_r _ _ _ ks K rfl HKE.out _ gK5 hkn).mono ?_
      rintro e w6 ⟨⟨AZ, cZ, rfl, rZ⟩, hb6⟩
      go_wp2_with fail
      refine (copy3_any AP cP P w6 (rP5.below hb6) (by omega)).mono ?_
      rintro e w7 ⟨AC, cC, rfl, oC, hb7⟩
      go_wp2_with fail
      refine (cut3_any AM cM lm 20 (by omega) w7 ((gM5.below hb6).below hb7) (by omega) hcM).mono ?_
      rintro e w8 ⟨AD, cD, rfl, oD, hb8⟩
      have hD : (lm.take (20 : Int).toNat).length ≤ 20 := by simp; omega
      generalize lm.take (20 : Int).toNat = D at *
      have hs6 := hb6.size
      have hs7 := hb7.size
      have hs8 := hb8.size
      go_wp2_with (first | (at_builtin; refine wpList_app _ rfl (.tmp 49) (.tmp 50) _ rfl w7.heap.size 5 i0 _ 1 1 Tryd.underlying22 hi0 hz0 hz1 hz2 rfl (by omega) _ _ _ _ rfl (World.ownsRow.alloc oD _) _ 1 1 (bv [0]) rfl rfl (rds_new _ _ _) (bv_one _) (by simp only [maxLen]; omega) (by omega) (by simp; omega) ?_; intro A9 c9 w9 o9 hb9 hg9 _; have r9 := Rds.own o9; rw [← bv_append] at r9; have hb79 := hb8.trans (((Below.refl _ _).alloc hs8 _).trans hb9); have o79 := own_below oC hb79; have hs9 := hb79.size) | (at_builtin; refine wpList_app _ rfl (.tmp 47) (.tmp 51) _ rfl w6.heap.size 5 i0 _ 1 1 Tryd.underlying22 hi0 hz0 hz1 hz2 rfl (by omega) _ _ _ _ rfl o79 _ (D.length + 1) c9 (bv (D ++ [0])) rfl (by simp [bv_length]) r9 (bv_one _) (by simp only [maxLen]; omega) (by omega) (by omega) ?_; intro A10 c10 w10 o10 hb10 hg10 _))
      have r10 := Rds.own o10
      rw [← bv_append] at r10
      have hc10 := own_le o10
      have hM := Lib.hid (HMORE.out (D ++ [0]) (by simp))
      have hb610 : Below w6.heap.size w6 w10 := hb7.trans ((hb79.mono hs7).trans hb10)
      have hT10 := tabs_below (tabs_below hT5 hb6) hb610
      refine (rowRead_none _ _ _ K _ _ _ (P ++ (D ++ [0])) HKO.out hM.out rfl (by simp) _ (rZ.below hb610) (by omega) r10 (by omega) (by simp; omega) hT10).mono ?_
      rintro e w11 ⟨rfl, hb11⟩
      have hbE := hbw5.trans ((hb6.trans (hb610.mono hs6)).mono hbw5.size)
      have hbE2 := hbE.trans (hb11.mono hbE.size)
      go_wp2
      go_ret
      exact ⟨rfl, hbE2⟩
  · have Z1 := Lib.hid z
    have e1 : (Lp.rfits K L != 0) = true := by simpa using z
    clear z
    go_region_held3 (fun _ => True) (trivial)
      (first
        | (go_at_call 29; refine (kinds_r _ _ _ ks K rfl HKE.out _ ?_ hkn).mono ?_
           · exact gK.below (by repeat (first | exact Below.refl _ _ | apply Below.drew))
           rintro e w2 ⟨⟨AX, cX, rfl, rX⟩, hb2⟩)
        | (go_at_call 28; refine (rowBytes_wrong _ _ _ K _ _ _ L _ rfl n1.out _ ?_ (by omega) ?_ (by omega) K1.out ?_ rfl Z1.out).mono ?_
           · exact rX.below (by repeat (first | exact Below.refl _ _ | apply Below.drew))
           · exact (g1.below (Below.trans (by repeat (first | exact Below.refl _ _ | apply Below.drew)) hb2)).below (by repeat (first | exact Below.refl _ _ | apply Below.drew))
           · exact tabs_below (tabs_below hT1 (Below.trans (by repeat (first | exact Below.refl _ _ | apply Below.drew)) hb2)) (by repeat (first | exact Below.refl _ _ | apply Below.drew))
           rintro e w3 ⟨rfl, hb3⟩))
    all_goals
      have hb13 : Below w1.heap.size w1 w3 := Below.trans (by repeat (first | exact Below.refl _ _ | apply Below.drew)) (hb2.trans (hb3.mono hb2.size))
      have hbw3 := hb1.trans (hb13.mono hb1.size)
      generalize Lp.rfits K L = E1 at *
      clear hb2 rX hb3 hb13 hT1 gK gM g1 hb1 K1 n1 b0 b1 Z1
      go_wp2
      go_ret
      exact ⟨rfl, hbw3⟩
end Go.Proofs.YthdnphnipfpdkaaDoor
