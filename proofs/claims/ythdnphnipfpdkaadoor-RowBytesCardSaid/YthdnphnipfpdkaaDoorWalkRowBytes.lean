/-
  The walk of RowBytes: it returns true, of any kinds and any row. Condition: unicode/utf8's tables as laid.
-/
import Derived.Test.YthdnphnipfpdkaaDoorRowRead
import Derived.Test.YthdnphnipfpdkaaDoorRef4Bytes
import Derived.Test.YthdnphnipfpdkaaDoorAwake4
import Derived.Test.YthdnphnipfpdkaaDoorWalkKeyJoins
namespace Go.Proofs.YthdnphnipfpdkaaDoor
open Go.RowKit

def Lp.rbytes (ks : List UInt8) (l : List Lp.V) : List UInt8 := if Lp.rfits ks l = 0 then Lp.rowB l else []
theorem rowPost_uni {w w' : World} {ks : List UInt8} {l : List Lp.V} {P : List UInt8} {E : Int} {e : Ending} (hP : Lp.rbytes ks l = P) (hE : Lp.rfits ks l = E) (h : RowBytesPost w ks l e w') :
    (∃ A' c', e = .returned (.tuple #[.slice A' P.length c', .int .i64 E]) ∧ Rds w' A' (bv P) ∧ P.length ≤ c') ∧ Below w.heap.size w w' := by
  subst hP hE
  obtain ⟨hb, ⟨h0, A', c', he, ho⟩ | ⟨h0, he⟩⟩ := h
  · refine ⟨⟨A', c', ?_, ?_, ?_⟩, hb⟩
    · rw [he, Lp.rbytes, if_pos h0, h0]
    · rw [Lp.rbytes, if_pos h0]; exact ho.rds
    · rw [Lp.rbytes, if_pos h0]; exact own_le ho
  · refine ⟨⟨none, 0, ?_, ?_, ?_⟩, hb⟩
    · rw [he, Lp.rbytes, if_neg h0]; rfl
    · rw [Lp.rbytes, if_neg h0]; exact Rds.nil_
    · rw [Lp.rbytes, if_neg h0]; exact Nat.le_refl _
theorem rowBytes_uni (AK : Option Addr) (n cK : Nat) (ks : List UInt8) (AL : Option Addr) (m cL : Nat) (l : List Lp.V) (P : List UInt8) (E : Int) (hP : Lp.rbytes ks l = P) (hE : Lp.rfits ks l = E) (hnk : n = ks.length) (hml : m = l.length) (w : World) (hK : Rds w AK (bv ks)) (hkn : ks.length ≤ 70368744177664)
    (hL : RdsV w AL l) (hln : l.length ≤ 1073741824) (hs : ∀ v ∈ l, v.ok) (hT : Tabs w) :
    Calls Tryd.prog 28 #[.slice AK n cK, .slice AL m cL] w fun e w' => (∃ A' c', e = .returned (.tuple #[.slice A' P.length c', .int .i64 E]) ∧ Rds w' A' (bv P) ∧ P.length ≤ c') ∧ Below w.heap.size w w' :=
  (rowBytes_any AK n cK ks AL m cL l hnk hml w hK hkn hL hln hs hT).mono fun _ _ h => rowPost_uni hP hE h
theorem bytes4_uni (AK : Option Addr) (n cK : Nat) (ks : List UInt8) (AL : Option Addr) (m cL : Nat) (l : List Lp.V) (P : List UInt8) (E : Int) (hP : Lp.rbytes ks l = P) (hE : Lp.rfits ks l = E) (hnk : n = ks.length) (hml : m = l.length) (w : World) (hK : Rds w AK (bv ks)) (hkn : ks.length ≤ 70368744177664)
    (hL : RdsV w AL l) (hln : l.length ≤ 1073741824) (hs : ∀ v ∈ l, v.ok) :
    Calls Tryd.prog 35 #[.slice AK n cK, .slice AL m cL] w fun e w' => (∃ A' c', e = .returned (.tuple #[.slice A' P.length c', .int .i64 E]) ∧ Rds w' A' (bv P) ∧ P.length ≤ c') ∧ Below w.heap.size w w' :=
  (bytes4_any AK n cK ks AL m cL l hnk hml w hK hkn hL hln hs).mono fun _ _ h => rowPost_uni hP hE h
theorem fits_uni (AK : Option Addr) (n cK : Nat) (ks : List UInt8) (AL : Option Addr) (m cL : Nat) (l : List Lp.V) (E : Int) (hE : Lp.rfits ks l = E) (hnk : n = ks.length) (hml : m = l.length) (w : World) (hK : Rds w AK (bv ks)) (hkn : ks.length ≤ 70368744177664)
    (hL : RdsV w AL l) (hln : l.length ≤ 1073741824) (hs : ∀ v ∈ l, v.ok) (hT : Tabs w) :
    Calls Tryd.prog 31 #[.slice AK n cK, .slice AL m cL] w fun e w' => e = .returned (.int .i64 E) ∧ Below w.heap.size w w' := by
  subst hE; exact fits_any AK n cK ks AL m cL l hnk hml w hK hkn hL hln hs hT
def AnyErr (w : World) (e : Ending) (w' : World) : Prop := ∃ x : Int, e = .returned (.tuple #[.slice none 0 0, .int .i64 x]) ∧ Below w.heap.size w w'
theorem rowRead_nil (AK : Option Addr) (nK cK : Nat) (ks : List UInt8) (AP : Option Addr) (nP cP : Nat) (l : List UInt8) (hl0 : l = []) (hnk : nK = ks.length) (hnp : nP = l.length) (w : World) (hK : Rds w AK (bv ks)) (hkn : ks.length ≤ 70368744177664) (hcP : nP ≤ cP) (hT : Tabs w) :
    Calls Tryd.prog 36 #[.slice AK nK cK, .slice AP nP cP] w (AnyErr w) := by
  subst hl0
  refine (rowRead_any AK nK cK ks AP nP cP [] hnk hnp w hK hkn Rds.nil_ hcP (by simp) hT).mono ?_
  rintro e w' ⟨hb, ⟨_, he⟩ | ⟨_, ⟨L, A, c, h1, _⟩ | ⟨_, he⟩⟩⟩
  · exact ⟨1, he, hb⟩
  · cases h1
  · exact ⟨3, he, hb⟩
theorem rowRead_some (AK : Option Addr) (nK cK : Nat) (ks : List UInt8) (AP : Option Addr) (nP cP : Nat) (l : List UInt8) (L : List Lp.V) (hko : Lp.kindsOk ks = true) (hrr : Lp.rread ks l = some L) (hnk : nK = ks.length) (hnp : nP = l.length) (w : World) (hK : Rds w AK (bv ks)) (hkn : ks.length ≤ 70368744177664)
    (hP : Rds w AP (bv l)) (hcP : nP ≤ cP) (hl : l.length ≤ 1000000) (hT : Tabs w) :
    Calls Tryd.prog 36 #[.slice AK nK cK, .slice AP nP cP] w fun e w' => (∃ A c, e = .returned (.tuple #[.slice A L.length c, .int .i64 0]) ∧ RdsV w' A L) ∧ Below w.heap.size w w' := by
  refine (rowRead_any AK nK cK ks AP nP cP l hnk hnp w hK hkn hP hcP hl hT).mono ?_
  rintro e w' ⟨hb, ⟨hf, _⟩ | ⟨_, ⟨L', A, c, h1, he, hr, _⟩ | ⟨h1, _⟩⟩⟩
  · rw [hko] at hf; cases hf
  · rw [hrr] at h1; injection h1 with h1; subst h1; exact ⟨⟨A, c, he, hr⟩, hb⟩
  · rw [hrr] at h1; cases h1

set_option maxRecDepth 100000 in
set_option maxHeartbeats 4000000 in
theorem rowBytes_walk (AK : Option Addr) (cK : Nat) (ks : List UInt8) (A1 : Option Addr) (c1 : Nat) (l1 : List Lp.V) (w : World) (hK : Rds w AK (bv ks)) (hkn : ks.length ≤ 9223372036854775807)
    (h1 : RdsV w A1 l1) (hc1 : l1.length ≤ c1) (k1 : ∀ u ∈ l1, u.ok) (hT : Tabs w) :
    Calls Tryd.prog 12 #[.slice AK ks.length cK, .slice A1 l1.length c1] w fun e w' => e = .returned (.bool true) ∧ Below w.heap.size w w' := by
  obtain ⟨iV, hiV, hzV0, hzV1, hzV2⟩ := info_parts valInfo
  go_enter Tryd.func12, Tryd.ntmps12
  go_wp2_with fail
  refine (awake4_any _ hT).mono ?_
  rintro e w1 ⟨rfl, hb1⟩
  have g1 := (h1.take (min (l1.length : Int) 12).toNat).below hb1
  have hT1 := tabs_below hT hb1
  have gK1 := hK.below hb1
  have K1 := Lib.hid (fun u (hu : u ∈ l1.take (min (l1.length : Int) 12).toNat) => k1 u (List.mem_of_mem_take hu))
  have n1 : Hid ((min (l1.length : Int) 12).toNat = (l1.take (min (l1.length : Int) 12).toNat).length) := by show _ = _; rw [List.length_take]; omega
  have m1 : (min (l1.length : Int) 12).toNat ≤ 12 := by omega
  have b1 : (min (l1.length : Int) 12).toNat ≤ c1 := by omega
  have hx12 : (ks.take 12).length ≤ 12 := by simp; omega
  obtain ⟨K, hKe⟩ : ∃ K, ks.take 12 = K := ⟨_, rfl⟩
  rw [hKe] at hx12
  have HKE := Lib.hid hKe
  clear hKe h1 hT k1 hK
  have hown0 := World.ownsRow_made (e := 36) (size := 4) w1 #[] 0 (Nat.le_refl _) (by simp [maxLen]) rfl
  have hr0 := g1.below ((Below.refl _ _).alloc (Nat.le_refl _) (.cells #[] 36))
  have hsz1 := hb1.size
  go_wp2_with (first | (at_builtin; refine wpList_app _ rfl (.tmp 15) (.tmp 20) _ rfl w1.heap.size 36 iV _ 4 40 Tryd.underlying28 hiV hzV0 hzV1 hzV2 rfl (by omega) _ 0 0 [] rfl hown0 A1 (min (l1.length : Int) 12).toNat c1 (Lp.vv (l1.take (min (l1.length : Int) 12).toNat)) rfl (by rw [Lp.vv_length, ← n1.out]) hr0 (vv_one _) (by simp only [maxLen]; omega) (by omega) (by simp) ?_; intro A2 c2 w2 hown2 hb2 hg2 _; simp only [Nat.zero_add, List.nil_append] at hown2; have hown02 := World.ownsRow_made (e := 36) (size := 4) w2 #[] 0 (Nat.le_refl _) (by simp [maxLen]) rfl; have hr02 := Rds.below (Rds.own hown2) ((Below.refl _ _).alloc (Nat.le_refl _) (.cells #[] 36))) | (at_builtin; refine wpList_app _ rfl (.tmp 22) (.tmp 23) _ rfl w2.heap.size 36 iV _ 4 40 Tryd.underlying28 hiV hzV0 hzV1 hzV2 rfl (by omega) _ 0 0 [] rfl hown02 A2 (min (l1.length : Int) 12).toNat c2 (Lp.vv (l1.take (min (l1.length : Int) 12).toNat)) rfl (by rw [Lp.vv_length, ← n1.out]) hr02 (vv_one _) (by simp only [maxLen]; omega) (by omega) (by simp) ?_; intro A3 c3 w3 hown3 hb3 hg3 _))
  simp only [Nat.zero_add, List.nil_append] at hown3
  have hb12 := ((Below.refl w1.heap.size w1).alloc (Nat.le_refl _) (.cells #[] 36)).trans hb2
  have hb23 := ((Below.refl w2.heap.size w2).alloc (Nat.le_refl _) (.cells #[] 36)).trans hb3
  have hb13 := hb12.trans (hb23.mono hb12.size)
  have hbw3 := hb1.trans (hb13.mono hsz1)
  have hT3 := tabs_below hT1 hb13
  have gK3 := gK1.below hb13
  have rM : RdsV w3 A3 (l1.take (min (l1.length : Int) 12).toNat) := Rds.own hown3
  have rL : RdsV w3 A2 (l1.take (min (l1.length : Int) 12).toNat) := (Rds.own hown2).below hb23
  clear g1 hT1 hown0 hr0 hown2 hb2 hg2 hb1 hsz1 gK1 hb12 hb23 hb13 hown3 hb3 hg3 hown02 hr02
  generalize l1.take (min (l1.length : Int) 12).toNat = L at *
  generalize (min (l1.length : Int) 12).toNat = M at *
  have e1 : L.length ≤ 12 := by rw [← n1.out]; exact m1
  obtain rfl : M = L.length := n1.out
  clear n1
  obtain ⟨P, hP⟩ : ∃ P, Lp.rbytes K L = P := ⟨_, rfl⟩
  obtain ⟨E, hE⟩ : ∃ E, Lp.rfits K L = E := ⟨_, rfl⟩
  have HP := Lib.hid hP
  have HE := Lib.hid hE
  clear hP hE
  have hs3 := hbw3.size
  refine (kinds_r _ _ _ ks K rfl HKE.out _ gK3 hkn).mono ?_
  rintro e w4 ⟨⟨AX, cX, rfl, rX⟩, hb⟩
  go_wp2_with fail
  refine (rowBytes_uni _ _ _ K _ _ _ L P E HP.out HE.out rfl rfl _ rX (by omega) (rM.below hb) (by omega) K1.out (tabs_below hT3 hb)).mono ?_
  rintro e w5 ⟨⟨AP, cP, rfl, rP, hcP⟩, hb5⟩
  replace hb := hb.trans (hb5.mono hb.size)
  clear hb5 rX
  go_wp2_with fail
  refine (kinds_r _ _ _ ks K rfl HKE.out _ (gK3.below hb) hkn).mono ?_
  rintro e w6 ⟨⟨AX, cX, rfl, rX⟩, hb6⟩
  have rP6 := rP.below hb6
  replace hb := hb.trans (hb6.mono hb.size)
  clear rP hb6
  go_wp2_with fail
  refine (bytes4_uni _ _ _ K _ _ _ L P E HP.out HE.out rfl rfl _ rX (by omega) (rL.below hb) (by omega) K1.out).mono ?_
  rintro e w7 ⟨⟨AQ, cQ, rfl, rQ, hcQ⟩, hb7⟩
  have rP7 := rP6.below hb7
  replace hb := hb.trans (hb7.mono hb.size)
  clear rP6 hb7 rX
  go_wp2_with fail
  refine (same3_any _ _ _ _ P P _ _ rfl rfl _ rP7 rQ).mono ?_
  rintro e w' ⟨rfl, rfl⟩
  rw [beq_self_eq_true]
  have hEE : (E != E) = false := by simp
  clear rQ hcQ
  go_wp2_with fail
  refine (kinds_r _ _ _ ks K rfl HKE.out _ (gK3.below hb) hkn).mono ?_
  rintro e w8 ⟨⟨AX, cX, rfl, rX⟩, hb8⟩
  have rP8 := rP7.below hb8
  replace hb := hb.trans (hb8.mono hb.size)
  clear rP7 hb8
  go_wp2_with fail
  refine (fits_uni _ _ _ K _ _ _ L E HE.out rfl rfl _ rX (by omega) (rL.below hb) (by omega) K1.out (tabs_below hT3 hb)).mono ?_
  rintro e w9 ⟨rfl, hb9⟩
  have rP9 := rP8.below hb9
  replace hb := hb.trans (hb9.mono hb.size)
  clear rP8 hb9 rX
  go_wp2_with fail
  have hb99 : Below w9.heap.size w9 w9 := Below.refl _ _
  go_loopg [10, 58] (L.length + 1) (fun gk _ s58 wr => ∃ (i : Nat), i ≤ L.length ∧ gk = L.length + 1 - i ∧ s58 = .int .i64 i ∧ Below w9.heap.size w9 wr)
  case atStart => exact ⟨0, by omega, rfl, rfl, hb99⟩
  case round =>
    obtain ⟨i, hle, rfl, rfl, hbr⟩ := hrel
    have hb3r := hb.trans (hbr.mono hb.size)
    by_cases hi : i < L.length
    · obtain ⟨b, off, rfl, q0, q1, q2, q3⟩ := RdsV.cells (rL.below hb3r) hi
      obtain ⟨b', off', rfl, p0, p1, p2, p3⟩ := RdsV.cells (rM.below hb3r) hi
      generalize L[i] = v at *
      obtain ⟨k, vi, s, vb⟩ := v
      simp only at q0 q1 q2 q3 p0 p1 p2 p3
      have hi0 : (0 : Int) ≤ (i : Int) := by omega
      have hi1 : (i : Int) < (L.length : Int) := by omega
      go_wp2_with fail
      go_quiet (fail)
      have hbr2 := hbr.trans ((drewN_below wr nq).mono hbr.size)
      clear hbr hb3r q0 q1 q2 q3 p0 p1 p2 p3
      go_wp2
      go_roundg (L.length + 1 - (i + 1))
      case measure => omega
      case rel => exact ⟨i + 1, by omega, rfl, by go_num, hbr2⟩
    · have hbE := hbw3.trans (hb3r.mono hs3)
      have rPr := rP9.below hbr
      have hTr := tabs_below hT3 hb3r
      have gKr := gK3.below hb3r
      have rLr := rL.below hb3r
      clear hbr hb3r hb hT3 gK3 rL rM rP9 hb99 hs3
      go_wp2_with fail
      refine (kinds_r _ _ _ ks K rfl HKE.out _ gKr hkn).mono ?_
      rintro e wa ⟨⟨AZ, cZ, rfl, rZ⟩, hba⟩
      have rPa := rPr.below hba
      have rLa := rLr.below hba
      have hTa := tabs_below hTr hba
      have hbA := hbE.trans (hba.mono hbE.size)
      clear hba rPr rLr hTr gKr hbE
      go_wp2_with fail
      by_cases hE0 : E = 0
      · subst hE0
        have hr := Lp.rfits_zero HE.out
        have HKO := Lib.hid hr.1
        have HRR := Lib.hid (Lp.rread_rowB HE.out K1.out)
        have HPR : Hid (Lp.rowB L = P) := by show _ = _; rw [← HP.out, Lp.rbytes, if_pos HE.out]
        have HRP : Hid (Lp.rread K P = some L) := by show _ = _; rw [← HPR.out]; exact HRR.out
        have hPl : P.length ≤ 200 := by rw [← HPR.out]; simp only [Lp.rowB, List.length_cons]; omega
        clear hr HRR
        refine (rowRead_some _ _ _ K _ _ _ P L HKO.out HRP.out rfl rfl _ rZ (by omega) rPa (by omega) (by omega) hTa).mono ?_
        rintro e wb ⟨⟨AR, cR, rfl, rR⟩, hbb⟩
        have rLb := rLa.below hbb
        have hbB := hbA.trans (hbb.mono hbA.size)
        clear hbb rLa rPa hTa rZ hbA
        go_wp2_with fail
        refine (sameRow_any _ _ _ _ _ _ L L true rfl rfl (Lp.sameRow_self L) _ rR rLb (by omega)).mono ?_
        rintro e wc ⟨rfl, hbc⟩
        go_wp2
        go_ret
        exact ⟨rfl, hbB.trans (hbc.mono hbB.size)⟩
      · have HPN : Hid (P = []) := by show _ = _; rw [← HP.out, Lp.rbytes, if_neg (by rw [HE.out]; exact hE0)]
        have hEn : (E != 0) = true := bne_iff_ne.2 hE0
        clear hE0
        refine (rowRead_nil _ _ _ K _ _ _ P HPN.out rfl rfl _ rZ (by omega) (by omega) hTa).mono ?_
        rintro e wb ⟨x, rfl, hbb⟩
        go_wp2
        go_ret
        exact ⟨rfl, hbA.trans (hbb.mono hbA.size)⟩
end Go.Proofs.YthdnphnipfpdkaaDoor
