/-
  The walk of LexNumbers: it returns true, of any number, noughts, and text. Conditions: unicode/utf8's tables as laid.
-/
import Derived.Test.YtmdmcfobdbccmaaDoorLexQ
import Derived.Test.YtmdmcfobdbccmaaDoorLexJ
import Derived.Test.YtmdmcfobdbccmaaDoorWalkLexParts
import Derived.Test.YtmdmcfobdbccmaaDoorPlainNumbers
namespace Go.Proofs.YtmdmcfobdbccmaaDoor
open Go.RowKit

theorem rsplit_is (s : ByteArray) (L : List Lp.Tok) (E : Int) (h : Lp.toks s.data.toList = (L, E)) (w : World) (hs : s.size ≤ 9223372036854775807) :
    Calls Tryd.prog 11 #[.string s] w fun e w' => Below w.heap.size w w' ∧ ∃ A c, e = .returned (.tuple #[.slice A L.length c, .int .i64 E]) ∧ L.length ≤ c ∧ w'.ownsRow w.heap.size 36 3 (.slice A L.length c) L.length (Lp.tkv L) := by
  have := rsplit_any s w hs
  unfold SplPost at this
  rw [h] at this
  exact this
def nought (z : Nat) : List UInt8 := List.replicate z 48
theorem nought_len (z : Nat) : (nought z).length = z := List.length_replicate
theorem nought_more (z : Nat) : nought z ++ [48] = nought (z + 1) := by unfold nought; rw [← List.replicate_succ']
theorem str_48 (T : List UInt8) : (⟨T.toArray⟩ : ByteArray) ++ (⟨#[48]⟩ : ByteArray) = ⟨(T ++ [48]).toArray⟩ := str_cat _ [48]
set_option maxRecDepth 100000 in
set_option maxHeartbeats 8000000 in
theorem lexNumbers_pos (n z0 : Int) (s : ByteArray) (m0 : Int) (hm : m0 = n ∨ (m0 < 0 ∧ n = -(m0 + 1))) (w : World) (h0 : 0 ≤ n) (hin : Lp.inR n) (hz0 : 0 ≤ z0) (hz1 : z0 ≤ 255) (hs : s.size ≤ 9223372036854775807) (hT : Tabs w) :
    Calls Tryd.prog 7 #[.int .i64 m0, .int .u8 z0, .string s] w fun e w' => e = .returned (.bool true) ∧ Below w.heap.size w w' := by
  obtain ⟨ni1, ni2⟩ : -9223372036854775808 ≤ n ∧ n ≤ 9223372036854775807 := by unfold Lp.inR at hin; omega
  have HIN := Lib.hid hin
  clear hin
  go_enter Tryd.func7, Tryd.ntmps7
  go_wp2_with fail
  refine (awake14_any _ hT).mono ?_
  rintro e w1 ⟨rfl, hb1⟩
  have hT1 := tabs_below hT hb1
  clear hT
  obtain ⟨Z, hZ⟩ : ∃ Z : Nat, z0 % 30 = (Z : Int) := ⟨(z0 % 30).toNat, by omega⟩
  have hZ30 : Z < 30 := by omega
  rcases hm with rfl | ⟨hm1, hm2⟩
  · go_wp2
    rw [hZ]
    go_loop [7, 23] (fun s7 s23 => ∃ (k : Nat) (T : List UInt8), k ≤ Z ∧ s23 = .int .u8 k ∧ s7 = .string ⟨T.toArray⟩ ∧ Hid (nought k = T) ∧ T.length ≤ k) (fun _ s23 => Z - (intOf s23).toNat)
    case atStart => exact ⟨0, [], Nat.zero_le _, rfl, rfl, rfl, by simp⟩
    case round =>
      obtain ⟨k, T, hk, rfl, rfl, HT, hTl⟩ := hrel
      have hk0 : (0 : Int) ≤ (k : Int) := by omega
      by_cases hlt : k < Z
      · have hlt' : (k : Int) < (Z : Int) := by omega
        have hs48 := str_48 T
        have HT2 : Hid (nought (k + 1) = T ++ [48]) := by show _ = _; rw [← nought_more, HT.out]
        go_wp2
        go_round
        case rel => exact ⟨k + 1, T ++ [48], by omega, by go_num, by simp, HT2, by simp; omega⟩
        case measure => simp [intOf]; omega
      · obtain rfl : k = Z := by omega
        have hge : ¬ (k : Int) < (k : Int) := by omega
        have hin := HIN.out
        obtain ⟨D, hD⟩ : ∃ D, Lib.itoa m0 = D := ⟨_, rfl⟩
        have hDl := Lp.itoa_len hin
        have htk := Lp.number_toks k h0 hin (by omega)
        have htk' : List.replicate k (48 : UInt8) = T := HT.out
        rw [htk', hD] at htk
        rw [hD] at hDl
        have hJ := fun A c W (hr : RdsT W A [⟨2, [], m0⟩]) => rjoin_any A 1 c [⟨2, [], m0⟩] rfl W hr (by simp) (fun t ht => by rw [List.mem_singleton] at ht; rw [ht]; exact Lp.number_fit hin)
        rw [show Lp.joinL [⟨2, [], m0⟩] = D by rw [← hD]; simp [Lp.joinL, Lp.jt]] at hJ
        have HJ := Lib.hid hJ
        have hcat := str_cat T D
        have HS := Lib.hid (fun W h => lsplit_is (⟨(T ++ D).toArray⟩ : ByteArray) [⟨2, [], m0⟩] 0 (by simpa using htk) W h (by show (T ++ D).toArray.size ≤ _; simp; omega))
        have hTDl : (T ++ D).length ≤ 51 := by rw [List.length_append]; omega
        have hx1 := rds_new w1 (Lp.tkv [(⟨2, [], m0⟩ : Lp.Tok)]) 36
        have k1 := hb1.alloc hb1.size (.cells (Lp.tkv [(⟨2, [], m0⟩ : Lp.Tok)]).toArray 36)
        have hT2 := tabs_alloc hT1 (.cells (Lp.tkv [(⟨2, [], m0⟩ : Lp.Tok)]).toArray 36)
        have hz1 := k1.size
        clear hin hD htk htk' hJ HT
        go_wp2_with fail
        refine (HJ.out _ _ _ hx1).mono ?_
        rintro e w2 ⟨rfl, hb2⟩
        have k2 := k1.trans (hb2.mono hz1)
        have hT3 := tabs_below hT2 hb2
        clear hx1 k1 hb2 hT2 hz1
        go_wp2_with fail
        refine (HS.out _ hT3).mono ?_
        rintro e w3 ⟨hb3, A, c, rfl, hc, hown⟩
        have k3 := k2.trans (hb3.mono k2.size)
        have hT4 := tabs_below hT3 hb3
        obtain ⟨b, off, rfl, q0, q1, q2⟩ := RdsT.cells (Rds.own hown : RdsT w3 A [⟨2, [], m0⟩]) (i := 0) (by simp)
        simp only [List.getElem_cons_zero, Nat.zero_mul, Nat.add_zero] at q0 q1 q2
        clear hb3 hown hT3 k2 hc
        have hn0 : (m0 == m0) = true := beq_self_eq_true _
        have hn1 : (m0 != m0) = false := by simp
        go_wp2_with fail
        have hzm : (s.extract 0 (min (s.size : Int) 30).toNat).size ≤ 30 := by simp; omega
        generalize s.extract 0 (min (s.size : Int) 30).toNat = M at *
        have hTD : (⟨(T ++ D).toArray⟩ : ByteArray).size ≤ 51 := by show (T ++ D).toArray.size ≤ _; simpa using hTDl
        have hXz : ((⟨(T ++ D).toArray⟩ : ByteArray) ++ M).size ≤ 100 := by rw [ByteArray.size_append]; omega
        generalize hX : (⟨(T ++ D).toArray⟩ : ByteArray) ++ M = X at *
        obtain ⟨L, E, hL⟩ : ∃ L E, Lp.toks X.data.toList = (L, E) := pair_of _
        have hlL := toks_few X.data.toList
        rw [hL] at hlL
        simp only at hlL
        have HLX := Lib.hid (fun W h => lsplit_is X L E hL W h (by omega))
        have HRX := Lib.hid (fun W => rsplit_is X L E hL W (by omega))
        clear hL q0 q1 q2 hTD hXz HS HJ
        refine (HLX.out _ hT4).mono ?_
        rintro e w4 ⟨hb4, A4, c4, rfl, hc4, hown4⟩
        have k4 := k3.trans (hb4.mono k3.size)
        have r4 : RdsT w4 A4 L := Rds.own hown4
        clear k3 hb4 hown4 hT4
        go_wp2_with fail
        refine (HRX.out _).mono ?_
        rintro e w5 ⟨hb5, A5, c5, rfl, hc5, hown5⟩
        have k5 := k4.trans (hb5.mono k4.size)
        have r5 : RdsT w5 A5 L := Rds.own hown5
        have r4' := Rds.below r4 hb5
        clear k4 hb5 hown5 r4
        go_wp2_with fail
        refine (back_any A4 _ c4 L rfl _ r4' (by omega)).mono ?_
        rintro e w6 ⟨⟨A6, c6, rfl, hown6⟩, hb6⟩
        have r6 : RdsT w6 A6 L := Rds.own hown6
        have r5' := Rds.below r5 hb6
        have k6 := k5.trans (hb6.mono k5.size)
        clear hown6 hb6 k5 r5 r4'
        go_wp2_with fail
        refine (tsame_any A6 A5 _ _ c6 c5 L rfl rfl _ r6 r5' (by omega)).mono ?_
        rintro e w7 ⟨rfl, hb7⟩
        go_wp2
        go_ret
        exact ⟨by simp, k6.trans (hb7.mono k6.size)⟩
  · have hm3 : -9223372036854775808 ≤ m0 := by omega
    have HM := Lib.hid hm2
    clear hm2
    go_wp2
    rw [← HM.out]
    clear hm3
    have hm4 : m0 < 0 := hm1
    rw [hZ]
    go_loop [7, 23] (fun s7 s23 => ∃ (k : Nat) (T : List UInt8), k ≤ Z ∧ s23 = .int .u8 k ∧ s7 = .string ⟨T.toArray⟩ ∧ Hid (nought k = T) ∧ T.length ≤ k) (fun _ s23 => Z - (intOf s23).toNat)
    case atStart => exact ⟨0, [], Nat.zero_le _, rfl, rfl, rfl, by simp⟩
    case round =>
      obtain ⟨k, T, hk, rfl, rfl, HT, hTl⟩ := hrel
      have hk0 : (0 : Int) ≤ (k : Int) := by omega
      by_cases hlt : k < Z
      · have hlt' : (k : Int) < (Z : Int) := by omega
        have hs48 := str_48 T
        have HT2 : Hid (nought (k + 1) = T ++ [48]) := by show _ = _; rw [← nought_more, HT.out]
        go_wp2
        go_round
        case rel => exact ⟨k + 1, T ++ [48], by omega, by go_num, by simp, HT2, by simp; omega⟩
        case measure => simp [intOf]; omega
      · obtain rfl : k = Z := by omega
        have hge : ¬ (k : Int) < (k : Int) := by omega
        have hin := HIN.out
        obtain ⟨D, hD⟩ : ∃ D, Lib.itoa n = D := ⟨_, rfl⟩
        have hDl := Lp.itoa_len hin
        have htk := Lp.number_toks k h0 hin (by omega)
        have htk' : List.replicate k (48 : UInt8) = T := HT.out
        rw [htk', hD] at htk
        rw [hD] at hDl
        have hJ := fun A c W (hr : RdsT W A [⟨2, [], n⟩]) => rjoin_any A 1 c [⟨2, [], n⟩] rfl W hr (by simp) (fun t ht => by rw [List.mem_singleton] at ht; rw [ht]; exact Lp.number_fit hin)
        rw [show Lp.joinL [⟨2, [], n⟩] = D by rw [← hD]; simp [Lp.joinL, Lp.jt]] at hJ
        have HJ := Lib.hid hJ
        have hcat := str_cat T D
        have HS := Lib.hid (fun W h => lsplit_is (⟨(T ++ D).toArray⟩ : ByteArray) [⟨2, [], n⟩] 0 (by simpa using htk) W h (by show (T ++ D).toArray.size ≤ _; simp; omega))
        have hTDl : (T ++ D).length ≤ 51 := by rw [List.length_append]; omega
        have hx1 := rds_new w1 (Lp.tkv [(⟨2, [], n⟩ : Lp.Tok)]) 36
        have k1 := hb1.alloc hb1.size (.cells (Lp.tkv [(⟨2, [], n⟩ : Lp.Tok)]).toArray 36)
        have hT2 := tabs_alloc hT1 (.cells (Lp.tkv [(⟨2, [], n⟩ : Lp.Tok)]).toArray 36)
        have hz1 := k1.size
        clear hin hD htk htk' hJ HT
        go_wp2_with fail
        refine (HJ.out _ _ _ hx1).mono ?_
        rintro e w2 ⟨rfl, hb2⟩
        have k2 := k1.trans (hb2.mono hz1)
        have hT3 := tabs_below hT2 hb2
        clear hx1 k1 hb2 hT2 hz1
        go_wp2_with fail
        refine (HS.out _ hT3).mono ?_
        rintro e w3 ⟨hb3, A, c, rfl, hc, hown⟩
        have k3 := k2.trans (hb3.mono k2.size)
        have hT4 := tabs_below hT3 hb3
        obtain ⟨b, off, rfl, q0, q1, q2⟩ := RdsT.cells (Rds.own hown : RdsT w3 A [⟨2, [], n⟩]) (i := 0) (by simp)
        simp only [List.getElem_cons_zero, Nat.zero_mul, Nat.add_zero] at q0 q1 q2
        clear hb3 hown hT3 k2 hc
        have hn0 : (n == n) = true := beq_self_eq_true _
        have hn1 : (n != n) = false := by simp
        go_wp2_with fail
        have hzm : (s.extract 0 (min (s.size : Int) 30).toNat).size ≤ 30 := by simp; omega
        generalize s.extract 0 (min (s.size : Int) 30).toNat = M at *
        have hTD : (⟨(T ++ D).toArray⟩ : ByteArray).size ≤ 51 := by show (T ++ D).toArray.size ≤ _; simpa using hTDl
        have hXz : ((⟨(T ++ D).toArray⟩ : ByteArray) ++ M).size ≤ 100 := by rw [ByteArray.size_append]; omega
        generalize hX : (⟨(T ++ D).toArray⟩ : ByteArray) ++ M = X at *
        obtain ⟨L, E, hL⟩ : ∃ L E, Lp.toks X.data.toList = (L, E) := pair_of _
        have hlL := toks_few X.data.toList
        rw [hL] at hlL
        simp only at hlL
        have HLX := Lib.hid (fun W h => lsplit_is X L E hL W h (by omega))
        have HRX := Lib.hid (fun W => rsplit_is X L E hL W (by omega))
        clear hL q0 q1 q2 hTD hXz HS HJ
        refine (HLX.out _ hT4).mono ?_
        rintro e w4 ⟨hb4, A4, c4, rfl, hc4, hown4⟩
        have k4 := k3.trans (hb4.mono k3.size)
        have r4 : RdsT w4 A4 L := Rds.own hown4
        clear k3 hb4 hown4 hT4
        go_wp2_with fail
        refine (HRX.out _).mono ?_
        rintro e w5 ⟨hb5, A5, c5, rfl, hc5, hown5⟩
        have k5 := k4.trans (hb5.mono k4.size)
        have r5 : RdsT w5 A5 L := Rds.own hown5
        have r4' := Rds.below r4 hb5
        clear k4 hb5 hown5 r4
        go_wp2_with fail
        refine (back_any A4 _ c4 L rfl _ r4' (by omega)).mono ?_
        rintro e w6 ⟨⟨A6, c6, rfl, hown6⟩, hb6⟩
        have r6 : RdsT w6 A6 L := Rds.own hown6
        have r5' := Rds.below r5 hb6
        have k6 := k5.trans (hb6.mono k5.size)
        clear hown6 hb6 k5 r5 r4'
        go_wp2_with fail
        refine (tsame_any A6 A5 _ _ c6 c5 L rfl rfl _ r6 r5' (by omega)).mono ?_
        rintro e w7 ⟨rfl, hb7⟩
        go_wp2
        go_ret
        exact ⟨by simp, k6.trans (hb7.mono k6.size)⟩
theorem lexNumbers_walk (m0 z0 : Int) (s : ByteArray) (w : World) (hin : Lp.inR m0) (hz0 : 0 ≤ z0) (hz1 : z0 ≤ 255) (hs : s.size ≤ 9223372036854775807) (hT : Tabs w) :
    Calls Tryd.prog 7 #[.int .i64 m0, .int .u8 z0, .string s] w fun e w' => e = .returned (.bool true) ∧ Below w.heap.size w w' := by
  by_cases h : m0 < 0
  · exact lexNumbers_pos (-(m0 + 1)) z0 s m0 (.inr ⟨h, rfl⟩) w (by omega) (by unfold Lp.inR at *; omega) hz0 hz1 hs hT
  · exact lexNumbers_pos m0 z0 s m0 (.inl rfl) w (by omega) hin hz0 hz1 hs hT
end Go.Proofs.YtmdmcfobdbccmaaDoor
