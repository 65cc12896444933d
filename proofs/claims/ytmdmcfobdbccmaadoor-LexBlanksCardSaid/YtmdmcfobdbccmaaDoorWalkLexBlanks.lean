/-
  The walk of LexBlanks: it returns true, of any text and blanks. Conditions: unicode/utf8's tables as laid.
-/
import Derived.Test.YtmdmcfobdbccmaaDoorWalkLexNumbers
import Derived.Test.YtmdmcfobdbccmaaDoorPlainGood
namespace Go.Proofs.YtmdmcfobdbccmaaDoor
open Go.RowKit

theorem piece_blank (q : Nat) (h : q < 4) : ∃ b, Lp.blankB b = true ∧ (⟨#[32, 9, 10, 13]⟩ : ByteArray).extract q (q + 1) = ⟨([b] : List UInt8).toArray⟩ := by
  match q, h with
  | 0, _ => exact ⟨32, by decide, rfl⟩
  | 1, _ => exact ⟨9, by decide, rfl⟩
  | 2, _ => exact ⟨10, by decide, rfl⟩
  | 3, _ => exact ⟨13, by decide, rfl⟩
set_option maxRecDepth 100000 in
set_option maxHeartbeats 8000000 in
theorem lexBlanks_walk (s : ByteArray) (A0 : Option Addr) (c0 : Nat) (bl : List UInt8) (w : World) (hs : s.size ≤ 9223372036854775807) (hA : Rds w A0 (bv bl)) (hbl : bl.length ≤ 9223372036854775807) (hT : Tabs w) :
    Calls Tryd.prog 5 #[.string s, .slice A0 bl.length c0] w fun e w' => e = .returned (.bool true) ∧ Below w.heap.size w w' := by
  go_enter Tryd.func5, Tryd.ntmps5
  go_wp2_with fail
  refine (awake14_any _ hT).mono ?_
  rintro e w1 ⟨rfl, hb1⟩
  have hT0 := hT
  clear hT
  go_wp2_with fail
  have hz : (s.extract 0 (min (s.size : Int) 300).toNat).size ≤ 300 := by simp; omega
  generalize s.extract 0 (min (s.size : Int) 300).toNat = S at *
  clear hs
  obtain ⟨L, E, hL⟩ : ∃ L E, Lp.toks S.data.toList = (L, E) := pair_of _
  have hlL := toks_few S.data.toList
  have hgood := Lp.good_toks S.data.toList
  rw [hL] at hlL hgood
  simp only at hlL hgood
  have HG := Lib.hid hgood
  have HR := Lib.hid (fun W => rsplit_is S L E hL W (by omega))
  clear hL hgood
  refine (HR.out _).mono ?_
  rintro e w2 ⟨hb2, A, c, rfl, hc, hown⟩
  have k2 := hb1.trans (hb2.mono hb1.size)
  have r2 : RdsT w2 A L := Rds.own hown
  clear hb1 hb2 hown hc HR
  by_cases hE : E = 0
  · have e0 : (E == 0) = true := by rw [hE]; rfl
    have e0' : (E != 0) = false := by rw [hE]; rfl
    clear hE
    go_wp2_with fail
    go_loopg [7, 8, 9, 10, 11, 29, 46] (L.length + 1) (fun gk s7 _ _ _ _ s29 _ wr => ∃ (i : Nat) (T : List UInt8), i ≤ L.length ∧ gk = L.length + 1 - i ∧ s29 = .int .i64 i ∧ s7 = .string ⟨T.toArray⟩ ∧ Hid (Lp.Says T (L.take i)) ∧ T.length ≤ 3003 * i ∧ Below w.heap.size w wr ∧ Below w2.heap.size w2 wr)
    case atStart => exact ⟨0, [], by omega, by omega, rfl, rfl, Lp.says_nil, by simp, k2, Below.refl _ _⟩
    case round =>
      obtain ⟨i, T, hi, rfl, rfl, rfl, HS, hTl, hbw, hb2⟩ := hrel
      have hsz := hbw.size
      have hsz2 := hb2.size
      by_cases hlt : i < L.length
      · obtain ⟨b1, o1, rfl, q0, q1, q2⟩ := RdsT.cells (Rds.below r2 hb2) hlt
        obtain ⟨hgd, hft⟩ := HG.out L[i] (List.getElem_mem hlt)
        have htk : Hid (L.take (i + 1) = L.take i ++ [L[i]]) := List.take_succ_eq_append_getElem hlt
        generalize L[i] = v at *
        have hjl := hft.2.2
        have HJ := Lib.hid (fun A c W (hr : RdsT W A [v]) => rjoin_any A 1 c [v] rfl W hr (by simp) (fun t ht => by rw [List.mem_singleton] at ht; rw [ht]; exact hft))
        have HSM := Lib.hid (fun (B : List UInt8) (hB : B.all Lp.blankB = true) hne => Lp.says_more HS.out hB hne hgd)
        obtain ⟨tk, ts, tn⟩ := v
        simp only at q0 q1 q2
        have i1 : (i : Int) < (L.length : Int) := by omega
        have i0 : (0 : Int) ≤ (i : Int) := by omega
        have hk : ∃ kk : Nat, kk ≤ 255 ∧ ((¬ (i : Int) < (bl.length : Int) ∧ kk = 0) ∨ ((i : Int) < (bl.length : Int) ∧ ∃ b off, A0 = some ⟨b, off, none⟩ ∧ wr.cell? ⟨b, off + i, none⟩ = some (.int .u8 kk))) := by
          by_cases hg : i < bl.length
          · have hr := hA.below hbw
            obtain ⟨b, off, e1, e2⟩ := Rds.at_ hr (bv_at hg)
            have := bl[i].toNat_lt
            exact ⟨bl[i].toNat, by omega, .inr ⟨by omega, b, off, e1, e2⟩⟩
          · exact ⟨0, by omega, .inl ⟨by omega, rfl⟩⟩
        obtain ⟨kk, hkl, hk⟩ := hk
        have hx1 := heap_alloc_new wr (.cells #[.int .u8 tk, .string ⟨ts.toArray⟩, .int .i64 tn] 36)
        have k1 := hbw.alloc hsz (.cells #[.int .u8 tk, .string ⟨ts.toArray⟩, .int .i64 tn] 36)
        have k1' := hb2.alloc hsz2 (.cells #[.int .u8 tk, .string ⟨ts.toArray⟩, .int .i64 tn] 36)
        clear hgd hft HS
        have k1z : wr.heap.size ≤ (wr.alloc (.cells #[.int .u8 tk, .string ⟨ts.toArray⟩, .int .i64 tn] 36)).heap.size := by simp
        rcases hk with ⟨hk1, rfl⟩ | ⟨hk1, b, off, rfl, qb⟩
        · obtain ⟨N, hN⟩ : ∃ N : Nat, (1 : Int) = (N : Int) := ⟨1, rfl⟩
          have hN1 : 1 ≤ N := by omega
          have hN3 : N ≤ 3 := by omega
          have HNN := Lib.hid hN
          clear hN
          go_wp2_with fail
          obtain ⟨wo, hwo⟩ : ∃ wo : World, wo = wr.alloc (.cells #[.int .u8 tk, .string ⟨ts.toArray⟩, .int .i64 tn] 36) := ⟨_, rfl⟩
          rw [← hwo] at k1 k1' hx1 k1z ⊢
          have HWO := Lib.hid hwo
          clear hwo
          go_loop [7, 11, 46] (fun s7 _ s46 => ∃ (j : Nat) (B X : List UInt8), j ≤ 1 ∧ s46 = .int .i64 j ∧ s7 = .string ⟨X.toArray⟩ ∧ Hid (T ++ B = X) ∧ Hid (B.all Lp.blankB = true) ∧ B.length ≤ j ∧ j ≤ B.length ∧ X.length ≤ T.length + j) (fun _ _ s46 => 1 - (intOf s46).toNat)
          case atStart => exact ⟨0, [], T, by omega, rfl, rfl, by show _ = _; simp, by rfl, by simp, by simp, by simp⟩
          case round =>
            obtain ⟨j, B, X, hj, rfl, rfl, HX, HB, hB1, hB2, hXl⟩ := hrel
            have hj0 : (0 : Int) ≤ (j : Int) := by omega
            by_cases hjl : j < 1
            · as_aux_lemma =>
                have hjl' : (j : Int) < (1 : Int) := by omega
                obtain ⟨q, hq⟩ : ∃ q : Nat, ((j : Int)) % 4 = (q : Int) := ⟨(j) % 4, by omega⟩
                have hq4 : q < 4 := by omega
                obtain ⟨b9, hb9, hpc⟩ := piece_blank q hq4
                have hcat := str_cat X [b9]
                have hq0 : (0 : Int) ≤ (q : Int) := by omega
                have hq5 : (q : Int) + 1 ≤ 4 := by omega
                have hq6 : ((q : Int) + 1).toNat = q + 1 := by omega
                have HX2 : Hid (T ++ (B ++ [b9]) = X ++ [b9]) := by show _ = _; rw [← List.append_assoc, HX.out]
                have HB2 : Hid ((B ++ [b9]).all Lp.blankB = true) := by show _ = _; rw [List.all_append, HB.out]; simp [hb9]
                clear hb9
                go_wp2
                go_round
                case rel => exact ⟨j + 1, B ++ [b9], X ++ [b9], by omega, by go_num, rfl, HX2, HB2, by simp; omega, by simp; omega, by simp; omega⟩
                case measure => simp [intOf]; omega
            · as_aux_lemma =>
                have hjN : j = 1 := by omega
                have hge : ¬ (j : Int) < (1 : Int) := by omega
                have hS2 := HSM.out B HB.out (by intro e; rw [e] at hB1 hB2; simp at hB2; omega)
                rw [HX.out] at hS2
                rw [← htk.out] at hS2
                have HS2 := Lib.hid hS2
                have hJL : Lp.joinL [⟨tk, ts, tn⟩] = Lp.jt ⟨tk, ts, tn⟩ := by simp [Lp.joinL]
                have hj1 := HJ.out
                rw [hJL] at hj1
                have HJ2 := Lib.hid hj1
                clear hj1 hJL hS2 HJ HSM hjN
                generalize Lp.jt ⟨tk, ts, tn⟩ = J at *
                have hcat := str_cat X J
                have hcx := box_cells hx1
                have hx2 := rds_new wo (Lp.tkv [(⟨tk, ts, tn⟩ : Lp.Tok)]) 36
                have k2b := k1.alloc (Nat.le_trans hsz k1z) (.cells (Lp.tkv [(⟨tk, ts, tn⟩ : Lp.Tok)]).toArray 36)
                have k2c := k1'.alloc (Nat.le_trans hsz2 k1z) (.cells (Lp.tkv [(⟨tk, ts, tn⟩ : Lp.Tok)]).toArray 36)
                have hz2 := k2b.size
                have hz3 := k2c.size
                go_wp2_with fail
                refine (HJ2.out _ _ _ hx2).mono ?_
                rintro e w5 ⟨rfl, hb5⟩
                have k5 := k2b.trans (hb5.mono hz2)
                have k5' := k2c.trans (hb5.mono hz3)
                clear hx1 hcx hx2 k1 k1' k2b k2c hb5 HJ2 hbw hb2
                go_wp2
                go_roundg (L.length + 1 - (i + 1))
                case measure => omega
                case rel => exact ⟨i + 1, X ++ J, by omega, by omega, by go_num, rfl, HS2, by simp only [List.length_append]; omega, k5, k5'⟩
        · have hblt : b < wr.heap.size := World.block_lt_of_cell? wr _ qb
          have hkk0 : (0 : Int) ≤ (kk : Int) := by omega
          obtain ⟨N, hN⟩ : ∃ N : Nat, 1 + (kk : Int) % 3 = (N : Int) := ⟨1 + kk % 3, by omega⟩
          have hN1 : 1 ≤ N := by omega
          have hN3 : N ≤ 3 := by omega
          go_wp2_with fail
          obtain ⟨wo, hwo⟩ : ∃ wo : World, wo = wr.alloc (.cells #[.int .u8 tk, .string ⟨ts.toArray⟩, .int .i64 tn] 36) := ⟨_, rfl⟩
          rw [← hwo] at k1 k1' hx1 k1z ⊢
          have HWO := Lib.hid hwo
          clear hwo
          go_loop [7, 11, 46] (fun s7 _ s46 => ∃ (j : Nat) (B X : List UInt8), j ≤ N ∧ s46 = .int .i64 j ∧ s7 = .string ⟨X.toArray⟩ ∧ Hid (T ++ B = X) ∧ Hid (B.all Lp.blankB = true) ∧ B.length ≤ j ∧ j ≤ B.length ∧ X.length ≤ T.length + j) (fun _ _ s46 => N - (intOf s46).toNat)
          case atStart => exact ⟨0, [], T, by omega, rfl, rfl, by show _ = _; simp, by rfl, by simp, by simp, by simp⟩
          case round =>
            obtain ⟨j, B, X, hj, rfl, rfl, HX, HB, hB1, hB2, hXl⟩ := hrel
            have hj0 : (0 : Int) ≤ (j : Int) := by omega
            by_cases hjl : j < N
            · as_aux_lemma =>
                have hjl' : (j : Int) < (N : Int) := by omega
                obtain ⟨q, hq⟩ : ∃ q : Nat, ((kk : Int) + (j : Int)) % 4 = (q : Int) := ⟨(kk + j) % 4, by omega⟩
                have hq4 : q < 4 := by omega
                obtain ⟨b9, hb9, hpc⟩ := piece_blank q hq4
                have hcat := str_cat X [b9]
                have hq0 : (0 : Int) ≤ (q : Int) := by omega
                have hq5 : (q : Int) + 1 ≤ 4 := by omega
                have hq6 : ((q : Int) + 1).toNat = q + 1 := by omega
                have HX2 : Hid (T ++ (B ++ [b9]) = X ++ [b9]) := by show _ = _; rw [← List.append_assoc, HX.out]
                have HB2 : Hid ((B ++ [b9]).all Lp.blankB = true) := by show _ = _; rw [List.all_append, HB.out]; simp [hb9]
                clear hb9
                go_wp2
                go_round
                case rel => exact ⟨j + 1, B ++ [b9], X ++ [b9], by omega, by go_num, rfl, HX2, HB2, by simp; omega, by simp; omega, by simp; omega⟩
                case measure => simp [intOf]; omega
            · as_aux_lemma =>
                have hjN : j = N := by omega
                have hge : ¬ (j : Int) < (N : Int) := by omega
                have hS2 := HSM.out B HB.out (by intro e; rw [e] at hB1 hB2; simp at hB2; omega)
                rw [HX.out] at hS2
                rw [← htk.out] at hS2
                have HS2 := Lib.hid hS2
                have hJL : Lp.joinL [⟨tk, ts, tn⟩] = Lp.jt ⟨tk, ts, tn⟩ := by simp [Lp.joinL]
                have hj1 := HJ.out
                rw [hJL] at hj1
                have HJ2 := Lib.hid hj1
                clear hj1 hJL hS2 HJ HSM hjN
                generalize Lp.jt ⟨tk, ts, tn⟩ = J at *
                have hcat := str_cat X J
                have hcx := box_cells hx1
                have hx2 := rds_new wo (Lp.tkv [(⟨tk, ts, tn⟩ : Lp.Tok)]) 36
                have k2b := k1.alloc (Nat.le_trans hsz k1z) (.cells (Lp.tkv [(⟨tk, ts, tn⟩ : Lp.Tok)]).toArray 36)
                have k2c := k1'.alloc (Nat.le_trans hsz2 k1z) (.cells (Lp.tkv [(⟨tk, ts, tn⟩ : Lp.Tok)]).toArray 36)
                have hz2 := k2b.size
                have hz3 := k2c.size
                go_wp2_with fail
                refine (HJ2.out _ _ _ hx2).mono ?_
                rintro e w5 ⟨rfl, hb5⟩
                have k5 := k2b.trans (hb5.mono hz2)
                have k5' := k2c.trans (hb5.mono hz3)
                clear hx1 hcx hx2 k1 k1' k2b k2c hb5 HJ2 hbw hb2
                go_wp2
                go_roundg (L.length + 1 - (i + 1))
                case measure => omega
                case rel => exact ⟨i + 1, X ++ J, by omega, by omega, by go_num, rfl, HS2, by simp only [List.length_append]; omega, k5, k5'⟩
      · obtain rfl : i = L.length := by omega
        have hge : ¬ (L.length : Int) < (L.length : Int) := by omega
        have HS2 : Hid (Lp.Says T L) := by have := HS.out; rw [List.take_length] at this; exact this
        have h32 := str_32 T
        have hTr := tabs_below hT0 hbw
        have r3 := Rds.below r2 hb2
        clear HS
        by_cases hTl2 : T.length < 2000
        · as_aux_lemma =>
            have HLX := Lib.hid (fun W h => lsplit_is (⟨(T ++ [32]).toArray⟩ : ByteArray) L 0 (by have := Lp.says_toks HS2.out hTl2; simpa using this) W h (by show (T ++ [32]).toArray.size ≤ _; simp; omega))
            have ht2 : ¬ (2000 : Int) ≤ (T.length : Int) := by omega
            clear HS2
            go_wp2_with fail
            refine (HLX.out _ hTr).mono ?_
            rintro e w5 ⟨hb5, A5, c5, rfl, hc5, hown5⟩
            have k5 := hbw.trans (hb5.mono hsz)
            have r5 : RdsT w5 A5 L := Rds.own hown5
            have r3' := Rds.below r3 hb5
            clear hb5 hown5 r3 hbw hb2 hTr
            go_wp2_with fail
            refine (back_any A5 _ c5 L rfl _ r5 (by omega)).mono ?_
            rintro e w6 ⟨⟨A6, c6, rfl, hown6⟩, hb6⟩
            have r6 : RdsT w6 A6 L := Rds.own hown6
            have r3'' := Rds.below r3' hb6
            have k6 := k5.trans (hb6.mono k5.size)
            clear hown6 hb6 k5 r5 r3'
            go_wp2_with fail
            refine (tsame_any A6 A _ _ c6 c L rfl rfl _ r6 r3'' (by omega)).mono ?_
            rintro e w7 ⟨rfl, hb7⟩
            go_wp2
            go_ret
            exact ⟨rfl, k6.trans (hb7.mono k6.size)⟩
        · as_aux_lemma =>
            obtain ⟨L2, E2, hL2⟩ : ∃ L E, Lp.toks (⟨(T ++ [32]).toArray⟩ : ByteArray).data.toList = (L, E) := pair_of _
            have HLX := Lib.hid (fun W h => lsplit_is (⟨(T ++ [32]).toArray⟩ : ByteArray) L2 E2 hL2 W h (by show (T ++ [32]).toArray.size ≤ _; simp; omega))
            have ht2 : (2000 : Int) ≤ (T.length : Int) := by omega
            clear HS2 hL2
            go_wp2_with fail
            refine (HLX.out _ hTr).mono ?_
            rintro e w5 ⟨hb5, A5, c5, rfl, hc5, hown5⟩
            have k5 := hbw.trans (hb5.mono hsz)
            clear hb5 hown5 r3 hbw hb2 hTr
            go_wp2
            go_ret
            exact ⟨rfl, k5⟩
  · have e0 : (E == 0) = false := beq_eq_false_iff_ne.2 hE
    have e0' : (E != 0) = true := bne_iff_ne.2 hE
    clear hE
    go_wp2
    go_ret
    exact ⟨rfl, k2⟩
end Go.Proofs.YtmdmcfobdbccmaaDoor
