/-
  What lapidaryref14's Join gives: the tokens with blanks between. Conditions: at most 10^5 tokens, none of more than 3000 bytes.
-/
import Derived.Test.YtmdmcfobdbccmaaDoorLexB
import Derived.Test.YtmdmcfobdbccmaaDoorPlainJoin
import Derived.Test.YtmdmcfobdbccmaaDoorRLitB
namespace Go.Proofs.YtmdmcfobdbccmaaDoor
open Go.RowKit

theorem str_cat (x y : List UInt8) : (⟨x.toArray⟩ : ByteArray) ++ (⟨y.toArray⟩ : ByteArray) = ⟨(x ++ y).toArray⟩ := by
  apply ByteArray.ext
  simp
theorem str_32 (x : List UInt8) : (⟨x.toArray⟩ : ByteArray) ++ (⟨#[32]⟩ : ByteArray) = ⟨(x ++ [32]).toArray⟩ := str_cat x [32]
theorem ret_str {a b : List UInt8} (h : a = b) : Ending.returned (.string ⟨a.toArray⟩) = .returned (.string ⟨b.toArray⟩) := by rw [h]
set_option maxRecDepth 100000 in
set_option maxHeartbeats 8000000 in
theorem rjoin_any (A : Option Addr) (n c : Nat) (l : List Lp.Tok) (hn : n = l.length) (w : World) (h : RdsT w A l) (hl : l.length ≤ 100000) (hf : ∀ t ∈ l, t.fit) :
    Calls Tryd.prog 14 #[.slice A n c] w fun e w' => e = .returned (.string ⟨(Lp.joinL l).toArray⟩) ∧ Below w.heap.size w w' := by
  subst hn
  have HF := Lib.hid hf
  clear hf
  go_enter Tryd.func14, Tryd.ntmps14
  go_wp2_with fail
  go_loopg [3, 4, 5, 8] (l.length + 1) (fun gk s3 _ _ s8 wr => ∃ (i : Nat) (T : List UInt8), i ≤ l.length ∧ gk = l.length + 1 - i ∧ s8 = .int .i64 i ∧ s3 = .string ⟨T.toArray⟩ ∧ Hid (Lp.joinL (l.take i) = T) ∧ T.length ≤ 3001 * i ∧ Below w.heap.size w wr)
  case atStart => exact ⟨0, [], by omega, rfl, rfl, rfl, rfl, by simp, Below.refl _ _⟩
  case round =>
    obtain ⟨i, T, hi, rfl, rfl, rfl, HT, hTl, hbw⟩ := hrel
    have hsz := hbw.size
    by_cases hlt : i < l.length
    · obtain ⟨b1, o1, rfl, q0, q1, q2⟩ := RdsT.cells (Rds.below h hbw) hlt
      have hft := HF.out l[i] (List.getElem_mem hlt)
      have hsn : Lp.joinL (l.take (i + 1)) = if i = 0 then Lp.jt l[i] else T ++ 32 :: Lp.jt l[i] := by
        rw [List.take_succ_eq_append_getElem hlt, Lp.joinL_snoc, HT.out]
        by_cases h0 : i = 0
        · subst h0; rw [if_pos rfl, if_pos (by simp)]
        · rw [if_neg h0, if_neg (by
            intro e
            have := congrArg List.length e
            rw [List.length_take] at this
            simp at this
            rcases this with h | h
            · exact h0 h
            · rw [h] at hlt; simp at hlt)]
      have hT0 : i = 0 → T = [] := by
        intro h0
        have := HT.out
        subst h0
        rw [← this]; rfl
      generalize l[i] = v at *
      obtain ⟨tk, ts, tn⟩ := v
      simp only at q0 q1 q2
      have hin := hft.1
      have hsl := hft.2.1
      have hjl := hft.2.2
      simp only at hin hsl
      have i1 : (i : Int) < (l.length : Int) := by omega
      have i0 : (0 : Int) ≤ (i : Int) := by omega
      obtain ⟨J, hJ⟩ : ∃ J, Lp.jt ⟨tk, ts, tn⟩ = J := ⟨_, rfl⟩
      rw [hJ] at hsn hjl
      clear hft HT
      have hb1 := hbw.alloc hsz (.cells #[.int .u8 tk, .string ⟨ts.toArray⟩, .int .i64 tn] 36)
      have hz1 := hb1.size
      by_cases hk2 : tk = 2
      · subst hk2
        by_cases h0 : i = 0
        · as_aux_lemma =>
            have hJ2 : Lib.itoa tn = J := by rw [← hJ]; simp [Lp.jt]
            clear hJ
            have hT := hT0 h0
            have HN : Hid (Lp.joinL (l.take (i + 1)) = T ++ J) := by show _ = _; rw [hsn, if_pos h0, hT]; rfl
            have i2 : ¬ (0 : Int) < (i : Int) := by omega
            have hcat := str_cat T J
            have hTJ : (T ++ J).length ≤ 3001 * (i + 1) := by rw [List.length_append]; omega
            have H0 := Lib.hid h0
            clear hsn hT hT0 h0
            have C : Hid (∀ W, Calls Tryd.prog 25 #[.int .i64 tn] W fun e w' => e = .returned (.string ⟨J.toArray⟩) ∧ W = w') := fun W => by
              have := rdec_any tn W hin
              rw [hJ2] at this
              exact this
            clear hin hJ2
            go_wp2_with fail
            refine (C.out _).mono ?_
            rintro e w' ⟨rfl, rfl⟩
            have hb2 := hb1
            clear hb1 hbw
            go_wp2
            go_roundg (l.length + 1 - (i + 1))
            case measure => omega
            case rel => exact ⟨i + 1, T ++ J, by omega, rfl, by go_num, rfl, HN, hTJ, hb2⟩
        · as_aux_lemma =>
            have hJ2 : Lib.itoa tn = J := by rw [← hJ]; simp [Lp.jt]
            clear hJ
            have HN : Hid (Lp.joinL (l.take (i + 1)) = T ++ 32 :: J) := by show _ = _; rw [hsn, if_neg h0]
            have i2 : (0 : Int) < (i : Int) := by omega
            have hc32 := str_32 T
            have hcat := str_cat (T ++ [32]) J
            have hTJ : (T ++ 32 :: J).length ≤ 3001 * (i + 1) := by simp only [List.length_append, List.length_cons]; omega
            have H0 := Lib.hid h0
            clear hsn hT0 h0
            have C : Hid (∀ W, Calls Tryd.prog 25 #[.int .i64 tn] W fun e w' => e = .returned (.string ⟨J.toArray⟩) ∧ W = w') := fun W => by
              have := rdec_any tn W hin
              rw [hJ2] at this
              exact this
            clear hin hJ2
            go_wp2_with fail
            refine (C.out _).mono ?_
            rintro e w' ⟨rfl, rfl⟩
            have hb2 := hb1
            clear hb1 hbw
            go_wp2
            go_roundg (l.length + 1 - (i + 1))
            case measure => omega
            case rel => exact ⟨i + 1, T ++ 32 :: J, by omega, rfl, by go_num, rfl, HN, hTJ, hb2⟩
      · have e2 : (tk == 2) = false := beq_eq_false_iff_ne.2 hk2
        by_cases hk3 : tk = 3
        · subst hk3
          by_cases h0 : i = 0
          · as_aux_lemma =>
              have hJ2 : Lp.litT ts = J := by rw [← hJ]; simp [Lp.jt]
              clear hJ
              have hT := hT0 h0
              have HN : Hid (Lp.joinL (l.take (i + 1)) = T ++ J) := by show _ = _; rw [hsn, if_pos h0, hT]; rfl
              have i2 : ¬ (0 : Int) < (i : Int) := by omega
              have hcat := str_cat T J
              have hTJ : (T ++ J).length ≤ 3001 * (i + 1) := by rw [List.length_append]; omega
              have H0 := Lib.hid h0
              clear hsn hT hT0 h0
              have C : Hid (∀ W, Calls Tryd.prog 26 #[.agg #[.int .u8 2, .int .i64 0, .string ⟨ts.toArray⟩, .bool false]] W fun e w' => e = .returned (.string ⟨J.toArray⟩) ∧ Below W.heap.size W w') := fun W => by
                have := rlit_any 2 0 ⟨ts.toArray⟩ false W (by decide) (by show ts.toArray.size ≤ _; simpa using hsl)
                rw [show Lp.lit ⟨2, 0, ⟨ts.toArray⟩, false⟩ = Lp.litT ts from rfl, hJ2] at this
                exact this
              clear hin hJ2
              go_wp2_with fail
              refine (C.out _).mono ?_
              rintro e w2 ⟨rfl, hbx⟩
              have hb2 := hb1.trans (hbx.mono hz1)
              clear hb1 hbw
              go_wp2
              go_roundg (l.length + 1 - (i + 1))
              case measure => omega
              case rel => exact ⟨i + 1, T ++ J, by omega, rfl, by go_num, rfl, HN, hTJ, hb2⟩
          · as_aux_lemma =>
              have hJ2 : Lp.litT ts = J := by rw [← hJ]; simp [Lp.jt]
              clear hJ
              have HN : Hid (Lp.joinL (l.take (i + 1)) = T ++ 32 :: J) := by show _ = _; rw [hsn, if_neg h0]
              have i2 : (0 : Int) < (i : Int) := by omega
              have hc32 := str_32 T
              have hcat := str_cat (T ++ [32]) J
              have hTJ : (T ++ 32 :: J).length ≤ 3001 * (i + 1) := by simp only [List.length_append, List.length_cons]; omega
              have H0 := Lib.hid h0
              clear hsn hT0 h0
              have C : Hid (∀ W, Calls Tryd.prog 26 #[.agg #[.int .u8 2, .int .i64 0, .string ⟨ts.toArray⟩, .bool false]] W fun e w' => e = .returned (.string ⟨J.toArray⟩) ∧ Below W.heap.size W w') := fun W => by
                have := rlit_any 2 0 ⟨ts.toArray⟩ false W (by decide) (by show ts.toArray.size ≤ _; simpa using hsl)
                rw [show Lp.lit ⟨2, 0, ⟨ts.toArray⟩, false⟩ = Lp.litT ts from rfl, hJ2] at this
                exact this
              clear hin hJ2
              go_wp2_with fail
              refine (C.out _).mono ?_
              rintro e w2 ⟨rfl, hbx⟩
              have hb2 := hb1.trans (hbx.mono hz1)
              clear hb1 hbw
              go_wp2
              go_roundg (l.length + 1 - (i + 1))
              case measure => omega
              case rel => exact ⟨i + 1, T ++ 32 :: J, by omega, rfl, by go_num, rfl, HN, hTJ, hb2⟩
        · have e3 : (tk == 3) = false := beq_eq_false_iff_ne.2 hk3
          by_cases h0 : i = 0
          · as_aux_lemma =>
              have hJ2 : ts = J := by rw [← hJ]; simp [Lp.jt, hk2, hk3]
              have HK2 := Lib.hid hk2
              have HK3 := Lib.hid hk3
              clear hJ hk2 hk3
              obtain rfl : J = ts := hJ2.symm
              have hT := hT0 h0
              have HN : Hid (Lp.joinL (l.take (i + 1)) = T ++ J) := by show _ = _; rw [hsn, if_pos h0, hT]; rfl
              have i2 : ¬ (0 : Int) < (i : Int) := by omega
              have hcat := str_cat T J
              have hTJ : (T ++ J).length ≤ 3001 * (i + 1) := by rw [List.length_append]; omega
              have H0 := Lib.hid h0
              clear hsn hT hT0 h0
              clear hin
              have hb2 := hb1
              clear hb1 hbw
              go_wp2
              go_roundg (l.length + 1 - (i + 1))
              case measure => omega
              case rel => exact ⟨i + 1, T ++ J, by omega, rfl, by go_num, rfl, HN, hTJ, hb2⟩
          · as_aux_lemma =>
              have hJ2 : ts = J := by rw [← hJ]; simp [Lp.jt, hk2, hk3]
              have HK2 := Lib.hid hk2
              have HK3 := Lib.hid hk3
              clear hJ hk2 hk3
              obtain rfl : J = ts := hJ2.symm
              have HN : Hid (Lp.joinL (l.take (i + 1)) = T ++ 32 :: J) := by show _ = _; rw [hsn, if_neg h0]
              have i2 : (0 : Int) < (i : Int) := by omega
              have hc32 := str_32 T
              have hcat := str_cat (T ++ [32]) J
              have hTJ : (T ++ 32 :: J).length ≤ 3001 * (i + 1) := by simp only [List.length_append, List.length_cons]; omega
              have H0 := Lib.hid h0
              clear hsn hT0 h0
              clear hin
              have hb2 := hb1
              clear hb1 hbw
              go_wp2
              go_roundg (l.length + 1 - (i + 1))
              case measure => omega
              case rel => exact ⟨i + 1, T ++ 32 :: J, by omega, rfl, by go_num, rfl, HN, hTJ, hb2⟩
    · obtain rfl : i = l.length := by omega
      have HT2 : Hid (Lp.joinL l = T) := by have := HT.out; rw [List.take_length] at this; exact this
      have hge : ¬ (l.length : Int) < (l.length : Int) := by omega
      clear HT
      go_wp2
      go_ret
      exact ⟨ret_str HT2.out.symm, hbw⟩
end Go.Proofs.YtmdmcfobdbccmaaDoor
