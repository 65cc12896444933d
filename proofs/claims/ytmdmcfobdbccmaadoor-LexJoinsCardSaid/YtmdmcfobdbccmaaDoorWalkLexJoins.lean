/-
  The walk of LexJoins: it returns true, of any text. Conditions: the listed tables as laid; internal/bytealg.MaxLen holds a number.
-/
import Derived.Test.YtmdmcfobdbccmaaDoorWalkLexNumbers
import Derived.Test.YtmdmcfobdbccmaaDoorLexK
namespace Go.Proofs.YtmdmcfobdbccmaaDoor
open Go.RowKit

set_option maxRecDepth 100000 in
set_option maxHeartbeats 8000000 in
theorem lexJoins_walk (s : ByteArray) (w : World) (hs : s.size ≤ 9223372036854775807) (hA : AwJ w) :
    Calls Tryd.prog 8 #[.string s] w fun e w' => e = .returned (.bool true) ∧ Below w.heap.size w w' := by
  obtain ⟨iT, hiT, hz0, hz1, hz2⟩ := info_parts tokInfo
  go_enter Tryd.func8, Tryd.ntmps8
  go_wp2_with fail
  refine (awake14_any _ hA.1).mono ?_
  rintro e w1 ⟨rfl, hb1⟩
  have HAW := Lib.hid hA
  clear hA
  go_wp2_with fail
  have hz : (s.extract 0 (min (s.size : Int) 600).toNat).size ≤ 600 := by simp; omega
  generalize s.extract 0 (min (s.size : Int) 600).toNat = S at *
  clear hs
  obtain ⟨L, E, hL⟩ : ∃ L E, Lp.toks S.data.toList = (L, E) := pair_of _
  have hlL := toks_few S.data.toList
  have hgood := Lp.good_toks S.data.toList
  rw [hL] at hlL hgood
  simp only at hlL hgood
  have HG := Lib.hid hgood
  have HR := Lib.hid (fun W => rsplit_is S L E hL W (by omega))
  clear hL hgood
  refine (HR.out _).mono ?_
  rintro e w2 ⟨hb2, A, c, rfl, hc, hown⟩
  have k2 := hb1.trans (hb2.mono hb1.size)
  have r2 : RdsT w2 A L := Rds.own hown
  clear hb1 hb2 hown hc HR
  by_cases hE : E = 0
  · have e0 : (E == 0) = true := by rw [hE]; rfl
    have e0' : (E != 0) = false := by rw [hE]; rfl
    clear hE
    go_wp2_with fail
    go_loopg [5, 7, 27] (L.length + 1) (fun gk s5 _ s27 wr => ∃ (i : Nat) (A1 : Option Addr) (c1 : Nat), i ≤ L.length ∧ gk + i = L.length + 1 ∧ s27 = .int .i64 i ∧ s5 = .slice A1 i c1 ∧ wr.ownsRow w2.heap.size 41 3 (.slice A1 i c1) i (Lp.tkv (L.take i)) ∧ Below w.heap.size w wr ∧ Below w2.heap.size w2 wr)
    case atStart => exact ⟨0, none, 0, by omega, by omega, rfl, rfl, World.ownsRow_nil _ _ _ _, k2, Below.refl _ _⟩
    case round =>
      obtain ⟨i, A1, c1, hi, hgk, rfl, rfl, hown, hbw, hb2⟩ := hrel
      have g1 := Rds.below r2 hb2
      have hsz := hbw.size
      have hsz2 := hb2.size
      by_cases hlt : i < L.length
      · as_aux_lemma =>
          obtain ⟨b1, o1, rfl, q0, q1, q2⟩ := RdsT.cells g1 hlt
          have htk : Hid (Lp.tkv (L.take (i + 1)) = Lp.tkv (L.take i) ++ Lp.tkv [L[i]]) := by
            show _ = _
            rw [List.take_succ_eq_append_getElem hlt, tkv_append]
          generalize L[i] = v at *
          obtain ⟨k, vs, vn⟩ := v
          simp only at q0 q1 q2
          have i1 : (i : Int) < (L.length : Int) := by omega
          have i0 : (0 : Int) ≤ (i : Int) := by omega
          clear g1
          go_wp2_with (at_builtin; refine wpList_app _ rfl (.tmp 31) (.tmp 33) _ rfl w2.heap.size 41 iT _ 3 32 Tryd.underlying23 hiT hz0 hz1 hz2 rfl (by omega) _ _ _ _ rfl ((hown.alloc _).alloc _) _ 1 1 (Lp.tkv [(⟨k, vs, vn⟩ : Lp.Tok)]) rfl rfl (rds_blk (Lp.tkv [(⟨k, vs, vn⟩ : Lp.Tok)]) (heap_new2 wr _ _)) (by simp [Value.oneCell', Lp.tkv, Lp.Tok.cells]) (by simp only [maxLen]; omega) (by omega) (by simp; omega) ?_; intro A2 c2 w4 hown4 hb4 _ _)
          rw [← htk.out] at hown4
          have hbx := ((hb2.alloc hsz2 _).alloc (by simp; omega) _).trans hb4
          have hby := k2.trans (hbx.mono k2.size)
          clear hb4 hown hbw hb2
          go_wp2
          go_roundg (gk - 1)
          case measure => omega
          case rel => exact ⟨i + 1, A2, c2, by omega, by omega, by go_num, rfl, hown4, hby, hbx⟩
      · obtain rfl : i = L.length := by omega
        have hge : ¬ (L.length : Int) < (L.length : Int) := by omega
        rw [List.take_length] at hown
        have r3 : RdsT wr A1 L := Rds.own hown
        have hfit : ∀ t ∈ L, t.fit := fun t ht => (HG.out t ht).2
        have HLJ := Lib.hid (ljoin_any A1 L.length c1 L rfl wr r3 (by omega) hfit (awj_below HAW.out hbw))
        have HRJ := Lib.hid (fun W (hr : RdsT W A L) => rjoin_any A L.length c L rfl W hr (by omega) hfit)
        have hJl := Lp.joinL_len L hfit
        have HTJ := Lib.hid (Lp.toks_join (L := L) (fun t ht => (HG.out t ht).1))
        generalize Lp.joinL L = J at *
        have hJJ : ((⟨J.toArray⟩ : ByteArray).toList == (⟨J.toArray⟩ : ByteArray).toList) = true := by simp
        have hTr := tabs_below HAW.out.1 hbw
        clear hfit hown r3 r2
        go_wp2_with fail
        refine HLJ.out.mono ?_
        rintro e w4 ⟨rfl, hb4⟩
        have k4 := hbw.trans (hb4.mono hsz)
        have r4 := Rds.below g1 hb4
        have hT4 := tabs_below hTr hb4
        clear hb4 hbw hb2 g1 hTr HLJ
        go_wp2_with fail
        refine (HRJ.out _ r4).mono ?_
        rintro e w5 ⟨rfl, hb5⟩
        have k5 := k4.trans (hb5.mono k4.size)
        have r5 := Rds.below r4 hb5
        have hT5 := tabs_below hT4 hb5
        clear hb5 k4 r4 hT4
        by_cases h2 : J.length ≤ 2000
        · as_aux_lemma =>
            have h2' : ¬ (2000 : Int) < (J.length : Int) := by omega
            have HLX := Lib.hid (fun W h => lsplit_is (⟨J.toArray⟩ : ByteArray) L 0 (by simpa using HTJ.out h2) W h (by show J.toArray.size ≤ _; simp; omega))
            clear HTJ HRJ
            go_wp2_with fail
            refine (HLX.out _ hT5).mono ?_
            rintro e w6 ⟨hb6, A6, c6, rfl, hc6, hown6⟩
            have k6 := k5.trans (hb6.mono k5.size)
            have r6 : RdsT w6 A6 L := Rds.own hown6
            have r5' := Rds.below r5 hb6
            clear hb6 hown6 r5 k5 hT5
            go_wp2_with fail
            refine (back_any A6 _ c6 L rfl _ r6 (by omega)).mono ?_
            rintro e w7 ⟨⟨A7, c7, rfl, hown7⟩, hb7⟩
            have r7 : RdsT w7 A7 L := Rds.own hown7
            have r5'' := Rds.below r5' hb7
            have k7 := k6.trans (hb7.mono k6.size)
            clear hown7 hb7 k6 r6 r5'
            go_wp2_with fail
            refine (tsame_any A7 A _ _ c7 c L rfl rfl _ r7 r5'' (by omega)).mono ?_
            rintro e w8 ⟨rfl, hb8⟩
            go_wp2
            go_ret
            exact ⟨rfl, k7.trans (hb8.mono k7.size)⟩
        · as_aux_lemma =>
            have h2' : (2000 : Int) < (J.length : Int) := by omega
            clear HTJ
            go_wp2_with fail
            refine (HRJ.out _ r5).mono ?_
            rintro e w6 ⟨rfl, hb6⟩
            have k6 := k5.trans (hb6.mono k5.size)
            go_wp2
            go_ret
            exact ⟨by simp, k6⟩
  · have e0 : (E == 0) = false := beq_eq_false_iff_ne.2 hE
    have e0' : (E != 0) = true := bne_iff_ne.2 hE
    clear hE
    go_wp2
    go_ret
    exact ⟨rfl, k2⟩
end Go.Proofs.YtmdmcfobdbccmaaDoor
