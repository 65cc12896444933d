/-
  What row's size and Fits tell, of any kinds and any values. Conditions: unicode/utf8's tables as laid; at most 2^30 values.
-/
import Derived.Test.YthdnphnipfpdkaaDoorRow1
import Derived.Test.YthdnphnipfpdkaaDoorWalkKeyJoins
namespace Go.Proofs.YthdnphnipfpdkaaDoor
open Go.RowKit

theorem size_any (k i : Int) (s : ByteArray) (b : Bool) (w : World) (hs : k = 2 → s.size ≤ 60) :
    Calls Tryd.prog 44 #[.agg #[.int .u8 k, .int .i64 i, .string s, .bool b]] w fun e w' => e = .returned (.int .i64 ((Lp.cb ⟨k, i, s, b⟩).length : Nat)) ∧ Below w.heap.size w w' := by
  have hb0 : ∀ o, Below w.heap.size w (w.alloc o) := fun o => (Below.refl _ _).alloc (Nat.le_refl _) o
  by_cases h1 : k = 1
  · subst h1
    have hc : (Lp.cb ⟨1, i, s, b⟩).length = 8 := by simp [Lp.cb, Lp.le_length]
    rw [hc]
    clear hc hs
    go_enter Tryd.func44, Tryd.ntmps44
    go_wp2
    go_ret
    exact ⟨rfl, hb0 _⟩
  · by_cases h2 : k = 2
    · subst h2
      have hs' := hs rfl
      have hc : (Lp.cb ⟨2, i, s, b⟩).length = 1 + s.size := by simp [Lp.cb]; omega
      rw [hc]
      clear hc hs h1
      go_enter Tryd.func44, Tryd.ntmps44
      go_wp2
      go_ret
      exact ⟨by simp, hb0 _⟩
    · by_cases h3 : k = 3
      · subst h3
        have hc : (Lp.cb ⟨3, i, s, b⟩).length = 1 := by simp [Lp.cb]
        rw [hc]
        clear hc hs h1 h2
        go_enter Tryd.func44, Tryd.ntmps44
        go_wp2
        go_ret
        exact ⟨rfl, hb0 _⟩
      · have hc : (Lp.cb ⟨k, i, s, b⟩).length = 0 := by simp [Lp.cb, h1, h2, h3]
        rw [hc]
        have e1 : (k == 1) = false := by simpa using h1
        have e2 : (k == 2) = false := by simpa using h2
        have e3 : (k == 3) = false := by simpa using h3
        clear h1 h2 h3 hc hs
        go_enter Tryd.func44, Tryd.ntmps44
        go_wp2
        go_ret
        exact ⟨rfl, hb0 _⟩

theorem fits_args {ks : List UInt8} {l : List Lp.V} (h : Lp.kindsOk ks = false ∨ ks.length ≠ l.length) : Lp.rfits ks l = 1 := by unfold Lp.rfits; rw [if_pos h]
theorem fits_wrong {ks : List UInt8} {l : List Lp.V} (h1 : Lp.kindsOk ks = true) (h2 : ks.length = l.length) (h3 : l.all Lp.V.right = false) : Lp.rfits ks l = 3 := by
  unfold Lp.rfits; rw [if_neg (by simp [h1, h2]), if_pos h3]
theorem fits_type {ks : List UInt8} {l : List Lp.V} (h1 : Lp.kindsOk ks = true) (h2 : ks.length = l.length) (h3 : l.all Lp.V.right = true) (h4 : Lp.fitsK ks l = false) : Lp.rfits ks l = 8 := by
  unfold Lp.rfits; rw [if_neg (by simp [h1, h2]), if_neg (by simp [h3]), if_pos h4]
theorem fits_size {ks : List UInt8} {l : List Lp.V} (h1 : Lp.kindsOk ks = true) (h2 : ks.length = l.length) (h3 : l.all Lp.V.right = true) (h4 : Lp.fitsK ks l = true) :
    Lp.rfits ks l = if 200 < 1 + (Lp.cbs l).length then 2 else 0 := by
  unfold Lp.rfits; rw [if_neg (by simp [h1, h2]), if_neg (by simp [h3]), if_neg (by simp [h4])]
theorem cbs_next {l : List Lp.V} {i : Nat} {v : Lp.V} (h : i < l.length) (hv : l[i] = v) : Lp.cbs (l.take (i + 1)) = Lp.cbs (l.take i) ++ Lp.cb v := by
  rw [take_next h, hv, Lp.cbs_snoc]

set_option maxRecDepth 100000 in
set_option maxHeartbeats 4000000 in
theorem fits_any (AK : Option Addr) (n cK : Nat) (ks : List UInt8) (AL : Option Addr) (m cL : Nat) (l : List Lp.V) (hnk : n = ks.length) (hml : m = l.length) (w : World) (hK : Rds w AK (bv ks)) (hkn : ks.length ≤ 70368744177664)
    (hL : RdsV w AL l) (hln : l.length ≤ 1073741824) (hs : ∀ v ∈ l, v.ok) (hT : Tabs w) :
    Calls Tryd.prog 31 #[.slice AK n cK, .slice AL m cL] w fun e w' => e = .returned (.int .i64 (Lp.rfits ks l)) ∧ Below w.heap.size w w' := by
  subst hnk hml
  have HS := Lib.hid hs
  clear hs
  cases hko : Lp.kindsOk ks
  · rw [fits_args (.inl hko)]
    have HKO := Lib.hid hko
    clear hko
    go_enter Tryd.func31, Tryd.ntmps31
    go_wp2_with fail
    refine (rright_any _ _ _ ks _ rfl HKO.out _ hK hkn).mono ?_
    rintro e w' ⟨rfl, rfl⟩
    go_wp2
    go_ret
    exact ⟨rfl, Below.refl _ _⟩
  · by_cases hlen : ks.length = l.length
    · have HKO := Lib.hid hko
      have HLEN := Lib.hid hlen
      clear hko hlen
      go_enter Tryd.func31, Tryd.ntmps31
      go_wp2_with fail
      refine (rright_any _ _ _ ks _ rfl HKO.out _ hK hkn).mono ?_
      rintro e w' ⟨rfl, rfl⟩
      rw [HLEN.out]
      have hnn : ((l.length : Int) != (l.length : Int)) = false := by simp
      go_wp2_with fail
      clear hnn
      go_loopg [6, 22] (l.length + 1) (fun gk _ s22 wr => ∃ (i : Nat), i ≤ l.length ∧ gk + i = l.length + 1 ∧ s22 = .int .i64 i ∧ Below w.heap.size w wr ∧ Hid ((l.take i).all Lp.V.right = true))
      case atStart => exact ⟨0, by omega, by omega, rfl, Below.refl _ _, by rfl⟩
      case round =>
        obtain ⟨i, hle, hgk, rfl, hbw, HA⟩ := hrel
        have hsz := hbw.size
        have hLr := hL.below hbw
        have hTr := tabs_below hT hbw
        by_cases hi : i < l.length
        · obtain ⟨b, off, rfl, q0, q1, q2, q3⟩ := RdsV.cells hLr hi
          have hok := HS.out l[i] (List.getElem_mem hi)
          have hv := hok.1
          clear hok
          generalize hvi : l[i] = v at *
          obtain ⟨k, vi, s, vb⟩ := v
          simp only at q0 q1 q2 q3 hv
          have HV := Lib.hid hvi
          clear hvi
          cases hr : Lp.rightB k vi s vb
          · have HF := Lib.hid (fits_wrong HKO.out HLEN.out (all_false hi HV.out hr))
            have HR := Lib.hid hr
            clear hr
            go_wp2_with fail
            refine (right_at _ _ _ _ _ HR.out _ hv (tabs_alloc hTr _)).mono ?_
            rintro e w1 ⟨rfl, hb1⟩
            go_wp2
            go_ret
            exact ⟨by rw [HF.out]; rfl, (hbw.alloc hsz _).trans (hb1.mono (by simp; omega))⟩
          · have HA2 := Lib.hid (all_next hi HV.out HA.out hr)
            have HR := Lib.hid hr
            clear hr HA
            go_wp2_with fail
            refine (right_at _ _ _ _ _ HR.out _ hv (tabs_alloc hTr _)).mono ?_
            rintro e w1 ⟨rfl, hb1⟩
            have hbw1 := (hbw.alloc hsz _).trans (hb1.mono (by simp; omega))
            clear hb1 hbw
            go_wp2
            go_roundg (gk - 1)
            case measure => omega
            case rel => exact ⟨i + 1, by omega, by omega, by go_num, hbw1, HA2⟩
        · have HR : Hid (l.all Lp.V.right = true) := by show _ = _; have := HA.out; rw [List.take_of_length_le (by omega)] at this; exact this
          clear HA
          go_wp2_with fail
          clear hi hle hgk
          go_loopg [7, 8, 9, 32] (l.length + 1) (fun gk s7 _ _ s32 wr => ∃ (i : Nat), i ≤ l.length ∧ gk + i = l.length + 1 ∧ s32 = .int .i64 i ∧ s7 = .int .i64 ((1 + (Lp.cbs (l.take i)).length : Nat) : Int) ∧ Below w.heap.size w wr ∧ Hid (Lp.fitsK ks l = Lp.fitsK (ks.drop i) (l.drop i)))
          case atStart => exact ⟨0, by omega, by omega, rfl, rfl, hbw, by rfl⟩
          case round =>
            obtain ⟨i, hle, hgk, rfl, rfl, hbw, HF⟩ := hrel
            have hsz := hbw.size
            have hLr := hL.below hbw
            have hKr := hK.below hbw
            have hll : (l.take i).length ≤ l.length := List.length_take_le' _ _
            have hcl : (Lp.cbs (l.take i)).length ≤ 61 * (l.take i).length := Lp.cbs_le (List.all_eq_true.2 fun u hu => List.all_eq_true.1 HR.out u (List.mem_of_mem_take hu))
            by_cases hi : i < l.length
            · have hik : i < ks.length := by rw [HLEN.out]; exact hi
              obtain ⟨b, off, rfl, q0, q1, q2, q3⟩ := RdsV.cells hLr hi
              obtain ⟨bk, offk, rfl, p0⟩ := hKr.at_ (bv_at hik)
              have hrv : (l[i]).right = true := List.all_eq_true.1 HR.out _ (List.getElem_mem hi)
              have HN := Lib.hid (cbs_next hi rfl)
              have HD := Lib.hid (HF.out.trans (Lp.fitsK_drop hik hi))
              have hkb := ks[i].toNat_lt
              generalize hvi : l[i] = v at *
              generalize ks[i] = kk at *
              obtain ⟨k, vi, s, vb⟩ := v
              simp only at q0 q1 q2 q3
              have hs60 := fun e => Lp.right_text (v := ⟨k, vi, s, vb⟩) hrv e
              have hcv := Lp.cb_le hrv
              simp only at hs60
              have HS6 := Lib.hid hs60
              have h0k := (HS.out _ (List.getElem_mem hi)).2.2
              rw [hvi] at h0k
              clear hs60 hrv hvi HF
              simp only at h0k
              have hcL : Hid ((Lp.cbs (l.take (i + 1))).length = (Lp.cbs (l.take i)).length + (Lp.cb ⟨k, vi, s, vb⟩).length) := by show _ = _; rw [HN.out, List.length_append]
              clear HN
              generalize (Lp.cbs (l.take i)).length = N at *
              generalize hcc : (Lp.cb ⟨k, vi, s, vb⟩).length = C at *
              have HCC := Lib.hid hcc
              clear hcc
              cases hft : Lp.fitK kk ⟨k, vi, s, vb⟩
              · have hne : k ≠ 0 ∧ k ≠ (kk.toNat : Int) := by simpa [Lp.fitK] using hft
                have HT := Lib.hid (fits_type HKO.out HLEN.out HR.out (by rw [HD.out, hft]; rfl))
                obtain ⟨g1, g2⟩ := hne
                have e1 : (k != 0) = true := by simpa using g1
                have e2 : (k != (kk.toNat : Int)) = true := by simpa using g2
                clear hft HD g1 g2
                have hltk := World.block_lt_of_cell? wr _ p0
                have hbw2 : ∀ o n, Below w.heap.size w ((wr.alloc o).drewN n) := fun o n => (hbw.alloc hsz o).trans ⟨rfl, rfl, rfl, Nat.le_refl _, fun _ _ => rfl⟩
                go_wp2_with fail
                go_quiet (fail)
                clear hbw hL hLr hK hKr
                go_wp2
                go_ret
                exact ⟨by rw [HT.out]; rfl, hbw2 _ _⟩
              · have hft2 : k = 0 ∨ (k ≠ 0 ∧ k = (kk.toNat : Int)) := by
                  by_cases h0 : k = 0
                  · exact .inl h0
                  · right; exact ⟨h0, by simpa [Lp.fitK, h0] using hft⟩
                have HD2 : Hid (Lp.fitsK ks l = Lp.fitsK (ks.drop (i + 1)) (l.drop (i + 1))) := by show _ = _; rw [HD.out, hft, Bool.true_and]
                clear HD hft
                have hltk := World.block_lt_of_cell? wr _ p0
                have hbw2 : ∀ o n, Below w.heap.size w ((wr.alloc o).drewN n) := fun o n => (hbw.alloc hsz o).trans ⟨rfl, rfl, rfl, Nat.le_refl _, fun _ _ => rfl⟩
                have hz2 : ∀ o n, w.heap.size ≤ ((wr.alloc o).drewN n).heap.size := fun o n => (hbw2 o n).size
                clear hL hLr hK hKr
                rcases hft2 with rfl | ⟨g1, rfl⟩
                · go_wp2_with fail
                  go_quiet (fail)
                  clear hbw
                  go_wp2_with fail
                  refine (size_any _ _ _ _ _ HS6.out).mono ?_
                  rintro e w1 ⟨rfl, hb1⟩
                  rw [HCC.out]
                  have hbw1 := (hbw2 _ _).trans (hb1.mono (hz2 _ _))
                  clear hb1 hbw2 hz2
                  go_wp2
                  go_roundg (gk - 1)
                  case measure => omega
                  case rel => exact ⟨i + 1, by omega, by omega, by go_num, by rw [hcL.out]; go_num, hbw1, HD2⟩
                · have e1 : ((kk.toNat : Int) != 0) = true := by simpa using g1
                  have e2 : ((kk.toNat : Int) != (kk.toNat : Int)) = false := by simp
                  clear g1
                  go_wp2_with fail
                  go_quiet (fail)
                  clear hbw e2
                  go_wp2_with fail
                  refine (size_any _ _ _ _ _ HS6.out).mono ?_
                  rintro e w1 ⟨rfl, hb1⟩
                  rw [HCC.out]
                  have hbw1 := (hbw2 _ _).trans (hb1.mono (hz2 _ _))
                  clear hb1 hbw2 hz2
                  go_wp2
                  go_roundg (gk - 1)
                  case measure => omega
                  case rel => exact ⟨i + 1, by omega, by omega, by go_num, by rw [hcL.out]; go_num, hbw1, HD2⟩
            · have HT : Hid (Lp.fitsK ks l = true) := by
                show _ = _
                rw [HF.out, List.drop_eq_nil_of_le (by rw [HLEN.out]; omega), List.drop_eq_nil_of_le (by omega)]; rfl
              have HZ := Lib.hid (fits_size HKO.out HLEN.out HR.out HT.out)
              have HL : Hid ((Lp.cbs (l.take i)).length = (Lp.cbs l).length) := by show _ = _; rw [List.take_of_length_le (by omega)]
              clear HF HT
              generalize (Lp.cbs (l.take i)).length = N at *
              by_cases h200 : 200 < 1 + N
              · go_wp2
                go_ret
                exact ⟨by rw [HZ.out, ← HL.out, if_pos h200]; rfl, hbw⟩
              · go_wp2
                go_ret
                exact ⟨by rw [HZ.out, ← HL.out, if_neg h200]; rfl, hbw⟩
    · rw [fits_args (.inr hlen)]
      have HKO := Lib.hid hko
      have hne : ((l.length : Int) == (ks.length : Int)) = false := by simp; omega
      clear hko hlen
      go_enter Tryd.func31, Tryd.ntmps31
      go_wp2_with fail
      refine (rright_any _ _ _ ks _ rfl HKO.out _ hK hkn).mono ?_
      rintro e w' ⟨rfl, rfl⟩
      go_wp2
      go_ret
      exact ⟨rfl, Below.refl _ _⟩
end Go.Proofs.YthdnphnipfpdkaaDoor
