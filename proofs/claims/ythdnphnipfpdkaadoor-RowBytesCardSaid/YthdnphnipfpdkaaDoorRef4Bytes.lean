/-
  What lapidaryref04.Bytes gives, of any kinds and any values: the row's bytes, or the refusal. Conditions: at most 2^30 values.
-/
import Derived.Test.YthdnphnipfpdkaaDoorRowBytes
import Derived.Test.YthdnphnipfpdkaaDoorRef2Right
namespace Go.Proofs.YthdnphnipfpdkaaDoor
open Go.RowKit

theorem toU_wrap (i : Int) : IntKind.u64.wrap i = ((Lp.toU i : Nat) : Int) := by
  unfold Lp.toU; rw [IntKind.wrap_u64]; omega
theorem bytes_err {w w' : World} {ks : List UInt8} {l : List Lp.V} {E : Int} (h : Lp.rfits ks l = E) (hE : E ≠ 0) (hb : Below w.heap.size w w') : RowBytesPost w ks l (.returned (.tuple #[.slice none 0 0, .int .i64 E])) w' :=
  ⟨hb, .inr ⟨by rw [h]; exact hE, by rw [h]⟩⟩
theorem le_byte (N j : Nat) : ((N / 256 ^ j : Nat) : Int) % 256 = (((UInt8.ofNat (N / 256 ^ j)).toNat : Nat) : Int) := by simp
theorem cbs_round {l : List Lp.V} {i m B : Nat} {v : Lp.V} {bs : List UInt8} {w : World} {A : Option Addr} {c : Nat} (h : i < l.length) (hv : l[i] = v) (hb : Lp.cb v = bs) (hm : bs.length = m)
    (ho : w.ownsRow B 5 1 (.slice A ((Lp.cbs (l.take i)).length + m) c) ((Lp.cbs (l.take i)).length + m) (bv (Lp.cbs (l.take i)) ++ bv bs)) :
    (Lp.cbs (l.take i)).length + m = (Lp.cbs (l.take (i + 1))).length ∧ OwnB w B A c (Lp.cbs (l.take (i + 1))) := by
  have e : Lp.cbs (l.take (i + 1)) = Lp.cbs (l.take i) ++ bs := by rw [cbs_next h hv, hb]
  have e2 : (Lp.cbs (l.take i)).length + m = (Lp.cbs (l.take (i + 1))).length := by rw [e, List.length_append, hm]
  exact ⟨e2, by unfold OwnB; rw [← e2, e, bv_append]; exact ho⟩
theorem cbs_textround {l : List Lp.V} {i B : Nat} {vi : Int} {s : ByteArray} {vb : Bool} {w : World} {A : Option Addr} {c : Nat} {X : Int} (h : i < l.length) (hv : l[i] = ⟨2, vi, s, vb⟩) (hX : X = (((UInt8.ofNat s.size).toNat : Nat) : Int))
    (ho : w.ownsRow B 5 1 (.slice A ((Lp.cbs (l.take i)).length + 1 + s.size) c) ((Lp.cbs (l.take i)).length + 1 + s.size) (bv (Lp.cbs (l.take i)) ++ [.int .u8 X] ++ Lib.strCells s)) :
    (Lp.cbs (l.take i)).length + 1 + s.size = (Lp.cbs (l.take (i + 1))).length ∧ OwnB w B A c (Lp.cbs (l.take (i + 1))) := by
  subst hX
  have e : (Lp.cbs (l.take i)).length + 1 + s.size = (Lp.cbs (l.take i)).length + (1 + s.size) := by omega
  have e2 : bv (Lp.cbs (l.take i)) ++ [.int .u8 (((UInt8.ofNat s.size).toNat : Nat) : Int)] ++ Lib.strCells s = bv (Lp.cbs (l.take i)) ++ bv (UInt8.ofNat s.size :: s.data.toList) := by simp [bv, Lib.strCells]
  rw [e, e2] at ho
  have := cbs_round h hv (bs := UInt8.ofNat s.size :: s.data.toList) (by simp [Lp.cb]) (by simp; omega) ho
  rw [← e] at this; exact this
theorem nulls_same {l : List Lp.V} {i : Nat} {v : Lp.V} (h : i < l.length) (hv : l[i] = v) (h0 : v.k ≠ 0) : Lp.nulls (l.take (i + 1)) = Lp.nulls (l.take i) := by
  rw [take_next h, hv, Lp.nulls_snoc, if_neg h0, Nat.add_zero]
theorem nulls_more {l : List Lp.V} {i : Nat} {v : Lp.V} (h : i < l.length) (hv : l[i] = v) (h0 : v.k = 0) : Lp.nulls (l.take (i + 1)) = Lp.nulls (l.take i) + 2 ^ i := by
  have hl : (l.take i).length = i := by rw [List.length_take]; omega
  rw [take_next h, hv, Lp.nulls_snoc, if_pos h0, hl]
theorem cbs_null {l : List Lp.V} {i : Nat} {v : Lp.V} (h : i < l.length) (hv : l[i] = v) (h0 : v.k = 0) : Lp.cbs (l.take (i + 1)) = Lp.cbs (l.take i) := by
  rw [cbs_next h hv, Lp.cb_null h0, List.append_nil]
theorem bit_next (i : Nat) : IntKind.u8.wrap (((2 ^ i % 256 : Nat) : Int) * 2) = ((2 ^ (i + 1) % 256 : Nat) : Int) := by
  rw [IntKind.wrap_u8, Nat.pow_succ]; omega
theorem fitk_next {ks : List UInt8} {l : List Lp.V} {i : Nat} {v : Lp.V} (ha : i < ks.length) (hb : i < l.length) (hv : l[i] = v) (hf : Lp.fitK ks[i] v = true) (h : Lp.fitsK ks l = Lp.fitsK (ks.drop i) (l.drop i)) : Lp.fitsK ks l = Lp.fitsK (ks.drop (i + 1)) (l.drop (i + 1)) := by
  rw [h, Lp.fitsK_drop ha hb, hv, hf, Bool.true_and]
theorem fitk_wrong {ks : List UInt8} {l : List Lp.V} {i : Nat} {v : Lp.V} (ha : i < ks.length) (hb : i < l.length) (hv : l[i] = v) (hf : Lp.fitK ks[i] v = false) (h : Lp.fitsK ks l = Lp.fitsK (ks.drop i) (l.drop i)) : Lp.fitsK ks l = false := by
  rw [h, Lp.fitsK_drop ha hb, hv, hf, Bool.false_and]

set_option maxRecDepth 100000 in
set_option maxHeartbeats 4000000 in
theorem bytes4_any (AK : Option Addr) (n cK : Nat) (ks : List UInt8) (AL : Option Addr) (m cL : Nat) (l : List Lp.V) (hnk : n = ks.length) (hml : m = l.length) (w : World) (hK : Rds w AK (bv ks)) (hkn : ks.length ≤ 70368744177664)
    (hL : RdsV w AL l) (hln : l.length ≤ 1073741824) (hs : ∀ v ∈ l, v.ok) :
    Calls Tryd.prog 35 #[.slice AK n cK, .slice AL m cL] w (RowBytesPost w ks l) := by
  subst hnk hml
  have HS := Lib.hid hs
  clear hs
  cases hko : Lp.kindsOk ks
  · have HZ := Lib.hid (fits_args (ks := ks) (l := l) (.inl hko))
    have HKO := Lib.hid hko
    clear hko
    go_enter Tryd.func35, Tryd.ntmps35
    go_wp2_with fail
    refine (right4_any _ _ _ ks _ rfl HKO.out _ hK hkn).mono ?_
    rintro e w' ⟨rfl, rfl⟩
    go_wp2
    go_ret2
    exact bytes_err HZ.out (by decide) (Below.refl _ _)
  · by_cases hlen : ks.length = l.length
    · have HKO := Lib.hid hko
      have h8 : l.length ≤ 8 := by
        rw [← hlen]; simp [Lp.kindsOk] at hko; exact hko.1.2
      have HL := Lib.hid hlen
      have e0 : ((ks.length : Int) != (l.length : Int)) = false := by rw [hlen]; simp
      clear hko hlen
      go_enter Tryd.func35, Tryd.ntmps35
      go_wp2_with fail
      refine (right4_any _ _ _ ks _ rfl HKO.out _ hK hkn).mono ?_
      rintro e w' ⟨rfl, rfl⟩
      go_wp2
      clear e0
      go_loopg [7, 26] (l.length + 1) (fun gk _ s26 wr => ∃ (i : Nat), i ≤ l.length ∧ gk = l.length + 1 - i ∧ s26 = .int .i64 i ∧ Below w.heap.size w wr ∧ Hid ((l.take i).all Lp.V.right = true))
      case atStart => exact ⟨0, by omega, by omega, rfl, Below.refl _ _, by rfl⟩
      case round =>
        obtain ⟨i, hle, rfl, rfl, hbw, HA⟩ := hrel
        have hsz := hbw.size
        by_cases hi : i < l.length
        · obtain ⟨b, off, rfl, q0, q1, q2, q3⟩ := RdsV.cells (hL.below hbw) hi
          have hok := HS.out l[i] (List.getElem_mem hi)
          have hv := hok.1
          clear hok
          generalize hvi : l[i] = v at *
          obtain ⟨k, vi, s, vb⟩ := v
          simp only at q0 q1 q2 q3 hv
          have HV := Lib.hid hvi
          clear hvi
          cases hr : Lp.rightB k vi s vb
          · have HF := Lib.hid (fits_wrong HKO.out HL.out (all_false hi HV.out hr))
            have HR := Lib.hid hr
            clear hr
            go_wp2_with fail
            refine (right2_at _ _ _ _ _ HR.out _ hv).mono ?_
            rintro e w1 ⟨rfl, hb1⟩
            go_wp2
            go_ret2
            exact bytes_err HF.out (by decide) ((hbw.alloc hbw.size _).trans (hb1.mono (by have := hbw.size; simp; omega)))
          · have HA2 := Lib.hid (all_next hi HV.out HA.out hr)
            have HR := Lib.hid hr
            clear hr HA
            go_wp2_with fail
            refine (right2_at _ _ _ _ _ HR.out _ hv).mono ?_
            rintro e w1 ⟨rfl, hb1⟩
            have hbw1 := (hbw.alloc hsz _).trans (hb1.mono (by simp; omega))
            clear hb1 hbw
            go_wp2
            go_roundg (l.length + 1 - (i + 1))
            case measure => omega
            case rel => exact ⟨i + 1, by omega, rfl, by go_num, hbw1, HA2⟩
        · have hi2 : i = l.length := by omega
          subst hi2
          have HA' : Hid (l.all Lp.V.right = true) := by have := HA.out; rw [List.take_length] at this; exact this
          clear HA
          have hLr := hL.below hbw
          have hKr := hK.below hbw
          obtain ⟨wo, rfl⟩ : ∃ wo : World, wo = wr := ⟨_, rfl⟩
          go_wp2_with fail
          have hB0 : Below wo.heap.size wo wo := Below.refl _ _
          have hka : ks.length ≤ l.length := Nat.le_of_eq HL.out
          have hkb : l.length ≤ ks.length := Nat.le_of_eq HL.out.symm
          go_loopg [8, 9, 10, 11, 12, 13, 36] (l.length + 1) (fun gk s8 s9 s10 _ _ _ s36 wr => ∃ (i X Y : Nat) (A1 : Option Addr) (c1 : Nat), i ≤ l.length ∧ gk = l.length + 1 - i ∧ s36 = .int .i64 i ∧ s8 = .int .u8 X ∧ s9 = .int .u8 Y ∧ Hid (Lp.nulls (l.take i) = X) ∧ Hid (2 ^ i % 256 = Y) ∧
            s10 = .slice A1 (Lp.cbs (l.take i)).length c1 ∧ OwnB wr w.heap.size A1 c1 (Lp.cbs (l.take i)) ∧ Below w.heap.size w wr ∧ Hid (Lp.fitsK ks l = Lp.fitsK (ks.drop i) (l.drop i)))
          case atStart => exact ⟨0, 0, 1, none, 0, by omega, by omega, rfl, rfl, rfl, by rfl, by rfl, rfl, World.ownsRow_nil _ _ _ _, hbw, by rfl⟩
          case round =>
            clear hLr hKr hbw hB0
            obtain ⟨i, X, Y, A1, c1, hle, rfl, rfl, rfl, rfl, HX, HY, rfl, hown, hbw, HK⟩ := hrel
            have hsz := hbw.size
            have hrl : (Lp.cbs (l.take i)).length ≤ 1000 := by
              have h1 : (Lp.cbs (l.take i)).length ≤ 61 * (l.take i).length := Lp.cbs_le (List.all_eq_true.2 fun u hu => List.all_eq_true.1 HA'.out u (List.mem_of_mem_take hu))
              have h2 : (l.take i).length ≤ l.length := List.length_take_le' _ _
              omega
            by_cases hi : i < l.length
            · have hi' : i < ks.length := by omega
              obtain ⟨b, off, rfl, q0, q1, q2, q3⟩ := RdsV.cells (hL.below hbw) hi
              obtain ⟨bk, ok', rfl, qk⟩ := (hK.below hbw).at_ (bv_at hi')
              have hltk := World.block_lt_of_cell? wr _ qk
              have hok := HS.out l[i] (List.getElem_mem hi)
              have hv := hok.1
              have HI := Lib.hid hok.2.1
              clear hok
              have hrv : (l[i]).right = true := List.all_eq_true.1 HA'.out _ (List.getElem_mem hi)
              generalize hvi : l[i] = v at *
              obtain ⟨k, vi, s, vb⟩ := v
              have hkinds := Lp.right_kinds hrv
              simp only at q0 q1 q2 q3 hv hkinds HI
              have HV := Lib.hid hvi
              have HRV := Lib.hid hrv
              have hX2 : X < 2 ^ i := by
                have h1 := Lp.nulls_lt (l.take i)
                have h2 : (l.take i).length = i := by rw [List.length_take]; omega
                rw [h2, HX.out] at h1; exact h1
              have hY2 : 2 ^ i = Y := by
                have h1 : 2 ^ i ≤ 2 ^ 7 := Nat.pow_le_pow_right (by omega) (by omega)
                rw [← HY.out]; omega
              have hY3 : Y ≤ 128 := by
                have h1 : 2 ^ i ≤ 2 ^ 7 := Nat.pow_le_pow_right (by omega) (by omega)
                omega
              have hXY : X < Y := by omega
              have HYP := Lib.hid hY2
              have hbn := bit_next i
              rw [HY.out] at hbn
              obtain ⟨Y2, hy⟩ : ∃ Y2, 2 ^ (i + 1) % 256 = Y2 := ⟨_, rfl⟩
              rw [hy] at hbn
              have HY2 := Lib.hid hy
              have HKE : Hid (ks[i] = ks[i]) := rfl
              clear hvi hrv hX2 hY2 hy HKE
              rcases hkinds with rfl | rfl | rfl | rfl
              · have HN := Lib.hid (nulls_more hi HV.out rfl)
                have HC := Lib.hid (cbs_null hi HV.out rfl)
                have HK2 := Lib.hid (fitk_next hi' hi HV.out (by simp [Lp.fitK]) HK.out)
                have HNX : Hid (Lp.nulls (l.take (i + 1)) = X + Y) := by show _ = _; rw [HN.out, HX.out, HYP.out]
                have hbw3 := hbw.alloc hsz (.cells #[.int .u8 0, .int .i64 vi, .string s, .bool vb] 36)
                have hown3 : OwnB (wr.alloc (.cells #[.int .u8 0, .int .i64 vi, .string s, .bool vb] 36)) w.heap.size A1 c1 (Lp.cbs (l.take (i + 1))) := by rw [HC.out]; exact World.ownsRow.alloc hown _
                clear hown hbw HN
                go_wp2_with fail
                go_roundg (l.length + 1 - (i + 1))
                case measure => omega
                case rel => exact ⟨i + 1, X + Y, Y2, A1, c1, by omega, rfl, by go_num, by go_num, rfl, HNX, HY2, by rw [HC.out], hown3, hbw3, HK2⟩
              · by_cases hkx : ks[i].toNat = 1
                · have HN := Lib.hid (nulls_same hi HV.out (by simp))
                  have HK2 := Lib.hid (fitk_next hi' hi HV.out (by simp [Lp.fitK, hkx]) HK.out)
                  have HNX : Hid (Lp.nulls (l.take (i + 1)) = X) := by show _ = _; rw [HN.out, HX.out]
                  rw [hkx] at qk
                  have hx1 := heap_alloc_new wr (.cells #[.int .u8 1, .int .i64 vi, .string s, .bool vb] 36)
                  have hown1 := World.ownsRow.alloc hown (.cells #[.int .u8 1, .int .i64 vi, .string s, .bool vb] 36)
                  have hbw1 := hbw.alloc hsz (.cells #[.int .u8 1, .int .i64 vi, .string s, .bool vb] 36)
                  obtain ⟨i0, hi0, hz0, hz1, hz2⟩ := info_parts byteInfo
                  clear hown hbw HN hkx HK
                  go_wp2_with fail
                  go_quiet (fail)
                  have hxq := box_below hx1 (drewN_below _ nq)
                  have hcq := box_cells hxq
                  have hownq := own_below hown1 (drewN_below _ nq)
                  have hbwq := hbw1.trans ((drewN_below _ nq).mono hbw1.size)
                  have hszq := hbwq.size
                  clear q0 q1 q2 q3 qk hltk hx1 hown1 hbw1
                  generalize (wr.alloc (.cells #[.int .u8 1, .int .i64 vi, .string s, .bool vb] 36)).drewN nq = wq at *
                  have hw := toU_wrap vi
                  have hNlt := Lp.toU_lt vi
                  have hcb : Hid (Lp.cb ⟨1, vi, s, vb⟩ = Lp.le (Lp.toU vi) 8) := by show _ = _; simp [Lp.cb]
                  have hN0 : Hid (Lp.toU vi / 256 ^ 0 = Lp.toU vi) := by show _ = _; simp
                  have hown0 : wq.ownsRow w.heap.size 5 1 (.slice A1 ((Lp.cbs (l.take i)).length + 0) c1) ((Lp.cbs (l.take i)).length + 0) (bv (Lp.cbs (l.take i)) ++ bv (Lp.le (Lp.toU vi) 0)) := by
                    rw [show bv (Lp.cbs (l.take i)) ++ bv (Lp.le (Lp.toU vi) 0) = bv (Lp.cbs (l.take i)) by simp [Lp.le, bv]]
                    exact hownq
                  have HM := Lib.hid (fun M : Nat => (by omega : (M : Int) / 256 = ((M / 256 : Nat) : Int)))
                  clear HI hownq
                  generalize Lp.toU vi = N at *
                  go_wp2_with fail
                  clear hcq hw
                  go_loopg [10, 13, 63] 9 (fun gj s10 s13 s63 wz => ∃ (j M : Nat) (A3 : Option Addr) (c3 : Nat), j ≤ 8 ∧ gj = 9 - j ∧ s63 = .int .i64 j ∧ Hid (N / 256 ^ j = M) ∧ M < 18446744073709551616 ∧ s13 = .int .u64 (M : Int) ∧ s10 = .slice A3 ((Lp.cbs (l.take i)).length + j) c3 ∧
                    wz.ownsRow w.heap.size 5 1 (.slice A3 ((Lp.cbs (l.take i)).length + j) c3) ((Lp.cbs (l.take i)).length + j) (bv (Lp.cbs (l.take i)) ++ bv (Lp.le N j)) ∧ Below w.heap.size w wz ∧ wz.heap[wr.heap.size]? = some (.cells #[.int .u8 1, .int .i64 vi, .string s, .bool vb] 36 (0, 0)))
                  case atStart => exact ⟨0, N, A1, c1, by omega, rfl, rfl, hN0, hNlt, rfl, rfl, hown0, hbwq, hxq⟩
                  case round =>
                    obtain ⟨j, M, A3, c3, hj8, rfl, rfl, HMj, hM, rfl, rfl, hown3, hbw3, hx3⟩ := hrel
                    have hsz3 := hbw3.size
                    by_cases hlt : j < 8
                    · have hMB : Hid ((M : Int) % 256 = (((UInt8.ofNat (N / 256 ^ j)).toNat : Nat) : Int)) := by
                        show _ = _
                        rw [← le_byte, HMj.out]
                      have hM2 : Hid (N / 256 ^ (j + 1) = M / 256) := by
                        show _ = _
                        rw [Nat.pow_succ, ← Nat.div_div_eq_div_mul, HMj.out]
                      have hM3 : M / 256 < 18446744073709551616 := by omega
                      go_wp2_with (at_builtin; refine wpList_app _ rfl (.tmp 65) (.tmp 69) _ rfl w.heap.size 5 i0 _ 1 1 Tryd.underlying22 hi0 hz0 hz1 hz2 rfl (by omega) _ _ _ _ rfl (hown3.alloc _) _ 1 1 [_] rfl rfl (rds_new _ _ _) (by simp [Value.oneCell']) (by simp only [maxLen]; omega) (by omega) (by simp; omega) ?_; intro A4 c4 w4 hown4 hb4 hg4 _; have hx4 := box_far (hown3.alloc _) (box_alloc hx3 _) (by decide) hg4)
                      rw [hMB.out] at hown4
                      have hown5 := le_next hown4
                      have hbw5 := (hbw3.alloc hsz3 _).trans hb4
                      clear hown4 hb4 hg4 hown3 hbw3 HMj hMB hx3
                      go_wp2
                      go_roundg (9 - (j + 1))
                      case measure => omega
                      case rel => exact ⟨j + 1, M / 256, A4, c4, by omega, rfl, by go_num, hM2, hM3, by first | rfl | (rw [HM.out]), by simp [Nat.add_assoc], hown5, hbw5, hx4⟩
                    · obtain rfl : j = 8 := by omega
                      obtain ⟨e3, hown4⟩ := cbs_round hi HV.out hcb.out (Lp.le_length _ _) hown3
                      have E3 := Lib.hid e3
                      clear e3 hown3 hx3 HMj
                      go_wp2
                      go_roundg (l.length + 1 - (i + 1))
                      case measure => omega
                      case rel => exact ⟨i + 1, X, Y2, A3, c3, by omega, rfl, by go_num, rfl, rfl, HNX, HY2, by rw [E3.out], hown4, hbw3, HK2⟩
                · have HF := Lib.hid (fits_type HKO.out HL.out HA'.out (fitk_wrong hi' hi HV.out (by simp [Lp.fitK]; omega) HK.out))
                  have hne : ((1 : Int) != (ks[i].toNat : Int)) = true := bne_iff_ne.2 (by omega)
                  have hne2 : ((1 : Int) == (ks[i].toNat : Int)) = false := beq_eq_false_iff_ne.2 (by omega)
                  have hbw1 := hbw.alloc hsz (.cells #[.int .u8 1, .int .i64 vi, .string s, .bool vb] 36)
                  generalize ks[i].toNat = KX at *
                  go_wp2_with fail
                  go_quiet (fail)
                  have hbwq := hbw1.trans ((drewN_below _ nq).mono hbw1.size)
                  go_wp2
                  go_ret2
                  exact bytes_err HF.out (by decide) hbwq
              · by_cases hkx : ks[i].toNat = 2
                · have HN := Lib.hid (nulls_same hi HV.out (by simp))
                  have HK2 := Lib.hid (fitk_next hi' hi HV.out (by simp [Lp.fitK, hkx]) HK.out)
                  have HNX : Hid (Lp.nulls (l.take (i + 1)) = X) := by show _ = _; rw [HN.out, HX.out]
                  rw [hkx] at qk
                  have hx1 := heap_alloc_new wr (.cells #[.int .u8 2, .int .i64 vi, .string s, .bool vb] 36)
                  have hown1 := World.ownsRow.alloc hown (.cells #[.int .u8 2, .int .i64 vi, .string s, .bool vb] 36)
                  have hbw1 := hbw.alloc hsz (.cells #[.int .u8 2, .int .i64 vi, .string s, .bool vb] 36)
                  obtain ⟨i0, hi0, hz0, hz1, hz2⟩ := info_parts byteInfo
                  clear hown hbw HN hkx HK
                  go_wp2_with fail
                  go_quiet (fail)
                  have hxq := box_below hx1 (drewN_below _ nq)
                  have hcq := box_cells hxq
                  have hownq := own_below hown1 (drewN_below _ nq)
                  have hbwq := hbw1.trans ((drewN_below _ nq).mono hbw1.size)
                  have hszq := hbwq.size
                  clear q0 q1 q2 q3 qk hltk hx1 hown1 hbw1
                  generalize (wr.alloc (.cells #[.int .u8 2, .int .i64 vi, .string s, .bool vb] 36)).drewN nq = wq at *
                  have hs60 := Lp.right_text (v := ⟨2, vi, s, vb⟩) HRV.out rfl
                  simp only at hs60
                  have hbyte : IntKind.u8.wrap (s.size : Int) = (((UInt8.ofNat s.size).toNat : Nat) : Int) := by rw [IntKind.wrap_u8]; simp
                  have HBY := Lib.hid hbyte
                  clear hbyte
                  go_wp2_with (first
                    | (at_builtin; refine wpList_app _ rfl (.tmp 76) (.tmp 81) _ rfl w.heap.size 5 i0 _ 1 1 Tryd.underlying22 hi0 hz0 hz1 hz2 rfl (by omega) _ _ _ _ rfl (hownq.alloc _) _ 1 1 [_] rfl rfl (rds_new _ _ _) (by simp [Value.oneCell']) (by simp only [maxLen]; omega) (by omega) (by simp; omega) ?_; intro A2 c2 w2 hown2 hb2 hg2 _; have hx2 := box_far (hownq.alloc _) (box_alloc hxq _) (by decide) hg2; have hc2 := box_cells hx2; have hsz2 := hb2.size; simp only [World.size_alloc] at hsz2)
                    | (at_builtin; refine wpList_app_str _ rfl (.tmp 83) (.tmp 85) _ _ rfl w.heap.size 5 i0 Tryd.underlying22 Tryd.underlying9 hi0 hz0 hz1 hz2 _ _ _ _ rfl hown2 s rfl (by simp only [maxLen]; omega) (by omega) (by omega) ?_; intro A3 c3 w3 hown3 hb3 hg3))
                  obtain ⟨e3, hown5⟩ := cbs_textround hi HV.out (by first | rfl | exact HBY.out | (simp; omega)) hown3
                  have E3 := Lib.hid e3
                  have hbw5 := (hbwq.alloc hszq _).trans (hb2.trans hb3)
                  clear e3 hown3 hb3 hg3 hown2 hb2 hg2 hx2 hc2 hownq hbwq
                  go_wp2
                  go_roundg (l.length + 1 - (i + 1))
                  case measure => omega
                  case rel => exact ⟨i + 1, X, Y2, A3, c3, by omega, rfl, by go_num, rfl, rfl, HNX, HY2, by rw [E3.out], hown5, hbw5, HK2⟩
                · have HF := Lib.hid (fits_type HKO.out HL.out HA'.out (fitk_wrong hi' hi HV.out (by simp [Lp.fitK]; omega) HK.out))
                  have hne : ((2 : Int) != (ks[i].toNat : Int)) = true := bne_iff_ne.2 (by omega)
                  have hne2 : ((2 : Int) == (ks[i].toNat : Int)) = false := beq_eq_false_iff_ne.2 (by omega)
                  have hbw1 := hbw.alloc hsz (.cells #[.int .u8 2, .int .i64 vi, .string s, .bool vb] 36)
                  generalize ks[i].toNat = KX at *
                  go_wp2_with fail
                  go_quiet (fail)
                  have hbwq := hbw1.trans ((drewN_below _ nq).mono hbw1.size)
                  go_wp2
                  go_ret2
                  exact bytes_err HF.out (by decide) hbwq
              · by_cases hkx : ks[i].toNat = 3
                · have HN := Lib.hid (nulls_same hi HV.out (by simp))
                  have HK2 := Lib.hid (fitk_next hi' hi HV.out (by simp [Lp.fitK, hkx]) HK.out)
                  have HNX : Hid (Lp.nulls (l.take (i + 1)) = X) := by show _ = _; rw [HN.out, HX.out]
                  rw [hkx] at qk
                  have hx1 := heap_alloc_new wr (.cells #[.int .u8 3, .int .i64 vi, .string s, .bool vb] 36)
                  have hown1 := World.ownsRow.alloc hown (.cells #[.int .u8 3, .int .i64 vi, .string s, .bool vb] 36)
                  have hbw1 := hbw.alloc hsz (.cells #[.int .u8 3, .int .i64 vi, .string s, .bool vb] 36)
                  obtain ⟨i0, hi0, hz0, hz1, hz2⟩ := info_parts byteInfo
                  clear hown hbw HN hkx HK
                  go_wp2_with fail
                  go_quiet (fail)
                  have hxq := box_below hx1 (drewN_below _ nq)
                  have hcq := box_cells hxq
                  have hownq := own_below hown1 (drewN_below _ nq)
                  have hbwq := hbw1.trans ((drewN_below _ nq).mono hbw1.size)
                  have hszq := hbwq.size
                  clear q0 q1 q2 q3 qk hltk hx1 hown1 hbw1
                  generalize (wr.alloc (.cells #[.int .u8 3, .int .i64 vi, .string s, .bool vb] 36)).drewN nq = wq at *
                  cases vb
                  · go_wp2_with (at_builtin; refine wpList_app _ rfl (.tmp 94) (.tmp 95) _ rfl w.heap.size 5 i0 _ 1 1 Tryd.underlying22 hi0 hz0 hz1 hz2 rfl (by omega) _ _ _ _ rfl (hownq.alloc _) _ 1 1 [.int .u8 0] rfl rfl (rds_new _ _ _) (by simp [Value.oneCell']) (by simp only [maxLen]; omega) (by omega) (by simp; omega) ?_; intro A4 c4 w4 hown4 hb4 hg4 _)
                    obtain ⟨e3, hown5⟩ := cbs_round hi HV.out (bs := [0]) (m := 1) rfl rfl hown4
                    have E3 := Lib.hid e3
                    have hbw5 := (hbwq.alloc hszq _).trans hb4
                    clear e3 hown4 hb4 hg4 hownq hbwq
                    go_wp2
                    go_roundg (l.length + 1 - (i + 1))
                    case measure => omega
                    case rel => exact ⟨i + 1, X, Y2, A4, c4, by omega, rfl, by go_num, rfl, rfl, HNX, HY2, by rw [E3.out], hown5, hbw5, HK2⟩
                  · go_wp2_with (at_builtin; refine wpList_app _ rfl (.tmp 91) (.tmp 92) _ rfl w.heap.size 5 i0 _ 1 1 Tryd.underlying22 hi0 hz0 hz1 hz2 rfl (by omega) _ _ _ _ rfl (hownq.alloc _) _ 1 1 [.int .u8 1] rfl rfl (rds_new _ _ _) (by simp [Value.oneCell']) (by simp only [maxLen]; omega) (by omega) (by simp; omega) ?_; intro A4 c4 w4 hown4 hb4 hg4 _)
                    obtain ⟨e3, hown5⟩ := cbs_round hi HV.out (bs := [1]) (m := 1) rfl rfl hown4
                    have E3 := Lib.hid e3
                    have hbw5 := (hbwq.alloc hszq _).trans hb4
                    clear e3 hown4 hb4 hg4 hownq hbwq
                    go_wp2
                    go_roundg (l.length + 1 - (i + 1))
                    case measure => omega
                    case rel => exact ⟨i + 1, X, Y2, A4, c4, by omega, rfl, by go_num, rfl, rfl, HNX, HY2, by rw [E3.out], hown5, hbw5, HK2⟩
                · have HF := Lib.hid (fits_type HKO.out HL.out HA'.out (fitk_wrong hi' hi HV.out (by simp [Lp.fitK]; omega) HK.out))
                  have hne : ((3 : Int) != (ks[i].toNat : Int)) = true := bne_iff_ne.2 (by omega)
                  have hne2 : ((3 : Int) == (ks[i].toNat : Int)) = false := beq_eq_false_iff_ne.2 (by omega)
                  have hbw1 := hbw.alloc hsz (.cells #[.int .u8 3, .int .i64 vi, .string s, .bool vb] 36)
                  generalize ks[i].toNat = KX at *
                  go_wp2_with fail
                  go_quiet (fail)
                  have hbwq := hbw1.trans ((drewN_below _ nq).mono hbw1.size)
                  go_wp2
                  go_ret2
                  exact bytes_err HF.out (by decide) hbwq
            · have hi2 : i = l.length := by omega
              subst hi2
              have hown' : OwnB wr w.heap.size A1 c1 (Lp.cbs l) := by rw [List.take_length] at hown; exact hown
              have HX' : Hid (Lp.nulls l = X) := by have := HX.out; rw [List.take_length] at this; exact this
              have HFK : Hid (Lp.fitsK ks l = true) := by
                show _ = _
                rw [HK.out, List.drop_length, List.drop_of_length_le (by omega)]; rfl
              have HT := Lib.hid (List.take_length (l := l))
              rw [HT.out] at hrl
              have hnl : X < 256 := by
                have h1 := Lp.nulls_lt l
                have h2 : 2 ^ l.length ≤ 2 ^ 8 := Nat.pow_le_pow_right (by omega) h8
                rw [HX'.out] at h1; omega
              clear hown HX HK
              have hsz2 := fits_size HKO.out HL.out HA'.out HFK.out
              by_cases h200 : 200 ≤ (Lp.cbs l).length
              · have HF : Hid (Lp.rfits ks l = 2) := by show _ = _; rw [hsz2, if_pos (by omega)]
                clear hsz2
                rw [HT.out]
                go_wp2
                go_ret2
                exact bytes_err HF.out (by decide) hbw
              · have HF : Hid (Lp.rfits ks l = 0) := by show _ = _; rw [hsz2, if_neg (by omega)]
                clear hsz2
                rw [HT.out]
                obtain ⟨i0, hi0, hz0, hz1, hz2⟩ := info_parts byteInfo
                go_wp2_with (at_builtin; refine wpList_app _ rfl (.tmp 102) (.tmp 103) _ rfl w.heap.size 5 i0 _ 1 1 Tryd.underlying22 hi0 hz0 hz1 hz2 rfl (by omega) _ 1 1 [_] rfl (own_new wr hsz [_] 5 1 rfl (by simp [maxLen])) A1 (Lp.cbs l).length c1 (bv (Lp.cbs l)) rfl (by rw [bv_length, Nat.mul_one]) (hown'.rds.below ((Below.refl _ _).alloc (Nat.le_refl _) _)) (bv_one _) (by simp only [maxLen]; omega) (by omega) (by simp; omega) ?_; intro A4 c4 w4 hown4 hb4 hg4 _)
                have e : bv (Lp.rowB l) = [.int .u8 (X : Int)] ++ bv (Lp.cbs l) := by
                  have h1 : (UInt8.ofNat X).toNat = X := by simp; omega
                  rw [Lp.rowB, HX'.out]; simp [bv, h1]
                have E3 : Hid ((Lp.rowB l).length = 1 + (Lp.cbs l).length) := by show _ = _; simp [Lp.rowB]; omega
                have hown5 : OwnB w4 w.heap.size A4 c4 (Lp.rowB l) := by
                  unfold OwnB; rw [E3.out, e]; exact hown4
                have hbw5 := (hbw.alloc hsz _).trans hb4
                go_ret2
                exact ⟨hbw5, .inl ⟨HF.out, A4, c4, by rw [E3.out]; rfl, hown5⟩⟩
    · have HZ := Lib.hid (fits_args (ks := ks) (l := l) (.inr hlen))
      have HKO := Lib.hid hko
      have e0 : ((ks.length : Int) != (l.length : Int)) = true := bne_iff_ne.2 (fun g => hlen (by omega))
      clear hko hlen
      go_enter Tryd.func35, Tryd.ntmps35
      go_wp2_with fail
      refine (right4_any _ _ _ ks _ rfl HKO.out _ hK hkn).mono ?_
      rintro e w' ⟨rfl, rfl⟩
      go_wp2
      go_ret2
      exact bytes_err HZ.out (by decide) (Below.refl _ _)
end Go.Proofs.YthdnphnipfpdkaaDoor
