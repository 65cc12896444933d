/-
  What lapidaryref01's Dec gives: a number's numeral. Condition: the argument is a number of 64 bits.
-/
import Derived.Test.YtmdmcfobdbccmaaDoorRef1Size
import Derived.Test.YtmdmcfobdbccmaaDoorPlainDec
import Derived.Lib.Hide
import Derived.Deep.LoopGhost
namespace Go.Proofs.YtmdmcfobdbccmaaDoor
open Go.RowKit

theorem dec_piece (d : Nat) (h : d < 10) (T : List UInt8) : (⟨#[48, 49, 50, 51, 52, 53, 54, 55, 56, 57]⟩ : ByteArray).extract d (d + 1) ++ (⟨T.toArray⟩ : ByteArray) = ⟨(Lp.digc d :: T).toArray⟩ := by
  have e : (⟨#[48, 49, 50, 51, 52, 53, 54, 55, 56, 57]⟩ : ByteArray).extract d (d + 1) = ⟨#[Lp.digc d]⟩ := by
    rcases (show d = 0 ∨ d = 1 ∨ d = 2 ∨ d = 3 ∨ d = 4 ∨ d = 5 ∨ d = 6 ∨ d = 7 ∨ d = 8 ∨ d = 9 by omega) with rfl | rfl | rfl | rfl | rfl | rfl | rfl | rfl | rfl | rfl <;> rfl
  rw [e]
  apply ByteArray.ext
  simp
theorem minus_piece (T : List UInt8) : (⟨#[45]⟩ : ByteArray) ++ (⟨T.toArray⟩ : ByteArray) = ⟨(45 :: T).toArray⟩ := by
  apply ByteArray.ext
  simp
theorem dec_bound {M k : Nat} (h : M < 10 ^ (20 - k)) (hk : k ≤ 20) (hM : 0 < M) : M / 10 < 10 ^ (20 - (k + 1)) ∧ k + 1 ≤ 20 := by
  have hk2 : k < 20 := by
    apply Nat.lt_of_le_of_ne hk
    intro e; subst e; simp at h; omega
  have e : 20 - k = (20 - (k + 1)) + 1 := by omega
  rw [e, Nat.pow_succ] at h
  exact ⟨by omega, hk2⟩
set_option maxRecDepth 100000 in
set_option maxHeartbeats 4000000 in
theorem rdec_any (n : Int) (w : World) (h : Lp.inR n) :
    Calls Tryd.prog 25 #[.int .i64 n] w fun e w' => e = .returned (.string ⟨(Lib.itoa n).toArray⟩) ∧ w = w' := by
  have hm := Lp.mag_abs n
  have hml := Lp.mag_le h
  have hsz := rsize_any n w h
  rw [hm] at hsz hml
  obtain ⟨U, hU⟩ : ∃ U, n.natAbs = U := ⟨_, rfl⟩
  rw [hU] at hsz hml
  have HU := Lib.hid hU
  have HS := Lib.hid hsz
  clear hm hU hsz
  go_enter Tryd.func25, Tryd.ntmps25
  go_wp2_with fail
  refine (HS.out).mono ?_
  rintro e w' ⟨rfl, rfl⟩
  go_wp2_with fail
  go_loopg [3, 4] (U + 1) (fun gk s3 s4 wr => ∃ (T : List UInt8) (M : Nat), w = wr ∧ s3 = .string ⟨T.toArray⟩ ∧ s4 = .int .u64 (M : Int) ∧ M ≤ 9223372036854775808 ∧ T.length ≤ 20 ∧ Hid (M < 10 ^ (20 - T.length)) ∧ Hid (Lp.DecInv U T M) ∧ Hid (gk = M + (if T = [] then 1 else 0)))
  case atStart => exact ⟨[], U, rfl, rfl, rfl, by omega, by simp, by (show _ < _; simp; omega), Lp.dec_start U, by rfl⟩
  case round =>
    obtain ⟨T, M, rfl, rfl, rfl, hM, hTl, HB, HD, HG⟩ := hrel
    have hd0 : (0 : Int) ≤ (M : Int) % 10 := by omega
    have hd1 : (M : Int) % 10 + 1 ≤ 10 := by omega
    have hd2 : ((M : Int) % 10).toNat = M % 10 := by omega
    have hd3 : ((M : Int) % 10 + 1).toNat = M % 10 + 1 := by omega
    have hp := dec_piece (M % 10) (by omega) T
    by_cases hM0 : 0 < M
    · have HD2 := Lib.hid (Lp.dec_step HD.out (.inl hM0))
      obtain ⟨hb1, hb2⟩ := dec_bound HB.out hTl hM0
      have HB2 : Hid (M / 10 < 10 ^ (20 - (Lp.digc (M % 10) :: T).length)) := by show _ < _; rw [List.length_cons]; exact hb1
      have hlt : Hid (M / 10 + 0 < gk) := by
        show _ < _
        rw [HG.out]; split <;> omega
      have hM1 : (0 : Int) < (M : Int) := by omega
      clear HG HD HB hb1
      go_wp2
      go_roundg (M / 10)
      case measure => have := hlt.out; omega
      case rel => exact ⟨Lp.digc (M % 10) :: T, M / 10, rfl, rfl, rfl, by omega, by rw [List.length_cons]; exact hb2, HB2, HD2, by show _ = _; simp⟩
    · obtain rfl : M = 0 := by omega
      by_cases hT : T = []
      · subst hT
        have HD2 := Lib.hid (Lp.dec_step HD.out (.inr rfl))
        have hp0 : (⟨#[48, 49, 50, 51, 52, 53, 54, 55, 56, 57]⟩ : ByteArray).extract 0 1 ++ (⟨#[]⟩ : ByteArray) = ⟨#[48]⟩ := rfl
        have hg : Hid (gk = 1) := by have := HG.out; show _ = _; simpa using this
        clear HG HD hp
        go_wp2
        go_roundg 0
        case measure => have := hg.out; omega
        case rel => exact ⟨[48], 0, rfl, rfl, rfl, by omega, by simp, by (show _ < _; simp), HD2, by show _ = _; simp⟩
      · have HE := Lib.hid (Lp.dec_end HD.out hT)
        have e1 : (⟨T.toArray⟩ : ByteArray).toList = T := by rw [ByteArray.toList_eq]
        have hmp := minus_piece T
        have e2 : T.isEmpty = false := by cases T with | nil => exact absurd rfl hT | cons => rfl
        clear HG HD hT hp
        by_cases hn : n < 0
        · have HF : Hid ((⟨(45 :: T).toArray⟩ : ByteArray) = ⟨(Lib.itoa n).toArray⟩) := by
            show _ = _
            rw [Lib.itoa, if_pos hn, HU.out, HE.out]
          go_wp2
          go_ret
          exact ⟨by rw [← HF.out]; rfl, rfl⟩
        · have HF : Hid ((⟨T.toArray⟩ : ByteArray) = ⟨(Lib.itoa n).toArray⟩) := by
            show _ = _
            rw [Lib.itoa, if_neg hn, show n.toNat = n.natAbs by omega, HU.out, HE.out]
          go_wp2
          go_ret
          exact ⟨by rw [← HF.out]; rfl, rfl⟩
end Go.Proofs.YtmdmcfobdbccmaaDoor
