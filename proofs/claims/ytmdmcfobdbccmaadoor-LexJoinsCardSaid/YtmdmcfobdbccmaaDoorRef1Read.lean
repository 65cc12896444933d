/-
  What lapidaryref01's Read gives, of any text: the number, or the refusal. No conditions but a text's greatest length.
-/
import Derived.Test.YtmdmcfobdbccmaaDoorRef1Size
import Derived.Test.YtmdmcfobdbccmaaDoorPlainDec
import Derived.Lib.Hide
import Derived.Lib.Strings
import Derived.Lib.IndexBytes
import Derived.Deep.LoopGhost
import Derived.Deep.DeepCutAuto
import Derived.Deep.CutBlock
namespace Go.Proofs.YtmdmcfobdbccmaaDoor
open Go.RowKit

theorem less_turn (a : List UInt8) : ∀ b, (!Op.bytesLess a b && !(a == b)) = Op.bytesLess b a := by
  induction a with
  | nil => intro b; cases b <;> simp [Op.bytesLess]
  | cons x a ih =>
    intro b
    cases b with
    | nil => simp [Op.bytesLess]
    | cons y b =>
      have h := ih b
      simp only [Op.bytesLess]
      by_cases hlt : x.toNat < y.toNat
      · have h1 : decide (x < y) = true := by simpa using UInt8.lt_iff_toNat_lt.2 hlt
        have h2 : decide (y < x) = false := by simpa [UInt8.lt_iff_toNat_lt, UInt8.le_iff_toNat_le] using (by omega : x.toNat ≤ y.toNat)
        have h3 : (y == x) = false := by rw [beq_eq_false_iff_ne]; intro e; rw [e] at hlt; omega
        simp [h1, h2, h3]
      · by_cases heq : x.toNat = y.toNat
        · have e : x = y := UInt8.toNat_inj.1 heq
          subst e
          have h1 : decide (x < x) = false := by simp
          simp only [h1, beq_self_eq_true, Bool.true_and, Bool.false_or]
          rw [← h]; simp
        · have h1 : decide (x < y) = false := by simpa [UInt8.lt_iff_toNat_lt, UInt8.le_iff_toNat_le] using (by omega : y.toNat ≤ x.toNat)
          have h2 : decide (y < x) = true := by simpa using UInt8.lt_iff_toNat_lt.2 (by omega : y.toNat < x.toNat)
          have h3 : (x == y) = false := by rw [beq_eq_false_iff_ne]; intro e; rw [e] at heq; exact heq rfl
          simp [h1, h2, h3]
def RReadPost (l : List UInt8) (w : World) (e : Ending) (w' : World) : Prop := e = .returned (.tuple #[.int .i64 (Lp.readV l), .int .i64 (Lp.readE l)]) ∧ w = w'
theorem rread_not {l : List UInt8} {w : World} (h : Lp.allD l = false) : RReadPost l w (.returned (.tuple #[.int .i64 0, .int .i64 3])) w := by
  unfold RReadPost; rw [Lp.readV_not h, Lp.readE_not h]; exact ⟨rfl, rfl⟩
theorem rread_yes {l : List UInt8} {w : World} {m : Int} (h : Lp.allD l = true) (hm : Lp.dvf 0 l = m) (hin : Lp.inR m) : RReadPost l w (.returned (.tuple #[.int .i64 m, .int .i64 0])) w := by
  subst hm; unfold RReadPost; rw [Lp.readV_yes h, Lp.readE_yes h, Lp.val_in hin, Lp.err_in hin]; exact ⟨rfl, rfl⟩
theorem rread_out {l : List UInt8} {w : World} {m : Int} (h : Lp.allD l = true) (hm : Lp.dvf 0 l = m) (hin : ¬ Lp.inR m) : RReadPost l w (.returned (.tuple #[.int .i64 0, .int .i64 9])) w := by
  subst hm; unfold RReadPost; rw [Lp.readV_yes h, Lp.readE_yes h, Lp.val_out hin, Lp.err_out hin]; exact ⟨rfl, rfl⟩

set_option maxRecDepth 100000 in
set_option maxHeartbeats 4000000 in
theorem rread_any (s : ByteArray) (w : World) (hs : s.size ≤ 9223372036854775807) :
    Calls Tryd.prog 21 #[.string s] w (RReadPost s.data.toList w) := by
  by_cases h0 : s.size = 0
  · have Hall := Lib.hid (show Lp.allD s.data.toList = false by
      have h0l : s.data.toList = [] := List.eq_nil_of_length_eq_zero (by simpa using h0)
      rw [h0l]; rfl)
    have e0 : ((s.size : Int) == 0) = true := by simpa using h0
    clear h0
    go_enter Tryd.func21, Tryd.ntmps21
    go_wp2
    go_ret2
    exact rread_not Hall.out
  · have h1 : 1 ≤ s.size := by omega
    have e0 : ((s.size : Int) == 0) = false := by simpa using h0
    clear h0
    go_enter Tryd.func21, Tryd.ntmps21
    go_wp2
    go_loop [4] (fun s4 => ∃ k : Nat, k ≤ s.size ∧ s4 = .int .i64 k ∧ Hid ((s.data.toList.take k).all Lp.isDig = true)) (fun s4 => s.size - (intOf s4).toNat)
    case atStart => exact ⟨0, Nat.zero_le _, rfl, by rfl⟩
    case round =>
      obtain ⟨k, hk, rfl, HD⟩ := hrel
      by_cases hlt : k < s.size
      · cases hd : Lp.isDig (s[k]'hlt)
        · have Hall := Lib.hid (Lp.allD_not s k hlt hd)
          have hb : (s[k]'hlt).toNat < 48 ∨ 57 < (s[k]'hlt).toNat := by
            simp only [Lp.isDig, Bool.and_eq_false_iff, decide_eq_false_iff_not] at hd; omega
          clear hd HD
          obtain ⟨c, hc⟩ : ∃ c, (s[k]'hlt).toNat = c := ⟨_, rfl⟩
          rw [hc] at hb
          rcases hb with hb | hb
          · go_wp2
            go_ret2
            exact rread_not Hall.out
          · have hb2 : ¬ c < 48 := by omega
            go_wp2
            go_ret2
            exact rread_not Hall.out
        · have HD2 := Lib.hid (Lp.all_snoc s k hlt HD.out hd)
          obtain ⟨hb1, hb2⟩ := Lp.isDig_bd hd
          clear hd HD
          obtain ⟨c, hc⟩ : ∃ c, (s[k]'hlt).toNat = c := ⟨_, rfl⟩
          rw [hc] at hb1 hb2
          have hb3 : ¬ c < 48 := by omega
          have hb4 : ¬ 57 < c := by omega
          go_wp2
          go_round
          case rel => exact ⟨k + 1, by omega, by go_num, HD2⟩
          case measure => simp [intOf]; omega
      · obtain rfl : k = s.size := by omega
        have HA : Hid (s.data.toList.all Lp.isDig = true) := by have := HD.out; rw [Lp.take_all] at this; exact this
        have Hall : Hid (Lp.allD s.data.toList = true) := by
          show _ = _
          have hne : s.data.toList.isEmpty = false := by
            rw [List.isEmpty_eq_false_iff]; intro e
            have : s.data.toList.length = 0 := by rw [e]; rfl
            rw [Array.length_toList] at this
            exact absurd (show s.size = 0 from this) (by omega)
          unfold Lp.allD; rw [HA.out, hne]; rfl
        obtain ⟨V, hV⟩ : ∃ V, Lp.dvf 0 s.data.toList = V := ⟨_, rfl⟩
        have HV := Lib.hid hV
        clear HD hV e0
        go_upto_block 2 with fail
        go_cut [0] (fun s0 wx => w = wx ∧ ∃ B : ByteArray, s0 = .string B ∧ 1 ≤ B.size ∧ B.size ≤ 9223372036854775807 ∧ Hid (B.data.toList.all Lp.isDig = true) ∧ Hid (Lp.dvf 0 B.data.toList = V) ∧ Hid (B.size = 1 ∨ ∃ h : 0 < B.size, B[0] ≠ 48))
        case first =>
          go_wp2_with fail
          go_loopg [0] s.size (fun gk s0 wr => w = wr ∧ ∃ B : ByteArray, s0 = .string B ∧ gk = B.size ∧ 1 ≤ B.size ∧ B.size ≤ 9223372036854775807 ∧ Hid (B.data.toList.all Lp.isDig = true) ∧ Hid (Lp.dvf 0 B.data.toList = V))
          case atStart => exact ⟨rfl, s, rfl, rfl, h1, hs, HA, HV⟩
          case round =>
            clear HA HV hs h1
            obtain ⟨rfl, B, rfl, rfl, hB1, hB2, HBA, HBV⟩ := hrel
            by_cases hB : B.size = 1
            · have hB3 : ¬ (1 : Int) < (B.size : Int) := by omega
              have HBE := Lib.hid hB
              clear hB
              go_wp2
              go_meet
              exact ⟨rfl, B, rfl, hB1, hB2, HBA, HBV, .inl HBE.out⟩
            · have hB3 : (1 : Int) < (B.size : Int) := by omega
              have hB0 : 0 < B.size := by omega
              by_cases hz : B[0] = 48
              · have hc : (B[0]'hB0).toNat = 48 := by rw [hz]; rfl
                have hd : (B.extract 1 B.size).data.toList = B.data.toList.drop 1 := by rw [Lib.extract_data]; rw [List.take_of_length_le (by simp)]
                have hdc : B.data.toList = 48 :: B.data.toList.drop 1 := by have := Lp.drop_cons B 0 hB0; rw [List.drop_zero] at this; rw [this, hz]; rfl
                have HA2 : Hid ((B.extract 1 B.size).data.toList.all Lp.isDig = true) := by
                  show _ = _
                  have := HBA.out
                  rw [hdc, List.all_cons, Bool.and_eq_true] at this
                  rw [hd]; exact this.2
                have HV2 : Hid (Lp.dvf 0 (B.extract 1 B.size).data.toList = V) := by
                  show _ = _
                  have := HBV.out
                  rw [hdc, Lp.dvf_zeros 0 _ rfl] at this
                  rw [hd]; exact this
                have hsz : (B.extract 1 B.size).size = B.size - 1 := by simp
                have HSZ := Lib.hid hsz
                clear hd hdc HBA HBV hB hsz hz
                go_wp2
                go_roundg (B.size - 1)
                case measure => omega
                case rel => exact ⟨rfl, B.extract 1 B.size, rfl, HSZ.out.symm, by rw [HSZ.out]; omega, by rw [HSZ.out]; omega, HA2, HV2⟩
              · have hc : ((B[0]'hB0).toNat : Int) ≠ 48 := fun g => hz (UInt8.toNat_inj.1 (by show _ = 48; omega))
                have hce : (((B[0]'hB0).toNat : Int) == 48) = false := beq_eq_false_iff_ne.2 hc
                have HZ := Lib.hid hz
                clear hB hz hc
                go_wp2
                go_meet
                exact ⟨rfl, B, rfl, hB1, hB2, HBA, HBV, .inr ⟨hB0, HZ.out⟩⟩
        case rest =>
          obtain ⟨rfl, B, rfl, hB1, hB2, HBA, HBV, HBX⟩ := hcut
          clear HA hs h1
          by_cases h20 : 19 < B.size
          · have hB0 : 0 < B.size := by omega
            have HF : Hid (¬ Lp.inR V) := by
              show ¬ _
              rw [← HBV.out]
              have hdc : B.data.toList = B[0] :: B.data.toList.drop 1 := by have := Lp.drop_cons B 0 hB0; rw [List.drop_zero] at this; exact this
              have hA := HBA.out
              rw [hdc] at hA ⊢
              refine Lp.many_out hA ?_ ?_
              · rcases HBX.out with h | ⟨_, h⟩
                · omega
                · exact h
              · rw [List.length_drop]; show 19 ≤ B.size - 1; omega
            have h20' : (19 : Int) < (B.size : Int) := by omega
            clear HBX
            go_wp2
            go_ret2
            exact rread_out Hall.out HV.out HF.out
          · have hcase : (B.size = 19 ∧ Op.bytesLess B.toList Lp.maxT = false ∧ (B.toList == Lp.maxT) = false ∧ ¬ Lp.inR V) ∨ (B.size = 19 ∧ Op.bytesLess B.toList Lp.maxT = true ∧ Lp.inR V) ∨ (B.size = 19 ∧ Op.bytesLess B.toList Lp.maxT = false ∧ (B.toList == Lp.maxT) = true ∧ Lp.inR V) ∨ (B.size ≤ 18 ∧ Lp.inR V) := by
              by_cases h19 : B.size = 19
              · have hbig := Lp.big19 HBA.out (show B.data.toList.length = 19 by simpa using h19)
                rw [HBV.out] at hbig
                have ht := less_turn B.data.toList Lp.maxT
                rw [ByteArray.toList_eq]
                cases h1 : Op.bytesLess B.data.toList Lp.maxT
                · cases h2 : B.data.toList == Lp.maxT
                  · rw [h1, h2] at ht
                    left; refine ⟨h19, rfl, rfl, fun g => ?_⟩
                    rw [hbig.1 g] at ht; cases ht
                  · rw [h1, h2] at ht
                    right; right; left; exact ⟨h19, rfl, rfl, hbig.2 ht.symm⟩
                · rw [h1] at ht
                  right; left; exact ⟨h19, rfl, hbig.2 ht.symm⟩
              · right; right; right
                refine ⟨by omega, ?_⟩
                rw [← HBV.out]
                exact Lp.few_in HBA.out (by show B.data.toList.length ≤ 18; rw [Array.length_toList]; show B.size ≤ 18; omega)
            have hn20 : ¬ (19 : Int) < (B.size : Int) := by omega
            clear h20 HBX
            unfold Lp.maxT at hcase
            rcases hcase with ⟨h19, hl, he, hi⟩ | ⟨h19, hl, hi⟩ | ⟨h19, hl, he, hi⟩ | ⟨h19, hi⟩
            · have e19 : ((B.size : Int) == 19) = true := by rw [h19]; rfl
              have HF := Lib.hid hi
              clear h19 hi
              go_wp2
              go_ret2
              exact rread_out Hall.out HV.out HF.out
            all_goals
              first
                | (have e19 : ((B.size : Int) == 19) = true := by rw [h19]; rfl)
                | (have e19 : ((B.size : Int) == 19) = false := beq_eq_false_iff_ne.2 (by omega))
              have HF := Lib.hid hi
              clear h19 hi
              go_wp2
              go_loop [5, 6] (fun s5 s6 => ∃ k : Nat, k ≤ B.size ∧ s6 = .int .i64 k ∧ s5 = .int .i64 (Lp.dvf 0 (B.data.toList.take k))) (fun _ s6 => B.size - (intOf s6).toNat)
              case atStart => exact ⟨0, Nat.zero_le _, rfl, rfl⟩
              case round =>
                obtain ⟨k, hk, rfl, rfl⟩ := hrel
                by_cases hlt : k < B.size
                · have hd := Lp.all_at B k hlt HBA.out
                  obtain ⟨hb1, hb2⟩ := Lp.isDig_bd hd
                  have hall : (B.data.toList.take k).all Lp.isDig = true := by
                    have := HBA.out; rw [List.all_eq_true] at *; intro x hx; exact this x (List.mem_of_mem_take hx)
                  have h0 := Lp.dvf_nonneg hall
                  have hN : Lp.dvf 0 (B.data.toList.take (k + 1)) = 10 * Lp.dvf 0 (B.data.toList.take k) + (((B[k]'hlt).toNat : Int) - 48) := by
                    rw [Lp.take_snoc B k hlt, Lp.dvf_snoc, Int.mul_comm]
                  have hin : Lp.inR (Lp.dvf 0 (B.data.toList.take (k + 1))) := by
                    apply Classical.byContradiction
                    intro g
                    have := Lp.out_of B (k + 1) HBA.out g
                    rw [HBV.out] at this
                    exact this HF.out
                  rw [hN] at hin
                  unfold Lp.inR at hin
                  have HN := Lib.hid hN
                  clear hN hd hall
                  obtain ⟨c, hc⟩ : ∃ c, (B[k]'hlt).toNat = c := ⟨_, rfl⟩
                  rw [hc] at HN hin hb1 hb2
                  generalize Lp.dvf 0 (B.data.toList.take k) = m at *
                  obtain ⟨hin1, hin2⟩ := hin
                  go_wp2
                  go_round
                  case rel => exact ⟨k + 1, by omega, by go_num, by rw [HN.out]⟩
                  case measure => simp [intOf]; omega
                · obtain rfl : k = B.size := by omega
                  have HE := Lib.hid (Lp.take_all B)
                  rw [HE.out, HBV.out]
                  go_wp2
                  go_ret2
                  exact rread_yes Hall.out HV.out HF.out
end Go.Proofs.YtmdmcfobdbccmaaDoor
