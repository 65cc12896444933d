/-
  The walk of CalcReads: it returns true, of any text and any number. Condition: the table of the powers of ten as laid.
-/
import Derived.Test.YtalmbcbcabkioaaDoorAwakeA
import Derived.Test.YtalmbcbcabkioaaDoorRef1Read
import Derived.Test.YtalmbcbcabkioaaDoorRef1Dec
import Derived.Test.YtalmbcbcabkioaaDoorCalcDec
namespace Go.Proofs.YtalmbcbcabkioaaDoor
open Go.RowKit

theorem str_self (s : ByteArray) : (s.toList == s.toList) = true := by simp
set_option maxRecDepth 100000 in
set_option maxHeartbeats 4000000 in
theorem calcReads_walk (s : ByteArray) (n : Int) (w : World) (hs : s.size ≤ 9223372036854775807) (hn : Lp.inR n) (hP : Pow w) :
    Calls Tryd.prog 3 #[.string s, .int .i64 n] w fun e w' => e = .returned (.bool true) ∧ Below w.heap.size w w' := by
  have HN := Lib.hid hn
  go_enter Tryd.func3, Tryd.ntmps3
  go_wp2_with fail
  refine (awake1_any w).mono ?_
  rintro e w1 ⟨rfl, hb1⟩
  have hP1 := pow_below hP hb1
  clear hP
  go_wp2_with fail
  refine (read_any s w1).mono ?_
  rintro e w2 ⟨rfl, hb2⟩
  have hP2 := pow_below hP1 hb2
  have hbw2 := hb1.trans (hb2.mono hb1.size)
  clear hb1 hb2 hP1
  go_wp2_with fail
  refine (rread_any s w2 hs).mono ?_
  rintro e w' ⟨rfl, rfl⟩
  generalize Lp.readV s.data.toList = V at *
  generalize Lp.readE s.data.toList = E at *
  have hVV : (V == V) = true := by simp
  have hEE : (E == E) = true := by simp
  go_wp2_with fail
  refine (cdec_any n w2 hn hP2).mono ?_
  rintro e w3 ⟨rfl, hb3⟩
  have hbw3 := hbw2.trans (hb3.mono hbw2.size)
  clear hb3 hbw2 hP2
  go_wp2_with fail
  refine (read_any _ w3).mono ?_
  rintro e w4 ⟨rfl, hb4⟩
  have hbw4 := hbw3.trans (hb4.mono hbw3.size)
  clear hb4 hbw3
  have e1 : (⟨(Lib.itoa n).toArray⟩ : ByteArray).data.toList = Lib.itoa n := rfl
  rw [e1]
  clear e1
  rcases Int.lt_or_le n 0 with h0 | h0
  · have hE3 := Lp.read_itoa_neg h0
    rw [hE3]
    clear hE3
    generalize Lp.readV (Lib.itoa n) = X at *
    have hnn : ¬ 0 ≤ n := by omega
    go_wp2_with fail
    refine (rdec_any n w4 HN.out).mono ?_
    rintro e w' ⟨rfl, rfl⟩
    generalize (⟨(Lib.itoa n).toArray⟩ : ByteArray) = S at *
    have hss := str_self S
    go_wp2
    go_ret
    exact ⟨rfl, hbw4⟩
  · obtain ⟨hV2, hE2⟩ := Lp.read_itoa h0 hn
    rw [hV2, hE2]
    clear hV2 hE2
    go_wp2_with fail
    refine (rdec_any n w4 HN.out).mono ?_
    rintro e w' ⟨rfl, rfl⟩
    generalize (⟨(Lib.itoa n).toArray⟩ : ByteArray) = S at *
    have hss := str_self S
    have hnn : (n == n) = true := by simp
    go_wp2
    go_ret
    exact ⟨rfl, hbw4⟩
end Go.Proofs.YtalmbcbcabkioaaDoor
