/-
 Contracts and laws, joined: PlainLess, Assert, TabPow, CalcDec, Ref1Size, Ref1Dec. Conditions: those of each.
-/
import Derived.Test.YtkfjmgmjbljnbaaGreatDoorBGB
import Derived.Lib.Strings
import Derived.Test.YtkfjmgmjbljnbaaGreatDoorRows
import Derived.KernelRfl
import Derived.WalkKit
import Derived.Below
import Derived.WalkSmall
import Derived.Lib.LaidU8
import Derived.Lib.LaidTab
import Derived.Lib.ItoaNum
import Derived.Test.YtkfjmgmjbljnbaaGreatDoorBShelf
import Derived.Test.YtkfjmgmjbljnbaaGreatDoorBGA
import Derived.WalkSpells
import Derived.WalkLawsBesides
import Derived.Lib.Hide
import Derived.Lib.AppendIntMem
import Derived.Deep.LoopGhost
set_option maxRecDepth 100000
set_option maxHeartbeats 8000000
namespace Go.Proofs.YtkfjmgmjbljnbaaGreatDoor.Lp
open Go.RowKit
end Go.Proofs.YtkfjmgmjbljnbaaGreatDoor.Lp
namespace Go.Proofs.YtkfjmgmjbljnbaaGreatDoor
open Go.RowKit
theorem ta_i_i (x : Int) (w : World) : (Instr.typeAssert (.iface 2 (.int .i64 x)) 20 2 true).run Tryz.prog w = .ok (.tuple #[.int .i64 x, .bool true]) w := by kernel_rfl
theorem ta_i_s (x : Int) (w : World) : (Instr.typeAssert (.iface 2 (.int .i64 x)) 20 9 true).run Tryz.prog w = .ok (.tuple #[.string ⟨#[]⟩, .bool false]) w := by kernel_rfl
theorem ta_i_b (x : Int) (w : World) : (Instr.typeAssert (.iface 2 (.int .i64 x)) 20 4 true).run Tryz.prog w = .ok (.tuple #[.bool false, .bool false]) w := by kernel_rfl
theorem ta1_i (x : Int) (w : World) : (Instr.typeAssert (.iface 2 (.int .i64 x)) 20 2 false).run Tryz.prog w = .ok (.int .i64 x) w := by kernel_rfl
theorem ta_s_i (x : ByteArray) (w : World) : (Instr.typeAssert (.iface 9 (.string x)) 20 2 true).run Tryz.prog w = .ok (.tuple #[.int .i64 0, .bool false]) w := by kernel_rfl
theorem ta_s_s (x : ByteArray) (w : World) : (Instr.typeAssert (.iface 9 (.string x)) 20 9 true).run Tryz.prog w = .ok (.tuple #[.string x, .bool true]) w := by kernel_rfl
theorem ta_s_b (x : ByteArray) (w : World) : (Instr.typeAssert (.iface 9 (.string x)) 20 4 true).run Tryz.prog w = .ok (.tuple #[.bool false, .bool false]) w := by kernel_rfl
theorem ta1_s (x : ByteArray) (w : World) : (Instr.typeAssert (.iface 9 (.string x)) 20 9 false).run Tryz.prog w = .ok (.string x) w := by kernel_rfl
theorem ta_b_i (x : Bool) (w : World) : (Instr.typeAssert (.iface 4 (.bool x)) 20 2 true).run Tryz.prog w = .ok (.tuple #[.int .i64 0, .bool false]) w := by kernel_rfl
theorem ta_b_s (x : Bool) (w : World) : (Instr.typeAssert (.iface 4 (.bool x)) 20 9 true).run Tryz.prog w = .ok (.tuple #[.string ⟨#[]⟩, .bool false]) w := by kernel_rfl
theorem ta_b_b (x : Bool) (w : World) : (Instr.typeAssert (.iface 4 (.bool x)) 20 4 true).run Tryz.prog w = .ok (.tuple #[.bool x, .bool true]) w := by kernel_rfl
theorem ta1_b (x : Bool) (w : World) : (Instr.typeAssert (.iface 4 (.bool x)) 20 4 false).run Tryz.prog w = .ok (.bool x) w := by kernel_rfl
theorem ta_n_i  (w : World) : (Instr.typeAssert (.nilIface) 20 2 true).run Tryz.prog w = .ok (.tuple #[.int .i64 0, .bool false]) w := by kernel_rfl
theorem ta_n_s  (w : World) : (Instr.typeAssert (.nilIface) 20 9 true).run Tryz.prog w = .ok (.tuple #[.string ⟨#[]⟩, .bool false]) w := by kernel_rfl
theorem ta_n_b  (w : World) : (Instr.typeAssert (.nilIface) 20 4 true).run Tryz.prog w = .ok (.tuple #[.bool false, .bool false]) w := by kernel_rfl
end Go.Proofs.YtkfjmgmjbljnbaaGreatDoor
namespace Go.Proofs.YtkfjmgmjbljnbaaGreatDoor
open Go.RowKit Go.Lib
def Pow (w : World) : Prop := Lib.TabIs Tryz.prog w "internal/strconv.uint64pow10" .u64 Lib.pow10Tab
theorem pow_below {w w' : World} (h : Pow w) (hb : Below w.heap.size w w') : Pow w' := by
 have hg : Tryz.prog.globalNamed "internal/strconv.uint64pow10" = some 4 := by kernel_rfl
 refine var?_below hb hg ?_ h
 unfold Pow Lib.TabIs World.var? at h
 simp only [hg, Option.bind_some] at h
 by_cases hlt : 4 < w.heap.size
 ·exact hlt
 ·rw [Array.getElem?_eq_none (by omega)] at h; cases h
theorem pow_reads {W : World} (h : Lib.VarReads Tryz.prog W "internal/strconv.uint64pow10" (Lib.tabData .u64 Lib.pow10Tab)) : Pow W := by
 obtain ⟨g, t, cs, fuel, p, hg, hty, hvar, hd⟩ := h
 obtain rfl := Option.some.inj ((show Tryz.prog.globalNamed "internal/strconv.uint64pow10" = some 4 by kernel_rfl).symm.trans hg)
 obtain rfl := Option.some.inj ((show (Tryz.prog.globals[4]?).map (·.type) = some 332 by kernel_rfl).symm.trans hty)
 unfold Pow Lib.TabIs
 rw [hvar, ← Lib.cells_of_tab Tryz.underlying332 Tryz.underlying108 (by kernel_rfl) (by kernel_rfl) hd]
def cell1 : DataW Unit → List Value
 | .lit (.int k z) => [.int k z]
 | _ => []
def cell2 : DataW Unit → List Value
 | .agg l => l.flatMap cell1
 | d => cell1 d
def cell3 : DataW Unit → List Value
 | .agg l => l.flatMap cell2
 | d => cell1 d
end Go.Proofs.YtkfjmgmjbljnbaaGreatDoor
namespace Go.Proofs.YtkfjmgmjbljnbaaGreatDoor
open Go.RowKit
theorem fmt_any (n : Int) (w : World) (h : Lp.inR n) (hP : Pow w) :
 Calls Tryz.prog 184 #[.int .i64 n, .int .i64 10] w fun e w' => e = .returned (.string ⟨(Lib.itoa n).toArray⟩) ∧ Below w.heap.size w w' := by
 unfold Lp.inR at h
 refine (Tryz.strconv_FormatInt_10 n (by omega) (by omega) w hP).mono ?_
 rintro e w' ⟨he, k, os, hw⟩
 subst hw
 exact ⟨he, Lib.below_grow _ _ (Nat.le_refl _) _ _⟩
theorem cdec_any (n : Int) (w : World) (h : Lp.inR n) (hP : Pow w) :
 Calls Tryz.prog 140 #[.int .i64 n] w fun e w' => e = .returned (.string ⟨(Lib.itoa n).toArray⟩) ∧ Below w.heap.size w w' := by
 go_enter Tryz.func140, Tryz.ntmps140
 go_wp2_with fail
 refine (fmt_any n w h hP).mono ?_
 rintro e w' ⟨rfl, hb⟩
 go_wp2
 go_ret
 exact ⟨rfl, hb⟩
end Go.Proofs.YtkfjmgmjbljnbaaGreatDoor
namespace Go.Proofs.YtkfjmgmjbljnbaaGreatDoor
open Go.RowKit
theorem rsize_any (n : Int) (w : World) (h : Lp.inR n) :
 Calls Tryz.prog 49 #[.int .i64 n] w fun e w' => e = .returned (.int .u64 (Lp.mag n)) ∧ w = w' := by
 obtain ⟨h1, h2⟩ := h
 by_cases hn : n < 0
 ·rw [Lp.mag_neg hn]
  go_enter Tryz.func49, Tryz.ntmps49
  go_wp2
  go_ret
  exact ⟨rfl, rfl⟩
 ·rw [Lp.mag_pos hn]
  have hn' : 0 ≤ n := by omega
  go_enter Tryz.func49, Tryz.ntmps49
  go_wp2
  go_ret
  exact ⟨rfl, rfl⟩
end Go.Proofs.YtkfjmgmjbljnbaaGreatDoor
namespace Go.Proofs.YtkfjmgmjbljnbaaGreatDoor
open Go.RowKit
theorem dec_piece (d : Nat) (h : d < 10) (T : List UInt8) : (⟨#[48, 49, 50, 51, 52, 53, 54, 55, 56, 57]⟩ : ByteArray).extract d (d + 1) ++ (⟨T.toArray⟩ : ByteArray) = ⟨(Lp.digc d :: T).toArray⟩ := by
 have e : (⟨#[48, 49, 50, 51, 52, 53, 54, 55, 56, 57]⟩ : ByteArray).extract d (d + 1) = ⟨#[Lp.digc d]⟩ := by
  rcases (show d = 0 ∨ d = 1 ∨ d = 2 ∨ d = 3 ∨ d = 4 ∨ d = 5 ∨ d = 6 ∨ d = 7 ∨ d = 8 ∨ d = 9 by omega) with rfl | rfl | rfl | rfl | rfl | rfl | rfl | rfl | rfl | rfl <;> rfl
 rw [e]
 apply ByteArray.ext
 simp
theorem minus_piece (T : List UInt8) : (⟨#[45]⟩ : ByteArray) ++ (⟨T.toArray⟩ : ByteArray) = ⟨(45 :: T).toArray⟩ := by
 apply ByteArray.ext
 simp
theorem dec_bound {M k : Nat} (h : M < 10 ^ (20 - k)) (hk : k ≤ 20) (hM : 0 < M) : M / 10 < 10 ^ (20 - (k + 1)) ∧ k + 1 ≤ 20 := by
 have hk2 : k < 20 := by
  apply Nat.lt_of_le_of_ne hk
  intro e; subst e; simp at h; omega
 have e : 20 - k = (20 - (k + 1)) + 1 := by omega
 rw [e, Nat.pow_succ] at h
 exact ⟨by omega, hk2⟩
theorem rdec_any (n : Int) (w : World) (h : Lp.inR n) :
 Calls Tryz.prog 71 #[.int .i64 n] w fun e w' => e = .returned (.string ⟨(Lib.itoa n).toArray⟩) ∧ w = w' := by
 have hm := Lp.mag_abs n
 have hml := Lp.mag_le h
 have hsz := rsize_any n w h
 rw [hm] at hsz hml
 obtain ⟨U, hU⟩ : ∃ U, n.natAbs = U := ⟨_, rfl⟩
 rw [hU] at hsz hml
 have HU := Lib.hid hU
 have HS := Lib.hid hsz
 clear hm hU hsz
 go_enter Tryz.func71, Tryz.ntmps71
 go_wp2_with fail
 refine (HS.out).mono ?_
 rintro e w' ⟨rfl, rfl⟩
 go_wp2_with fail
 go_loopg [3, 4] (U + 1) (fun gk s3 s4 wr => ∃ (T : List UInt8) (M : Nat), w = wr ∧ s3 = .string ⟨T.toArray⟩ ∧ s4 = .int .u64 (M : Int) ∧ M ≤ 9223372036854775808 ∧ T.length ≤ 20 ∧ Hid (M < 10 ^ (20 - T.length)) ∧ Hid (Lp.DecInv U T M) ∧ Hid (gk = M + (if T = [] then 1 else 0)))
 case atStart => exact ⟨[], U, rfl, rfl, rfl, by omega, by simp, by (show _ < _; simp; omega), Lp.dec_start U, by rfl⟩
 case round =>
  obtain ⟨T, M, rfl, rfl, rfl, hM, hTl, HB, HD, HG⟩ := hrel
  have hd0 : (0 : Int) ≤ (M : Int) % 10 := by omega
  have hd1 : (M : Int) % 10 + 1 ≤ 10 := by omega
  have hd2 : ((M : Int) % 10).toNat = M % 10 := by omega
  have hd3 : ((M : Int) % 10 + 1).toNat = M % 10 + 1 := by omega
  have hp := dec_piece (M % 10) (by omega) T
  by_cases hM0 : 0 < M
  ·have HD2 := Lib.hid (Lp.dec_step HD.out (.inl hM0))
   obtain ⟨hb1, hb2⟩ := dec_bound HB.out hTl hM0
   have HB2 : Hid (M / 10 < 10 ^ (20 - (Lp.digc (M % 10) :: T).length)) := by show _ < _; rw [List.length_cons]; exact hb1
   have hlt : Hid (M / 10 + 0 < gk) := by
    show _ < _
    rw [HG.out]; split <;> omega
   have hM1 : (0 : Int) < (M : Int) := by omega
   clear HG HD HB hb1
   go_wp2
   go_roundg (M / 10)
   case measure => have := hlt.out; omega
   case rel => exact ⟨Lp.digc (M % 10) :: T, M / 10, rfl, rfl, rfl, by omega, by rw [List.length_cons]; exact hb2, HB2, HD2, by show _ = _; simp⟩
  ·obtain rfl : M = 0 := by omega
   by_cases hT : T = []
   ·subst hT
    have HD2 := Lib.hid (Lp.dec_step HD.out (.inr rfl))
    have hp0 : (⟨#[48, 49, 50, 51, 52, 53, 54, 55, 56, 57]⟩ : ByteArray).extract 0 1 ++ (⟨#[]⟩ : ByteArray) = ⟨#[48]⟩ := rfl
    have hg : Hid (gk = 1) := by have := HG.out; show _ = _; simpa using this
    clear HG HD hp
    go_wp2
    go_roundg 0
    case measure => have := hg.out; omega
    case rel => exact ⟨[48], 0, rfl, rfl, rfl, by omega, by simp, by (show _ < _; simp), HD2, by show _ = _; simp⟩
   ·have HE := Lib.hid (Lp.dec_end HD.out hT)
    have e1 : (⟨T.toArray⟩ : ByteArray).toList = T := by rw [ByteArray.toList_eq]
    have hmp := minus_piece T
    have e2 : T.isEmpty = false := by cases T with | nil => exact absurd rfl hT | cons => rfl
    clear HG HD hT hp
    by_cases hn : n < 0
    ·have HF : Hid ((⟨(45 :: T).toArray⟩ : ByteArray) = ⟨(Lib.itoa n).toArray⟩) := by
      show _ = _
      rw [Lib.itoa, if_pos hn, HU.out, HE.out]
     go_wp2
     go_ret
     exact ⟨by rw [← HF.out]; rfl, rfl⟩
    ·have HF : Hid ((⟨T.toArray⟩ : ByteArray) = ⟨(Lib.itoa n).toArray⟩) := by
      show _ = _
      rw [Lib.itoa, if_neg hn, show n.toNat = n.natAbs by omega, HU.out, HE.out]
     go_wp2
     go_ret
     exact ⟨by rw [← HF.out]; rfl, rfl⟩
end Go.Proofs.YtkfjmgmjbljnbaaGreatDoor
