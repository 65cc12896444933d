/-
  Contracts and laws, joined: PlainLess, Assert, TabPow, CalcDec, Ref1Size, Ref1Dec. Conditions: those of each.
-/
import Derived.Test.YtkfjmgmjbljnbaaGreatDoorGB
import Derived.Lib.Strings
import Derived.Test.YtkfjmgmjbljnbaaGreatDoorRows
import Derived.KernelRfl
import Derived.WalkKit
import Derived.Below
import Derived.WalkSmall
import Derived.Lib.LaidU8
import Derived.Lib.LaidTab
import Derived.Lib.ItoaNum
import Derived.Test.YtkfjmgmjbljnbaaGreatDoorShelf
import Derived.Test.YtkfjmgmjbljnbaaGreatDoorGA
import Derived.WalkSpells
import Derived.WalkLawsBesides
import Derived.Lib.Hide
import Derived.Lib.AppendIntMem
import Derived.Deep.LoopGhost
namespace Go.Proofs.YtkfjmgmjbljnbaaGreatDoor.Lp
open Go.RowKit

theorem less_cons (x y : UInt8) (a b : List UInt8) : Op.bytesLess (x :: a) (y :: b) = (decide (x < y) || (x == y && Op.bytesLess a b)) := by
  simp [Op.bytesLess]
theorem less_nil_r (a : List UInt8) : Op.bytesLess a [] = false := by cases a <;> rfl
theorem less_nil_l (y : UInt8) (b : List UInt8) : Op.bytesLess [] (y :: b) = true := rfl
/-- Which kinds stand ahead, and false ahead of true. -/
def place (v : V) : Int := if v.k = 3 then (if v.b then 2 else 1) else if v.k = 1 then 3 else if v.k = 2 then 4 else 0
def vless (u v : V) : Bool :=
  if place u ≠ place v then decide (place u < place v)
  else (decide (u.k = 1) && decide (u.i < v.i)) || (decide (u.k = 2) && Op.bytesLess u.s.data.toList v.s.data.toList)
def vsame (u v : V) : Bool := !vless u v && !vless v u

theorem less_irrefl (l : List UInt8) : Op.bytesLess l l = false := by
  induction l with
  | nil => rfl
  | cons x l ih => rw [less_cons, ih]; simp [UInt8.lt_irrefl]
/-- Of two texts one is less, or they are the same. -/
theorem less_total (s t : List UInt8) : (s == t) = (!Op.bytesLess s t && !Op.bytesLess t s) := by
  induction s generalizing t with
  | nil => cases t with
    | nil => rfl
    | cons b t => rw [less_nil_l]; rfl
  | cons a s ih =>
    cases t with
    | nil => rw [less_nil_l, Bool.not_true, Bool.and_false]; rfl
    | cons b t =>
      rw [less_cons, less_cons]
      by_cases h1 : a < b
      · have h2 : (a == b) = false := by rw [beq_eq_false_iff_ne]; rintro rfl; exact UInt8.lt_irrefl _ h1
        simp [h1, h2]
      · by_cases h2 : b < a
        · have h3 : (a == b) = false := by rw [beq_eq_false_iff_ne]; rintro rfl; exact UInt8.lt_irrefl _ h2
          simp [h2, h3]
        · have h3 : a = b := UInt8.le_antisymm (UInt8.not_lt.1 h2) (UInt8.not_lt.1 h1)
          subst h3
          have := ih t
          simp [UInt8.lt_irrefl, this]
theorem less_asymm {s t : List UInt8} (h : Op.bytesLess s t = true) : Op.bytesLess t s = false := by
  induction s generalizing t with
  | nil => cases t with
    | nil => cases h
    | cons b t => exact less_nil_r _
  | cons a s ih =>
    cases t with
    | nil => rw [less_nil_r] at h; cases h
    | cons b t =>
      rw [less_cons] at h ⊢
      by_cases h1 : a < b
      · have h2 : ¬ b < a := UInt8.lt_asymm h1
        have h3 : (b == a) = false := by rw [beq_eq_false_iff_ne]; rintro rfl; exact UInt8.lt_irrefl _ h1
        simp [h2, h3]
      · simp only [h1, decide_false, Bool.false_or, Bool.and_eq_true, beq_iff_eq] at h
        obtain ⟨rfl, h2⟩ := h
        simp [UInt8.lt_irrefl, ih h2]
/-- The order is one-sided. -/
theorem vless_not {u v : V} (h : vless u v = true) : vless v u = false := by
  unfold vless at *
  by_cases hp : place u = place v
  · simp only [hp, ne_eq, not_true_eq_false, if_false] at h ⊢
    rw [Bool.or_eq_true, Bool.and_eq_true, Bool.and_eq_true] at h
    rcases h with ⟨h1, h2⟩ | ⟨h1, h2⟩
    · have k1 : u.k = 1 := by simpa using h1
      have i1 : u.i < v.i := by simpa using h2
      have k2 : v.k ≠ 2 := by
        intro e; simp [place, k1, e] at hp
      simp [k2]; intro _; omega
    · have k1 : u.k = 2 := by simpa using h1
      have k2 : v.k ≠ 1 := by
        intro e; simp [place, k1, e] at hp
      have et := less_total v.s.data.toList u.s.data.toList
      rw [h2] at et
      have hne : v.s.data.toList ≠ u.s.data.toList := by
        intro e; rw [e, less_irrefl] at h2; cases h2
      have l2 : Op.bytesLess v.s.data.toList u.s.data.toList = false := by
        cases h3 : Op.bytesLess v.s.data.toList u.s.data.toList
        · rfl
        · exact absurd (less_asymm h2) (by rw [h3]; simp)
      simp [k2, l2]
  · have hq : ¬ place v = place u := fun e => hp e.symm
    simp only [hp, hq, ne_eq, not_false_eq_true, if_true] at h ⊢
    simp only [decide_eq_true_iff, decide_eq_false_iff_not] at h ⊢; omega
theorem vsame_comm (u v : V) : vsame u v = vsame v u := by unfold vsame; rw [Bool.and_comm]
theorem vless_turn {u v : V} (h : vsame u v = false) : vless v u = !vless u v := by
  cases h1 : vless u v
  · cases h2 : vless v u
    · unfold vsame at h; rw [h1, h2] at h; cases h
    · rfl
  · rw [vless_not h1]; rfl
end Go.Proofs.YtkfjmgmjbljnbaaGreatDoor.Lp
namespace Go.Proofs.YtkfjmgmjbljnbaaGreatDoor
open Go.RowKit

theorem ta_i_i (x : Int) (w : World) : (Instr.typeAssert (.iface 2 (.int .i64 x)) 20 2 true).run Tryz.prog w = .ok (.tuple #[.int .i64 x, .bool true]) w := by kernel_rfl
theorem ta_i_s (x : Int) (w : World) : (Instr.typeAssert (.iface 2 (.int .i64 x)) 20 9 true).run Tryz.prog w = .ok (.tuple #[.string ⟨#[]⟩, .bool false]) w := by kernel_rfl
theorem ta_i_b (x : Int) (w : World) : (Instr.typeAssert (.iface 2 (.int .i64 x)) 20 4 true).run Tryz.prog w = .ok (.tuple #[.bool false, .bool false]) w := by kernel_rfl
theorem ta1_i (x : Int) (w : World) : (Instr.typeAssert (.iface 2 (.int .i64 x)) 20 2 false).run Tryz.prog w = .ok (.int .i64 x) w := by kernel_rfl
theorem ta_s_i (x : ByteArray) (w : World) : (Instr.typeAssert (.iface 9 (.string x)) 20 2 true).run Tryz.prog w = .ok (.tuple #[.int .i64 0, .bool false]) w := by kernel_rfl
theorem ta_s_s (x : ByteArray) (w : World) : (Instr.typeAssert (.iface 9 (.string x)) 20 9 true).run Tryz.prog w = .ok (.tuple #[.string x, .bool true]) w := by kernel_rfl
theorem ta_s_b (x : ByteArray) (w : World) : (Instr.typeAssert (.iface 9 (.string x)) 20 4 true).run Tryz.prog w = .ok (.tuple #[.bool false, .bool false]) w := by kernel_rfl
theorem ta1_s (x : ByteArray) (w : World) : (Instr.typeAssert (.iface 9 (.string x)) 20 9 false).run Tryz.prog w = .ok (.string x) w := by kernel_rfl
theorem ta_b_i (x : Bool) (w : World) : (Instr.typeAssert (.iface 4 (.bool x)) 20 2 true).run Tryz.prog w = .ok (.tuple #[.int .i64 0, .bool false]) w := by kernel_rfl
theorem ta_b_s (x : Bool) (w : World) : (Instr.typeAssert (.iface 4 (.bool x)) 20 9 true).run Tryz.prog w = .ok (.tuple #[.string ⟨#[]⟩, .bool false]) w := by kernel_rfl
theorem ta_b_b (x : Bool) (w : World) : (Instr.typeAssert (.iface 4 (.bool x)) 20 4 true).run Tryz.prog w = .ok (.tuple #[.bool x, .bool true]) w := by kernel_rfl
theorem ta1_b (x : Bool) (w : World) : (Instr.typeAssert (.iface 4 (.bool x)) 20 4 false).run Tryz.prog w = .ok (.bool x) w := by kernel_rfl
theorem ta_n_i  (w : World) : (Instr.typeAssert (.nilIface) 20 2 true).run Tryz.prog w = .ok (.tuple #[.int .i64 0, .bool false]) w := by kernel_rfl
theorem ta_n_s  (w : World) : (Instr.typeAssert (.nilIface) 20 9 true).run Tryz.prog w = .ok (.tuple #[.string ⟨#[]⟩, .bool false]) w := by kernel_rfl
theorem ta_n_b  (w : World) : (Instr.typeAssert (.nilIface) 20 4 true).run Tryz.prog w = .ok (.tuple #[.bool false, .bool false]) w := by kernel_rfl
end Go.Proofs.YtkfjmgmjbljnbaaGreatDoor
namespace Go.Proofs.YtkfjmgmjbljnbaaGreatDoor
open Go.RowKit Go.Lib

/-- The table of the powers of ten is as its text lays it. -/
def Pow (w : World) : Prop := Lib.TabIs Tryz.prog w "internal/strconv.uint64pow10" .u64 Lib.pow10Tab
theorem pow_below {w w' : World} (h : Pow w) (hb : Below w.heap.size w w') : Pow w' := by
  have hg : Tryz.prog.globalNamed "internal/strconv.uint64pow10" = some 4 := by kernel_rfl
  refine var?_below hb hg ?_ h
  unfold Pow Lib.TabIs World.var? at h
  simp only [hg, Option.bind_some] at h
  by_cases hlt : 4 < w.heap.size
  · exact hlt
  · rw [Array.getElem?_eq_none (by omega)] at h; cases h
theorem pow_alloc {w : World} (h : Pow w) (o : Obj) : Pow (w.alloc o) := pow_below h ((Below.refl _ _).alloc (Nat.le_refl _) o)
theorem pow_reads {W : World} (h : Lib.VarReads Tryz.prog W "internal/strconv.uint64pow10" (Lib.tabData .u64 Lib.pow10Tab)) : Pow W := by
  obtain ⟨g, t, cs, fuel, p, hg, hty, hvar, hd⟩ := h
  obtain rfl := Option.some.inj ((show Tryz.prog.globalNamed "internal/strconv.uint64pow10" = some 4 by kernel_rfl).symm.trans hg)
  obtain rfl := Option.some.inj ((show (Tryz.prog.globals[4]?).map (·.type) = some 332 by kernel_rfl).symm.trans hty)
  unfold Pow Lib.TabIs
  rw [hvar, ← Lib.cells_of_tab Tryz.underlying332 Tryz.underlying108 (by kernel_rfl) (by kernel_rfl) hd]

/-- A listed table's cells, for the witness. -/
def cell1 : DataW Unit → List Value
  | .lit (.int k z) => [.int k z]
  | _ => []
def cell2 : DataW Unit → List Value
  | .agg l => l.flatMap cell1
  | d => cell1 d
def cell3 : DataW Unit → List Value
  | .agg l => l.flatMap cell2
  | d => cell1 d
end Go.Proofs.YtkfjmgmjbljnbaaGreatDoor
namespace Go.Proofs.YtkfjmgmjbljnbaaGreatDoor
open Go.RowKit

theorem fmt_any (n : Int) (w : World) (h : Lp.inR n) (hP : Pow w) :
    Calls Tryz.prog 184 #[.int .i64 n, .int .i64 10] w fun e w' => e = .returned (.string ⟨(Lib.itoa n).toArray⟩) ∧ Below w.heap.size w w' := by
  unfold Lp.inR at h
  refine (Tryz.strconv_FormatInt_10 n (by omega) (by omega) w hP).mono ?_
  rintro e w' ⟨he, k, os, hw⟩
  subst hw
  exact ⟨he, Lib.below_grow _ _ (Nat.le_refl _) _ _⟩
theorem cdec_any (n : Int) (w : World) (h : Lp.inR n) (hP : Pow w) :
    Calls Tryz.prog 140 #[.int .i64 n] w fun e w' => e = .returned (.string ⟨(Lib.itoa n).toArray⟩) ∧ Below w.heap.size w w' := by
  go_enter Tryz.func140, Tryz.ntmps140
  go_wp2_with fail
  refine (fmt_any n w h hP).mono ?_
  rintro e w' ⟨rfl, hb⟩
  go_wp2
  go_ret
  exact ⟨rfl, hb⟩
end Go.Proofs.YtkfjmgmjbljnbaaGreatDoor
namespace Go.Proofs.YtkfjmgmjbljnbaaGreatDoor
open Go.RowKit

theorem rsize_any (n : Int) (w : World) (h : Lp.inR n) :
    Calls Tryz.prog 49 #[.int .i64 n] w fun e w' => e = .returned (.int .u64 (Lp.mag n)) ∧ w = w' := by
  obtain ⟨h1, h2⟩ := h
  by_cases hn : n < 0
  · rw [Lp.mag_neg hn]
    go_enter Tryz.func49, Tryz.ntmps49
    go_wp2
    go_ret
    exact ⟨rfl, rfl⟩
  · rw [Lp.mag_pos hn]
    have hn' : 0 ≤ n := by omega
    go_enter Tryz.func49, Tryz.ntmps49
    go_wp2
    go_ret
    exact ⟨rfl, rfl⟩

end Go.Proofs.YtkfjmgmjbljnbaaGreatDoor
namespace Go.Proofs.YtkfjmgmjbljnbaaGreatDoor
open Go.RowKit

theorem dec_piece (d : Nat) (h : d < 10) (T : List UInt8) : (⟨#[48, 49, 50, 51, 52, 53, 54, 55, 56, 57]⟩ : ByteArray).extract d (d + 1) ++ (⟨T.toArray⟩ : ByteArray) = ⟨(Lp.digc d :: T).toArray⟩ := by
  have e : (⟨#[48, 49, 50, 51, 52, 53, 54, 55, 56, 57]⟩ : ByteArray).extract d (d + 1) = ⟨#[Lp.digc d]⟩ := by
    rcases (show d = 0 ∨ d = 1 ∨ d = 2 ∨ d = 3 ∨ d = 4 ∨ d = 5 ∨ d = 6 ∨ d = 7 ∨ d = 8 ∨ d = 9 by omega) with rfl | rfl | rfl | rfl | rfl | rfl | rfl | rfl | rfl | rfl <;> rfl
  rw [e]
  apply ByteArray.ext
  simp
theorem minus_piece (T : List UInt8) : (⟨#[45]⟩ : ByteArray) ++ (⟨T.toArray⟩ : ByteArray) = ⟨(45 :: T).toArray⟩ := by
  apply ByteArray.ext
  simp
theorem dec_bound {M k : Nat} (h : M < 10 ^ (20 - k)) (hk : k ≤ 20) (hM : 0 < M) : M / 10 < 10 ^ (20 - (k + 1)) ∧ k + 1 ≤ 20 := by
  have hk2 : k < 20 := by
    apply Nat.lt_of_le_of_ne hk
    intro e; subst e; simp at h; omega
  have e : 20 - k = (20 - (k + 1)) + 1 := by omega
  rw [e, Nat.pow_succ] at h
  exact ⟨by omega, hk2⟩
set_option maxRecDepth 100000 in
set_option maxHeartbeats 4000000 in
theorem rdec_any (n : Int) (w : World) (h : Lp.inR n) :
    Calls Tryz.prog 71 #[.int .i64 n] w fun e w' => e = .returned (.string ⟨(Lib.itoa n).toArray⟩) ∧ w = w' := by
  have hm := Lp.mag_abs n
  have hml := Lp.mag_le h
  have hsz := rsize_any n w h
  rw [hm] at hsz hml
  obtain ⟨U, hU⟩ : ∃ U, n.natAbs = U := ⟨_, rfl⟩
  rw [hU] at hsz hml
  have HU := Lib.hid hU
  have HS := Lib.hid hsz
  clear hm hU hsz
  go_enter Tryz.func71, Tryz.ntmps71
  go_wp2_with fail
  refine (HS.out).mono ?_
  rintro e w' ⟨rfl, rfl⟩
  go_wp2_with fail
  go_loopg [3, 4] (U + 1) (fun gk s3 s4 wr => ∃ (T : List UInt8) (M : Nat), w = wr ∧ s3 = .string ⟨T.toArray⟩ ∧ s4 = .int .u64 (M : Int) ∧ M ≤ 9223372036854775808 ∧ T.length ≤ 20 ∧ Hid (M < 10 ^ (20 - T.length)) ∧ Hid (Lp.DecInv U T M) ∧ Hid (gk = M + (if T = [] then 1 else 0)))
  case atStart => exact ⟨[], U, rfl, rfl, rfl, by omega, by simp, by (show _ < _; simp; omega), Lp.dec_start U, by rfl⟩
  case round =>
    obtain ⟨T, M, rfl, rfl, rfl, hM, hTl, HB, HD, HG⟩ := hrel
    have hd0 : (0 : Int) ≤ (M : Int) % 10 := by omega
    have hd1 : (M : Int) % 10 + 1 ≤ 10 := by omega
    have hd2 : ((M : Int) % 10).toNat = M % 10 := by omega
    have hd3 : ((M : Int) % 10 + 1).toNat = M % 10 + 1 := by omega
    have hp := dec_piece (M % 10) (by omega) T
    by_cases hM0 : 0 < M
    · have HD2 := Lib.hid (Lp.dec_step HD.out (.inl hM0))
      obtain ⟨hb1, hb2⟩ := dec_bound HB.out hTl hM0
      have HB2 : Hid (M / 10 < 10 ^ (20 - (Lp.digc (M % 10) :: T).length)) := by show _ < _; rw [List.length_cons]; exact hb1
      have hlt : Hid (M / 10 + 0 < gk) := by
        show _ < _
        rw [HG.out]; split <;> omega
      have hM1 : (0 : Int) < (M : Int) := by omega
      clear HG HD HB hb1
      go_wp2
      go_roundg (M / 10)
      case measure => have := hlt.out; omega
      case rel => exact ⟨Lp.digc (M % 10) :: T, M / 10, rfl, rfl, rfl, by omega, by rw [List.length_cons]; exact hb2, HB2, HD2, by show _ = _; simp⟩
    · obtain rfl : M = 0 := by omega
      by_cases hT : T = []
      · subst hT
        have HD2 := Lib.hid (Lp.dec_step HD.out (.inr rfl))
        have hp0 : (⟨#[48, 49, 50, 51, 52, 53, 54, 55, 56, 57]⟩ : ByteArray).extract 0 1 ++ (⟨#[]⟩ : ByteArray) = ⟨#[48]⟩ := rfl
        have hg : Hid (gk = 1) := by have := HG.out; show _ = _; simpa using this
        clear HG HD hp
        go_wp2
        go_roundg 0
        case measure => have := hg.out; omega
        case rel => exact ⟨[48], 0, rfl, rfl, rfl, by omega, by simp, by (show _ < _; simp), HD2, by show _ = _; simp⟩
      · have HE := Lib.hid (Lp.dec_end HD.out hT)
        have e1 : (⟨T.toArray⟩ : ByteArray).toList = T := by rw [ByteArray.toList_eq]
        have hmp := minus_piece T
        have e2 : T.isEmpty = false := by cases T with | nil => exact absurd rfl hT | cons => rfl
        clear HG HD hT hp
        by_cases hn : n < 0
        · have HF : Hid ((⟨(45 :: T).toArray⟩ : ByteArray) = ⟨(Lib.itoa n).toArray⟩) := by
            show _ = _
            rw [Lib.itoa, if_pos hn, HU.out, HE.out]
          go_wp2
          go_ret
          exact ⟨by rw [← HF.out]; rfl, rfl⟩
        · have HF : Hid ((⟨T.toArray⟩ : ByteArray) = ⟨(Lib.itoa n).toArray⟩) := by
            show _ = _
            rw [Lib.itoa, if_neg hn, show n.toNat = n.natAbs by omega, HU.out, HE.out]
          go_wp2
          go_ret
          exact ⟨by rw [← HF.out]; rfl, rfl⟩
end Go.Proofs.YtkfjmgmjbljnbaaGreatDoor
