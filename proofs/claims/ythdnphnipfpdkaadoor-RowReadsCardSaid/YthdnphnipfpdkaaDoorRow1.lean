/-
  What row's right, size and Fits tell, of any kinds and any values; lapidaryref04's Right; the law's kinds. Conditions: unicode/utf8's tables as laid; at most 2^30 values.
-/
import Derived.Test.YthdnphnipfpdkaaDoorKeyBytes
import Derived.Test.YthdnphnipfpdkaaDoorPlainRow
import Derived.Deep.QuietTactic
import Derived.BigQuiet
namespace Go.Proofs.YthdnphnipfpdkaaDoor
open Go.RowKit

theorem retB {a b : Bool} (h : a = b) : Ending.returned (.bool a) = .returned (.bool b) := by rw [h]
def kbad (k : UInt8) : Bool := decide (k.toNat = 0) || decide (3 < k.toNat)
theorem kfun_no (k : UInt8) (w : World) (h : kbad k = false) : Calls Tryd.prog 53 #[.int .u8 k.toNat] w fun e w' => e = .returned (.bool false) ∧ w = w' := by
  have h1 : ¬ k.toNat = 0 ∧ ¬ 3 < k.toNat := by simpa [kbad] using h
  obtain ⟨h2, h3⟩ := h1
  have e1 : ((k.toNat : Int) == 0) = false := by simpa using (by omega : ¬ (k.toNat : Int) = 0)
  have e2 : decide ((3 : Int) < (k.toNat : Int)) = false := by simp; omega
  clear h
  go_enter Tryd.func53, Tryd.ntmps53
  go_wp2
  go_ret
  exact ⟨rfl, rfl⟩
theorem kfun_yes (k : UInt8) (w : World) (h : kbad k = true) : Calls Tryd.prog 53 #[.int .u8 k.toNat] w fun e w' => e = .returned (.bool true) ∧ w = w' := by
  by_cases h0 : k.toNat = 0
  · rw [h0]
    clear h h0
    go_enter Tryd.func53, Tryd.ntmps53
    go_wp2
    go_ret
    exact ⟨rfl, rfl⟩
  · have h3 : 3 < k.toNat := by simpa [kbad, h0] using h
    have e1 : ((k.toNat : Int) == 0) = false := by simpa using (by omega : ¬ (k.toNat : Int) = 0)
    have e2 : decide ((3 : Int) < (k.toNat : Int)) = true := by simp; omega
    clear h h0
    go_enter Tryd.func53, Tryd.ntmps53
    go_wp2
    go_ret
    exact ⟨rfl, rfl⟩

/-- The first that is no kind. -/
def KindAt (e : Ending) : Prop := ∃ n : Nat, e = .returned (.int .i64 n)
theorem idxf_no (A : Option Addr) (c : Nat) (l : List UInt8) (w : World) (h : Rds w A (bv l)) (hn : l.length ≤ 70368744177664) (hl : ∀ k ∈ l, kbad k = false) :
    Calls Tryd.prog 57 #[.slice A l.length c, .func (.func 53) #[] #[]] w fun e w' => e = .returned (.int .i64 (-1)) ∧ w = w' := by
  have HL := Lib.hid hl
  clear hl
  go_enter Tryd.func57, Tryd.ntmps57
  go_wp2_with fail
  go_loop [5, 8] (fun _ s8 => ∃ i : Nat, i ≤ l.length ∧ s8 = .int .i64 i) (fun _ s8 => l.length - (intOf s8).toNat)
  case atStart => exact ⟨0, Nat.zero_le _, rfl⟩
  case round =>
    obtain ⟨i, hi, rfl⟩ := hrel
    by_cases hlt : i < l.length
    · obtain ⟨b, off, rfl, q0⟩ := h.at_ (bv_at hlt)
      have HK := Lib.hid (HL.out l[i] (List.getElem_mem hlt))
      generalize l[i] = k at *
      go_wp2_with fail
      refine (kfun_no k _ HK.out).mono ?_
      rintro e w' ⟨rfl, rfl⟩
      go_wp2
      go_round
      case rel => exact ⟨i + 1, by omega, by go_num⟩
      case measure => simp [intOf]; omega
    · go_wp2
      go_ret
      exact ⟨rfl, rfl⟩
theorem idxf_yes (A : Option Addr) (c : Nat) (l : List UInt8) (w : World) (h : Rds w A (bv l)) (hn : l.length ≤ 70368744177664) (hl : l.any kbad = true) :
    Calls Tryd.prog 57 #[.slice A l.length c, .func (.func 53) #[] #[]] w fun e w' => KindAt e ∧ w = w' := by
  have HL := Lib.hid hl
  clear hl
  go_enter Tryd.func57, Tryd.ntmps57
  go_wp2_with fail
  go_loop [5, 8] (fun _ s8 => ∃ i : Nat, i ≤ l.length ∧ s8 = .int .i64 i ∧ Hid ((l.drop i).any kbad = true)) (fun _ s8 => l.length - (intOf s8).toNat)
  case atStart => exact ⟨0, Nat.zero_le _, rfl, HL.out⟩
  case round =>
    obtain ⟨i, hi, rfl, HA⟩ := hrel
    by_cases hlt : i < l.length
    · obtain ⟨b, off, rfl, q0⟩ := h.at_ (bv_at hlt)
      cases hk : kbad l[i]
      · have HA2 : Hid ((l.drop (i + 1)).any kbad = true) := by
          show _ = _
          have := HA.out
          rw [List.drop_eq_getElem_cons hlt, List.any_cons, hk] at this
          simpa using this
        have HK := Lib.hid hk
        clear hk HA
        generalize l[i] = k at *
        go_wp2_with fail
        refine (kfun_no k _ HK.out).mono ?_
        rintro e w' ⟨rfl, rfl⟩
        go_wp2
        go_round
        case rel => exact ⟨i + 1, by omega, by go_num, HA2⟩
        case measure => simp [intOf]; omega
      · have HK := Lib.hid hk
        clear hk HA
        generalize l[i] = k at *
        go_wp2_with fail
        refine (kfun_yes k _ HK.out).mono ?_
        rintro e w' ⟨rfl, rfl⟩
        go_wp2
        go_ret
        exact ⟨⟨i, rfl⟩, rfl⟩
    · exfalso
      have := HA.out
      rw [List.drop_eq_nil_of_le (by omega)] at this
      cases this
theorem contains_no (A : Option Addr) (c : Nat) (l : List UInt8) (w : World) (h : Rds w A (bv l)) (hn : l.length ≤ 70368744177664) (hl : ∀ k ∈ l, kbad k = false) :
    Calls Tryd.prog 52 #[.slice A l.length c, .func (.func 53) #[] #[]] w fun e w' => e = .returned (.bool false) ∧ w = w' := by
  have HL := Lib.hid hl
  clear hl
  go_enter Tryd.func52, Tryd.ntmps52
  go_wp2_with fail
  refine (idxf_no A c l _ h hn HL.out).mono ?_
  rintro e w' ⟨rfl, rfl⟩
  go_wp2
  go_ret
  exact ⟨rfl, rfl⟩
theorem contains_yes (A : Option Addr) (c : Nat) (l : List UInt8) (w : World) (h : Rds w A (bv l)) (hn : l.length ≤ 70368744177664) (hl : l.any kbad = true) :
    Calls Tryd.prog 52 #[.slice A l.length c, .func (.func 53) #[] #[]] w fun e w' => e = .returned (.bool true) ∧ w = w' := by
  have HL := Lib.hid hl
  clear hl
  go_enter Tryd.func52, Tryd.ntmps52
  go_wp2_with fail
  refine (idxf_yes A c l _ h hn HL.out).mono ?_
  rintro e w' ⟨⟨n, rfl⟩, rfl⟩
  have hd : decide ((0 : Int) ≤ (n : Int)) = true := by simp
  go_wp2
  go_ret
  exact ⟨rfl, rfl⟩
theorem kindsOk_any (ks : List UInt8) : Lp.kindsOk ks = (decide (0 < ks.length) && decide (ks.length ≤ 8) && !ks.any kbad) := by
  unfold Lp.kindsOk
  congr 1
  induction ks with
  | nil => rfl
  | cons k ks ih =>
    rw [List.all_cons, List.any_cons, ih, Bool.not_or]
    congr 1
    unfold kbad
    rw [Bool.eq_iff_iff]; simp; omega
theorem rright_any (A : Option Addr) (n c : Nat) (l : List UInt8) (r : Bool) (hnl : n = l.length) (hr : Lp.kindsOk l = r) (w : World) (h : Rds w A (bv l)) (hn : l.length ≤ 70368744177664) :
    Calls Tryd.prog 43 #[.slice A n c] w fun e w' => e = .returned (.bool r) ∧ w = w' := by
  subst hr hnl
  rw [kindsOk_any]
  by_cases h0 : 0 < l.length
  · by_cases h8 : l.length ≤ 8
    · cases hk : l.any kbad
      · have hall : ∀ k ∈ l, kbad k = false := by
          intro k hm
          rw [List.any_eq_false] at hk
          simpa using hk k hm
        have HL := Lib.hid hall
        clear hall hk
        go_enter Tryd.func43, Tryd.ntmps43
        go_wp2_with fail
        refine (contains_no A c l _ h hn HL.out).mono ?_
        rintro e w' ⟨rfl, rfl⟩
        go_wp2
        go_ret
        exact ⟨retB (by simp; omega), rfl⟩
      · have HL := Lib.hid hk
        clear hk
        go_enter Tryd.func43, Tryd.ntmps43
        go_wp2_with fail
        refine (contains_yes A c l _ h hn HL.out).mono ?_
        rintro e w' ⟨rfl, rfl⟩
        go_wp2
        go_ret
        exact ⟨by simp, rfl⟩
    · go_enter Tryd.func43, Tryd.ntmps43
      go_wp2
      go_ret
      exact ⟨by simp, rfl⟩
  · go_enter Tryd.func43, Tryd.ntmps43
    go_wp2
    go_ret
    exact ⟨by simp [h0], rfl⟩

theorem right4_any (A : Option Addr) (n c : Nat) (l : List UInt8) (r : Bool) (hnl : n = l.length) (hr : Lp.kindsOk l = r) (w : World) (h : Rds w A (bv l)) (hn : l.length ≤ 70368744177664) :
    Calls Tryd.prog 47 #[.slice A n c] w fun e w' => e = .returned (.bool r) ∧ w = w' := by
  subst hr hnl
  rw [kindsOk_any]
  go_enter Tryd.func47, Tryd.ntmps47
  go_wp2_with fail
  go_loop [4, 7] (fun _ s7 => ∃ i : Nat, i ≤ l.length ∧ s7 = .int .i64 i ∧ Hid (l.any kbad = (l.drop i).any kbad)) (fun _ s7 => l.length - (intOf s7).toNat)
  case atStart => exact ⟨0, Nat.zero_le _, rfl, rfl⟩
  case round =>
    obtain ⟨i, hi, rfl, HA⟩ := hrel
    by_cases hlt : i < l.length
    · obtain ⟨b, off, rfl, q0⟩ := h.at_ (bv_at hlt)
      have hst := List.drop_eq_getElem_cons hlt
      cases hk : kbad l[i]
      · have HA2 : Hid (l.any kbad = (l.drop (i + 1)).any kbad) := by
          show _ = _
          rw [HA.out, hst, List.any_cons, hk]; rfl
        have h1 : ¬ l[i].toNat = 0 ∧ ¬ 3 < l[i].toNat := by simpa [kbad] using hk
        obtain ⟨h2, h3⟩ := h1
        clear hk HA hst
        generalize l[i].toNat = k at *
        go_wp2
        go_round
        case rel => exact ⟨i + 1, by omega, by go_num, HA2⟩
        case measure => simp [intOf]; omega
      · have HA2 : Hid (l.any kbad = true) := by
          show _ = _
          rw [HA.out, hst, List.any_cons, hk]; rfl
        have h1 : l[i].toNat = 0 ∨ 3 < l[i].toNat := by simpa [kbad] using hk
        clear hk HA hst
        generalize l[i].toNat = k at *
        rcases h1 with h2 | h2
        · subst h2
          go_wp2
          go_ret
          exact ⟨by rw [HA2.out]; simp, rfl⟩
        · go_wp2
          go_ret
          exact ⟨by rw [HA2.out]; simp, rfl⟩
    · have HA2 : Hid (l.any kbad = false) := by
        show _ = _
        rw [HA.out, List.drop_eq_nil_of_le (by omega)]; rfl
      clear HA
      go_wp2
      all_goals
        go_ret
        refine ⟨retB ?_, rfl⟩
        rw [HA2.out, Bool.eq_iff_iff]
        simp
        try omega
end Go.Proofs.YthdnphnipfpdkaaDoor
