/-
 What the document's Literal gives. Conditions: a text of at most 10^6 bytes.
-/
import Derived.Test.YtkfjmgmjbljnbaaGreatDoorBGV
set_option maxRecDepth 100000
set_option maxHeartbeats 8000000
namespace Go.Proofs.YtkfjmgmjbljnbaaGreatDoor
open Go.RowKit
theorem quo_next {s : ByteArray} {k : Nat} (h : k < s.size) : Lp.quo (s.data.toList.take (k + 1)) = Lp.quo (s.data.toList.take k) ++ (if s[k]'h = 39 then [39, 39] else [s[k]'h]) := by
 rw [Lp.take_snoc s k h, Lp.quo_snoc]
theorem quo_take_len (s : ByteArray) (k : Nat) : (Lp.quo (s.data.toList.take k)).length ≤ 2 * s.size := by
 rw [Lp.quo_len]
 have h1 := List.count_le_length (a := (39 : UInt8)) (l := s.data.toList.take k)
 have h2 : (s.data.toList.take k).length ≤ s.size := by
  rw [List.length_take]
  have : s.data.toList.length = s.size := by rw [Array.length_toList]; rfl
  omega
 omega
theorem cat_one (T : List UInt8) : (⟨T.toArray⟩ : ByteArray) ++ (⟨#[39]⟩ : ByteArray) = ⟨(T ++ [39]).toArray⟩ := cat_list T [39]
theorem rlit_any (k i : Int) (s : ByteArray) (b : Bool) (w : World) (hi : Lp.inR i) (hs : s.size ≤ 1000000) :
 Calls Tryz.prog 107 #[.agg #[.int .u8 k, .int .i64 i, .string s, .bool b]] w fun e w' => e = .returned (.string ⟨(Lp.lit ⟨k, i, s, b⟩).toArray⟩) ∧ Below w.heap.size w w' := by
 have hb0 : Below w.heap.size w (w.alloc (.cells #[.int .u8 k, .int .i64 i, .string s, .bool b] 31)) := (Below.refl _ _).alloc (Nat.le_refl _) _
 rcases kcases k with rfl | rfl | rfl | hk
 ·have e : Lp.lit ⟨1, i, s, b⟩ = Lib.itoa i := rfl
  rw [e]; clear e
  have HI := Lib.hid hi
  clear hi
  go_enter Tryz.func107, Tryz.ntmps107
  go_wp2_with fail
  refine (rdec_any _ _ HI.out).mono ?_
  rintro e w' ⟨rfl, rfl⟩
  go_wp2
  go_ret
  exact ⟨rfl, hb0⟩
 ·have e : (⟨(Lp.lit ⟨2, i, s, b⟩).toArray⟩ : ByteArray) = ⟨(([39] ++ Lp.quo s.data.toList) ++ [39]).toArray⟩ := rfl
  rw [e]; clear e
  obtain ⟨R, hR⟩ : ∃ R : ByteArray, (⟨(([39] ++ Lp.quo s.data.toList) ++ [39]).toArray⟩ : ByteArray) = R := ⟨_, rfl⟩
  rw [hR]
  have HR := Lib.hid hR
  clear hR
  go_enter Tryz.func107, Tryz.ntmps107
  go_wp2_with fail
  go_loop [3, 4] (fun s3 s4 => ∃ (k : Nat) (T : List UInt8), k ≤ s.size ∧ s4 = .int .i64 k ∧ s3 = .string ⟨T.toArray⟩ ∧ Hid ([39] ++ Lp.quo (s.data.toList.take k) = T) ∧ T.length ≤ 2 * s.size + 1) (fun _ s4 => s.size - (intOf s4).toNat)
  case atStart => exact ⟨0, [39], Nat.zero_le _, rfl, rfl, rfl, by simp⟩
  case round =>
   obtain ⟨k, T, hk, rfl, rfl, HT, hTl⟩ := hrel
   by_cases hlt : k < s.size
   ·have hN := quo_next hlt
    have hTl2 := quo_take_len s (k + 1)
    have hca := cat_at T s k hlt
    by_cases hq : s[k]'hlt = 39
    ·have hc : (s[k]'hlt).toNat = 39 := by rw [hq]; rfl
     have HT2 : Hid ([39] ++ Lp.quo (s.data.toList.take (k + 1)) = T ++ [s[k]'hlt, 39]) := by
      show _ = _
      rw [hN, if_pos hq, ← HT.out, hq]; simp
     have hl2 : (T ++ [s[k]'hlt, 39]).length ≤ 2 * s.size + 1 := by
      rw [← HT2.out]; simp; omega
     have hl1 : T.length + 1 + 1 ≤ 2 * s.size + 1 := by simpa using hl2
     have hc1 := cat_one (T ++ [s[k]'hlt])
     have h0 : (0 : Int) ≤ (k : Int) := by omega
     have h1 : (k : Int) < (s.size : Int) := by omega
     have HQ := Lib.hid hq
     clear hq hN hTl2 HT
     go_wp2
     go_round
     case rel => exact ⟨k + 1, _, by omega, by go_num, rfl, HT2, hl2⟩
     case measure => simp [intOf]; omega
    ·have hc : (((s[k]'hlt).toNat : Int) == 39) = false := by
      rw [beq_eq_false_iff_ne]; intro g; exact hq (UInt8.toNat_inj.1 (by show _ = 39; omega))
     have HT2 : Hid ([39] ++ Lp.quo (s.data.toList.take (k + 1)) = T ++ [s[k]'hlt]) := by
      show _ = _
      rw [hN, if_neg hq, ← HT.out]; simp
     have hl2 : (T ++ [s[k]'hlt]).length ≤ 2 * s.size + 1 := by
      rw [← HT2.out]; simp; omega
     have hl1 : T.length + 1 ≤ 2 * s.size + 1 := by simpa using hl2
     have HQ := Lib.hid hq
     clear hq hN hTl2 HT
     go_wp2
     go_round
     case rel => exact ⟨k + 1, _, by omega, by go_num, rfl, HT2, hl2⟩
     case measure => simp [intOf]; omega
   ·obtain rfl : k = s.size := by omega
    have HT2 : Hid ([39] ++ Lp.quo s.data.toList = T) := by have := HT.out; rw [Lp.take_all] at this; exact this
    have hc1 := cat_one T
    clear HT
    go_wp2
    go_ret
    exact ⟨congrArg (fun x => Ending.returned (.string x)) (by rw [← HR.out, HT2.out]), hb0⟩
 ·cases b
  ·go_enter Tryz.func107, Tryz.ntmps107
   go_wp2
   go_ret
   exact ⟨rfl, hb0⟩
  ·go_enter Tryz.func107, Tryz.ntmps107
   go_wp2
   go_ret
   exact ⟨rfl, hb0⟩
 ·rw [lit_n hk]
  obtain ⟨h1, h2, h3⟩ := hk
  go_enter Tryz.func107, Tryz.ntmps107
  go_wp2
  go_ret
  exact ⟨rfl, hb0⟩
end Go.Proofs.YtkfjmgmjbljnbaaGreatDoor
