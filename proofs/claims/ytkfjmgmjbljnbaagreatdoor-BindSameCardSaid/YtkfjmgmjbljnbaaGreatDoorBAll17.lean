/-
 The document's all: kinds that are one, or Null. Conditions: few kinds.
-/
import Derived.Test.YtkfjmgmjbljnbaaGreatDoorBZA
set_option maxRecDepth 100000
set_option maxHeartbeats 8000000
namespace Go.Proofs.YtkfjmgmjbljnbaaGreatDoor
open Go.RowKit
def Lp.allK (l : List Int) (k : Int) : Bool := l.all fun x => x == 0 || x == k
theorem allK_take {l : List Int} {i : Nat} {k x : Int} (h : i < l.length) (hx : l[i] = x) (ha : Lp.allK (l.take i) k = true) (hr : (x == 0 || x == k) = true) : Lp.allK (l.take (i + 1)) k = true := by
 unfold Lp.allK at *
 rw [List.take_succ_eq_append_getElem h, List.all_append, ha, hx]
 simpa using hr
theorem allK_no {l : List Int} {i : Nat} {k x : Int} (h : i < l.length) (hx : l[i] = x) (hr : (x == 0 || x == k) = false) : Lp.allK l k = false := by
 unfold Lp.allK
 rw [List.all_eq_false]
 exact ⟨l[i], List.getElem_mem h, by rw [hx, hr]; decide⟩
def kv (l : List Int) : List Value := l.map fun x => .int .u8 x
theorem kv_at {l : List Int} {i : Nat} (h : i < l.length) : (kv l)[i]? = some (.int .u8 l[i]) := by simp [kv, h]
theorem all17_any (A : Option Addr) (c : Nat) (l : List Int) (k : Int) (w : World) (h : Rds w A (kv l)) (hn : l.length ≤ 100) :
 Calls Tryz.prog 67 #[.slice A l.length c, .int .u8 k] w fun e w' => e = .returned (.bool (Lp.allK l k)) ∧ w = w' := by
 have H := Lib.hid h
 have hnI : (l.length : Int) ≤ 100 := by omega
 clear h
 go_enter Tryz.func67, Tryz.ntmps67
 go_wp2_with fail
 go_loopw [6, 9] (fun _ s9 wr => ∃ i : Nat, i ≤ l.length ∧ s9 = .int .i64 i ∧ Lp.allK (l.take i) k = true ∧ w = wr) (fun _ s9 _ => l.length - (intOf s9).toNat)
 case atStart => exact ⟨0, Nat.zero_le _, rfl, rfl, rfl⟩
 case round =>
  obtain ⟨i, hi, rfl, ha, rfl⟩ := hrel
  have HAL := Lib.hid ha
  clear ha
  by_cases hlt : i < l.length
  ·obtain ⟨b, off, hA, q0⟩ := H.out.at_ (kv_at hlt)
   subst hA
   have hltI : (i : Int) < (l.length : Int) := by omega
   have hno := fun (x : Int) (hx : l[i] = x) (hr : (x == 0 || x == k) = false) => allK_no hlt hx hr
   have hyes := fun (x : Int) (hx : l[i] = x) (hr : (x == 0 || x == k) = true) => allK_take hlt hx HAL.out hr
   have HNO := Lib.hid (hno _ rfl)
   have HYE := Lib.hid (hyes _ rfl)
   generalize l[i] = x at *
   clear hno hyes
   cases e1 : (x == 0)
   ·cases e2 : (x == k)
    ·have n1 : (x != 0) = true := by rw [bne, e1]; rfl
     have n2 : (x != k) = true := by rw [bne, e2]; rfl
     have HR := Lib.hid (HNO.out (by rw [e1, e2]; rfl))
     clear HNO HYE
     go_wp2
     go_ret
     exact ⟨by rw [HR.out]; rfl, rfl⟩
    ·have n1 : (x != 0) = true := by rw [bne, e1]; rfl
     have n2 : (x != k) = false := by rw [bne, e2]; rfl
     have HR := Lib.hid (HYE.out (by rw [e1, e2]; rfl))
     clear HNO HYE
     go_wp2
     go_roundw
     case rel => exact ⟨i + 1, by omega, by go_num, HR.out, by trivial⟩
     case measure => simp [intOf]; omega
   ·have n1 : (x != 0) = false := by rw [bne, e1]; rfl
    have HR := Lib.hid (HYE.out (by rw [e1]; rfl))
    clear HNO HYE
    go_wp2
    go_roundw
    case rel => exact ⟨i + 1, by omega, by go_num, HR.out, by trivial⟩
    case measure => simp [intOf]; omega
  ·have hi2 : i = l.length := by omega
   have h1 := HAL.out
   rw [hi2, List.take_length] at h1
   have HR := Lib.hid h1
   clear h1 hi2
   go_wp2
   go_ret
   exact ⟨by rw [HR.out]; rfl, rfl⟩
end Go.Proofs.YtkfjmgmjbljnbaaGreatDoor
