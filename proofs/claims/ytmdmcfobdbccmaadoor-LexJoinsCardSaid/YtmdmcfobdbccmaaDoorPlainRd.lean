/-
  The plain laws of digits: what a text of digits is worth. No program in sight. No conditions.
-/
import Derived.Test.YtmdmcfobdbccmaaDoorPlain1
import Derived.Laws.RangeAny
import Derived.Below
import Derived.Lib.Hide
namespace Go.Proofs.YtmdmcfobdbccmaaDoor.Lp
open Go.RowKit

def isDig (c : UInt8) : Bool := decide (48 ≤ c.toNat) && decide (c.toNat ≤ 57)
/-- What digits are worth, behind what was there. -/
def dvf (n : Int) : List UInt8 → Int
  | [] => n
  | c :: l => dvf (n * 10 + ((c.toNat : Int) - 48)) l
def allD (l : List UInt8) : Bool := l.all isDig && !l.isEmpty
def readV (l : List UInt8) : Int := if allD l then val (dvf 0 l) else 0
def readE (l : List UInt8) : Int := if allD l then err (dvf 0 l) else 3

theorem dvf_append (l k : List UInt8) : ∀ n, dvf n (l ++ k) = dvf (dvf n l) k := by
  induction l with
  | nil => intro n; rfl
  | cons c l ih => intro n; exact ih _
theorem dvf_snoc (n : Int) (l : List UInt8) (c : UInt8) : dvf n (l ++ [c]) = dvf n l * 10 + ((c.toNat : Int) - 48) := by
  rw [dvf_append]; rfl
theorem isDig_bd {c : UInt8} (h : isDig c = true) : 48 ≤ c.toNat ∧ c.toNat ≤ 57 := by
  simpa [isDig] using h
theorem dvf_ge {l : List UInt8} (h : l.all isDig = true) : ∀ n, 0 ≤ n → n ≤ dvf n l := by
  induction l with
  | nil => intro n _; exact Int.le_refl _
  | cons c l ih =>
    intro n hn
    simp only [List.all_cons, Bool.and_eq_true] at h
    have hb := isDig_bd h.1
    have := ih h.2 (n * 10 + ((c.toNat : Int) - 48)) (by omega)
    show n ≤ dvf (n * 10 + ((c.toNat : Int) - 48)) l
    omega
theorem dvf_nonneg {l : List UInt8} (h : l.all isDig = true) : 0 ≤ dvf 0 l := dvf_ge h 0 (Int.le_refl _)

theorem rune_dig (s : ByteArray) (pos : Nat) (h : pos < s.size) (hd : isDig (s[pos]'h) = true) : Utf8.decode s pos = ((s[pos]'h).toNat, 1) := by
  have := isDig_bd hd
  exact decode_ascii s pos h (by omega)
theorem rune_not (s : ByteArray) (pos : Nat) (h : pos < s.size) (hd : isDig (s[pos]'h) = false) : (Utf8.decode s pos).1 < 48 ∨ 57 < (Utf8.decode s pos).1 := by
  by_cases ha : (s[pos]'h).toNat < 128
  · rw [decode_ascii s pos h ha]; simp only [isDig, Bool.and_eq_false_iff, decide_eq_false_iff_not] at hd; omega
  · have := (decode_high s pos h (by omega)).1; omega

theorem get_data (s : ByteArray) (i : Nat) (h : i < s.size) : s.data.toList[i]? = some (s[i]'h) := by
  rw [List.getElem?_eq_getElem (by simpa using h)]; rfl
theorem take_snoc (s : ByteArray) (k : Nat) (h : k < s.size) : s.data.toList.take (k + 1) = s.data.toList.take k ++ [s[k]'h] := by
  rw [List.take_add_one, get_data s k h]; rfl
theorem take_all (s : ByteArray) : s.data.toList.take s.size = s.data.toList := List.take_of_length_le (by simp)
theorem drop_cons (s : ByteArray) (k : Nat) (h : k < s.size) : s.data.toList.drop k = (s[k]'h) :: s.data.toList.drop (k + 1) := by
  rw [List.drop_eq_getElem_cons (by simpa using h)]; rfl
/-- Where a place is no digit the whole is refused. -/
theorem allD_not (s : ByteArray) (pos : Nat) (h : pos < s.size) (hd : isDig (s[pos]'h) = false) : allD s.data.toList = false := by
  have hm : s[pos]'h ∈ s.data.toList := List.mem_of_getElem? (get_data s pos h)
  have : s.data.toList.all isDig = false := by
    rw [List.all_eq_false]; exact ⟨_, hm, by simp [hd]⟩
  simp [allD, this]
theorem readV_not {l : List UInt8} (h : allD l = false) : readV l = 0 := by simp [readV, h]
theorem readE_not {l : List UInt8} (h : allD l = false) : readE l = 3 := by simp [readE, h]
theorem readV_yes {l : List UInt8} (h : allD l = true) : readV l = val (dvf 0 l) := by simp [readV, h]
theorem readE_yes {l : List UInt8} (h : allD l = true) : readE l = err (dvf 0 l) := by simp [readE, h]
theorem all_snoc (s : ByteArray) (k : Nat) (h : k < s.size) (ha : (s.data.toList.take k).all isDig = true) (hd : isDig (s[k]'h) = true) : (s.data.toList.take (k + 1)).all isDig = true := by
  rw [take_snoc s k h]; simp [ha, hd]
theorem all_at (s : ByteArray) (k : Nat) (h : k < s.size) (ha : s.data.toList.all isDig = true) : isDig (s[k]'h) = true :=
  List.all_eq_true.1 ha _ (List.mem_of_getElem? (get_data s k h))
/-- What is out of bounds stays so. -/
theorem out_of (s : ByteArray) (k : Nat) (ha : s.data.toList.all isDig = true) (hn : ¬ inR (dvf 0 (s.data.toList.take k))) : ¬ inR (dvf 0 s.data.toList) := by
  have h1 : (s.data.toList.take k).all isDig = true := by
    rw [List.all_eq_true] at *; intro x hx; exact ha x (List.mem_of_mem_take hx)
  have h2 : (s.data.toList.drop k).all isDig = true := by
    rw [List.all_eq_true] at *; intro x hx; exact ha x (List.mem_of_mem_drop hx)
  have h3 := dvf_nonneg h1
  have h4 := dvf_ge h2 _ h3
  rw [← dvf_append, List.take_append_drop] at h4
  unfold inR at *; omega

end Go.Proofs.YtmdmcfobdbccmaaDoor.Lp
