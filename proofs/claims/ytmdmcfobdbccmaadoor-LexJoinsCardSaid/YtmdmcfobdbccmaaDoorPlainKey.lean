/-
  A row's bytes, plain: values as bytes that stand in their order. No program in sight. No conditions.
-/
import Derived.Test.YtmdmcfobdbccmaaDoorVal
import Derived.Test.YtmdmcfobdbccmaaDoorPlain1
import Derived.Laws.BitsAllLaws
namespace Go.Proofs.YtmdmcfobdbccmaaDoor.Lp
open Go.RowKit

/-- A value: its kind's number, and its three fields. -/
structure V where
  k : Int
  i : Int
  s : ByteArray
  b : Bool
def V.right (v : V) : Bool := rightB v.k v.i v.s v.b
def V.agg (v : V) : Value := .agg #[.int .u8 v.k, .int .i64 v.i, .string v.s, .bool v.b]
def V.cells (v : V) : List Value := [.int .u8 v.k, .int .i64 v.i, .string v.s, .bool v.b]
def vv (l : List V) : List Value := l.flatMap V.cells

/-- A number of 64 bits, its highest bit turned. -/
def up (i : Int) : Nat := (i + 9223372036854775808).toNat
/-- The bytes of a number, the highest first: k of them. -/
def be (n : Nat) : Nat → List UInt8
  | 0 => []
  | k + 1 => UInt8.ofNat (n / 256 ^ k) :: be n k
def kb (v : V) : List UInt8 :=
  if v.k = 0 then [1]
  else if v.k = 3 then [2, if v.b then 1 else 0]
  else if v.k = 1 then 3 :: be (up v.i) 8
  else 4 :: (v.s.data.toList ++ [0])
def kbs (l : List V) : List UInt8 := l.flatMap kb

theorem xor_small (a : Nat) (h : a < 2 ^ 63) : a ^^^ 2 ^ 63 = 2 ^ 63 + a := by
  apply Nat.eq_of_testBit_eq
  intro j
  rw [Nat.testBit_xor, Nat.testBit_two_pow]
  rcases Nat.lt_trichotomy j 63 with hj | rfl | hj
  · rw [Nat.testBit_two_pow_add_gt hj, decide_eq_false (by omega), Bool.xor_false]
  · rw [Nat.testBit_two_pow_add_eq, decide_eq_true rfl, Bool.xor_true]
  · have h2 : 2 ^ 63 + a < 2 ^ j := Nat.lt_of_lt_of_le (by omega : 2 ^ 63 + a < 2 ^ 64) (Nat.pow_le_pow_right (by omega) (by omega))
    rw [decide_eq_false (by omega), Bool.xor_false, Nat.testBit_lt_two_pow h2, Nat.testBit_lt_two_pow (by omega)]
theorem xor_up {i : Int} (h : inR i) : bits .xor .u64 (IntKind.u64.wrap i) 9223372036854775808 = ((up i : Nat) : Int) := by
  have hw : IntKind.u64.wrap i = (((i % 18446744073709551616).toNat : Nat) : Int) := by rw [IntKind.wrap_u64]; omega
  have hlt : (i % 18446744073709551616).toNat < 18446744073709551616 := by omega
  have e := u64_xor_nat (i % 18446744073709551616).toNat 9223372036854775808 hlt (by decide)
  rw [hw]
  refine e.trans ?_
  congr 1
  have h63 : (9223372036854775808 : Nat) = 2 ^ 63 := by decide
  unfold inR at h
  rcases Int.lt_or_le i 0 with hi | hi
  · have e1 : (i % 18446744073709551616).toNat = 2 ^ 63 + up i := by unfold up; omega
    rw [e1, h63, ← xor_small (up i) (by unfold up; omega), Nat.xor_assoc, Nat.xor_self, Nat.xor_zero]
  · have e1 : (i % 18446744073709551616).toNat = i.toNat := by omega
    rw [e1, h63, xor_small i.toNat (by omega)]
    unfold up; omega
theorem up_lt {i : Int} (h : inR i) : up i < 18446744073709551616 := by unfold up; unfold inR at h; omega
/-- What a reading of a value gives of its fields. -/
def V.ok (v : V) : Prop := v.s.size ≤ 9223372036854775807 ∧ inR v.i ∧ 0 ≤ v.k ∧ v.k ≤ 255
theorem shr_byte (N k : Nat) : ((N : Int) / 2 ^ (8 * k) % 256) = (((UInt8.ofNat (N / 256 ^ k)).toNat : Nat) : Int) := by
  have e : (2 : Int) ^ (8 * k) = ((256 ^ k : Nat) : Int) := by rw [Int.pow_mul]; simp
  rw [e]; simp
theorem be_succ (n k : Nat) : be n (k + 1) = UInt8.ofNat (n / 256 ^ k) :: be n k := rfl
theorem be_length (n k : Nat) : (be n k).length = k := by induction k with
  | zero => rfl
  | succ k ih => simp [be, ih]
theorem vv_length (l : List V) : (vv l).length = l.length * 4 := by
  induction l with
  | nil => rfl
  | cons v l ih => show (v.cells ++ vv l).length = _; simp [V.cells, ih]; omega
theorem vv_cons (v : V) (l : List V) : vv (v :: l) = v.cells ++ vv l := rfl
theorem vv_append (l m : List V) : vv (l ++ m) = vv l ++ vv m := by simp [vv]
theorem vv_at {l : List V} {i j : Nat} (h : i < l.length) (hj : j < 4) : (vv l)[i * 4 + j]? = l[i].cells[j]? := by
  induction l generalizing i with
  | nil => simp at h
  | cons v l ih =>
    rw [vv_cons]
    cases i with
    | zero => rw [List.getElem?_append_left (by simp [V.cells]; omega)]; simp
    | succ i =>
      rw [List.getElem?_append_right (by simp [V.cells]; omega)]
      have : (i + 1) * 4 + j - v.cells.length = i * 4 + j := by simp [V.cells]; omega
      rw [this, ih (by simpa using h)]
      simp
theorem vv_take (l : List V) (n : Nat) : (vv l).take (n * 4) = vv (l.take n) := by
  induction l generalizing n with
  | nil => simp [vv]
  | cons v l ih =>
    cases n with
    | zero => simp [vv]
    | succ n =>
      rw [vv_cons, List.take_succ_cons, vv_cons, ← ih n]
      rw [List.take_append]
      have h1 : v.cells.take ((n + 1) * 4) = v.cells := List.take_of_length_le (by simp [V.cells]; omega)
      have h2 : (n + 1) * 4 - v.cells.length = n * 4 := by simp [V.cells]; omega
      rw [h1, h2]
theorem kbs_append (l m : List V) : kbs (l ++ m) = kbs l ++ kbs m := by simp [kbs]
theorem kbs_snoc (l : List V) (v : V) : kbs (l ++ [v]) = kbs l ++ kb v := by simp [kbs]
theorem right_text {v : V} (h : v.right = true) (hk : v.k = 2) : v.s.size ≤ 60 := by
  unfold V.right rightB at h; rw [hk] at h
  simp at h; exact h.1.2
theorem kb_le {v : V} (h : v.right = true) : (kb v).length ≤ 62 := by
  unfold kb
  split
  · simp
  · split
    · simp
    · split
      · simp [be_length]
      · have hk : v.k = 2 := by
          unfold V.right rightB at h
          by_cases h2 : v.k = 2
          · exact h2
          · simp_all
        have := right_text h hk
        have e : v.s.data.toList.length = v.s.size := by simp
        simp only [List.length_cons, List.length_append, List.length_nil, e]; omega
theorem kbs_le {l : List V} (h : l.all V.right = true) : (kbs l).length ≤ 62 * l.length := by
  induction l with
  | nil => simp [kbs]
  | cons v l ih =>
    simp only [List.all_cons, Bool.and_eq_true] at h
    have h1 := kb_le h.1
    have h2 := ih h.2
    have : kbs (v :: l) = kb v ++ kbs l := rfl
    rw [this, List.length_append, List.length_cons]; omega
/-- The kinds of right values. -/
theorem right_kinds {v : V} (h : v.right = true) : v.k = 0 ∨ v.k = 1 ∨ v.k = 2 ∨ v.k = 3 := by
  unfold V.right rightB at h
  by_cases h0 : v.k = 0
  · exact .inl h0
  · by_cases h1 : v.k = 1
    · exact .inr (.inl h1)
    · by_cases h2 : v.k = 2
      · exact .inr (.inr (.inl h2))
      · by_cases h3 : v.k = 3
        · exact .inr (.inr (.inr h3))
        · simp [h0, h1, h2, h3] at h
end Go.Proofs.YtmdmcfobdbccmaaDoor.Lp
