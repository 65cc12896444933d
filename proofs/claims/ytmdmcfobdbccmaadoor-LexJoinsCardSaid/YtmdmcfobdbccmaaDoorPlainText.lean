/-
  A text's scan, rune by rune, plain: it is the scan byte by byte. No program in sight. No conditions.
-/
import Derived.Test.YtmdmcfobdbccmaaDoorPlainLex
import Derived.Lib.RuneCount
namespace Go.Proofs.YtmdmcfobdbccmaaDoor.Lp
open Go.RowKit

theorem txt_other {c : UInt8} (l : List UInt8) (h : c ≠ 39) : txt (c :: l) = (txt l).map fun p => (c :: p.1, p.2 + 1) := by
  conv => lhs; unfold txt
  rw [if_neg h]
theorem txt_skip : ∀ (bs r : List UInt8), (39 : UInt8) ∉ bs → txt (bs ++ r) = (txt r).map fun p => (bs ++ p.1, p.2 + bs.length)
  | [], r, _ => by cases h : txt r <;> simp [h]
  | c :: bs, r, h => by
    have h1 : ¬ c = 39 := fun e => h (by simp [e])
    have ih := txt_skip bs r (fun e => h (by simp [e]))
    show txt (c :: (bs ++ r)) = _
    rw [txt_other _ h1, ih]
    cases hx : txt r with
    | none => rfl
    | some p => simp; omega
/-- Behind so many bytes, with what was read, and whether the last byte was a quote. -/
def TextAt (l acc : List UInt8) (pos : Nat) (q : Bool) : Prop :=
  ∃ m, m + (if q then 1 else 0) = pos ∧ txt l = (txt ((if q then [39] else []) ++ l.drop pos)).map fun p => (acc ++ p.1, p.2 + m)
theorem textAt_start (l : List UInt8) : TextAt l [] 0 false := ⟨0, rfl, by cases h : txt l <;> simp [h]⟩
theorem textAt_two {l acc : List UInt8} {pos : Nat} (h : TextAt l acc pos true) (hp : l[pos]? = some 39) : TextAt l (acc ++ [39]) (pos + 1) false := by
  obtain ⟨m, hm, ht⟩ := h
  simp only [if_true] at hm ht
  have hd : l.drop pos = 39 :: l.drop (pos + 1) := by
    obtain ⟨hl, he⟩ := List.getElem?_eq_some_iff.1 hp
    rw [List.drop_eq_getElem_cons hl, he]
  refine ⟨pos + 1, by simp, ?_⟩
  rw [ht, hd]
  show (txt (39 :: 39 :: l.drop (pos + 1))).map _ = _
  have e : txt (39 :: 39 :: l.drop (pos + 1)) = (txt (l.drop (pos + 1))).map fun p => (39 :: p.1, p.2 + 2) := by
    conv => lhs; unfold txt
    simp
  rw [e, Option.map_map]
  simp only [Bool.false_eq_true, if_false, List.nil_append]
  congr 1
  funext p
  simp; omega
theorem textAt_quote {l acc : List UInt8} {pos : Nat} (h : TextAt l acc pos false) (hp : l[pos]? = some 39) : TextAt l acc (pos + 1) true := by
  obtain ⟨m, hm, ht⟩ := h
  simp only [Bool.false_eq_true, if_false, List.nil_append, Nat.add_zero] at hm ht
  have hd : l.drop pos = 39 :: l.drop (pos + 1) := by
    obtain ⟨hl, he⟩ := List.getElem?_eq_some_iff.1 hp
    rw [List.drop_eq_getElem_cons hl, he]
  refine ⟨m, by simp [hm], ?_⟩
  rw [ht, hd]; rfl
theorem textAt_end {l acc : List UInt8} {pos : Nat} {c : UInt8} (h : TextAt l acc pos true) (hp : l[pos]? = some c) (hc : c ≠ 39) : txt l = some (acc, pos) := by
  obtain ⟨m, hm, ht⟩ := h
  simp only [if_true] at hm ht
  have hd : l.drop pos = c :: l.drop (pos + 1) := by
    obtain ⟨hl, he⟩ := List.getElem?_eq_some_iff.1 hp
    rw [List.drop_eq_getElem_cons hl, he]
  rw [ht, hd]
  have e : txt (39 :: c :: l.drop (pos + 1)) = some ([], 1) := by
    conv => lhs; unfold txt
    simp [hc]
  show (txt (39 :: c :: l.drop (pos + 1))).map _ = _
  rw [e]; simp; omega
theorem textAt_last {l acc : List UInt8} {pos : Nat} (h : TextAt l acc pos true) (hp : l.length ≤ pos) : txt l = some (acc, pos) := by
  obtain ⟨m, hm, ht⟩ := h
  simp only [if_true] at hm ht
  rw [ht, List.drop_eq_nil_of_le hp]
  have e : txt ([39] ++ []) = some ([], 1) := rfl
  rw [e]; simp; omega
theorem textAt_none {l acc : List UInt8} {pos : Nat} (h : TextAt l acc pos false) (hp : l.length ≤ pos) : txt l = none := by
  obtain ⟨m, hm, ht⟩ := h
  rw [ht, List.drop_eq_nil_of_le hp]; rfl
theorem textAt_rune {l acc : List UInt8} {pos k : Nat} (h : TextAt l acc pos false) (hk : pos + k ≤ l.length) (hn : (39 : UInt8) ∉ (l.drop pos).take k) : TextAt l (acc ++ (l.drop pos).take k) (pos + k) false := by
  obtain ⟨m, hm, ht⟩ := h
  simp only [Bool.false_eq_true, if_false, List.nil_append, Nat.add_zero] at hm ht
  have hs : l.drop pos = (l.drop pos).take k ++ l.drop (pos + k) := by
    conv => lhs; rw [← List.take_append_drop k (l.drop pos)]
    rw [List.drop_drop]
  refine ⟨pos + k, by simp, ?_⟩
  rw [ht]
  conv => lhs; rw [hs, txt_skip _ _ hn]
  rw [Option.map_map]
  simp only [Bool.false_eq_true, if_false, List.nil_append]
  congr 1
  funext p
  have hl : ((l.drop pos).take k).length = k := by rw [List.length_take, List.length_drop]; omega
  simp only [Function.comp, hl, List.append_assoc, Prod.mk.injEq, true_and]
  omega
/-! Runes. -/
theorem decodeN_free (n b0 b1 b2 b3 : Nat) (h : (Lib.decodeN n b0 b1 b2 b3).1 ≠ 39) (hn : 1 ≤ n) :
    (Lib.decodeN n b0 b1 b2 b3).2 ≤ n ∧ (1 ≤ (Lib.decodeN n b0 b1 b2 b3).2) ∧ b0 ≠ 39 ∧ (1 < (Lib.decodeN n b0 b1 b2 b3).2 → b1 ≠ 39) ∧ (2 < (Lib.decodeN n b0 b1 b2 b3).2 → b2 ≠ 39) ∧ (3 < (Lib.decodeN n b0 b1 b2 b3).2 → b3 ≠ 39) ∧ (Lib.decodeN n b0 b1 b2 b3).2 ≤ 4 := by
  unfold Lib.decodeN at *
  repeat' split
  all_goals simp_all
  all_goals omega
theorem rune_free (s : ByteArray) (pos : Nat) (h : pos < s.size) (hr : (Utf8.decode s pos).1 ≠ 39) :
    pos + (Utf8.decode s pos).2 ≤ s.size ∧ 1 ≤ (Utf8.decode s pos).2 ∧ (39 : UInt8) ∉ (s.data.toList.drop pos).take (Utf8.decode s pos).2 := by
  have hlen : s.data.toList.length = s.size := by rw [Array.length_toList]; rfl
  rw [Lib.decode_N, hlen] at hr ⊢
  have hf := decodeN_free _ _ _ _ _ hr (by omega)
  generalize (Lib.decodeN (s.size - pos) (s.data.toList.getD pos 0).toNat (s.data.toList.getD (pos + 1) 0).toNat (s.data.toList.getD (pos + 2) 0).toNat (s.data.toList.getD (pos + 3) 0).toNat).2 = k at *
  obtain ⟨h1, h2, g0, g1, g2, g3, h4⟩ := hf
  refine ⟨by omega, h2, ?_⟩
  intro hm
  obtain ⟨j, hj⟩ := List.mem_iff_getElem?.1 hm
  rw [List.getElem?_take] at hj
  split at hj
  · rename_i hjk
    rw [List.getElem?_drop] at hj
    have hg : (s.data.toList.getD (pos + j) 0).toNat = 39 := by rw [List.getD_eq_getElem?_getD, hj]; rfl
    match j, hjk, hg with
    | 0, _, hg => exact g0 hg
    | 1, hjk, hg => exact g1 hjk hg
    | 2, hjk, hg => exact g2 hjk hg
    | 3, hjk, hg => exact g3 hjk hg
    | j + 4, hjk, _ => omega
  · cases hj
theorem rune_quote (s : ByteArray) (pos : Nat) (h : pos < s.size) (hr : (Utf8.decode s pos).1 = 39) : s[pos]'h = 39 ∧ (Utf8.decode s pos).2 = 1 := by
  by_cases ha : (s[pos]'h).toNat < 128
  · have e := decode_ascii s pos h ha
    rw [e] at hr ⊢
    exact ⟨UInt8.toNat_inj.1 hr, rfl⟩
  · have := (decode_high s pos h (by omega)).1
    omega
theorem rune_other (s : ByteArray) (pos : Nat) (h : pos < s.size) (hr : (Utf8.decode s pos).1 ≠ 39) : s[pos]'h ≠ 39 := by
  intro e
  have ha : (s[pos]'h).toNat < 128 := by rw [e]; decide
  rw [decode_ascii s pos h ha, e] at hr
  exact hr rfl
theorem rune_tail (s : ByteArray) (pos : Nat) : Utf8.decode (s.extract 1 s.size) pos = Utf8.decode s (1 + pos) := by
  rw [← Lib.decodeL_drop, ← Lib.decodeL_drop, Lib.extract_data, List.take_of_length_le (by simp), List.drop_drop]
def txtS : Option (List UInt8 × Nat) → List UInt8
  | none => []
  | some p => p.1
def txtN : Option (List UInt8 × Nat) → Nat
  | none => 0
  | some p => p.2 + 1
end Go.Proofs.YtmdmcfobdbccmaaDoor.Lp
