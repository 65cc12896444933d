/-
  What row.take gives, of any kind and any bytes: the value in front and what is behind, or that there is none. Conditions: unicode/utf8's tables as laid; lengths as a slice can have.
-/
import Derived.Test.YthdnphnipfpdkaaDoorKeyTake
import Derived.Laws.OwnMore
namespace Go.Proofs.YthdnphnipfpdkaaDoor
open Go.RowKit

theorem ofInt_ofU {a : Nat} (h : a < 18446744073709551616) : BitVec.ofInt 64 (Lp.ofU a) = BitVec.ofNat 64 a := by
  apply BitVec.eq_of_toNat_eq
  rw [BitVec.toNat_ofInt, BitVec.toNat_ofNat]
  unfold Lp.ofU
  split <;> omega
theorem wrap_ofU {a : Nat} (h : a < 18446744073709551616) : RowKit.wrap64 (a : Int) = Lp.ofU a := by
  rw [← IntWalk.i64_left, IntKind.wrap_i64]; unfold Lp.ofU; split <;> omega
theorem or_le {a b k : Nat} (hk : k < 8) (ha : a < 256 ^ k) (hb : b < 256) : bits .or .i64 (Lp.ofU a) (RowKit.wrap64 ((b : Int) * 2 ^ (8 * k))) = Lp.ofU (a + b * 256 ^ k) := by
  have h7 : 256 ^ k ≤ 256 ^ 7 := Nat.pow_le_pow_right (by omega) (by omega)
  have h1 : b * 256 ^ k + 256 ^ k ≤ 256 ^ 8 := by
    rcases (show k = 0 ∨ k = 1 ∨ k = 2 ∨ k = 3 ∨ k = 4 ∨ k = 5 ∨ k = 6 ∨ k = 7 by omega) with rfl | rfl | rfl | rfl | rfl | rfl | rfl | rfl <;> simp <;> omega
  have e2 : (b : Int) * 2 ^ (8 * k) = ((b * 256 ^ k : Nat) : Int) := by rw [Int.pow_mul]; simp
  have hor : a ||| b * 256 ^ k = a + b * 256 ^ k := by
    have e : (256 : Nat) ^ k = 2 ^ (8 * k) := by rw [Nat.pow_mul]
    rw [e] at ha ⊢
    have := Nat.two_pow_add_eq_or_of_lt ha b
    rw [Nat.or_comm, Nat.mul_comm b, ← this, Nat.add_comm]
  rw [e2, wrap_ofU (by omega)]
  show IntKind.i64.wrap ((BitVec.ofInt 64 (Lp.ofU a) ||| BitVec.ofInt 64 (Lp.ofU (b * 256 ^ k))).toNat : Int) = _
  rw [ofInt_ofU (by omega), ofInt_ofU (by omega), BitVec.toNat_or, BitVec.toNat_ofNat, BitVec.toNat_ofNat, Nat.mod_eq_of_lt (by omega), Nat.mod_eq_of_lt (by omega), hor, IntWalk.i64_left, wrap_ofU (by omega)]

/-- A boxed value as a row of the call's own. -/
def BoxV (w : World) (B g : Nat) (k i : Int) (s : ByteArray) (b : Bool) : Prop := w.ownsRow B 36 4 (.slice (some ⟨g, 0, none⟩) 1 1) 1 [.int .u8 k, .int .i64 i, .string s, .bool b]
theorem boxv_new (w : World) {B : Nat} (hB : B ≤ w.heap.size) (k i : Int) (s : ByteArray) (b : Bool) : BoxV (w.alloc (.cells #[.int .u8 k, .int .i64 i, .string s, .bool b] 36)) B w.heap.size k i s b :=
  ⟨rfl, .inr ⟨w.heap.size, 1, _, rfl, hB, heap_alloc_new w _, Nat.le_refl _, by simp [maxLen], rfl, rfl⟩⟩
theorem boxv_cells {w : World} {B g : Nat} {k i : Int} {s : ByteArray} {b : Bool} (h : BoxV w B g k i s b) :
    (w.cell? ⟨g, 0, none⟩ = some (.int .u8 k) ∧ w.cell? ⟨g, 1, none⟩ = some (.int .i64 i) ∧ w.cell? ⟨g, 2, none⟩ = some (.string s) ∧ w.cell? ⟨g, 3, none⟩ = some (.bool b)) ∧
    (w.frozen? ⟨g, 0, none⟩ = false ∧ w.frozen? ⟨g, 1, none⟩ = false ∧ w.frozen? ⟨g, 2, none⟩ = false ∧ w.frozen? ⟨g, 3, none⟩ = false) :=
  ⟨⟨World.ownsRow.cellAt h 0 (by omega), World.ownsRow.cellAt h 1 (by omega), World.ownsRow.cellAt h 2 (by omega), World.ownsRow.cellAt h 3 (by omega)⟩,
   ⟨World.ownsRow.frozenAt h 0, World.ownsRow.frozenAt h 1, World.ownsRow.frozenAt h 2, World.ownsRow.frozenAt h 3⟩⟩
theorem boxv_setI {w : World} {B g : Nat} {k i : Int} {s : ByteArray} {b : Bool} (h : BoxV w B g k i s b) (i' : Int) : BoxV (w.setCell ⟨g, 1, none⟩ (.int .i64 i')) B g k i' s b :=
  (World.ownsRow.stored h 1 (.int .i64 i')).1
theorem boxv_far {w : World} {B g g' : Nat} {k i : Int} {s : ByteArray} {b : Bool} {k' i' : Int} {s' : ByteArray} {b' : Bool} (h : BoxV w B g k i s b) (h' : BoxV w B g' k' i' s' b') (hne : g ≠ g') (j : Nat) (u : Value) : BoxV (w.setCell ⟨g', j, none⟩ u) B g k i s b :=
  h.kept (World.ownsRow.stored h' j u).2 (.inr (by intro e; injection e with e; exact hne e))

set_option maxRecDepth 100000 in
set_option maxHeartbeats 4000000 in
theorem take4_int (A : Option Addr) (n c : Nat) (l : List UInt8) (hnl : n = l.length) (w : World) (h : Rds w A (bv l)) (hc : n ≤ c) (hcm : n ≤ 9223372036854775807) :
    Calls Tryd.prog 48 #[.int .u8 1, .slice A n c] w (TakePost w A (Lp.rtake 1 l)) := by
  subst hnl
  by_cases h8 : l.length < 8
  · have HK : Hid (Lp.rtake 1 l = none) := by show _ = _; simp [Lp.rtake, h8]
    have hb2 : ∀ o1 o2, Below w.heap.size w ((w.alloc o1).alloc o2) := fun o1 o2 => ((Below.refl w.heap.size w).alloc (Nat.le_refl _) o1).alloc (by simp) o2
    have HX := Lib.hid hb2
    clear hb2
    go_enter Tryd.func48, Tryd.ntmps48
    go_wp2
    exact bodyPost_ret (v := .tuple #[.agg #[.int .u8 1, .int .i64 0, .string ⟨#[]⟩, .bool false], .slice none 0 0, .bool false]) (by simp [results, Tryd.results48, go_sem]) rfl (take_no ⟨1, 0, ⟨#[]⟩, false⟩ (HX.out _ _) HK.out)
  · have h8' : 8 ≤ l.length := by omega
    have HK : Hid (Lp.rtake 1 l = some (Lp.vInt (Lp.ofU (Lp.unle (l.take 8))), l.drop 8)) := by show _ = _; simp [Lp.rtake, h8]
    obtain ⟨b, off, rfl, p00⟩ := h.at_ (bv_at (show 0 < l.length by omega))
    have hlt := World.block_lt_of_cell? w _ p00
    clear p00
    have hbr := boxv_new w (Nat.le_refl _) 0 0 ⟨#[]⟩ false
    have hbv := boxv_new (w.alloc (.cells #[.int .u8 0, .int .i64 0, .string ⟨#[]⟩, .bool false] 36)) (B := w.heap.size) (by simp) 1 0 ⟨#[]⟩ false
    have hbr2 := World.ownsRow.alloc hbr (.cells #[.int .u8 1, .int .i64 0, .string ⟨#[]⟩, .bool false] 36)
    rw [World.size_alloc] at hbv
    have hbw := ((Below.refl w.heap.size w).alloc (Nat.le_refl _) (.cells #[.int .u8 0, .int .i64 0, .string ⟨#[]⟩, .bool false] 36)).alloc (by simp) (.cells #[.int .u8 1, .int .i64 0, .string ⟨#[]⟩, .bool false] 36)
    clear hbr
    go_enter Tryd.func48, Tryd.ntmps48
    go_wp2_with fail
    go_loopg [8, 18] 9 (fun gk _ s18 wz => ∃ k : Nat, k ≤ 8 ∧ gk = 9 - k ∧ s18 = .int .i64 k ∧ BoxV wz w.heap.size w.heap.size 0 0 ⟨#[]⟩ false ∧ BoxV wz w.heap.size (w.heap.size + 1) 1 (Lp.ofU (Lp.unle (l.take k))) ⟨#[]⟩ false ∧ Below w.heap.size w wz)
    case atStart => exact ⟨0, by omega, rfl, rfl, hbr2, hbv, hbw⟩
    case round =>
      obtain ⟨k, hk8, rfl, rfl, hR, hV, hbz⟩ := hrel
      obtain ⟨⟨c0, c1, c2, c3⟩, f0, f1, f2, f3⟩ := boxv_cells hV
      obtain ⟨⟨r0, r1, r2, r3⟩, d0, d1, d2, d3⟩ := boxv_cells hR
      by_cases hlt8 : k < 8
      · have hkl : k < l.length := by omega
        obtain ⟨b3, o3, he, p1⟩ := (h.below hbz).at_ (bv_at hkl)
        injection he with he
        injection he with he1 he2
        subst he1 he2
        have hU : Lp.unle (l.take k) < 256 ^ k := by
          have := Lp.unle_lt (l.take k)
          rwa [List.length_take, Nat.min_eq_left (by omega)] at this
        have hor := Lib.hid (or_le hlt8 hU l[k].toNat_lt)
        have hN : Hid (Lp.unle (l.take (k + 1)) = Lp.unle (l.take k) + l[k].toNat * 256 ^ k) := by
          show _ = _
          rw [List.take_succ_eq_append_getElem hkl, Lp.unle_snoc, List.length_take, Nat.min_eq_left (by omega)]
        rw [← hN.out] at hor
        have hbl := l[k].toNat_lt
        clear hU hN
        generalize l[k].toNat = B at *
        generalize Lp.ofU (Lp.unle (l.take k)) = I at *
        go_wp2_with fail
        go_region
        rw [hor.out]
        have hR2 := World.ownsRow.drew (boxv_far hR hV (by omega) 1 (.int .i64 (Lp.ofU (Lp.unle (l.take (k + 1))))))
        have hV2 := World.ownsRow.drew (boxv_setI hV (Lp.ofU (Lp.unle (l.take (k + 1)))))
        have hbz2 := (hbz.setCell (p := ⟨w.heap.size + 1, 1, none⟩) (Nat.le_succ _) (.int .i64 (Lp.ofU (Lp.unle (l.take (k + 1)))))).drew
        clear hR hV hbz c0 c1 c2 c3 f0 f1 f2 f3 r0 r1 r2 r3 d0 d1 d2 d3 hor
        go_wp2
        go_roundg (9 - (k + 1))
        case measure => omega
        case rel => exact ⟨k + 1, by omega, rfl, by go_num, hR2, hV2, hbz2⟩
      · obtain rfl : k = 8 := by omega
        have hok : Hid (Lp.inR (Lp.ofU (Lp.unle (l.take 8)))) := by
          show Lp.inR _
          have h1 := Lp.unle_lt (l.take 8)
          rw [List.length_take, Nat.min_eq_left h8'] at h1
          exact Lp.ofU_in h1
        have hrd := h.drop 8 (cap := c) (by rw [bv_length]; exact hc)
        rw [bv_drop] at hrd
        generalize Lp.ofU (Lp.unle (l.take 8)) = I at *
        have hbE := ((((hbz.setCell (p := ⟨w.heap.size, 0, none⟩) (Nat.le_refl _) (.int .u8 1)).setCell (p := ⟨w.heap.size, 1, none⟩) (Nat.le_refl _) (.int .i64 I)).setCell (p := ⟨w.heap.size, 2, none⟩) (Nat.le_refl _) (.string ⟨#[]⟩)).setCell (p := ⟨w.heap.size, 3, none⟩) (Nat.le_refl _) (.bool false)).drew
        have HBE := Lib.hid hbE
        clear hbE hR hV hbv hbr2 hbw
        by_cases h1 : c = 8
        · rw [if_pos h1] at hrd
          have hl0 : l.length = 8 := by omega
          have HL0 := Lib.hid hl0
          clear hl0
          subst h1
          go_wp2_with fail
          go_region
          go_wp2
          exact bodyPost_ret (v := .tuple #[.agg #[.int .u8 1, .int .i64 I, .string ⟨#[]⟩, .bool false], .slice (some ⟨b, off, none⟩) 0 0, .bool true]) (by simp [results, Tryd.results48, go_sem, r0, r1, r2, r3]) rfl (take_yes (hB := ⟨_, _, _, rfl, rfl⟩) (v := Lp.vInt I) HBE.out HK.out (by rw [List.length_drop, HL0.out]) (Nat.le_refl _) (.inl (List.eq_nil_of_length_eq_zero (by rw [bv_length, List.length_drop, HL0.out]))) (vint_ok hok.out))
        · rw [if_neg h1] at hrd
          simp only [Option.map_some, Nat.mul_one, addr_plus] at hrd
          go_wp2_with fail
          go_region
          go_wp2
          exact bodyPost_ret (v := .tuple #[.agg #[.int .u8 1, .int .i64 I, .string ⟨#[]⟩, .bool false], .slice (some ⟨b, off + 8, none⟩) (l.length - 8) (c - 8), .bool true]) (by simp [results, Tryd.results48, go_sem, r0, r1, r2, r3]) rfl (take_yes (hB := ⟨_, _, _, rfl, rfl⟩) (v := Lp.vInt I) HBE.out HK.out (by simp) (by omega) (hrd.below HBE.out) (vint_ok hok.out))
end Go.Proofs.YthdnphnipfpdkaaDoor
