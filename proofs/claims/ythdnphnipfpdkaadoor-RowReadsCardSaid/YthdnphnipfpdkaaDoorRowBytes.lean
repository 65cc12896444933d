/-
  What row.Bytes gives, of any kinds and any values: the row's bytes, or the refusal. Conditions: unicode/utf8's tables as laid; at most 2^30 values.
-/
import Derived.Test.YthdnphnipfpdkaaDoorRow2
import Derived.Laws.BitsAllLaws
import Derived.Laws.ShiftsVarLaws
namespace Go.Proofs.YthdnphnipfpdkaaDoor
open Go.RowKit

def RowBytesPost (w : World) (ks : List UInt8) (l : List Lp.V) (e : Ending) (w' : World) : Prop :=
  Below w.heap.size w w' ∧ ((Lp.rfits ks l = 0 ∧ ∃ A c, e = .returned (.tuple #[.slice A (Lp.rowB l).length c, .int .i64 0]) ∧ OwnB w' w.heap.size A c (Lp.rowB l)) ∨
    (Lp.rfits ks l ≠ 0 ∧ e = .returned (.tuple #[.slice none 0 0, .int .i64 (Lp.rfits ks l)])))

theorem own_new (w : World) {B : Nat} (hB : B ≤ w.heap.size) (xs : List Value) (t : TypeId) (n : Nat) (hn : n = xs.length) (hm : n ≤ maxLen) :
    (w.alloc (.cells xs.toArray t)).ownsRow B t 1 (.slice (some ⟨w.heap.size, 0, none⟩) n n) n xs := by
  subst hn
  exact ⟨by simp, .inr ⟨w.heap.size, xs.length, xs.toArray, rfl, hB, heap_alloc_new w _, Nat.le_refl _, hm, by simp, by simp⟩⟩
theorem rowB_next {l : List Lp.V} {i : Nat} {v : Lp.V} (h : i < l.length) (hv : l[i] = v) (h0 : v.k ≠ 0) : Lp.rowB (l.take (i + 1)) = Lp.rowB (l.take i) ++ Lp.cb v := by
  unfold Lp.rowB
  rw [cbs_next h hv, take_next h, hv, Lp.nulls_snoc, if_neg h0]; rfl
theorem rowB_null {l : List Lp.V} {i : Nat} {v : Lp.V} (h : i < l.length) (hv : l[i] = v) (h0 : v.k = 0) : Lp.rowB (l.take (i + 1)) = UInt8.ofNat (Lp.nulls (l.take i) + 2 ^ i) :: Lp.cbs (l.take i) := by
  unfold Lp.rowB
  have hl : (l.take i).length = i := by rw [List.length_take]; omega
  rw [cbs_next h hv, take_next h, hv, Lp.nulls_snoc, if_pos h0, Lp.cb_null h0, List.append_nil, hl]
theorem row_round {l : List Lp.V} {i m B : Nat} {v : Lp.V} {bs : List UInt8} {w : World} {A : Option Addr} {c : Nat} (h : i < l.length) (hv : l[i] = v) (h0 : v.k ≠ 0) (hb : Lp.cb v = bs) (hm : bs.length = m)
    (ho : w.ownsRow B 5 1 (.slice A ((Lp.rowB (l.take i)).length + m) c) ((Lp.rowB (l.take i)).length + m) (bv (Lp.rowB (l.take i)) ++ bv bs)) :
    (Lp.rowB (l.take i)).length + m = (Lp.rowB (l.take (i + 1))).length ∧ OwnB w B A c (Lp.rowB (l.take (i + 1))) := by
  have e : Lp.rowB (l.take (i + 1)) = Lp.rowB (l.take i) ++ bs := by rw [rowB_next h hv h0, hb]
  have e2 : (Lp.rowB (l.take i)).length + m = (Lp.rowB (l.take (i + 1))).length := by rw [e, List.length_append, hm]
  exact ⟨e2, by unfold OwnB; rw [← e2, e, bv_append]; exact ho⟩

theorem or_bit (N i : Nat) (hN : N < 2 ^ i) (hi : i < 8) : bits .or .u8 (((UInt8.ofNat N).toNat : Nat) : Int) (2 ^ i % 256) = (((UInt8.ofNat (N + 2 ^ i)).toNat : Nat) : Int) := by
  have h1 : 2 ^ i ≤ 2 ^ 7 := Nat.pow_le_pow_right (by omega) (by omega)
  have e1 : ((2 : Int) ^ i % 256) = ((2 ^ i : Nat) : Int) := by
    have : ((2 : Int) ^ i) = ((2 ^ i : Nat) : Int) := by simp
    rw [this]; omega
  have e2 : (UInt8.ofNat N).toNat = N := by simp; omega
  have e3 : (UInt8.ofNat (N + 2 ^ i)).toNat = N + 2 ^ i := by simp; omega
  rw [e1, e2, e3, u8_or_nat N (2 ^ i) (by omega) (by omega)]
  have := Nat.two_pow_add_eq_or_of_lt hN 1
  rw [Nat.mul_one] at this
  rw [Nat.or_comm, ← this, Nat.add_comm]
theorem shr_le (i : Int) (k : Nat) (hk : k < 8) : (i / 2 ^ (8 * k) % 256) = (((UInt8.ofNat (Lp.toU i / 256 ^ k)).toNat : Nat) : Int) := by
  have e : (2 : Int) ^ (8 * k) = ((256 ^ k : Nat) : Int) := by rw [Int.pow_mul]; simp
  have e2 : (((UInt8.ofNat (Lp.toU i / 256 ^ k)).toNat : Nat) : Int) = ((Lp.toU i : Nat) : Int) / ((256 ^ k : Nat) : Int) % 256 := by simp
  rw [e, e2]
  have e3 : ((Lp.toU i : Nat) : Int) = i % 18446744073709551616 := by unfold Lp.toU; omega
  rw [e3]
  rcases (show k = 0 ∨ k = 1 ∨ k = 2 ∨ k = 3 ∨ k = 4 ∨ k = 5 ∨ k = 6 ∨ k = 7 by omega) with rfl | rfl | rfl | rfl | rfl | rfl | rfl | rfl <;> simp <;> omega
theorem le_next {w : World} {B n k c : Nat} {A : Option Addr} {p : List UInt8} {U : Nat}
    (h : w.ownsRow B 5 1 (.slice A (n + k + 1) c) (n + k + 1) (bv p ++ bv (Lp.le U k) ++ [.int .u8 (((UInt8.ofNat (U / 256 ^ k)).toNat : Nat) : Int)])) :
    w.ownsRow B 5 1 (.slice A (n + (k + 1)) c) (n + (k + 1)) (bv p ++ bv (Lp.le U (k + 1))) := by
  rw [Lp.le_snoc]
  have e2 : bv p ++ bv (Lp.le U k ++ [UInt8.ofNat (U / 256 ^ k)]) = bv p ++ bv (Lp.le U k) ++ [.int .u8 (((UInt8.ofNat (U / 256 ^ k)).toNat : Nat) : Int)] := by simp [bv]
  rw [e2]; exact h

theorem text_rowround {l : List Lp.V} {i B : Nat} {vi : Int} {s : ByteArray} {vb : Bool} {w : World} {A : Option Addr} {c : Nat} {X : Int} (h : i < l.length) (hv : l[i] = ⟨2, vi, s, vb⟩) (hX : X = (((UInt8.ofNat s.size).toNat : Nat) : Int))
    (ho : w.ownsRow B 5 1 (.slice A ((Lp.rowB (l.take i)).length + 1 + s.size) c) ((Lp.rowB (l.take i)).length + 1 + s.size) (bv (Lp.rowB (l.take i)) ++ [.int .u8 X] ++ Lib.strCells s)) :
    (Lp.rowB (l.take i)).length + 1 + s.size = (Lp.rowB (l.take (i + 1))).length ∧ OwnB w B A c (Lp.rowB (l.take (i + 1))) := by
  subst hX
  have e : (Lp.rowB (l.take i)).length + 1 + s.size = (Lp.rowB (l.take i)).length + (1 + s.size) := by omega
  have e2 : bv (Lp.rowB (l.take i)) ++ [.int .u8 (((UInt8.ofNat s.size).toNat : Nat) : Int)] ++ Lib.strCells s = bv (Lp.rowB (l.take i)) ++ bv (UInt8.ofNat s.size :: s.data.toList) := by simp [bv, Lib.strCells]
  rw [e, e2] at ho
  have := row_round h hv (by simp) (bs := UInt8.ofNat s.size :: s.data.toList) (by simp [Lp.cb]) (by simp; omega) ho
  rw [← e] at this; exact this

set_option maxRecDepth 100000 in
set_option maxHeartbeats 4000000 in
theorem rowBytes_any (AK : Option Addr) (n cK : Nat) (ks : List UInt8) (AL : Option Addr) (m cL : Nat) (l : List Lp.V) (hnk : n = ks.length) (hml : m = l.length) (w : World) (hK : Rds w AK (bv ks)) (hkn : ks.length ≤ 70368744177664)
    (hL : RdsV w AL l) (hln : l.length ≤ 1073741824) (hs : ∀ v ∈ l, v.ok) (hT : Tabs w) :
    Calls Tryd.prog 28 #[.slice AK n cK, .slice AL m cL] w (RowBytesPost w ks l) := by
  subst hnk hml
  have HS := Lib.hid hs
  clear hs
  by_cases hz : Lp.rfits ks l = 0
  · have hfits := fits_any AK _ cK ks AL _ cL l rfl rfl w hK hkn hL hln HS.out hT
    rw [hz] at hfits
    have HZ := Lib.hid hz
    have h8 : l.length ≤ 8 := by
      obtain ⟨a1, a2, _⟩ := Lp.rfits_zero hz
      rw [← a2]; unfold Lp.kindsOk at a1; simp at a1; exact a1.1.2
    have HR := Lib.hid (Lp.rfits_zero hz).2.2.1
    have HF := Lib.hid hfits
    clear hz hfits
    obtain ⟨i0, hi0, hz0, hz1, hz2⟩ := info_parts byteInfo
    go_enter Tryd.func28, Tryd.ntmps28
    go_wp2_with fail
    refine (HF.out).mono ?_
    rintro e w0 ⟨rfl, hb0⟩
    have hz0' := hb0.size
    clear HF hT
    have hown0 := own_new w0 (B := w.heap.size) hz0' [.int .u8 0] 5 1 rfl (by simp [maxLen])
    have hbw0 := hb0.alloc hz0' (.cells #[.int .u8 0] 5)
    go_wp2_with fail
    go_loopg [7, 8, 9, 10, 11, 21] (l.length + 1) (fun gk s7 _ _ _ _ s21 wr => ∃ (i : Nat) (A1 : Option Addr) (c1 : Nat), i ≤ l.length ∧ gk + i = l.length + 1 ∧ s21 = .int .i64 i ∧ s7 = .slice A1 (Lp.rowB (l.take i)).length c1 ∧ OwnB wr w.heap.size A1 c1 (Lp.rowB (l.take i)) ∧ Below w.heap.size w wr)
    case atStart => exact ⟨0, _, _, by omega, by omega, rfl, rfl, hown0, hbw0⟩
    case round =>
      obtain ⟨i, A1, c1, hle, hgk, rfl, rfl, hown, hbw⟩ := hrel
      have hsz := hbw.size
      have hLr := hL.below hbw
      by_cases hi : i < l.length
      · obtain ⟨b, off, rfl, q0, q1, q2, q3⟩ := RdsV.cells hLr hi
        have hrv : (l[i]).right = true := List.all_eq_true.1 HR.out _ (List.getElem_mem hi)
        generalize hvi : l[i] = v at *
        obtain ⟨k, vi, s, vb⟩ := v
        have hkinds := Lp.right_kinds hrv
        simp only at q0 q1 q2 q3 hkinds
        have HV := Lib.hid hvi
        have HRV := Lib.hid hrv
        clear hvi hrv
        rcases hkinds with rfl | rfl | rfl | rfl
        · obtain ⟨g, cap, hv, hg, hlt⟩ := World.ownsRow.form hown (by simp [Lp.rowB])
          injection hv with hA _ hC
          subst hA hC
          have hown1 := World.ownsRow.alloc hown (.cells #[.int .u8 0, .int .i64 vi, .string s, .bool vb] 36)
          have hcell := World.ownsRow.cellAt hown1 0 (by simp [Lp.rowB])
          have hfz := World.ownsRow.frozenAt hown1 0
          have hc0 : (bv (Lp.rowB (l.take i)))[0]? = some (.int .u8 ((UInt8.ofNat (Lp.nulls (l.take i))).toNat : Nat)) := rfl
          rw [hc0] at hcell
          have hlen0 : 0 < (Lp.rowB (l.take i)).length := by simp [Lp.rowB]
          have hcap := own_le hown
          have hi8 : i < 8 := by omega
          have hx := (UInt8.ofNat (Lp.nulls (l.take i))).toNat_lt
          have hnl : Lp.nulls (l.take i) < 2 ^ i := by have := Lp.nulls_lt (l.take i); rw [List.length_take, Nat.min_eq_left hle] at this; exact this
          have HB := Lib.hid (or_bit _ i hnl hi8)
          have HN := Lib.hid (rowB_null hi HV.out rfl)
          clear hnl
          generalize hX : (UInt8.ofNat (Lp.nulls (l.take i))).toNat = X at *
          clear hc0 hX
          go_wp2_with fail
          go_region
          have hst := (World.ownsRow.stored hown 0 (.int .u8 (bits .or .u8 (X : Int) (2 ^ i % 256)))).1
          have hst2 := (World.ownsRow.alloc hst (.cells #[.int .u8 0, .int .i64 vi, .string s, .bool vb] 36)).drew
          have hbs := ((hbw.setCell (p := ⟨g, 0, none⟩) hg (.int .u8 (bits .or .u8 (X : Int) (2 ^ i % 256)))).alloc (by simp; omega) (.cells #[.int .u8 0, .int .i64 vi, .string s, .bool vb] 36)).drew
          have hlen : Hid ((Lp.rowB (l.take i)).length = (Lp.rowB (l.take (i + 1))).length) := by show _ = _; rw [HN.out]; rfl
          have hown4 : OwnB (((wr.setCell ⟨g, 0, none⟩ (.int .u8 (bits .or .u8 (X : Int) (2 ^ i % 256)))).alloc (.cells #[.int .u8 0, .int .i64 vi, .string s, .bool vb] 36)).drew) w.heap.size (some ⟨g, 0, none⟩) c1 (Lp.rowB (l.take (i + 1))) := by
            unfold OwnB
            rw [← hlen.out]
            have e : bv (Lp.rowB (l.take (i + 1))) = (bv (Lp.rowB (l.take i))).set 0 (.int .u8 (bits .or .u8 (X : Int) (2 ^ i % 256))) := by
              rw [HN.out, HB.out]; rfl
            rw [e]; exact hst2
          clear hst hst2 hown1 hcell hfz hlen0 hx HB
          generalize bits .or .u8 (X : Int) (2 ^ i % 256) = Y at *
          generalize (((wr.setCell ⟨g, 0, none⟩ (.int .u8 Y)).alloc (.cells #[.int .u8 0, .int .i64 vi, .string s, .bool vb] 36)).drew) = w4 at *
          go_wp2
          go_roundg (gk - 1)
          case measure => omega
          case rel => exact ⟨i + 1, _, c1, by omega, by omega, by go_num, by rw [hlen.out], hown4, hbs⟩
        · have hx1 := heap_alloc_new wr (.cells #[.int .u8 1, .int .i64 vi, .string s, .bool vb] 36)
          have hown1 : (wr.alloc (.cells #[.int .u8 1, .int .i64 vi, .string s, .bool vb] 36)).ownsRow w.heap.size 5 1 (.slice A1 ((Lp.rowB (l.take i)).length + 0) c1) ((Lp.rowB (l.take i)).length + 0) (bv (Lp.rowB (l.take i)) ++ bv (Lp.le (Lp.toU vi) 0)) := by
            rw [show bv (Lp.rowB (l.take i)) ++ bv (Lp.le (Lp.toU vi) 0) = bv (Lp.rowB (l.take i)) by simp [Lp.le, bv]]
            exact World.ownsRow.alloc hown _
          have hbw1 := hbw.alloc hsz (.cells #[.int .u8 1, .int .i64 vi, .string s, .bool vb] 36)
          have hrl : (Lp.rowB (l.take i)).length ≤ 1000 := by
            have h1 : (Lp.cbs (l.take i)).length ≤ 61 * (l.take i).length := Lp.cbs_le (List.all_eq_true.2 fun u hu => List.all_eq_true.1 HR.out u (List.mem_of_mem_take hu))
            have h2 : (l.take i).length ≤ l.length := List.length_take_le' _ _
            simp only [Lp.rowB, List.length_cons]; omega
          clear hown hbw
          go_wp2_with fail
          clear q0 q1 q2 q3 hsz
          go_loopg [7, 10, 45] 9 (fun gj s7 _ s45 wz => ∃ (k : Nat) (A3 : Option Addr) (c3 : Nat), k ≤ 8 ∧ gj = 9 - k ∧ s45 = .int .i64 k ∧ s7 = .slice A3 ((Lp.rowB (l.take i)).length + k) c3 ∧
            wz.ownsRow w.heap.size 5 1 (.slice A3 ((Lp.rowB (l.take i)).length + k) c3) ((Lp.rowB (l.take i)).length + k) (bv (Lp.rowB (l.take i)) ++ bv (Lp.le (Lp.toU vi) k)) ∧ Below w.heap.size w wz ∧ wz.heap[wr.heap.size]? = some (.cells #[.int .u8 1, .int .i64 vi, .string s, .bool vb] 36 (0, 0)))
          case atStart => exact ⟨0, A1, c1, by omega, rfl, rfl, rfl, hown1, hbw1, hx1⟩
          case round =>
            obtain ⟨k, A3, c3, hk8, rfl, rfl, rfl, hown3, hbw3, hx3⟩ := hrel
            have hc3 := box_cells hx3
            have hsz3 := hbw3.size
            by_cases hlt : k < 8
            · have HSH := Lib.hid (shr_le vi k hlt)
              go_wp2_with (at_builtin; refine wpList_app _ rfl (.tmp 48) (.tmp 55) _ rfl w.heap.size 5 i0 _ 1 1 Tryd.underlying22 hi0 hz0 hz1 hz2 rfl (by omega) _ _ _ _ rfl (hown3.alloc _) _ 1 1 [_] rfl rfl (rds_new _ _ _) (by simp [Value.oneCell']) (by simp only [maxLen]; omega) (by omega) (by simp; omega) ?_; intro A4 c4 w4 hown4 hb4 hg4 _; have hx4 := box_far (hown3.alloc _) (box_alloc hx3 _) (by decide) hg4)
              rw [HSH.out] at hown4
              have hown5 := le_next hown4
              have hbw5 := (hbw3.alloc (by omega) _).trans hb4
              clear hown4 hb4 hg4 hown3 hbw3 HSH hc3 hx3
              go_wp2
              go_roundg (9 - (k + 1))
              case measure => omega
              case rel => exact ⟨k + 1, A4, c4, by omega, rfl, by go_num, by simp [Nat.add_assoc], hown5, hbw5, hx4⟩
            · obtain rfl : k = 8 := by omega
              obtain ⟨e3, hown4⟩ := row_round hi HV.out (by simp) (bs := Lp.le (Lp.toU vi) 8) (m := 8) (by simp [Lp.cb]) (Lp.le_length _ _) hown3
              have E3 := Lib.hid e3
              clear e3 hown3 hx3 hc3
              go_wp2
              go_roundg (gk - 1)
              case measure => omega
              case rel => exact ⟨i + 1, A3, c3, by omega, by omega, by go_num, by rw [E3.out], hown4, hbw3⟩
        · have hs60 := Lp.right_text (v := ⟨2, vi, s, vb⟩) HRV.out rfl
          simp only at hs60
          have hx1 := heap_alloc_new wr (.cells #[.int .u8 2, .int .i64 vi, .string s, .bool vb] 36)
          have hc1 := box_cells hx1
          have hown1 := World.ownsRow.alloc hown (.cells #[.int .u8 2, .int .i64 vi, .string s, .bool vb] 36)
          have hbw1 := hbw.alloc hsz (.cells #[.int .u8 2, .int .i64 vi, .string s, .bool vb] 36)
          have hsz1 : w.heap.size ≤ (wr.alloc (.cells #[.int .u8 2, .int .i64 vi, .string s, .bool vb] 36)).heap.size := hbw1.size
          have hrl : (Lp.rowB (l.take i)).length ≤ 1000 := by
            have h1 : (Lp.cbs (l.take i)).length ≤ 61 * (l.take i).length := Lp.cbs_le (List.all_eq_true.2 fun u hu => List.all_eq_true.1 HR.out u (List.mem_of_mem_take hu))
            have h2 : (l.take i).length ≤ l.length := List.length_take_le' _ _
            simp only [Lp.rowB, List.length_cons]; omega
          have hbyte : IntKind.u8.wrap (s.size : Int) = (((UInt8.ofNat s.size).toNat : Nat) : Int) := by rw [IntKind.wrap_u8]; simp
          clear hown hbw
          go_wp2_with fail
          clear q0 q1 q2 q3 hsz
          generalize wr.alloc (.cells #[.int .u8 2, .int .i64 vi, .string s, .bool vb] 36) = w1 at *
          go_region_held3 (fun w' => w'.cell? ⟨wr.heap.size, 2, none⟩ = some (.string s))
            (first
              | go_keep
              | exact (box_cells hx2 2)
              | exact (box_cells hx3 2))
            (first
              | (refine step_app _ rfl (.tmp 60) (.tmp 65) _ rfl w.heap.size 5 i0 _ 1 1 Tryd.underlying22 hi0 hz0 hz1 hz2 rfl (Nat.zero_lt_one) _ _ _ (bv (Lp.rowB (l.take i))) rfl ?_ _ 1 1 [.int .u8 (IntKind.u8.wrap (s.size : Int))] rfl rfl ?_ ?_ ?_ ?_ ?_ ?_
                 · exact (own_below hown1 (by repeat (first | exact Below.refl _ _ | apply Below.drew | refine Below.alloc ?_ (by simp) _)))
                 · (first | exact rds_new _ _ _ | exact rds_drew (rds_new _ _ _) | exact rds_blk [.int .u8 (IntKind.u8.wrap (s.size : Int))] (box_alloc (heap_alloc_new w1 _) _) | exact rds_blk [.int .u8 (IntKind.u8.wrap (s.size : Int))] (heap_new2 w1 _ _))
                 · simp [Value.oneCell']
                 · simp only [maxLen]; omega
                 · omega
                 · simp; omega
                 intro A2 c2 w2 hown2 hb2 hg2 hk2
                 have hx2 := box_far (own_below hown1 (by repeat (first | exact Below.refl _ _ | apply Below.drew | refine Below.alloc ?_ (by simp) _))) (box_below hx1 (by repeat (first | exact Below.refl _ _ | apply Below.drew | refine Below.alloc ?_ (by simp) _))) (by decide) hg2)
              | (refine step_app_str _ rfl (.tmp 66) (.tmp 68) _ _ rfl w.heap.size 5 i0 Tryd.underlying22 Tryd.underlying9 hi0 hz0 hz1 hz2 _ _ _ (bv (Lp.rowB (l.take i)) ++ [.int .u8 (IntKind.u8.wrap (s.size : Int))]) rfl ?_ s rfl ?_ ?_ ?_ ?_
                 · exact (own_below hown2 (by repeat (first | exact Below.refl _ _ | apply Below.drew | refine Below.alloc ?_ (by simp) _)))
                 · simp only [maxLen]; omega
                 · omega
                 · have := hb2.size; simp at this ⊢; omega
                 intro A3 c3 w3 hown3 hb3 hg3
                 have hx3 := box_far (own_below hown2 (by repeat (first | exact Below.refl _ _ | apply Below.drew | refine Below.alloc ?_ (by simp) _))) (box_below hx2 (by repeat (first | exact Below.refl _ _ | apply Below.drew | refine Below.alloc ?_ (by simp) _))) (by decide) hg3))
          all_goals
            have hbA : Below w.heap.size w1 w2 := Below.trans (by repeat (first | exact Below.refl _ _ | apply Below.drew | refine Below.alloc ?_ (by first | omega | (simp; omega)) _)) hb2
            have hbB : Below w.heap.size w2 w3 := Below.trans (by repeat (first | exact Below.refl _ _ | apply Below.drew | refine Below.alloc ?_ (by have := hbA.size; first | omega | (simp; omega)) _)) hb3
            obtain ⟨e3, hown5⟩ := text_rowround hi HV.out (by first | rfl | exact hbyte | omega) hown3
            have E3 := Lib.hid e3
            have hbw5 := (hbw1.trans hbA).trans hbB
            clear e3 hown3 hb3 hg3 hx3 hown2 hb2 hg2 hx2 hk2 hown1 hbw1 hbA hbB hbyte
            go_wp2
            go_roundg (gk - 1)
            case measure => omega
            case rel => exact ⟨i + 1, A3, c3, by omega, by omega, by go_num, by rw [E3.out], hown5, hbw5⟩
        · cases vb
          · have hown1 := World.ownsRow.alloc hown (.cells #[.int .u8 3, .int .i64 vi, .string s, .bool false] 36)
            have hbw1 := hbw.alloc hsz (.cells #[.int .u8 3, .int .i64 vi, .string s, .bool false] 36)
            have hrl : (Lp.rowB (l.take i)).length ≤ 1000 := by
              have h1 : (Lp.cbs (l.take i)).length ≤ 61 * (l.take i).length := Lp.cbs_le (List.all_eq_true.2 fun u hu => List.all_eq_true.1 HR.out u (List.mem_of_mem_take hu))
              have h2 : (l.take i).length ≤ l.length := List.length_take_le' _ _
              simp only [Lp.rowB, List.length_cons]; omega
            clear hown hbw
            go_wp2_with (at_builtin; refine wpList_app _ rfl (.tmp 30) (.tmp 32) _ rfl w.heap.size 5 i0 _ 1 1 Tryd.underlying22 hi0 hz0 hz1 hz2 rfl (by omega) _ _ _ _ rfl (hown1.alloc _) _ 1 1 [.int .u8 0] rfl rfl (rds_blk [.int .u8 0] (heap_new2 wr _ _)) (by simp [Value.oneCell']) (by simp only [maxLen]; omega) (by omega) (by simp; omega) ?_; intro A4 c4 w4 hown4 hb4 hg4 _)
            obtain ⟨e3, hown5⟩ := row_round hi HV.out (by simp) (bs := [0]) (m := 1) rfl rfl hown4
            have E3 := Lib.hid e3
            have hbw5 := (hbw1.alloc (by simp; omega) _).trans hb4
            clear e3 hown4 hb4 hg4 hown1 hbw1
            go_wp2
            go_roundg (gk - 1)
            case measure => omega
            case rel => exact ⟨i + 1, A4, c4, by omega, by omega, by go_num, by rw [E3.out], hown5, hbw5⟩
          · have hown1 := World.ownsRow.alloc hown (.cells #[.int .u8 3, .int .i64 vi, .string s, .bool true] 36)
            have hbw1 := hbw.alloc hsz (.cells #[.int .u8 3, .int .i64 vi, .string s, .bool true] 36)
            have hrl : (Lp.rowB (l.take i)).length ≤ 1000 := by
              have h1 : (Lp.cbs (l.take i)).length ≤ 61 * (l.take i).length := Lp.cbs_le (List.all_eq_true.2 fun u hu => List.all_eq_true.1 HR.out u (List.mem_of_mem_take hu))
              have h2 : (l.take i).length ≤ l.length := List.length_take_le' _ _
              simp only [Lp.rowB, List.length_cons]; omega
            clear hown hbw
            go_wp2_with (at_builtin; refine wpList_app _ rfl (.tmp 30) (.tmp 32) _ rfl w.heap.size 5 i0 _ 1 1 Tryd.underlying22 hi0 hz0 hz1 hz2 rfl (by omega) _ _ _ _ rfl (hown1.alloc _) _ 1 1 [.int .u8 1] rfl rfl (rds_blk [.int .u8 1] (heap_new2 wr _ _)) (by simp [Value.oneCell']) (by simp only [maxLen]; omega) (by omega) (by simp; omega) ?_; intro A4 c4 w4 hown4 hb4 hg4 _)
            obtain ⟨e3, hown5⟩ := row_round hi HV.out (by simp) (bs := [1]) (m := 1) rfl rfl hown4
            have E3 := Lib.hid e3
            have hbw5 := (hbw1.alloc (by simp; omega) _).trans hb4
            clear e3 hown4 hb4 hg4 hown1 hbw1
            go_wp2
            go_roundg (gk - 1)
            case measure => omega
            case rel => exact ⟨i + 1, A4, c4, by omega, by omega, by go_num, by rw [E3.out], hown5, hbw5⟩
      · have hi2 : i = l.length := by omega
        subst hi2
        have HT := Lib.hid (List.take_length (l := l))
        have hown' : OwnB wr w.heap.size A1 c1 (Lp.rowB l) := by rw [HT.out] at hown; exact hown
        clear hown
        go_wp2
        go_ret2
        exact ⟨hbw, .inl ⟨HZ.out, A1, c1, by rw [HT.out]; rfl, hown'⟩⟩
  · have hfits := fits_any AK _ cK ks AL _ cL l rfl rfl w hK hkn hL hln HS.out hT
    have HZ := Lib.hid hz
    have HF := Lib.hid hfits
    have e1 : (Lp.rfits ks l != 0) = true := by simpa using hz
    clear hz hfits
    go_enter Tryd.func28, Tryd.ntmps28
    go_wp2_with fail
    refine (HF.out).mono ?_
    rintro e w0 ⟨rfl, hb0⟩
    go_wp2
    go_ret2
    exact ⟨hb0, .inr ⟨HZ.out, rfl⟩⟩
end Go.Proofs.YthdnphnipfpdkaaDoor
