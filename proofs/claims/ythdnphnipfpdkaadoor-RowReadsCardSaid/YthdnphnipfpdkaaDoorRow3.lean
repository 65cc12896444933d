/-
  What lapidaryref02.SameRow tells of two rows of values; what the law's kinds gives. Conditions: at most 2^30 values.
-/
import Derived.Test.YthdnphnipfpdkaaDoorRef2
import Derived.Test.YthdnphnipfpdkaaDoorRowBytes
namespace Go.Proofs.YthdnphnipfpdkaaDoor
open Go.RowKit

/-- A row's kinds, behind a call: at most twelve. -/
def OwnK (w : World) (B : Nat) (A : Option Addr) (c : Nat) (l : List UInt8) : Prop := w.ownsRow B 34 1 (.slice A l.length c) l.length (bv l)
theorem kindInfo : (Tryd.prog.info? 34).map (fun i => (i.zero, i.size, i.bytes)) = some (some (.int .u8 0), 1, 1) := by kernel_rfl
theorem kinds_any (A : Option Addr) (n c : Nat) (l : List UInt8) (hnl : n = l.length) (w : World) (h : Rds w A (bv l)) (hn : l.length ≤ 9223372036854775807) :
    Calls Tryd.prog 29 #[.slice A n c] w fun e w' => (∃ A' c', e = .returned (.slice A' (l.take 12).length c') ∧ OwnK w' w.heap.size A' c' (l.take 12)) ∧ Below w.heap.size w w' := by
  subst hnl
  obtain ⟨i0, hi0, hz0, hz1, hz2⟩ := info_parts kindInfo
  go_enter Tryd.func29, Tryd.ntmps29
  go_wp2_with fail
  go_loopg [3, 4, 5, 8] (l.length + 1) (fun gk s3 _ _ s8 wr => ∃ (i : Nat) (A1 : Option Addr) (c1 : Nat), i ≤ l.length ∧ gk + i = l.length + 1 ∧ s8 = .int .i64 i ∧ s3 = .slice A1 ((l.take i).take 12).length c1 ∧ OwnK wr w.heap.size A1 c1 ((l.take i).take 12) ∧ Below w.heap.size w wr)
  case atStart => exact ⟨0, none, 0, by omega, by omega, rfl, rfl, World.ownsRow_nil _ _ _ _, Below.refl _ _⟩
  case round =>
    obtain ⟨i, A1, c1, hle, hgk, rfl, rfl, hown, hbw⟩ := hrel
    have hsz := hbw.size
    have hr := h.below hbw
    by_cases hi : i < l.length
    · obtain ⟨b, off, rfl, q0⟩ := hr.at_ (bv_at hi)
      by_cases h12 : i < 12
      · have HN : Hid ((l.take (i + 1)).take 12 = (l.take i).take 12 ++ [l[i]]) := by
          show _ = _
          rw [List.take_take, List.take_take, Nat.min_eq_right (by omega), Nat.min_eq_right (by omega), List.take_succ_eq_append_getElem hi]
        have HL : Hid (((l.take (i + 1)).take 12).length = ((l.take i).take 12).length + 1) := by show _ = _; rw [HN.out]; simp
        have hl12 : ((l.take i).take 12).length ≤ 12 := by simp; omega
        generalize l[i] = k at *
        unfold OwnK at hown
        generalize (l.take i).take 12 = L at *
        go_wp2_with (at_builtin; refine wpList_app _ rfl (.tmp 15) (.tmp 17) _ rfl w.heap.size 34 i0 _ 1 1 Tryd.underlying41 hi0 hz0 hz1 hz2 rfl (by omega) _ _ _ _ rfl (hown.alloc _) _ 1 1 [.int .u8 k.toNat] rfl rfl (rds_new _ _ _) (by simp [Value.oneCell']) (by simp only [maxLen]; omega) (by omega) (by simp; omega) ?_; intro A4 c4 w4 hown4 hb4 hg4 _)
        have hbw5 := (hbw.alloc hsz _).trans hb4
        have hown5 : OwnK w4 w.heap.size A4 c4 ((l.take (i + 1)).take 12) := by
          unfold OwnK; rw [HL.out, HN.out, bv_append]; exact hown4
        clear hown4 hb4 hg4 hown hbw
        go_wp2
        go_roundg (gk - 1)
        case measure => omega
        case rel => exact ⟨i + 1, A4, c4, by omega, by omega, by go_num, by rw [HL.out], hown5, hbw5⟩
      · have HN : Hid ((l.take (i + 1)).take 12 = (l.take i).take 12) := by
          show _ = _
          rw [List.take_take, List.take_take, Nat.min_eq_left (by omega), Nat.min_eq_left (by omega)]
        have hown5 : OwnK wr w.heap.size A1 c1 ((l.take (i + 1)).take 12) := by rw [HN.out]; exact hown
        clear hown
        go_wp2
        go_roundg (gk - 1)
        case measure => omega
        case rel => exact ⟨i + 1, A1, c1, by omega, by omega, by go_num, by rw [HN.out], hown5, hbw⟩
    · have HT : Hid (l.take i = l) := by show _ = _; rw [List.take_of_length_le (by omega)]
      have hown5 : OwnK wr w.heap.size A1 c1 (l.take 12) := by rw [HT.out] at hown; exact hown
      clear hown
      go_wp2
      go_ret
      exact ⟨⟨A1, c1, by rw [HT.out]; rfl, hown5⟩, hbw⟩

theorem kinds_r (A : Option Addr) (n c : Nat) (l K : List UInt8) (hnl : n = l.length) (hK : l.take 12 = K) (w : World) (h : Rds w A (bv l)) (hn : l.length ≤ 9223372036854775807) :
    Calls Tryd.prog 29 #[.slice A n c] w fun e w' => (∃ A' c', e = .returned (.slice A' K.length c') ∧ Rds w' A' (bv K)) ∧ Below w.heap.size w w' := by
  subst hK
  refine (kinds_any A n c l hnl w h hn).mono ?_
  rintro e w' ⟨⟨A', c', he, ho⟩, hb⟩
  exact ⟨⟨A', c', he, Rds.own ho⟩, hb⟩

set_option maxHeartbeats 4000000 in
theorem sameRow_any (A1 A2 : Option Addr) (n1 n2 c1 c2 : Nat) (l1 l2 : List Lp.V) (r : Bool) (hn1 : n1 = l1.length) (hn2 : n2 = l2.length) (hr : Lp.sameRow l1 l2 = r) (w : World) (h1 : RdsV w A1 l1) (h2 : RdsV w A2 l2) (hl1 : l1.length ≤ 1073741824) :
    Calls Tryd.prog 30 #[.slice A1 n1 c1, .slice A2 n2 c2] w fun e w' => e = .returned (.bool r) ∧ Below w.heap.size w w' := by
  subst hn1 hn2 hr
  by_cases hlen : l1.length = l2.length
  · have HLEN := Lib.hid hlen
    clear hlen
    rw [← HLEN.out]
    have hnn : ((l1.length : Int) != (l1.length : Int)) = false := by simp
    go_enter Tryd.func30, Tryd.ntmps30
    go_wp2_with fail
    clear hnn
    go_loopg [5, 13] (l1.length + 1) (fun gk _ s13 wr => ∃ i : Nat, i ≤ l1.length ∧ gk + i = l1.length + 1 ∧ s13 = .int .i64 i ∧ Below w.heap.size w wr ∧ Hid (Lp.sameRow l1 l2 = Lp.sameRow (l1.drop i) (l2.drop i)))
    case atStart => exact ⟨0, by omega, by omega, rfl, Below.refl _ _, rfl⟩
    case round =>
      obtain ⟨i, hi, hgk, rfl, hbw, HS⟩ := hrel
      have g1 := h1.below hbw
      have g2 := h2.below hbw
      by_cases hlt : i < l1.length
      · have hi2 : i < l2.length := by rw [← HLEN.out]; exact hlt
        obtain ⟨b1, o1, rfl, q0, q1, q2, q3⟩ := RdsV.cells g1 hlt
        obtain ⟨b2, o2, rfl, p0, p1, p2, p3⟩ := RdsV.cells g2 hi2
        have HD := Lib.hid (HS.out.trans (Lp.sameRow_drop hlt hi2))
        generalize l1[i] = v1 at *
        generalize l2[i] = v2 at *
        obtain ⟨k, vi, s, vb⟩ := v1
        obtain ⟨k', vi', s', vb'⟩ := v2
        simp only at q0 q1 q2 q3 p0 p1 p2 p3
        have zz := hbw.size
        by_cases hk : k = k'
        · subst hk
          have hx0 : TwoAt b1 (o1 + i * 4) b2 (o2 + i * 4) k vi s vb k vi' s' vb' wr := ⟨q0, q1, q2, q3, p0, p1, p2, p3⟩
          have e1 : (k != k) = false := by simp
          go_wp2_with fail
          go_region_held3 (fun w' => w'.cell? ⟨b1, o1 + i * 4, none⟩ = some (.int .u8 k) ∧ w'.cell? ⟨b1, o1 + i * 4 + 1, none⟩ = some (.int .i64 vi) ∧ w'.cell? ⟨b1, o1 + i * 4 + 2, none⟩ = some (.string s) ∧ w'.cell? ⟨b1, o1 + i * 4 + 3, none⟩ = some (.bool vb) ∧
              w'.cell? ⟨b2, o2 + i * 4, none⟩ = some (.int .u8 k) ∧ w'.cell? ⟨b2, o2 + i * 4 + 1, none⟩ = some (.int .i64 vi') ∧ w'.cell? ⟨b2, o2 + i * 4 + 2, none⟩ = some (.string s') ∧ w'.cell? ⟨b2, o2 + i * 4 + 3, none⟩ = some (.bool vb'))
            (first | go_keep | exact hx1)
            ((go_at_call 23; refine (same2_any _ _ _ _ _ _ _ _ _).mono ?_; rintro e w4 ⟨rfl, hb4⟩; have hx1 := (fun h => TwoAt.below h hb4) hx0))
          have hbA : Below wr.heap.size wr w4 := Below.trans (by repeat (first | exact Below.refl _ _ | apply Below.drew)) hb4
          have hbw4 := hbw.trans (hbA.mono hbw.size)
          clear hb4 hx0 hx1 q0 q1 q2 q3 p0 p1 p2 p3 g1 g2 e1 hbA
          cases hs : Lp.vsame ⟨k, vi, s, vb⟩ ⟨k, vi', s', vb'⟩
          · have HF : Hid (Lp.sameRow l1 l2 = false) := by show _ = _; rw [HD.out, hs]; simp
            clear hs HD HS
            go_wp2
            go_ret
            exact ⟨by rw [HF.out]; rfl, hbw4⟩
          · have HF : Hid (Lp.sameRow l1 l2 = Lp.sameRow (l1.drop (i + 1)) (l2.drop (i + 1))) := by show _ = _; rw [HD.out, hs]; simp
            clear hs HD HS
            go_wp2
            go_roundg (gk - 1)
            case measure => omega
            case rel => exact ⟨i + 1, by omega, by omega, by go_num, hbw4, HF⟩
        · have e1 : (k != k') = true := by simpa using hk
          have HF : Hid (Lp.sameRow l1 l2 = false) := by show _ = _; rw [HD.out]; simp [hk]
          clear HD HS hk
          go_wp2_with fail
          go_quiet (fail)
          have hbw4 := hbw.trans (drewN_below wr nq |>.mono hbw.size)
          go_wp2
          go_ret
          exact ⟨by rw [HF.out]; rfl, hbw4⟩
      · have HF : Hid (Lp.sameRow l1 l2 = true) := by
          show _ = _
          rw [HS.out, List.drop_eq_nil_of_le (by omega), List.drop_eq_nil_of_le (by rw [← HLEN.out]; omega)]; rfl
        clear HS
        go_wp2
        go_ret
        exact ⟨by rw [HF.out]; rfl, hbw⟩
  · rw [Lp.sameRow_len hlen]
    have hne : ((l1.length : Int) != (l2.length : Int)) = true := by simp; omega
    clear hlen
    go_enter Tryd.func30, Tryd.ntmps30
    go_wp2
    go_ret
    exact ⟨rfl, Below.refl _ _⟩
end Go.Proofs.YthdnphnipfpdkaaDoor
