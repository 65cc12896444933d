/-
  The walk of RowLong: it returns true, of any sizes. Condition: unicode/utf8's tables as laid.
-/
import Derived.Test.YthdnphnipfpdkaaDoorWalkRowKinds
import Derived.Laws.OwnMore
namespace Go.Proofs.YthdnphnipfpdkaaDoor
open Go.RowKit

def xText (s : UInt8) : Lp.V := Lp.vText (List.replicate (s.toNat % 61) 120)
def xRow (l : List UInt8) : List Lp.V := l.map xText
def xKinds (l : List UInt8) : List UInt8 := List.replicate l.length 2
theorem ok_x (m : Nat) : Lp.textOk (List.replicate m 120) = true := by
  induction m with
  | zero => rfl
  | succ m ih =>
    rw [List.replicate_succ]
    unfold Lp.textOk at ih ⊢
    rw [Lib.validD_cons 120 _ (by decide), List.contains_cons]
    simp only [Bool.and_eq_true] at ih ⊢
    exact ⟨ih.1, by simp⟩
theorem xText_right (s : UInt8) : (xText s).right = true := by
  have h := ok_x (s.toNat % 61)
  have h60 : s.toNat % 61 ≤ 60 := by omega
  unfold xText Lp.V.right Lp.rightB Lp.vText
  simp [h]
  simp [ByteArray.size]; omega
theorem xText_ok (s : UInt8) : (xText s).ok := by
  refine ⟨?_, (by decide : Lp.inR 0), (by decide : (0 : Int) ≤ 2), (by decide : (2 : Int) ≤ 255)⟩
  simp [xText, Lp.vText, ByteArray.size]; omega
theorem xRow_right (l : List UInt8) : (xRow l).all Lp.V.right = true := by
  simp [xRow, xText_right]
theorem xRow_ok (l : List UInt8) : ∀ u ∈ xRow l, u.ok := by
  intro u hu
  obtain ⟨s, _, rfl⟩ := List.mem_map.1 hu
  exact xText_ok s
theorem xRow_len (l : List UInt8) : (xRow l).length = l.length := by simp [xRow]
theorem xKinds_len (l : List UInt8) : (xKinds l).length = l.length := by simp [xKinds]
theorem xKinds_ok (l : List UInt8) (h0 : 0 < l.length) (h8 : l.length ≤ 8) : Lp.kindsOk (xKinds l) = true := by
  simp [Lp.kindsOk, xKinds, h0, h8]
theorem xFits (l : List UInt8) : Lp.fitsK (xKinds l) (xRow l) = true := by
  induction l with
  | nil => rfl
  | cons s l ih =>
    show (Lp.fitK 2 (xText s) && Lp.fitsK (xKinds l) (xRow l)) = true
    rw [ih]; rfl
theorem xAll (l : List UInt8) (h0 : 0 < l.length) (h8 : l.length ≤ 8) : Lp.rfits (xKinds l) (xRow l) = if 200 < 1 + (Lp.cbs (xRow l)).length then 2 else 0 :=
  fits_size (xKinds_ok l h0 h8) (by rw [xRow_len, xKinds_len]) (xRow_right l) (xFits l)
theorem xNone : Lp.rfits [] [] = 1 := by decide
theorem xNext {l : List UInt8} {i : Nat} (h : i < l.length) : xRow (l.take (i + 1)) = xRow (l.take i) ++ [xText l[i]] ∧ xKinds (l.take (i + 1)) = xKinds (l.take i) ++ [2] := by
  constructor
  · rw [List.take_succ_eq_append_getElem h]; unfold xRow; rw [List.map_append]; rfl
  · have h1 : (l.take (i + 1)).length = (l.take i).length + 1 := by simp; omega
    unfold xKinds; rw [h1, List.replicate_succ']
theorem xCells {l : List UInt8} {i : Nat} (h : i < l.length) : (Lp.cbs (xRow (l.take (i + 1)))).length = (Lp.cbs (xRow (l.take i))).length + (1 + l[i].toNat % 61) := by
  rw [(xNext h).1, Lp.cbs_snoc, List.length_append]
  congr 1
  simp [Lp.cb, xText, Lp.vText]; omega
/-- Two rows of the call's own, of two types: one stays where the other grows. -/
theorem own_two {w w' : World} {B1 B2 n1 n2 s1 s2 : Nat} {e1 e2 : TypeId} {v1 v2 : Value} {x1 x2 : List Value} (h1 : w.ownsRow B1 e1 s1 v1 n1 x1) (h2 : w.ownsRow B2 e2 s2 v2 n2 x2) (hne : e2 ≠ e1) (hg : w.grownBy w' v2.ownBlock) :
    w'.ownsRow B1 e1 s1 v1 n1 x1 := by
  refine h1.kept hg ?_
  rcases h1.2 with ⟨rfl, _⟩ | ⟨g, cap, cur, rfl, _, hgg, _⟩
  · exact .inl rfl
  · exact .inr (own_ne h2 hgg hne)
/-- A row that is filled from the front. -/
def FillX (w : World) (B : Nat) (g m c : Nat) : Prop := ∃ xs : List Value, w.ownsRow B 5 1 (.slice (some ⟨g, 0, none⟩) m m) m xs ∧ xs.take c = bv (List.replicate c 120)
theorem fill_next {w : World} {B g m c : Nat} (h : FillX w B g m c) (hc : c < m) : FillX (w.setCell ⟨g, c, none⟩ (.int .u8 120)) B g m (c + 1) := by
  obtain ⟨xs, ho, hx⟩ := h
  refine ⟨_, (World.ownsRow.stored ho c (.int .u8 120)).1, ?_⟩
  have hl : xs.length = m := by rw [ho.1, Nat.mul_one]
  rw [List.take_succ_eq_append_getElem (by simp; omega), List.take_set_of_le (by omega), hx, List.getElem_set_self, List.replicate_succ', bv_append]
  rfl
theorem fill_end {w : World} {B g m : Nat} (h : FillX w B g m m) : w.ownsRow B 5 1 (.slice (some ⟨g, 0, none⟩) m m) m (bv (List.replicate m 120)) := by
  obtain ⟨xs, ho, hx⟩ := h
  have hl : xs.length = m := by rw [ho.1, Nat.mul_one]
  rw [List.take_of_length_le (by omega)] at hx
  rw [← hx]; exact ho
theorem make_fill (w : World) (B m : Nat) (hB : B ≤ w.heap.size) (hm : m ≤ 1000) : ∃ w', (Instr.makeSlice 22 (.int .i64 (m : Int)) (.int .i64 (m : Int))).run Tryd.prog w = .ok (.slice (some ⟨w.heap.size, 0, none⟩) m m) w' ∧ FillX w' B w.heap.size m 0 ∧ w.grownBy w' none := by
  obtain ⟨i0, hi0, hz0, hz1, hz2⟩ := info_parts byteInfo
  obtain ⟨w', h1, h2, h3⟩ := run_make_full (P := Tryd.prog) w B 22 5 i0 _ 1 Tryd.underlying22 hi0 hz0 hz1 .i64 .i64 m (by rw [hz2]; omega) (by unfold maxLen; omega) hB
  exact ⟨w', h1, ⟨_, h2, by simp [bv]⟩, h3⟩
theorem fill_form {w : World} {B g m c : Nat} (h : FillX w B g m c) (k : Nat) (hk : k < m) : (∃ u, w.cell? ⟨g, k, none⟩ = some u) ∧ w.frozen? ⟨g, k, none⟩ = false := by
  obtain ⟨xs, ho, _⟩ := h
  have hl : xs.length = m := by rw [ho.1, Nat.mul_one]
  have h1 := World.ownsRow.cellAt ho k (by omega)
  refine ⟨⟨xs[k]'(by omega), by rw [h1, List.getElem?_eq_getElem]⟩, World.ownsRow.frozenAt ho k⟩

theorem fill_step {w : World} {B g m c : Nat} (h : FillX w B g m c) (hc : c < m) : FillX (w.setCell ⟨g, c, none⟩ (.int .u8 120)) B g m (c + 1) ∧
    (∀ {B1 n1 s1 : Nat} {e1 : TypeId} {v1 : Value} {x1 : List Value}, 5 ≠ e1 → w.ownsRow B1 e1 s1 v1 n1 x1 → (w.setCell ⟨g, c, none⟩ (.int .u8 120)).ownsRow B1 e1 s1 v1 n1 x1) := by
  refine ⟨fill_next h hc, fun hne h1 => ?_⟩
  obtain ⟨xs, ho, hx⟩ := h
  exact own_two h1 ho hne (World.ownsRow.stored ho c (.int .u8 120)).2
theorem fill_ge {w : World} {B g m c : Nat} (h : FillX w B g m c) : B ≤ g := by
  obtain ⟨xs, ho, _⟩ := h
  exact (ho.lt g rfl).1

theorem conv_own {w w' : World} {B g c : Nat} (h : w.ownsRow B 5 1 (.slice (some ⟨g, 0, none⟩) c c) c (bv (List.replicate c 120))) (hb : Below w.heap.size w w') :
    (convert 22 9 (.slice (some ⟨g, 0, none⟩) c c)).run Tryd.prog w' = .ok (.string ⟨(List.replicate c 120).toArray⟩) w' :=
  conv_rds c c (by simp) (Rds.own (own_below h hb))

set_option maxRecDepth 100000 in
set_option maxHeartbeats 4000000 in
theorem rowLong_walk (A : Option Addr) (c : Nat) (l : List UInt8) (w : World) (h : Rds w A (bv l)) (hn : l.length ≤ 9223372036854775807) (hT : Tabs w) :
    Calls Tryd.prog 8 #[.slice A l.length c] w fun e w' => e = .returned (.bool true) ∧ Below w.heap.size w w' := by
  obtain ⟨iK, hiK, hzK0, hzK1, hzK2⟩ := info_parts kindInfo
  obtain ⟨iV, hiV, hzV0, hzV1, hzV2⟩ := info_parts valInfo
  go_enter Tryd.func8, Tryd.ntmps8
  go_wp2_with fail
  refine (awake4_any _ hT).mono ?_
  rintro e w1 ⟨rfl, hb1⟩
  go_wp2_with fail
  go_loopg [3, 4, 5, 6, 7, 8, 9, 15] (l.length + 1) (fun gk s3 s4 s5 _ _ _ _ s15 wr => ∃ (i : Nat) (A1 : Option Addr) (c1 : Nat) (A2 : Option Addr) (c2 : Nat) (N : Nat), i ≤ l.length ∧ i ≤ 8 ∧ gk = l.length + 1 - i ∧ s15 = .int .i64 i ∧ s3 = .slice A1 i c1 ∧ s4 = .slice A2 i c2 ∧
    s5 = .int .i64 (1 + (N : Int)) ∧ Hid (N = (Lp.cbs (xRow (l.take i))).length) ∧ wr.ownsRow w.heap.size 34 1 (.slice A1 i c1) i (bv (xKinds (l.take i))) ∧ wr.ownsRow w.heap.size 36 4 (.slice A2 i c2) i (Lp.vv (xRow (l.take i))) ∧ Below w.heap.size w wr)
  case atStart => exact ⟨0, none, 0, none, 0, 0, by omega, by omega, by omega, rfl, rfl, rfl, rfl, rfl, World.ownsRow_nil _ _ _ _, World.ownsRow_nil _ _ _ _, hb1⟩
  case round =>
    obtain ⟨i, A1, c1, A2, c2, N, hle, hi8, rfl, rfl, rfl, rfl, rfl, HN, hownK, hownL, hbw⟩ := hrel
    obtain ⟨wo, rfl⟩ : ∃ wo : World, wo = wr := ⟨_, rfl⟩
    have hsz := hbw.size
    have hr := h.below hbw
    have hT1 := tabs_below hT hbw
    have hcl : N ≤ 488 := by
      have h1 : (Lp.cbs (xRow (l.take i))).length ≤ 61 * (xRow (l.take i)).length := Lp.cbs_le (xRow_right _)
      rw [xRow_len, List.length_take] at h1
      have := HN.out
      omega
    by_cases hi : i < l.length ∧ i < 8
    · obtain ⟨hi1, hi2⟩ := hi
      obtain ⟨b, off, rfl, q0⟩ := hr.at_ (bv_at hi1)
      have hs := l[i].toNat_lt
      obtain ⟨m, hm⟩ : ∃ m : Nat, l[i].toNat % 61 = m := ⟨_, rfl⟩
      have hmi : (l[i].toNat : Int) % 61 = (m : Int) := by omega
      have hm60 : m ≤ 60 := by omega
      have HN1 : Hid (xRow (l.take (i + 1)) = xRow (l.take i) ++ [Lp.vText (List.replicate m 120)]) := by show _ = _; rw [← hm]; exact (xNext hi1).1
      have HN2 := Lib.hid (xNext hi1).2
      have HC : Hid (N + (1 + m) = (Lp.cbs (xRow (l.take (i + 1)))).length) := by show _ = _; rw [← hm, HN.out]; exact (xCells hi1).symm
      clear hm
      generalize l[i].toNat = sv at *
      obtain ⟨w2, hmk, hF2, hg2⟩ := make_fill wo w.heap.size m hsz (by omega)
      have hb2 : Below w.heap.size wo w2 := (Below.refl _ _).grown hg2 hsz (fun k hk => by cases hk)
      have hownK2 := hownK.kept hg2 (by cases hv : Value.ownBlock (.slice A1 i c1) <;> simp)
      have hownL2 := hownL.kept hg2 (by cases hv : Value.ownBlock (.slice A2 i c2) <;> simp)
      have hbw2 := hbw.trans hb2
      clear hownK hownL hg2 hb2 hbw hr HN
      go_wp2_with fail
      clear hmk q0 hmi
      have hgT := fill_ge hF2
      go_loopg [9, 28] (m + 1) (fun gj _ s28 wz => ∃ c : Nat, c ≤ m ∧ gj = m + 1 - c ∧ s28 = .int .i64 c ∧ FillX wz w.heap.size wo.heap.size m c ∧ wz.ownsRow w.heap.size 34 1 (.slice A1 i c1) i (bv (xKinds (l.take i))) ∧ wz.ownsRow w.heap.size 36 4 (.slice A2 i c2) i (Lp.vv (xRow (l.take i))) ∧ Below w.heap.size w wz)
      case atStart => exact ⟨0, by omega, by omega, rfl, hF2, hownK2, hownL2, hbw2⟩
      case round =>
        obtain ⟨c, hcm, rfl, rfl, hF3, hownK3, hownL3, hbw3⟩ := hrel
        by_cases hlt : c < m
        · obtain ⟨⟨u0, hcell⟩, hfz⟩ := fill_form hF3 c hlt
          obtain ⟨hF4, hkeep⟩ := fill_step hF3 hlt
          have hownK4 := hkeep (by decide) hownK3
          have hownL4 := hkeep (by decide) hownL3
          have hbw4 := hbw3.setCell (p := ⟨wo.heap.size, c, none⟩) hgT (.int .u8 120)
          clear hkeep hF3 hownK3 hownL3 hbw3
          go_wp2
          go_roundg (m + 1 - (c + 1))
          case measure => omega
          case rel => exact ⟨c + 1, by omega, rfl, by go_num, hF4, hownK4, hownL4, hbw4⟩
        · obtain rfl : c = m := by omega
          have hownT := fill_end hF3
          have hsz3 := hbw3.size
          clear hF3 hF2 hownK2 hownL2 hbw2 hlt hcm
          go_wp2_with fail
          obtain ⟨w3, rfl⟩ : ∃ w3 : World, w3 = wr := ⟨_, rfl⟩
          have hcv : (convert 22 9 (.slice (some ⟨wo.heap.size, 0, none⟩) c c)).run Tryd.prog w3 = .ok (.string ⟨(List.replicate c 120).toArray⟩) w3 := conv_rds c c (by simp) (Rds.own hownT)
          go_region_held3 (fun w' => (convert 22 9 (.slice (some ⟨wo.heap.size, 0, none⟩) c c)).run Tryd.prog w' = .ok (.string ⟨(List.replicate c 120).toArray⟩) w')
            (first
              | (refine conv_own hownT ?_; (repeat (first | exact Below.refl _ _ | apply Below.drew | refine Below.alloc ?_ (by simp) _)); done)
              | (refine conv_own hownT4 ?_; (repeat (first | exact Below.refl _ _ | apply Below.drew | refine Below.alloc ?_ (by simp) _)); done)
              | (refine conv_own hownT5 ?_; (repeat (first | exact Below.refl _ _ | apply Below.drew | refine Below.alloc ?_ (by simp) _)); done)
              | go_keep)
            (first
              | (refine step_app _ rfl (.tmp 35) (.tmp 36) _ rfl w.heap.size 34 iK _ 1 1 Tryd.underlying41 hiK hzK0 hzK1 hzK2 rfl (Nat.zero_lt_one) _ _ _ (bv (xKinds (l.take i))) rfl ?_ _ 1 1 [.int .u8 2] rfl rfl ?_ ?_ ?_ ?_ ?_ ?_
                 · exact (own_below hownK3 (by repeat (first | exact Below.refl _ _ | apply Below.drew | refine Below.alloc ?_ (by simp) _)))
                 · (first | exact rds_new _ _ _ | exact rds_drew (rds_new _ _ _) | exact rds_blk [.int .u8 2] (box_alloc (heap_alloc_new w3 _) _) | exact rds_blk [.int .u8 2] (heap_new2 w3 _ _))
                 · simp [Value.oneCell']
                 · simp only [maxLen]; omega
                 · omega
                 · simp; omega
                 intro A4 c4 w4 hown4 hb4 hg4 hk4
                 have hownT4 := own_two (own_below hownT (by repeat (first | exact Below.refl _ _ | apply Below.drew | refine Below.alloc ?_ (by simp) _))) (own_below hownK3 (by repeat (first | exact Below.refl _ _ | apply Below.drew | refine Below.alloc ?_ (by simp) _))) (by decide) hg4
                 have hownL4 := own_two (own_below hownL3 (by repeat (first | exact Below.refl _ _ | apply Below.drew | refine Below.alloc ?_ (by simp) _))) (own_below hownK3 (by repeat (first | exact Below.refl _ _ | apply Below.drew | refine Below.alloc ?_ (by simp) _))) (by decide) hg4)
              | (refine step_app _ rfl (.tmp 38) (.tmp 42) _ rfl w.heap.size 36 iV _ 4 40 Tryd.underlying28 hiV hzV0 hzV1 hzV2 rfl (by decide) _ _ _ (Lp.vv (xRow (l.take i))) rfl ?_ _ 1 1 (Lp.vv [Lp.vText (List.replicate c 120)]) rfl rfl ?_ ?_ ?_ ?_ ?_ ?_
                 · exact (own_below hownL4 (by repeat (first | exact Below.refl _ _ | apply Below.drew | refine Below.alloc ?_ (by simp) _)))
                 · (first | exact rds_new _ (Lp.vv [Lp.vText (List.replicate c 120)]) _ | exact rds_blk (Lp.vv [Lp.vText (List.replicate c 120)]) (hk4 (w3.heap.size + 1) (.cells #[.int .u8 2, .int .i64 0, .string ⟨(List.replicate c 120).toArray⟩, .bool false] 36 (0, 0)) (heap_new2 w3 _ _) (own_old hownK3 (Nat.le_succ _))).1 | exact rds_blk (Lp.vv [Lp.vText (List.replicate c 120)]) (hk4 w3.heap.size (.cells #[.int .u8 2, .int .i64 0, .string ⟨(List.replicate c 120).toArray⟩, .bool false] 36 (0, 0)) (box_alloc (heap_alloc_new w3 _) _) (own_old hownK3 (Nat.le_refl _))).1 | exact rds_drew (rds_new _ (Lp.vv [Lp.vText (List.replicate c 120)]) _))
                 · simp [Value.oneCell', Lp.vv, Lp.V.cells, Lp.vText]
                 · simp only [maxLen]; omega
                 · omega
                 · have := hb4.size; simp at this ⊢; omega
                 intro A5 c5 w5 hown5 hb5 hg5 hk5
                 have hownT5 := own_two (own_below hownT4 (by repeat (first | exact Below.refl _ _ | apply Below.drew | refine Below.alloc ?_ (by simp) _))) (own_below hownL4 (by repeat (first | exact Below.refl _ _ | apply Below.drew | refine Below.alloc ?_ (by simp) _))) (by decide) hg5
                 have hownK5 := own_two (own_below hown4 (by repeat (first | exact Below.refl _ _ | apply Below.drew | refine Below.alloc ?_ (by simp) _))) (own_below hownL4 (by repeat (first | exact Below.refl _ _ | apply Below.drew | refine Below.alloc ?_ (by simp) _))) (by decide) hg5))
          all_goals
            have hbA : Below w.heap.size w3 w4 := Below.trans (by repeat (first | exact Below.refl _ _ | apply Below.drew | refine Below.alloc ?_ (by first | omega | (simp; omega)) _)) hb4
            have hbB : Below w.heap.size w4 w5 := Below.trans (by repeat (first | exact Below.refl _ _ | apply Below.drew | refine Below.alloc ?_ (by have := hbA.size; first | omega | (simp; omega)) _)) hb5
            have hbw5 := (hbw3.trans hbA).trans hbB
            have hK5 : w5.ownsRow w.heap.size 34 1 (.slice A4 (i + 1) c4) (i + 1) (bv (xKinds (l.take (i + 1)))) := by
              rw [HN2.out, bv_append]; exact hownK5
            have hL5 : w5.ownsRow w.heap.size 36 4 (.slice A5 (i + 1) c5) (i + 1) (Lp.vv (xRow (l.take (i + 1)))) := by
              rw [HN1.out, Lp.vv_append]; exact hown5
            clear hb4 hg4 hk4 hownT4 hownL4 hown5 hb5 hg5 hk5 hownT5 hownK5 hownK3 hownL3 hownT hcv hown4 hbA hbB hbw3
            go_wp2
            go_roundg (l.length + 1 - (i + 1))
            case measure => omega
            case rel => exact ⟨i + 1, A4, c4, A5, c5, N + (1 + c), by omega, by omega, rfl, by go_num, rfl, rfl, by congr 1; omega, HC, hK5, hL5, hbw5⟩
    · have hSl : (l.take i).length = i := by rw [List.length_take]; omega
      have rK := Rds.own hownK
      have rL : RdsV wo A2 (xRow (l.take i)) := Rds.own hownL
      have HS := Lib.hid hSl
      generalize l.take i = S at *
      clear hSl hownK hownL
      by_cases h0 : i = 0
      · subst h0
        have hl0 : ¬ 0 < l.length := by omega
        have hS0 : S = [] := List.eq_nil_of_length_eq_zero HS.out
        subst hS0
        go_wp2_with fail
        refine (fits_e _ _ _ [] _ _ _ [] 1 xNone rfl rfl _ Rds.nil_ (by simp) Rds.nil_ (by simp) (fun u hu => by cases hu) hT1).mono ?_
        rintro e w3 ⟨rfl, hb3⟩
        go_wp2
        go_ret
        exact ⟨rfl, hbw.trans (hb3.mono hsz)⟩
      · have hE : Lp.rfits (xKinds S) (xRow S) = if 200 < 1 + N then 2 else 0 := by rw [HN.out]; exact xAll S (by rw [HS.out]; omega) (by rw [HS.out]; omega)
        have HE := Lib.hid hE
        have hi0 : 0 < i := by omega
        clear hE
        by_cases hi1 : i < l.length
        · obtain ⟨b, off, rfl, q0⟩ := hr.at_ (bv_at hi1)
          have h8' : 8 ≤ i := by omega
          by_cases h200 : 200 < 1 + N
          · rw [if_pos h200] at HE
            go_wp2_with fail
            refine (fits_e A1 i c1 (xKinds S) A2 i c2 (xRow S) 2 HE.out (by rw [xKinds_len]; exact HS.out.symm) (by rw [xRow_len]; exact HS.out.symm) _ rK (by rw [xKinds_len, HS.out]; omega) rL (by rw [xRow_len, HS.out]; omega) (xRow_ok S) hT1).mono ?_
            rintro e w3 ⟨rfl, hb3⟩
            go_wp2
            go_ret
            exact ⟨retB (by simp; omega), hbw.trans (hb3.mono hsz)⟩
          · rw [if_neg h200] at HE
            go_wp2_with fail
            refine (fits_e A1 i c1 (xKinds S) A2 i c2 (xRow S) 0 HE.out (by rw [xKinds_len]; exact HS.out.symm) (by rw [xRow_len]; exact HS.out.symm) _ rK (by rw [xKinds_len, HS.out]; omega) rL (by rw [xRow_len, HS.out]; omega) (xRow_ok S) hT1).mono ?_
            rintro e w3 ⟨rfl, hb3⟩
            go_wp2
            go_ret
            exact ⟨rfl, hbw.trans (hb3.mono hsz)⟩
        · by_cases h200 : 200 < 1 + N
          · rw [if_pos h200] at HE
            go_wp2_with fail
            refine (fits_e A1 i c1 (xKinds S) A2 i c2 (xRow S) 2 HE.out (by rw [xKinds_len]; exact HS.out.symm) (by rw [xRow_len]; exact HS.out.symm) _ rK (by rw [xKinds_len, HS.out]; omega) rL (by rw [xRow_len, HS.out]; omega) (xRow_ok S) hT1).mono ?_
            rintro e w3 ⟨rfl, hb3⟩
            go_wp2
            go_ret
            exact ⟨retB (by simp; omega), hbw.trans (hb3.mono hsz)⟩
          · rw [if_neg h200] at HE
            go_wp2_with fail
            refine (fits_e A1 i c1 (xKinds S) A2 i c2 (xRow S) 0 HE.out (by rw [xKinds_len]; exact HS.out.symm) (by rw [xRow_len]; exact HS.out.symm) _ rK (by rw [xKinds_len, HS.out]; omega) rL (by rw [xRow_len, HS.out]; omega) (xRow_ok S) hT1).mono ?_
            rintro e w3 ⟨rfl, hb3⟩
            go_wp2
            go_ret
            exact ⟨rfl, hbw.trans (hb3.mono hsz)⟩
end Go.Proofs.YthdnphnipfpdkaaDoor
