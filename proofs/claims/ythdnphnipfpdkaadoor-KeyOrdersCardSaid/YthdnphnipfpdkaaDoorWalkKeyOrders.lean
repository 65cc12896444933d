/-
  The walk of KeyOrders: it returns true, at any two rows. Condition: unicode/utf8's tables as laid.
-/
import Derived.Test.YthdnphnipfpdkaaDoorWalkKeyJoins
import Derived.Test.YthdnphnipfpdkaaDoorRef2
import Derived.WalkLawsBesides
import Derived.Deep.DeepCutAuto
namespace Go.Proofs.YthdnphnipfpdkaaDoor
open Go.RowKit

/-- The cells of two values in memory. -/
def TwoAt (g o g' o' : Nat) (k i : Int) (s : ByteArray) (b : Bool) (k' i' : Int) (s' : ByteArray) (b' : Bool) (w : World) : Prop :=
  w.cell? ⟨g, o, none⟩ = some (.int .u8 k) ∧ w.cell? ⟨g, o + 1, none⟩ = some (.int .i64 i) ∧ w.cell? ⟨g, o + 2, none⟩ = some (.string s) ∧ w.cell? ⟨g, o + 3, none⟩ = some (.bool b) ∧
  w.cell? ⟨g', o', none⟩ = some (.int .u8 k') ∧ w.cell? ⟨g', o' + 1, none⟩ = some (.int .i64 i') ∧ w.cell? ⟨g', o' + 2, none⟩ = some (.string s') ∧ w.cell? ⟨g', o' + 3, none⟩ = some (.bool b')
theorem TwoAt.below {g o g' o' : Nat} {k i : Int} {s : ByteArray} {b : Bool} {k' i' : Int} {s' : ByteArray} {b' : Bool} {w w' : World} (h : TwoAt g o g' o' k i s b k' i' s' b' w) (hb : Below w.heap.size w w') : TwoAt g o g' o' k i s b k' i' s' b' w' := by
  have h1 : g < w.heap.size := World.block_lt_of_cell? w _ h.1
  have h2 : g' < w.heap.size := World.block_lt_of_cell? w _ h.2.2.2.2.1
  have e1 : ∀ o, w'.cell? ⟨g, o, none⟩ = w.cell? ⟨g, o, none⟩ := fun o => hb.cell (p := ⟨g, o, none⟩) h1
  have e2 : ∀ o, w'.cell? ⟨g', o, none⟩ = w.cell? ⟨g', o, none⟩ := fun o => hb.cell (p := ⟨g', o, none⟩) h2
  unfold TwoAt at *
  simp only [e1, e2]; exact h

set_option maxRecDepth 100000 in
set_option maxHeartbeats 4000000 in
theorem keyOrders_walk (A1 A2 : Option Addr) (c1 c2 : Nat) (l1 l2 : List Lp.V) (w : World) (h1 : RdsV w A1 l1) (h2 : RdsV w A2 l2)
    (hc1 : l1.length ≤ c1) (hc2 : l2.length ≤ c2) (k1 : ∀ u ∈ l1, u.ok) (k2 : ∀ u ∈ l2, u.ok) (hT : Tabs w) :
    Calls Tryd.prog 5 #[.slice A1 l1.length c1, .slice A2 l2.length c2] w fun e w' => e = .returned (.bool true) ∧ Below w.heap.size w w' := by
  go_enter Tryd.func5, Tryd.ntmps5
  go_wp2_with fail
  refine (awake3_any _ hT).mono ?_
  rintro e w1 ⟨rfl, hb1⟩
  have g1 := h1.below hb1
  have g2 := h2.below hb1
  have hT1 := tabs_below hT hb1
  have K1 := Lib.hid k1
  have K2 := Lib.hid k2
  clear h1 h2 hT k1 k2
  go_upto_region 3 with fail
  go_cut [5] (fun s5 wx => wx = w1 ∧ ∃ n : Nat, s5 = .int .i64 n ∧ n ≤ l1.length ∧ n ≤ l2.length ∧ n ≤ 8)
  case first =>
    go_wp2_with fail
    all_goals (go_meet; first | exact ⟨rfl, 8, rfl, by omega, by omega, by omega⟩ | exact ⟨rfl, _, rfl, by omega, by omega, by omega⟩)
  case rest =>
    obtain ⟨rfl, n, rfl, n1, n2, n8⟩ := hcut
    have N1 : Hid (n = (l1.take n).length) := by show _ = _; rw [List.length_take]; omega
    have N2 : Hid (n = (l2.take n).length) := by show _ = _; rw [List.length_take]; omega
    have KA := Lib.hid (fun u (hu : u ∈ l1.take n) => K1.out u (List.mem_of_mem_take hu))
    have KB := Lib.hid (fun u (hu : u ∈ l2.take n) => K2.out u (List.mem_of_mem_take hu))
    have ga := g1.take n
    have gb := g2.take n
    have e1 : (l1.take n).length ≤ 8 := by rw [← N1.out]; exact n8
    have e2 : (l2.take n).length ≤ 8 := by rw [← N2.out]; exact n8
    generalize l1.take n = L1 at *
    generalize l2.take n = L2 at *
    clear g1 g2 K1 K2
    have b1 : n ≤ c1 := by omega
    have b2 : n ≤ c2 := by omega
    have hw1 := hb1.size
    go_wp2_with fail
    cases r1 : L1.all Lp.V.right
    · have R1 := Lib.hid r1
      clear r1
      refine (keyBytes_wrong _ _ _ L1 N1.out _ ga hT1 (by omega) KA.out R1.out).mono ?_
      rintro e w2 ⟨rfl, hb2⟩
      have hbw2 := hb1.trans (hb2.mono hw1)
      have gb2 := gb.below hb2
      have hT2 := tabs_below hT1 hb2
      go_wp2_with fail
      cases r2 : L2.all Lp.V.right
      · have R2 := Lib.hid r2
        clear r2
        refine (keyBytes_wrong _ _ _ L2 N2.out _ gb2 hT2 (by omega) KB.out R2.out).mono ?_
        rintro e w3 ⟨rfl, hb3⟩
        go_wp2
        go_ret
        exact ⟨rfl, hbw2.trans (hb3.mono hbw2.size)⟩
      · have R2 := Lib.hid r2
        clear r2
        refine (keyBytes_right _ _ _ L2 _ N2.out rfl _ gb2 hT2 (by omega) KB.out R2.out).mono ?_
        rintro e w3 ⟨⟨AQ, cQ, rfl, oQ⟩, hb3⟩
        go_wp2
        go_ret
        exact ⟨rfl, hbw2.trans (hb3.mono hbw2.size)⟩
    · have R1 := Lib.hid r1
      clear r1
      refine (keyBytes_right _ _ _ L1 _ N1.out rfl _ ga hT1 (by omega) KA.out R1.out).mono ?_
      rintro e w2 ⟨⟨AP, cP, rfl, oP⟩, hb2⟩
      have hbw2 := hb1.trans (hb2.mono hw1)
      have ga2 := ga.below hb2
      have gb2 := gb.below hb2
      have hT2 := tabs_below hT1 hb2
      go_wp2_with fail
      cases r2 : L2.all Lp.V.right
      · have R2 := Lib.hid r2
        clear r2
        refine (keyBytes_wrong _ _ _ L2 N2.out _ gb2 hT2 (by omega) KB.out R2.out).mono ?_
        rintro e w3 ⟨rfl, hb3⟩
        go_wp2
        go_ret
        exact ⟨rfl, hbw2.trans (hb3.mono hbw2.size)⟩
      · have R2 := Lib.hid r2
        clear r2
        refine (keyBytes_right _ _ _ L2 _ N2.out rfl _ gb2 hT2 (by omega) KB.out R2.out).mono ?_
        rintro e w3 ⟨⟨AQ, cQ, rfl, oQ⟩, hb3⟩
        have hbw3 := hbw2.trans (hb3.mono hbw2.size)
        have ga3 := ga2.below hb3
        have gb3 := gb2.below hb3
        have rP := oP.rds.below hb3
        have rQ := oQ.rds
        clear ga gb ga2 gb2 hT2 hT1 oP oQ hb2 hb3 hbw2 hb1 hw1
        go_wp2_with fail
        go_loopg [10, 11, 44] (n + 1) (fun gk _ _ s44 wr => ∃ i : Nat, i ≤ n ∧ gk + i = n + 1 ∧ s44 = .int .i64 i ∧ Below w.heap.size w wr ∧ Below w3.heap.size w3 wr ∧ Hid (Lp.kbs (L1.take i) = Lp.kbs (L2.take i)))
        case atStart => exact ⟨0, by omega, by omega, rfl, hbw3, Below.refl _ _, rfl⟩
        case round =>
          obtain ⟨i, hi, hgk, rfl, hbw, hb3, HE⟩ := hrel
          have ga4 := ga3.below hb3
          have gb4 := gb3.below hb3
          have rP4 := rP.below hb3
          have rQ4 := rQ.below hb3
          by_cases hlt : i < n
          · have hi1 : i < L1.length := by rw [← N1.out]; exact hlt
            have hi2 : i < L2.length := by rw [← N2.out]; exact hlt
            obtain ⟨g1, o1, rfl, q0, q1, q2, q3⟩ := RdsV.cells ga4 hi1
            obtain ⟨g2, o2, rfl, p0, p1, p2, p3⟩ := RdsV.cells gb4 hi2
            have HN := Lib.hid (Lp.kbs_next hi1 hi2 R1.out R2.out KA.out KB.out HE.out)
            have HL := Lib.hid (Lp.kbs_less hi1 hi2 R1.out R2.out KA.out KB.out HE.out)
            have HM := Lib.hid (Lp.kbs_less hi2 hi1 R2.out R1.out KB.out KA.out HE.out.symm)
            generalize L1[i] = v1 at *
            generalize L2[i] = v2 at *
            obtain ⟨k, vi, s, vb⟩ := v1
            obtain ⟨k', vi', s', vb'⟩ := v2
            simp only at q0 q1 q2 q3 p0 p1 p2 p3
            have hx0 : TwoAt g1 (o1 + i * 4) g2 (o2 + i * 4) k vi s vb k' vi' s' vb' wr := ⟨q0, q1, q2, q3, p0, p1, p2, p3⟩
            have zz := hbw.size
            have ib0 : (0 : Int) ≤ (i : Int) := by omega
            have ib1 : (i : Int) < (l1.length : Int) := by omega
            have ib2 : (i : Int) < (l2.length : Int) := by omega
            go_wp2_with fail
            go_region_held3 (fun w' => w'.cell? ⟨g1, o1 + i * 4, none⟩ = some (.int .u8 k) ∧ w'.cell? ⟨g1, o1 + i * 4 + 1, none⟩ = some (.int .i64 vi) ∧ w'.cell? ⟨g1, o1 + i * 4 + 2, none⟩ = some (.string s) ∧ w'.cell? ⟨g1, o1 + i * 4 + 3, none⟩ = some (.bool vb) ∧
                w'.cell? ⟨g2, o2 + i * 4, none⟩ = some (.int .u8 k') ∧ w'.cell? ⟨g2, o2 + i * 4 + 1, none⟩ = some (.int .i64 vi') ∧ w'.cell? ⟨g2, o2 + i * 4 + 2, none⟩ = some (.string s') ∧ w'.cell? ⟨g2, o2 + i * 4 + 3, none⟩ = some (.bool vb'))
              (first | go_keep | exact hx1)
              ((go_at_call 23; refine (same2_any _ _ _ _ _ _ _ _ _).mono ?_; rintro e w4 ⟨rfl, hb4⟩; have hx1 := (fun h => TwoAt.below h hb4) hx0))
            have hbA : Below wr.heap.size wr w4 := Below.trans (by repeat (first | exact Below.refl _ _ | apply Below.drew)) hb4
            have hbw4 := hbw.trans (hbA.mono hbw.size)
            have hb34 := hb3.trans (hbA.mono hb3.size)
            have rP5 := rP4.below hbA
            have rQ5 := rQ4.below hbA
            clear hb4 hx0 q0 q1 q2 q3 p0 p1 p2 p3 ga4 gb4
            cases hsame : Lp.vsame ⟨k, vi, s, vb⟩ ⟨k', vi', s', vb'⟩
            · have e3 := HL.out hsame
              have e4 := HM.out (by rw [Lp.vsame_comm]; exact hsame)
              rw [Lp.vless_turn hsame] at e4
              have E3 := Lib.hid e3
              have E4 := Lib.hid e4
              clear hsame e3 e4 HN HL HM
              go_wp2_with fail
              go_region_held3 (fun w' => w'.cell? ⟨g1, o1 + i * 4, none⟩ = some (.int .u8 k) ∧ w'.cell? ⟨g1, o1 + i * 4 + 1, none⟩ = some (.int .i64 vi) ∧ w'.cell? ⟨g1, o1 + i * 4 + 2, none⟩ = some (.string s) ∧ w'.cell? ⟨g1, o1 + i * 4 + 3, none⟩ = some (.bool vb) ∧
                w'.cell? ⟨g2, o2 + i * 4, none⟩ = some (.int .u8 k') ∧ w'.cell? ⟨g2, o2 + i * 4 + 1, none⟩ = some (.int .i64 vi') ∧ w'.cell? ⟨g2, o2 + i * 4 + 2, none⟩ = some (.string s') ∧ w'.cell? ⟨g2, o2 + i * 4 + 3, none⟩ = some (.bool vb'))
              (first | go_keep | exact hx2)
                ((go_at_call 24; refine (less2_any _ _ _ _ _ _ _ _ _).mono ?_; rintro e w5 ⟨rfl, hb5⟩; have hx2 := (fun h => TwoAt.below h hb5) hx1))
              have hbB : Below w4.heap.size w4 w5 := Below.trans (by repeat (first | exact Below.refl _ _ | apply Below.drew)) hb5
              have hbw5 := hbw4.trans (hbB.mono hbw4.size)
              have rP6 := rP5.below hbB
              have rQ6 := rQ5.below hbB
              clear hb5 hx1 hbA hbB
              generalize Lp.vless ⟨k, vi, s, vb⟩ ⟨k', vi', s', vb'⟩ = V at *
              go_wp2_with fail
              refine (less_any _ _ _ _ (Lp.kbs L1) (Lp.kbs L2) _ _ rfl rfl _ rP6 rQ6).mono ?_
              rintro e w' ⟨rfl, rfl⟩
              rw [E3.out]
              have hV : (V == V) = true := by simp
              go_wp2_with fail
              refine (less_any _ _ _ _ (Lp.kbs L2) (Lp.kbs L1) _ _ rfl rfl _ rQ6 rP6).mono ?_
              rintro e w' ⟨rfl, rfl⟩
              rw [E4.out]
              go_wp2
              go_ret
              exact ⟨by simp, hbw5⟩
            · have HN2 := Lib.hid (HN.out hsame)
              clear hsame
              go_wp2
              go_roundg (gk - 1)
              case measure => omega
              case rel => exact ⟨i + 1, by omega, by omega, by go_num, hbw4, hb34, HN2⟩
          · have hin : i = n := by omega
            subst hin
            have HE2 : Hid (Lp.kbs L1 = Lp.kbs L2) := by
              have := HE.out; rw [show L1.take i = L1 from by rw [N1.out]; exact List.take_length, show L2.take i = L2 from by rw [N2.out]; exact List.take_length] at this; exact this
            clear HE hlt
            rw [HE2.out] at rP4 ⊢
            go_wp2_with fail
            refine (same3_any _ _ _ _ (Lp.kbs L2) (Lp.kbs L2) _ _ rfl rfl _ rP4 rQ4).mono ?_
            rintro e w' ⟨rfl, rfl⟩
            rw [beq_self_eq_true]
            go_wp2_with fail
            refine (less_any _ _ _ _ (Lp.kbs L2) (Lp.kbs L2) _ _ rfl rfl _ rP4 rQ4).mono ?_
            rintro e w' ⟨rfl, rfl⟩
            rw [Lp.less_irrefl]
            go_wp2
            go_ret
            exact ⟨rfl, hbw⟩
end Go.Proofs.YthdnphnipfpdkaaDoor
