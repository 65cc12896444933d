/-
  KeyFinds' walk: the law returns true, of any value and any rows. Condition: unicode/utf8's tables as laid.
-/
import Derived.Test.YthdnphnipfpdkaaDoorOpenR
import Derived.Test.YthdnphnipfpdkaaDoorAwake3
import Derived.Test.YthdnphnipfpdkaaDoorWalkKeyJoins
import Derived.Test.YthdnphnipfpdkaaDoorPlainFinds
import Derived.Test.YthdnphnipfpdkaaDoorRef2
import Derived.Test.YthdnphnipfpdkaaDoorRef2Right
import Derived.Deep.DeepCutAuto
namespace Go.Proofs.YthdnphnipfpdkaaDoor
open Go.RowKit

set_option maxRecDepth 100000 in
set_option maxHeartbeats 4000000 in
theorem keyFinds_walk (v : Lp.V) (A : Option Addr) (c : Nat) (R : List RowV) (w : World) (kv : v.ok) (h : RdsR w A R) (hT : Tabs w) :
    Calls Tryd.prog 6 #[.agg #[.int .u8 v.k, .int .i64 v.i, .string v.s, .bool v.b], .slice A R.length c] w fun e w' => e = .returned (.bool true) ∧ Below w.heap.size w w' := by
  have hk1 := kv.1
  have KV := Lib.hid kv
  clear kv
  go_enter Tryd.func6, Tryd.ntmps6
  go_wp2_with fail
  refine (awake3_any _ (tabs_alloc hT _)).mono ?_
  rintro e w1 ⟨rfl, hb1⟩
  have hx1 := box_below (heap_alloc_new w _) hb1
  have hbw1 : Below w.heap.size w w1 := ((Below.refl _ _).alloc (Nat.le_refl _) _).trans (hb1.mono (by simp))
  have hT1 := tabs_below hT hbw1
  have hR1 := h.below hbw1
  clear h hT hb1
  have hc1 := box_cells hx1
  have hz1 := hbw1.size
  go_wp2_with fail
  cases hr : v.right
  · have HR := Lib.hid hr
    clear hr
    refine (keyBytes_wrong _ _ _ [v] rfl _ (rds_blk (Lp.vv [v]) (heap_alloc_new w1 _)) (tabs_alloc hT1 _) (by simp) (by intro u hu; simp at hu; rw [hu]; exact KV.out) (by simp [HR.out])).mono ?_
    rintro e w2 ⟨rfl, hb2⟩
    have hbw2 : Below w.heap.size w w2 := (hbw1.alloc hz1 _).trans (hb2.mono (by simp; omega))
    have hx2 := box_below (box_alloc hx1 _) hb2
    have hc2 := box_cells hx2
    clear hx1 hc1 hb2 hbw1
    go_wp2_with fail
    refine (right2_at _ _ _ _ false HR.out _ hk1).mono ?_
    rintro e w3 ⟨rfl, hb3⟩
    go_wp2
    go_ret
    exact ⟨rfl, hbw2.trans (hb3.mono hbw2.size)⟩
  · have HR := Lib.hid hr
    clear hr
    refine (keyBytes_right _ _ _ [v] (Lp.kb v) rfl (by simp [Lp.kbs]) _ (rds_blk (Lp.vv [v]) (heap_alloc_new w1 _)) (tabs_alloc hT1 _) (by simp) (by intro u hu; simp at hu; rw [hu]; exact KV.out) (by simp [HR.out])).mono ?_
    rintro e w2 ⟨⟨AP, cP, rfl, oP⟩, hb2⟩
    have hb12 : Below w1.heap.size w1 w2 := ((Below.refl _ _).alloc (Nat.le_refl _) _).trans (hb2.mono (by simp))
    have hbw2 : Below w.heap.size w w2 := hbw1.trans (hb12.mono hz1)
    have hx2 := box_below hx1 hb12
    have hT2 := tabs_below hT1 hb12
    have hR2 := hR1.below hb12
    have rP := oP.rds
    have hkb := Lp.kb_le HR.out
    clear hx1 hc1 hb2 hbw1 hT1 hR1 oP
    go_wp2_with fail
    refine (behind_any _ _ (Lp.kb v) _ rP (by omega)).mono ?_
    rintro e w3 ⟨AE, cE, r, hbe, rfl, _, rE, hb3⟩
    have HBE := Lib.hid hbe
    clear hbe
    have hbw3 : Below w.heap.size w w3 := hbw2.trans (hb3.mono hbw2.size)
    have hx3 := box_below hx2 hb3
    have hT3 := tabs_below hT2 hb3
    have hR3 := hR2.below hb3
    have rP3 := rP.below hb3
    have hz3 := hbw3.size
    clear hx2 hT2 hR2 rP hb3 hbw2 hb12 hz1
    go_wp2_with fail
    go_loopg [8, 9, 10, 11, 12, 30] (R.length + 1) (fun gk _ _ _ _ _ s30 wr => ∃ i : Nat, i ≤ R.length ∧ gk + i = R.length + 1 ∧ s30 = .int .i64 i ∧ Below w.heap.size w wr ∧ Below w3.heap.size w3 wr)
    case atStart => exact ⟨0, by omega, by omega, rfl, hbw3, Below.refl _ _⟩
    case round =>
      obtain ⟨i, hi, hgk, rfl, hbw, hb3⟩ := hrel
      have hx4 := box_below hx3 hb3
      have hc4 := box_cells hx4
      have hT4 := tabs_below hT3 hb3
      have hR4 := hR3.below hb3
      have rP4 := rP3.below hb3
      have rE4 := rE.below hb3
      have zz := hbw.size
      have zz3 := hb3.size
      by_cases hlt : i < R.length
      · by_cases h20 : 20 ≤ i
        · obtain ⟨b, off, rfl, q0⟩ := hR4.1.at_ (k := i) (u := R[i].val) (by simp [List.getElem?_eq_getElem hlt])
          unfold RowV.val at q0
          go_wp2
          go_ret
          exact ⟨rfl, hbw⟩
        · obtain ⟨b, off, rfl, q0⟩ := hR4.1.at_ (k := i) (u := R[i].val) (by simp [List.getElem?_eq_getElem hlt])
          obtain ⟨hV, hcap, hok⟩ := hR4.2 R[i] (List.getElem_mem hlt)
          unfold RowV.val at q0
          generalize R[i] = row at *
          obtain ⟨Ar, cr, lr⟩ := row
          simp only at q0 hV hcap hok
          have HOK := Lib.hid (fun u (hu : u ∈ lr.take (min (lr.length : Int) 6).toNat) => hok u (List.mem_of_mem_take hu))
          have hV6 := hV.take (min (lr.length : Int) 6).toNat
          have N6 : Hid ((min (lr.length : Int) 6).toNat = (lr.take (min (lr.length : Int) 6).toNat).length) := by show _ = _; rw [List.length_take]; omega
          have m6 : (min (lr.length : Int) 6).toNat ≤ 6 := by omega
          have b6 : (min (lr.length : Int) 6).toNat ≤ cr := by omega
          clear hok
          go_wp2_with fail
          have HF0 := Lib.hid (fun (h0 : lr.length = 0) => firstIs_none v (row := lr.take (min (lr.length : Int) 6).toNat) (by rw [List.length_take]; omega))
          have HF1 := Lib.hid (fun (h0 : 0 < lr.length) => firstIs_take v h0 (k := (min (lr.length : Int) 6).toNat) (by omega))
          generalize lr.take (min (lr.length : Int) 6).toNat = L at *
          generalize (min (lr.length : Int) 6).toNat = M at *
          have e6 : L.length ≤ 6 := by rw [← N6.out]; exact m6
          cases rr : L.all Lp.V.right
          · have RR := Lib.hid rr
            clear rr
            refine (keyBytes_wrong _ _ _ L N6.out _ hV6 hT4 (by omega) HOK.out RR.out).mono ?_
            rintro e w5 ⟨rfl, hb5⟩
            have hbw5 := hbw.trans (hb5.mono zz)
            have hb35 := hb3.trans (hb5.mono zz3)
            clear hb5 hbw hb3
            go_wp2
            go_roundg (gk - 1)
            case measure => omega
            case rel => exact ⟨i + 1, by omega, by omega, by go_num, hbw5, hb35⟩
          · have HFI := Lib.hid (finds HR.out KV.out rr HOK.out HBE.out)
            have RR := Lib.hid rr
            clear rr
            refine (keyBytes_right _ _ _ L _ N6.out rfl _ hV6 hT4 (by omega) HOK.out RR.out).mono ?_
            rintro e w5 ⟨⟨AQ, cQ, rfl, oQ⟩, hb5⟩
            have rQ := oQ.rds
            have rP5 := rP4.below hb5
            have rE5 := rE4.below hb5
            have hV5 := hV.below hb5
            have hx5 := box_below hx4 hb5
            have hc5 := box_cells hx5
            have hbw5 := hbw.trans (hb5.mono zz)
            have hb35 := hb3.trans (hb5.mono zz3)
            clear hb5 hbw hb3 oQ rP4 rE4 hV hx4 hc4 hT4 hV6
            go_upto_region 13 with (fail)
            go_cut [12] (fun s12 wx => w5 = wx ∧ s12 = .bool (firstIs L v))
            case first =>
              cases hq : Op.bytesLess (Lp.kbs L) (Lp.kb v)
              · have HQ := Lib.hid hq
                clear hq
                have HI : Hid (Op.bytesLess (Lp.kbs L) r = firstIs L v) := by show _ = _; have := HFI.out; rw [HQ.out] at this; simpa using this
                go_wp2_with fail
                refine (less_any _ _ _ _ (Lp.kbs L) (Lp.kb v) _ _ rfl rfl _ rQ rP5).mono ?_
                rintro e w' ⟨rfl, rfl⟩
                rw [HQ.out]
                go_wp2_with fail
                refine (less_any _ _ _ _ (Lp.kbs L) r _ _ rfl rfl _ rQ rE5).mono ?_
                rintro e w' ⟨rfl, rfl⟩
                rw [HI.out]
                go_wp2
                go_meet
                exact ⟨rfl, rfl⟩
              · have HQ := Lib.hid hq
                clear hq
                have HI : Hid (firstIs L v = false) := by show _ = _; have := HFI.out; rw [HQ.out] at this; simpa using this.symm
                go_wp2_with fail
                refine (less_any _ _ _ _ (Lp.kbs L) (Lp.kb v) _ _ rfl rfl _ rQ rP5).mono ?_
                rintro e w' ⟨rfl, rfl⟩
                rw [HQ.out]
                go_wp2
                go_meet
                exact ⟨rfl, by rw [HI.out]⟩
            case rest =>
              obtain ⟨rfl, rfl⟩ := hcut
              clear HFI rQ rP5 rE5 HOK RR N6
              rcases Nat.eq_zero_or_pos lr.length with h0 | h0
              · rw [HF0.out h0]
                have hlr : lr = [] := List.eq_nil_of_length_eq_zero h0
                subst hlr
                clear HF0 HF1 h0
                go_wp2_with fail
                go_quiet (fail)
                have hbw6 := hbw5.trans (drewN_below w5 nq |>.mono hbw5.size)
                have hb36 := hb35.trans (drewN_below w5 nq |>.mono hb35.size)
                go_wp2
                go_roundg (gk - 1)
                case measure => omega
                case rel => exact ⟨i + 1, by omega, by omega, by go_num, hbw6, hb36⟩
              · obtain ⟨b5, o5, rfl, p0, p1, p2, p3⟩ := RdsV.cells hV5 h0
                rw [HF1.out h0]
                generalize lr[0] = u at *
                clear HF0 HF1
                obtain ⟨k', i', s', b'⟩ := u
                obtain ⟨k, vi, s, vb⟩ := v
                simp only at hx5 hc5 p0 p1 p2 p3 ⊢
                have q0 := hc5 0
                have q1 := hc5 1
                have q2 := hc5 2
                have q3 := hc5 3
                simp only [List.getElem?_toArray, List.getElem?_cons_zero, List.getElem?_cons_succ] at q0 q1 q2 q3
                simp only [Nat.zero_mul, Nat.add_zero] at p0 p1 p2 p3
                by_cases hk : k' = k
                · subst hk
                  have hdec : decide (k' = k') = true := by simp
                  rw [hdec, Bool.true_and]
                  have hx6 : TwoAt b5 o5 w.heap.size 0 k' i' s' b' k' vi s vb w5 := ⟨p0, p1, p2, p3, q0, q1, q2, q3⟩
                  clear hdec
                  have hl0 : (0 : Int) < (lr.length : Int) := by omega
                  go_wp2_with fail
                  go_region_held3 (fun w' => w'.cell? ⟨b5, o5, none⟩ = some (.int .u8 k') ∧ w'.cell? ⟨b5, o5 + 1, none⟩ = some (.int .i64 i') ∧ w'.cell? ⟨b5, o5 + 2, none⟩ = some (.string s') ∧ w'.cell? ⟨b5, o5 + 3, none⟩ = some (.bool b') ∧
                      w'.cell? ⟨w.heap.size, 0, none⟩ = some (.int .u8 k') ∧ w'.cell? ⟨w.heap.size, 1, none⟩ = some (.int .i64 vi) ∧ w'.cell? ⟨w.heap.size, 2, none⟩ = some (.string s) ∧ w'.cell? ⟨w.heap.size, 3, none⟩ = some (.bool vb))
                    (first | go_keep | exact hx7)
                    ((go_at_call 23; refine (same2_any _ _ _ _ _ _ _ _ _).mono ?_; rintro e w6 ⟨rfl, hb6⟩; have hx7 := (fun h => TwoAt.below h hb6) hx6))
                  have hbA : Below w5.heap.size w5 w6 := Below.trans (by repeat (first | exact Below.refl _ _ | apply Below.drew)) hb6
                  have hbw6 := hbw5.trans (hbA.mono hbw5.size)
                  have hb36 := hb35.trans (hbA.mono hb35.size)
                  clear hb6 hx6 hx7 hbA q0 q1 q2 q3 p0 p1 p2 p3
                  generalize Lp.vsame ⟨k', i', s', b'⟩ ⟨k', vi, s, vb⟩ = V at *
                  have hVV : (V != V) = false := by simp
                  go_wp2
                  go_roundg (gk - 1)
                  case measure => omega
                  case rel => exact ⟨i + 1, by omega, by omega, by go_num, hbw6, hb36⟩
                · have e1 : (k' == k) = false := by simpa using hk
                  have e2 : decide (k' = k) = false := by simpa using hk
                  rw [e2, Bool.false_and]
                  clear e2 hk
                  go_wp2_with fail
                  go_quiet (fail)
                  have hbw6 := hbw5.trans (drewN_below w5 nq |>.mono hbw5.size)
                  have hb36 := hb35.trans (drewN_below w5 nq |>.mono hb35.size)
                  go_wp2
                  go_roundg (gk - 1)
                  case measure => omega
                  case rel => exact ⟨i + 1, by omega, by omega, by go_num, hbw6, hb36⟩
      · go_wp2
        go_ret
        exact ⟨rfl, hbw⟩
end Go.Proofs.YthdnphnipfpdkaaDoor
