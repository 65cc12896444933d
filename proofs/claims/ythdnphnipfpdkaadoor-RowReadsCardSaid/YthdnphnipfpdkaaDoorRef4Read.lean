/-
  What lapidaryref04.Read gives, of any kinds and any bytes: the row, or the refusal. Conditions: at most 10^6 bytes.
-/
import Derived.Test.YthdnphnipfpdkaaDoorRowRead
import Derived.Test.YthdnphnipfpdkaaDoorRowTake2
import Derived.Test.YthdnphnipfpdkaaDoorRef2Right
import Derived.Test.YthdnphnipfpdkaaDoorRef3Read
namespace Go.Proofs.YthdnphnipfpdkaaDoor
open Go.RowKit

theorem rread_rest {ks : List UInt8} {x : UInt8} {r : List UInt8} (h : Lp.rtakes ks x.toNat r = none) : Lp.rread ks (x :: r) = none := by
  simp only [Lp.rread]; rw [h]; split <;> rfl
theorem read4_none {w w' : World} {ks l : List UInt8} (hk : Lp.kindsOk ks = true) (h : Lp.rread ks l = none) (hb : Below w.heap.size w w') : RowReadPost w ks l (.returned (.tuple #[.slice none 0 0, .int .i64 3])) w' :=
  ⟨hb, .inr ⟨hk, .inr ⟨h, rfl⟩⟩⟩

set_option maxRecDepth 100000 in
set_option maxHeartbeats 4000000 in
theorem read4_any (AK : Option Addr) (nK cK : Nat) (ks : List UInt8) (AP : Option Addr) (nP cP : Nat) (l : List UInt8) (hnk : nK = ks.length) (hnp : nP = l.length) (w : World) (hK : Rds w AK (bv ks)) (hkn : ks.length ≤ 70368744177664)
    (hP : Rds w AP (bv l)) (hcP : nP ≤ cP) (hl : l.length ≤ 1000000) :
    Calls Tryd.prog 37 #[.slice AK nK cK, .slice AP nP cP] w (RowReadPost w ks l) := by
  subst hnk hnp
  obtain ⟨iV, hiV, hzV0, hzV1, hzV2⟩ := info_parts valInfo
  cases hko : Lp.kindsOk ks
  · have HKO := Lib.hid hko
    clear hko
    go_enter Tryd.func37, Tryd.ntmps37
    go_wp2_with fail
    refine (right4_any _ _ _ ks _ rfl HKO.out _ hK hkn).mono ?_
    rintro e w' ⟨rfl, rfl⟩
    go_wp2
    go_ret2
    exact ⟨Below.refl _ _, .inl ⟨HKO.out, rfl⟩⟩
  · have HKO := Lib.hid hko
    have h8 : ks.length ≤ 8 := by simp [Lp.kindsOk] at hko; exact hko.1.2
    clear hko
    rcases l with _ | ⟨x, r⟩
    · go_enter Tryd.func37, Tryd.ntmps37
      go_wp2_with fail
      refine (right4_any _ _ _ ks _ rfl HKO.out _ hK hkn).mono ?_
      rintro e w' ⟨rfl, rfl⟩
      go_wp2
      go_ret2
      exact read4_none HKO.out rfl (Below.refl _ _)
    · obtain ⟨b, off, rfl, p0⟩ := hP.at_ (k := 0) (u := .int .u8 x.toNat) rfl
      have hlt := World.block_lt_of_cell? w _ p0
      simp only [Nat.add_zero] at p0 hlt
      have hxl := x.toNat_lt
      have el : ¬ (r.length : Int) + 1 < 1 := by omega
      simp only [List.length_cons] at hcP hl ⊢
      by_cases h200 : 200 < r.length + 1
      · have HF : Hid (Lp.rread ks (x :: r) = none) := by show _ = _; simp only [Lp.rread]; rw [if_pos (.inl h200)]
        go_enter Tryd.func37, Tryd.ntmps37
        go_wp2_with fail
        refine (right4_any _ _ _ ks _ rfl HKO.out _ hK hkn).mono ?_
        rintro e w' ⟨rfl, rfl⟩
        go_wp2
        go_ret2
        exact read4_none HKO.out HF.out (Below.refl _ _)
      · have HRR : Hid (x.toNat / 2 ^ ks.length = 0 → Lp.rread ks (x :: r) = rEnd (Lp.rtakes ks x.toNat r)) := Lib.hid fun hq => by
          simp only [Lp.rread]
          rw [if_neg (by intro g; rcases g with g | g; exact h200 g; exact g hq)]
          cases Lp.rtakes ks x.toNat r with
          | none => rfl
          | some y => obtain ⟨a, c⟩ := y; cases c <;> rfl
        have HRX : Hid (x.toNat / 2 ^ ks.length ≠ 0 → Lp.rread ks (x :: r) = none) := Lib.hid fun hq => by
          simp only [Lp.rread]; rw [if_pos (.inr hq)]
        have hd := hP.drop 1 (cap := cP) (by rw [bv_length, List.length_cons]; exact hcP)
        go_enter Tryd.func37, Tryd.ntmps37
        go_wp2_with fail
        refine (right4_any _ _ _ ks _ rfl HKO.out _ hK hkn).mono ?_
        rintro e w' ⟨rfl, rfl⟩
        go_upto_region 7 with fail
        go_cut [1, 6, 7] (fun s1 s6 s7 wx => w = wx ∧ s7 = .slice none 0 0 ∧ ∃ (o2 cR : Nat), s6 = .int .u8 x.toNat ∧ s1 = .slice (some ⟨b, o2, none⟩) r.length cR ∧ r.length ≤ cR ∧ Rds w (some ⟨b, o2, none⟩) (bv r))
        case first =>
          by_cases h1 : cP = 1
          · subst h1
            have hr0 : r = [] := List.eq_nil_of_length_eq_zero (by omega)
            subst hr0
            go_wp2
            go_meet
            exact ⟨rfl, rfl, off, _, rfl, rfl, by simp, Rds.nil_⟩
          · rw [if_neg h1] at hd
            have hd2 : Rds w (some ⟨b, off + 1, none⟩) (bv r) := hd
            clear hd
            go_wp2
            go_meet
            exact ⟨rfl, rfl, off + 1, cP - 1, rfl, by simp, by omega, hd2⟩
        case rest =>
          obtain ⟨rfl, rfl, o2, cR, rfl, rfl, hcR, hr⟩ := hcut
          clear hd p0 hP
          have hbw0 : Below w.heap.size w w := Below.refl _ _
          go_wp2_with fail
          go_loopg [1, 6, 7, 9, 10, 11, 12, 13, 14, 33] (ks.length + 1) (fun gk s1 s6 s7 _ _ _ _ _ _ s33 wr => ∃ (i : Nat) (p : List UInt8) (b o cp : Nat) (L : List Lp.V) (A2 : Option Addr) (c2 X : Nat), i ≤ ks.length ∧ gk = ks.length + 1 - i ∧ s33 = .int .i64 i ∧ s6 = .int .u8 X ∧ X < 256 ∧ Hid (x.toNat / 2 ^ i = X) ∧ s1 = .slice (some ⟨b, o, none⟩) p.length cp ∧ p.length ≤ cp ∧ Rds w (some ⟨b, o, none⟩) (bv p) ∧ p.length ≤ r.length ∧
            s7 = .slice A2 i c2 ∧ wr.ownsRow w.heap.size 36 4 (.slice A2 i c2) i (Lp.vv L) ∧ Hid (L.length = i) ∧ Hid (∀ u ∈ L, u.ok) ∧ Hid (Rest ks x.toNat r i L p) ∧ Below w.heap.size w wr)
          case atStart => exact ⟨0, r, b, o2, cR, [], none, 0, x.toNat, by omega, rfl, rfl, rfl, hxl, by (show _ = _; simp), rfl, hcR, hr, Nat.le_refl _, rfl, World.ownsRow_nil _ _ _ _, rfl, (fun u hu => by cases hu), by (show Rest _ _ _ _ _ _; unfold Rest; simp), hbw0⟩
          case round =>
            clear b o2 cR hcR hr hbw0 hlt hxl
            obtain ⟨i, p, b, o, cp, L, A2, c2, X, hik, rfl, rfl, rfl, hX, HX, rfl, hcp, hp, hpl, rfl, hown, HLI, HOK, HRE, hbw⟩ := hrel
            have hsz := hbw.size
            by_cases hi : i < ks.length
            · obtain ⟨bk, ok', he, q0⟩ := (hK.below hbw).at_ (bv_at hi)
              subst he
              have hqlt := World.block_lt_of_cell? wr _ q0
              have hi8 : i < 8 := by omega
              have HX2 : Hid (x.toNat / 2 ^ (i + 1) = X / 2) := by show _ = _; rw [Nat.pow_succ, ← Nat.div_div_eq_div_mul, HX.out]
              have hX2 : X / 2 < 256 := by omega
              have hk3 := kind_cases HKO.out hi
              by_cases hb1 : X % 2 = 1
              · have HB1 := Lib.hid (rest_null HRE.out hi (by rw [HX.out]; exact hb1))
                have e1 : ((X : Int) % 2 == 1) = true := by simpa using (by omega : (X : Int) % 2 = 1)
                have HXX := Lib.hid hX2
                clear hb1 hk3 HRE HRR HRX HX hX2
                generalize ks[i].toNat = kk at *
                go_wp2_with fail
                refine (right2_at _ _ _ _ true rfl _ (by decide)).mono ?_
                rintro e w1 ⟨rfl, hb1⟩
                have hrd := hp.drop (0) (cap := cp) (by rw [bv_length]; exact hcp)
                rw [bv_drop] at hrd
                have hx1 := box_below (heap_alloc_new wr (.cells #[.int .u8 0, .int .i64 0, .string ⟨#[]⟩, .bool false] 36)) hb1
                have hown1 := own_below (hown.alloc _) hb1
                have hbw1 := (hbw.alloc hsz _).trans (hb1.mono (by simp; omega))
                have HNE : Hid (some wr.heap.size ≠ Value.ownBlock (.slice A2 i c2)) := Lib.hid (own_old hown (Nat.le_refl _))
                have HLI2 : Hid ((L ++ [(⟨0, 0, ⟨#[]⟩, false⟩ : Lp.V)]).length = i + 1) := by show _ = _; rw [List.length_append, HLI.out]; rfl
                have HOK2 : Hid (∀ u ∈ L ++ [(⟨0, 0, ⟨#[]⟩, false⟩ : Lp.V)], u.ok) := by
                  show ∀ u ∈ L ++ [(⟨0, 0, ⟨#[]⟩, false⟩ : Lp.V)], u.ok
                  intro u hu
                  rcases List.mem_append.1 hu with h1 | h1
                  · exact HOK.out u h1
                  · have : u = (⟨0, 0, ⟨#[]⟩, false⟩ : Lp.V) := by simpa using h1
                    rw [this]; exact vnull_ok
                have hleN : (0 : Int) ≤ (p.length : Int) := by omega
                have hleP : (0 : Int) ≤ 0 := by omega
                have hcx := box_cells hx1
                have hz1 := hbw1.size
                clear hb1 hown hbw HLI HOK
                by_cases hcn : cp = 0
                · rw [if_pos hcn] at hrd
                  subst hcn
                  go_wp2_with fail
                  go_region_held3 (fun w' => w'.cell? ⟨wr.heap.size, 0, none⟩ = some (.int .u8 0) ∧ w'.cell? ⟨wr.heap.size, 1, none⟩ = some (.int .i64 0) ∧ w'.cell? ⟨wr.heap.size, 2, none⟩ = some (.string ⟨#[]⟩) ∧ w'.cell? ⟨wr.heap.size, 3, none⟩ = some (.bool false))
                    (first | go_keep | exact ⟨hx4 0, hx4 1, hx4 2, hx4 3⟩)
                    ((refine step_app _ rfl (.tmp 102) (.tmp 104) _ rfl w.heap.size 36 iV _ 4 40 Tryd.underlying28 hiV hzV0 hzV1 hzV2 rfl (by decide) _ _ _ (Lp.vv L) rfl ?_ _ 1 1 (Lp.vv [(⟨0, 0, ⟨#[]⟩, false⟩ : Lp.V)]) rfl rfl ?_ ?_ ?_ ?_ ?_ ?_
                      · exact (own_below hown1 (by repeat (first | exact Below.refl _ _ | apply Below.drew | refine Below.alloc ?_ (by simp) _)))
                      · (first | exact rds_new _ (Lp.vv [(⟨0, 0, ⟨#[]⟩, false⟩ : Lp.V)]) _ | exact rds_drew (rds_new _ (Lp.vv [(⟨0, 0, ⟨#[]⟩, false⟩ : Lp.V)]) _))
                      · simp [Value.oneCell', Lp.vv, Lp.V.cells]
                      · simp only [maxLen]; omega
                      · omega
                      · simp; omega
                      intro A4 c4 w4 hown4 hb4 hg4 hk4
                      have hx4 := box_cells (hk4 wr.heap.size _ (box_below hx1 (by repeat (first | exact Below.refl _ _ | apply Below.drew | refine Below.alloc ?_ (by simp) _))) HNE.out).1))
                  all_goals
                    have hb14 : Below w.heap.size w1 w4 := Below.trans (by repeat (first | exact Below.refl _ _ | apply Below.drew | refine Below.alloc ?_ (by first | omega | (simp; omega)) _)) hb4
                    have hbw4 := hbw1.trans hb14
                    rw [← Lp.vv_append] at hown4
                    clear hb4 hg4 hk4 hown1 hbw1 hb14 hx4
                    go_wp2
                    go_roundg (ks.length + 1 - (i + 1))
                    case measure => omega
                    case rel => exact ⟨i + 1, (p.drop 0), b, o, 0, L ++ [(⟨0, 0, ⟨#[]⟩, false⟩ : Lp.V)], A4, c4, X / 2, by omega, rfl, by go_num, rfl, HXX.out, HX2, by (first | rfl | (simp; done) | (simp; omega)), by (first | (simp only [List.length_drop]; omega) | (simp only [List.length_drop, List.length_cons]; omega) | (simp; omega)), hrd, by (first | exact hpl | (simp only [List.length_drop]; omega) | (simp only [List.length_drop, List.length_cons]; omega) | (simp; omega)), rfl, hown4, HLI2, HOK2, HB1, hbw4⟩
                · rw [if_neg hcn] at hrd
                  have hcne : (cp == 0) = false := by simpa using hcn
                  simp only [Option.map_some, Nat.mul_one, addr_plus] at hrd
                  go_wp2_with fail
                  go_region_held3 (fun w' => w'.cell? ⟨wr.heap.size, 0, none⟩ = some (.int .u8 0) ∧ w'.cell? ⟨wr.heap.size, 1, none⟩ = some (.int .i64 0) ∧ w'.cell? ⟨wr.heap.size, 2, none⟩ = some (.string ⟨#[]⟩) ∧ w'.cell? ⟨wr.heap.size, 3, none⟩ = some (.bool false))
                    (first | go_keep | exact ⟨hx4 0, hx4 1, hx4 2, hx4 3⟩)
                    ((refine step_app _ rfl (.tmp 102) (.tmp 104) _ rfl w.heap.size 36 iV _ 4 40 Tryd.underlying28 hiV hzV0 hzV1 hzV2 rfl (by decide) _ _ _ (Lp.vv L) rfl ?_ _ 1 1 (Lp.vv [(⟨0, 0, ⟨#[]⟩, false⟩ : Lp.V)]) rfl rfl ?_ ?_ ?_ ?_ ?_ ?_
                      · exact (own_below hown1 (by repeat (first | exact Below.refl _ _ | apply Below.drew | refine Below.alloc ?_ (by simp) _)))
                      · (first | exact rds_new _ (Lp.vv [(⟨0, 0, ⟨#[]⟩, false⟩ : Lp.V)]) _ | exact rds_drew (rds_new _ (Lp.vv [(⟨0, 0, ⟨#[]⟩, false⟩ : Lp.V)]) _))
                      · simp [Value.oneCell', Lp.vv, Lp.V.cells]
                      · simp only [maxLen]; omega
                      · omega
                      · simp; omega
                      intro A4 c4 w4 hown4 hb4 hg4 hk4
                      have hx4 := box_cells (hk4 wr.heap.size _ (box_below hx1 (by repeat (first | exact Below.refl _ _ | apply Below.drew | refine Below.alloc ?_ (by simp) _))) HNE.out).1))
                  all_goals
                    have hb14 : Below w.heap.size w1 w4 := Below.trans (by repeat (first | exact Below.refl _ _ | apply Below.drew | refine Below.alloc ?_ (by first | omega | (simp; omega)) _)) hb4
                    have hbw4 := hbw1.trans hb14
                    rw [← Lp.vv_append] at hown4
                    clear hb4 hg4 hk4 hown1 hbw1 hb14 hx4
                    go_wp2
                    go_roundg (ks.length + 1 - (i + 1))
                    case measure => omega
                    case rel => exact ⟨i + 1, (p.drop 0), b, (o + (0)), cp - (0), L ++ [(⟨0, 0, ⟨#[]⟩, false⟩ : Lp.V)], A4, c4, X / 2, by omega, rfl, by go_num, rfl, HXX.out, HX2, by (first | rfl | (simp; done) | (simp; omega)), by (first | (simp only [List.length_drop]; omega) | (simp only [List.length_drop, List.length_cons]; omega) | (simp; omega)), hrd, by (first | exact hpl | (simp only [List.length_drop]; omega) | (simp only [List.length_drop, List.length_cons]; omega) | (simp; omega)), rfl, hown4, HLI2, HOK2, HB1, hbw4⟩
              · have hb0 : X % 2 = 0 := by omega
                have e1 : ((X : Int) % 2 == 1) = false := by simpa using (by omega : ¬ (X : Int) % 2 = 1)
                have HSOME := Lib.hid (fun v q (hk : Lp.rtake ks[i] p = some (v, q)) => rest_some HRE.out hi (by rw [HX.out]; exact hb1) hk)
                have HNONE := Lib.hid (fun (hk : Lp.rtake ks[i] p = none) => rread_rest (rest_none HRE.out hi (by rw [HX.out]; exact hb1) hk))
                have HXX := Lib.hid hX2
                clear hb1 hb0 HRE HRR HRX HX hX2
                have hpr := hp.below hbw
                generalize ks[i] = kk at *
                rcases hk3 with rfl | rfl | rfl
                · have q1 : wr.cell? ⟨bk, ok' + i, none⟩ = some (.int .u8 1) := q0
                  clear q0
                  by_cases h8p : p.length < 8
                  · have HF := Lib.hid (HNONE.out (by simp [Lp.rtake, h8p]))
                    have hbw1 := hbw.alloc hsz (.cells #[.int .u8 1, .int .i64 0, .string ⟨#[]⟩, .bool false] 36)
                    clear HSOME HNONE
                    go_wp2
                    go_ret2
                    exact read4_none HKO.out HF.out hbw1
                  · have HB1 := Lib.hid (HSOME.out (Lp.vInt (Lp.ofU (Lp.unle (p.take 8)))) (p.drop 8) (by simp [Lp.rtake, h8p]))
                    have h8q : 8 ≤ p.length := by omega
                    have hul : Lp.unle (p.take 8) < 18446744073709551616 := by
                      have h1 := Lp.unle_lt (p.take 8)
                      rw [List.length_take, Nat.min_eq_left h8q] at h1; exact h1
                    have hin : Hid (Lp.inR (Lp.ofU (Lp.unle (p.take 8)))) := Lib.hid (Lp.ofU_in hul)
                    have hw := wrap_ofU hul
                    have HW := Lib.hid hw
                    have HRT : Hid (Lp.rightB 1 (Lp.ofU (Lp.unle (p.take 8))) ⟨#[]⟩ false = true) := by show _ = _; rfl
                    clear HSOME HNONE hw hul
                    go_wp2_with fail
                    go_loop [13, 14] (fun s13 s14 => ∃ j : Nat, j ≤ 8 ∧ s14 = .int .i64 ((j : Int) - 1) ∧ s13 = .int .u64 (Lp.unle ((p.take 8).drop j) : Nat)) (fun _ s14 => (intOf s14 + 1).toNat)
                    case atStart => exact ⟨8, by omega, rfl, by rw [List.drop_of_length_le (by rw [List.length_take]; omega)]; rfl⟩
                    case round =>
                      obtain ⟨j, hj8, rfl, rfl⟩ := hrel
                      by_cases hj : 0 < j
                      · obtain ⟨t, rfl⟩ : ∃ t, j = t + 1 := ⟨j - 1, by omega⟩
                        have htl : t < p.length := by omega
                        obtain ⟨b3, o3, he, p1⟩ := hpr.at_ (bv_at htl)
                        injection he with he
                        injection he with he1 he2
                        subst he1 he2
                        have hltb : b < wr.heap.size := World.block_lt_of_cell? wr _ p1
                        have htt : t < (p.take 8).length := by rw [List.length_take]; omega
                        have hN : Hid (Lp.unle ((p.take 8).drop t) = Lp.unle ((p.take 8).drop (t + 1)) * 256 + p[t].toNat) := by
                          show _ = _
                          rw [List.drop_eq_getElem_cons htt, Lp.unle, List.getElem_take, Nat.add_comm, Nat.mul_comm]
                        have hlt7 : Lp.unle ((p.take 8).drop (t + 1)) < 72057594037927936 := by
                          have h1 := Lp.unle_lt ((p.take 8).drop (t + 1))
                          have h2 : ((p.take 8).drop (t + 1)).length ≤ 7 := by rw [List.length_drop, List.length_take]; omega
                          have h3 : 256 ^ ((p.take 8).drop (t + 1)).length ≤ 256 ^ 7 := Nat.pow_le_pow_right (by omega) h2
                          omega
                        have hbl := p[t].toNat_lt
                        have ej : ((t + 1 : Nat) : Int) - 1 = (t : Int) := by omega
                        rw [ej]
                        have ht0 : (0 : Int) ≤ (t : Int) := by omega
                        have ht1 : (t : Int) < (p.length : Int) := by omega
                        clear ej htt
                        generalize Lp.unle ((p.take 8).drop (t + 1)) = M at *
                        generalize p[t].toNat = BB at *
                        go_wp2
                        go_round
                        case rel => exact ⟨t, by omega, rfl, by first | (rw [hN.out]; done) | (rw [hN.out]; go_num)⟩
                        case measure => simp [intOf]
                      · obtain rfl : j = 0 := by omega
                        have ej : ((0 : Nat) : Int) - 1 = -1 := by omega
                        rw [ej, List.drop_zero]
                        clear ej hpr q1
                        have hw1 := HW.out
                        rw [← IntWalk.i64_left] at hw1
                        generalize hU : Lp.unle (p.take 8) = U at *
                        clear hU
                        generalize hI : Lp.ofU U = I at *
                        clear hI
                        go_wp2_with fail
                        refine (right2_at 1 I ⟨#[]⟩ false true HRT.out _ (by decide)).mono ?_
                        rintro e w1 ⟨rfl, hb1⟩
                        have hrd := hp.drop (8) (cap := cp) (by rw [bv_length]; exact hcp)
                        rw [bv_drop] at hrd
                        have hx1 := box_below (heap_alloc_new wr (.cells #[.int .u8 1, .int .i64 I, .string ⟨#[]⟩, .bool false] 36)) hb1
                        have hown1 := own_below (hown.alloc _) hb1
                        have hbw1 := (hbw.alloc hsz _).trans (hb1.mono (by simp; omega))
                        have HNE : Hid (some wr.heap.size ≠ Value.ownBlock (.slice A2 i c2)) := Lib.hid (own_old hown (Nat.le_refl _))
                        have HLI2 : Hid ((L ++ [(⟨1, I, ⟨#[]⟩, false⟩ : Lp.V)]).length = i + 1) := by show _ = _; rw [List.length_append, HLI.out]; rfl
                        have HOK2 : Hid (∀ u ∈ L ++ [(⟨1, I, ⟨#[]⟩, false⟩ : Lp.V)], u.ok) := by
                          show ∀ u ∈ L ++ [(⟨1, I, ⟨#[]⟩, false⟩ : Lp.V)], u.ok
                          intro u hu
                          rcases List.mem_append.1 hu with h1 | h1
                          · exact HOK.out u h1
                          · have : u = (⟨1, I, ⟨#[]⟩, false⟩ : Lp.V) := by simpa using h1
                            rw [this]; exact (vint_ok hin.out)
                        have hleN : (8 : Int) ≤ (p.length : Int) := by omega
                        have hleP : (0 : Int) ≤ 8 := by omega
                        have hcx := box_cells hx1
                        have hz1 := hbw1.size
                        clear hb1 hown hbw HLI HOK
                        by_cases hcn : cp = 8
                        · rw [if_pos hcn] at hrd
                          subst hcn
                          go_wp2_with fail
                          go_region_held3 (fun w' => w'.cell? ⟨wr.heap.size, 0, none⟩ = some (.int .u8 1) ∧ w'.cell? ⟨wr.heap.size, 1, none⟩ = some (.int .i64 I) ∧ w'.cell? ⟨wr.heap.size, 2, none⟩ = some (.string ⟨#[]⟩) ∧ w'.cell? ⟨wr.heap.size, 3, none⟩ = some (.bool false))
                            (first | go_keep | exact ⟨hx4 0, hx4 1, hx4 2, hx4 3⟩)
                            ((refine step_app _ rfl (.tmp 102) (.tmp 104) _ rfl w.heap.size 36 iV _ 4 40 Tryd.underlying28 hiV hzV0 hzV1 hzV2 rfl (by decide) _ _ _ (Lp.vv L) rfl ?_ _ 1 1 (Lp.vv [(⟨1, I, ⟨#[]⟩, false⟩ : Lp.V)]) rfl rfl ?_ ?_ ?_ ?_ ?_ ?_
                              · exact (own_below hown1 (by repeat (first | exact Below.refl _ _ | apply Below.drew | refine Below.alloc ?_ (by simp) _)))
                              · (first | exact rds_new _ (Lp.vv [(⟨1, I, ⟨#[]⟩, false⟩ : Lp.V)]) _ | exact rds_drew (rds_new _ (Lp.vv [(⟨1, I, ⟨#[]⟩, false⟩ : Lp.V)]) _))
                              · simp [Value.oneCell', Lp.vv, Lp.V.cells]
                              · simp only [maxLen]; omega
                              · omega
                              · simp; omega
                              intro A4 c4 w4 hown4 hb4 hg4 hk4
                              have hx4 := box_cells (hk4 wr.heap.size _ (box_below hx1 (by repeat (first | exact Below.refl _ _ | apply Below.drew | refine Below.alloc ?_ (by simp) _))) HNE.out).1))
                          all_goals
                            have hb14 : Below w.heap.size w1 w4 := Below.trans (by repeat (first | exact Below.refl _ _ | apply Below.drew | refine Below.alloc ?_ (by first | omega | (simp; omega)) _)) hb4
                            have hbw4 := hbw1.trans hb14
                            rw [← Lp.vv_append] at hown4
                            clear hb4 hg4 hk4 hown1 hbw1 hb14 hx4
                            go_wp2
                            go_roundg (ks.length + 1 - (i + 1))
                            case measure => omega
                            case rel => exact ⟨i + 1, (p.drop 8), b, o, 0, L ++ [(⟨1, I, ⟨#[]⟩, false⟩ : Lp.V)], A4, c4, X / 2, by omega, rfl, by go_num, rfl, HXX.out, HX2, by (first | rfl | (simp; done) | (simp; omega)), by (first | (simp only [List.length_drop]; omega) | (simp only [List.length_drop, List.length_cons]; omega) | (simp; omega)), hrd, by (first | exact hpl | (simp only [List.length_drop]; omega) | (simp only [List.length_drop, List.length_cons]; omega) | (simp; omega)), rfl, hown4, HLI2, HOK2, HB1, hbw4⟩
                        · rw [if_neg hcn] at hrd
                          have hcne : (cp == 8) = false := by simpa using hcn
                          simp only [Option.map_some, Nat.mul_one, addr_plus] at hrd
                          go_wp2_with fail
                          go_region_held3 (fun w' => w'.cell? ⟨wr.heap.size, 0, none⟩ = some (.int .u8 1) ∧ w'.cell? ⟨wr.heap.size, 1, none⟩ = some (.int .i64 I) ∧ w'.cell? ⟨wr.heap.size, 2, none⟩ = some (.string ⟨#[]⟩) ∧ w'.cell? ⟨wr.heap.size, 3, none⟩ = some (.bool false))
                            (first | go_keep | exact ⟨hx4 0, hx4 1, hx4 2, hx4 3⟩)
                            ((refine step_app _ rfl (.tmp 102) (.tmp 104) _ rfl w.heap.size 36 iV _ 4 40 Tryd.underlying28 hiV hzV0 hzV1 hzV2 rfl (by decide) _ _ _ (Lp.vv L) rfl ?_ _ 1 1 (Lp.vv [(⟨1, I, ⟨#[]⟩, false⟩ : Lp.V)]) rfl rfl ?_ ?_ ?_ ?_ ?_ ?_
                              · exact (own_below hown1 (by repeat (first | exact Below.refl _ _ | apply Below.drew | refine Below.alloc ?_ (by simp) _)))
                              · (first | exact rds_new _ (Lp.vv [(⟨1, I, ⟨#[]⟩, false⟩ : Lp.V)]) _ | exact rds_drew (rds_new _ (Lp.vv [(⟨1, I, ⟨#[]⟩, false⟩ : Lp.V)]) _))
                              · simp [Value.oneCell', Lp.vv, Lp.V.cells]
                              · simp only [maxLen]; omega
                              · omega
                              · simp; omega
                              intro A4 c4 w4 hown4 hb4 hg4 hk4
                              have hx4 := box_cells (hk4 wr.heap.size _ (box_below hx1 (by repeat (first | exact Below.refl _ _ | apply Below.drew | refine Below.alloc ?_ (by simp) _))) HNE.out).1))
                          all_goals
                            have hb14 : Below w.heap.size w1 w4 := Below.trans (by repeat (first | exact Below.refl _ _ | apply Below.drew | refine Below.alloc ?_ (by first | omega | (simp; omega)) _)) hb4
                            have hbw4 := hbw1.trans hb14
                            rw [← Lp.vv_append] at hown4
                            clear hb4 hg4 hk4 hown1 hbw1 hb14 hx4
                            go_wp2
                            go_roundg (ks.length + 1 - (i + 1))
                            case measure => omega
                            case rel => exact ⟨i + 1, (p.drop 8), b, (o + (8)), cp - (8), L ++ [(⟨1, I, ⟨#[]⟩, false⟩ : Lp.V)], A4, c4, X / 2, by omega, rfl, by go_num, rfl, HXX.out, HX2, by (first | rfl | (simp; done) | (simp; omega)), by (first | (simp only [List.length_drop]; omega) | (simp only [List.length_drop, List.length_cons]; omega) | (simp; omega)), hrd, by (first | exact hpl | (simp only [List.length_drop]; omega) | (simp only [List.length_drop, List.length_cons]; omega) | (simp; omega)), rfl, hown4, HLI2, HOK2, HB1, hbw4⟩
                · have q1 : wr.cell? ⟨bk, ok' + i, none⟩ = some (.int .u8 2) := q0
                  clear q0
                  have hbw1 := hbw.alloc hsz (.cells #[.int .u8 2, .int .i64 0, .string ⟨#[]⟩, .bool false] 36)
                  rcases p with _ | ⟨y, q⟩
                  · have HF := Lib.hid (HNONE.out rfl)
                    clear HSOME HNONE
                    go_wp2
                    go_ret2
                    exact read4_none HKO.out HF.out hbw1
                  · obtain ⟨b3, o3, he, p1⟩ := hpr.at_ (k := 0) (u := .int .u8 y.toNat) rfl
                    injection he with he
                    injection he with he1 he2
                    subst he1 he2
                    simp only [Nat.add_zero] at p1
                    have hltb : b < wr.heap.size := World.block_lt_of_cell? wr _ p1
                    have hyl := y.toNat_lt
                    simp only [List.length_cons] at hcp hpl ⊢
                    have hql : ¬ (q.length : Int) + 1 < 1 := by omega
                    by_cases hyq : y.toNat ≤ q.length
                    · have HKB : Hid (¬ (Lp.textOk (q.take y.toNat) = true ∧ (q.take y.toNat).length ≤ 60) → Lp.rread ks (x :: r) = none) := Lib.hid fun g => by
                        have hl : (q.take y.toNat).length = y.toNat := by rw [List.length_take]; omega
                        apply HNONE.out
                        simp only [Lp.rtake]
                        rw [if_neg (by decide), if_pos trivial, if_neg (fun q => g ⟨q.2.1, by rw [hl]; exact q.2.2⟩)]
                      have HKY : Hid ((Lp.textOk (q.take y.toNat) = true ∧ (q.take y.toNat).length ≤ 60) → Rest ks x.toNat r (i + 1) (L ++ [Lp.vText (q.take y.toNat)]) (q.drop y.toNat)) := Lib.hid fun g => by
                        have hl : (q.take y.toNat).length = y.toNat := by rw [List.length_take]; omega
                        apply HSOME.out
                        simp only [Lp.rtake]
                        rw [if_neg (by decide), if_pos trivial, if_pos ⟨hyq, g.1, by rw [← hl]; exact g.2⟩]
                      have hdp : (y :: q).drop (y.toNat + 1) = q.drop y.toNat := rfl
                      rw [← hdp] at HKY
                      have hTl : Hid (y.toNat = (q.take y.toNat).length) := by show _ = _; rw [List.length_take]; omega
                      have hcv : Rds w (if cp = 1 then some ⟨b, o, none⟩ else some ⟨b, o + 1, none⟩) (bv (q.take y.toNat)) := by
                        have h1 := hp.drop 1 (cap := cp) (by rw [bv_length, List.length_cons]; exact hcp)
                        have h2 := Rds.take h1 y.toNat
                        have h3 : ((bv (y :: q)).drop 1).take y.toNat = bv (q.take y.toNat) := by
                          show (bv q).take _ = _
                          rw [bv_take]
                        rw [h3] at h2
                        simp only [Option.map_some, Nat.mul_one, addr_plus] at h2
                        exact h2
                      have hrb : Hid (Lp.rightB 2 0 ⟨(q.take y.toNat).toArray⟩ false = (decide ((q.take y.toNat).length ≤ 60) && Lp.textOk (q.take y.toNat))) := rightB_text _
                      clear HSOME HNONE hdp
                      generalize q.take y.toNat = T at *
                      generalize hYE : y.toNat = Y at *
                      clear hYE
                      have hTb : T.length ≤ 255 := by have := hTl.out; omega
                      have hTm : (⟨T.toArray⟩ : ByteArray).size ≤ 9223372036854775807 := by simp only [ByteArray.size, List.size_toArray]; omega
                      have hn0 : (0 : Int) ≤ 1 + (Y : Int) := by omega
                      have hn1 : 1 + (Y : Int) ≤ (q.length : Int) + 1 := by omega
                      have hn2 : (1 + (Y : Int)).toNat = Y + 1 := by omega
                      have hn3 : (1 : Int) ≤ 1 + (Y : Int) := by omega
                      by_cases hc1 : cp = 1
                      · rw [if_pos hc1] at hcv
                        have hcb : (cp == 1) = true := by simpa using hc1
                        obtain rfl : Y = 0 := by omega
                        have HC1 := Lib.hid hc1
                        have hcp1 : cp ≤ 1 := by omega
                        have hql0 : q.length ≤ 0 := by omega
                        clear hc1
                        have hT0 : T = [] := List.eq_nil_of_length_eq_zero (by have := hTl.out; omega)
                        subst hT0
                        have HB1 := Lib.hid (HKY.out ⟨by decide, by simp⟩)
                        have HRT : Hid (Lp.rightB 2 0 ⟨#[]⟩ false = true) := by show _ = _; rfl
                        have hcvE := conv_rds 0 (cp - 1) rfl (hcv.below hbw1)
                        have hcvE0 := conv_rds 0 0 rfl (hcv.below hbw1)
                        clear HKB HKY hrb hcv hbw1
                        go_wp2_with fail
                        refine (right2_at _ _ _ _ true HRT.out _ hTm).mono ?_
                        rintro e w1 ⟨rfl, hb1⟩
                        clear hcvE hcvE0
                        have hrd := hp.drop (1) (cap := cp) (by rw [bv_length]; exact hcp)
                        rw [bv_drop] at hrd
                        have hx1 := box_below (heap_alloc_new wr (.cells #[.int .u8 2, .int .i64 0, .string ⟨#[]⟩, .bool false] 36)) hb1
                        have hown1 := own_below (hown.alloc _) hb1
                        have hbw1 := (hbw.alloc hsz _).trans (hb1.mono (by simp; omega))
                        have HNE : Hid (some wr.heap.size ≠ Value.ownBlock (.slice A2 i c2)) := Lib.hid (own_old hown (Nat.le_refl _))
                        have HLI2 : Hid ((L ++ [(⟨2, 0, ⟨#[]⟩, false⟩ : Lp.V)]).length = i + 1) := by show _ = _; rw [List.length_append, HLI.out]; rfl
                        have HOK2 : Hid (∀ u ∈ L ++ [(⟨2, 0, ⟨#[]⟩, false⟩ : Lp.V)], u.ok) := by
                          show ∀ u ∈ L ++ [(⟨2, 0, ⟨#[]⟩, false⟩ : Lp.V)], u.ok
                          intro u hu
                          rcases List.mem_append.1 hu with h1 | h1
                          · exact HOK.out u h1
                          · have : u = (⟨2, 0, ⟨#[]⟩, false⟩ : Lp.V) := by simpa using h1
                            rw [this]; exact (vtext_ok (l := []) (by simp))
                        have hleN : (1 : Int) ≤ (q.length : Int) + 1 := by omega
                        have hleP : (0 : Int) ≤ 1 := by omega
                        have hcx := box_cells hx1
                        have hz1 := hbw1.size
                        clear hb1 hown hbw HLI HOK
                        have hcn : cp = 1 := HC1.out
                        · rw [if_pos hcn] at hrd
                          subst hcn
                          go_wp2_with fail
                          go_region_held3 (fun w' => w'.cell? ⟨wr.heap.size, 0, none⟩ = some (.int .u8 2) ∧ w'.cell? ⟨wr.heap.size, 1, none⟩ = some (.int .i64 0) ∧ w'.cell? ⟨wr.heap.size, 2, none⟩ = some (.string ⟨#[]⟩) ∧ w'.cell? ⟨wr.heap.size, 3, none⟩ = some (.bool false))
                            (first | go_keep | exact ⟨hx4 0, hx4 1, hx4 2, hx4 3⟩)
                            ((refine step_app _ rfl (.tmp 102) (.tmp 104) _ rfl w.heap.size 36 iV _ 4 40 Tryd.underlying28 hiV hzV0 hzV1 hzV2 rfl (by decide) _ _ _ (Lp.vv L) rfl ?_ _ 1 1 (Lp.vv [(⟨2, 0, ⟨#[]⟩, false⟩ : Lp.V)]) rfl rfl ?_ ?_ ?_ ?_ ?_ ?_
                              · exact (own_below hown1 (by repeat (first | exact Below.refl _ _ | apply Below.drew | refine Below.alloc ?_ (by simp) _)))
                              · (first | exact rds_new _ (Lp.vv [(⟨2, 0, ⟨#[]⟩, false⟩ : Lp.V)]) _ | exact rds_drew (rds_new _ (Lp.vv [(⟨2, 0, ⟨#[]⟩, false⟩ : Lp.V)]) _))
                              · simp [Value.oneCell', Lp.vv, Lp.V.cells]
                              · simp only [maxLen]; omega
                              · omega
                              · simp; omega
                              intro A4 c4 w4 hown4 hb4 hg4 hk4
                              have hx4 := box_cells (hk4 wr.heap.size _ (box_below hx1 (by repeat (first | exact Below.refl _ _ | apply Below.drew | refine Below.alloc ?_ (by simp) _))) HNE.out).1))
                          all_goals
                            have hb14 : Below w.heap.size w1 w4 := Below.trans (by repeat (first | exact Below.refl _ _ | apply Below.drew | refine Below.alloc ?_ (by first | omega | (simp; omega)) _)) hb4
                            have hbw4 := hbw1.trans hb14
                            rw [← Lp.vv_append] at hown4
                            clear hb4 hg4 hk4 hown1 hbw1 hb14 hx4
                            go_wp2
                            go_roundg (ks.length + 1 - (i + 1))
                            case measure => omega
                            case rel => exact ⟨i + 1, ((y :: q).drop 1), b, o, 0, L ++ [(⟨2, 0, ⟨#[]⟩, false⟩ : Lp.V)], A4, c4, X / 2, by omega, rfl, by go_num, rfl, HXX.out, HX2, by (first | rfl | (simp; done) | (simp; omega)), by (first | (simp only [List.length_drop]; omega) | (simp only [List.length_drop, List.length_cons]; omega) | (simp; omega)), hrd, by (first | exact hpl | (simp only [List.length_drop]; omega) | (simp only [List.length_drop, List.length_cons]; omega) | (simp; omega)), rfl, hown4, HLI2, HOK2, HB1, hbw4⟩
                      · rw [if_neg hc1] at hcv
                        have hcb : (cp == 1) = false := by simpa using hc1
                        have hcvE := conv_rds Y (cp - 1) hTl.out (hcv.below hbw1)
                        cases hr : Lp.rightB 2 0 ⟨T.toArray⟩ false
                        · have HF := Lib.hid (HKB.out (fun g => by have := hrb.out; rw [hr] at this; simp [g.1, g.2] at this))
                          have HRT := Lib.hid hr
                          clear hr HKB HKY hrb hcv
                          go_wp2_with fail
                          refine (right2_at _ _ _ _ _ HRT.out _ hTm).mono ?_
                          rintro e w1 ⟨rfl, hb1⟩
                          have hbE := (hbw.alloc hsz _).trans (hb1.mono (by simp; omega))
                          go_wp2
                          go_ret2
                          exact read4_none HKO.out HF.out hbE
                        · have hTO : Lp.textOk T = true ∧ T.length ≤ 60 := by have := hrb.out; rw [hr] at this; simp at this; exact ⟨this.2, this.1⟩
                          have HB1 := Lib.hid (HKY.out hTO)
                          have HRT := Lib.hid hr
                          clear hr HKB HKY hrb hcv hbw1 hTO
                          go_wp2_with fail
                          refine (right2_at _ _ _ _ _ HRT.out _ hTm).mono ?_
                          rintro e w1 ⟨rfl, hb1⟩
                          clear hcvE
                          have hrd := hp.drop ((Y + 1)) (cap := cp) (by rw [bv_length]; exact hcp)
                          rw [bv_drop] at hrd
                          have hx1 := box_below (heap_alloc_new wr (.cells #[.int .u8 2, .int .i64 0, .string ⟨T.toArray⟩, .bool false] 36)) hb1
                          have hown1 := own_below (hown.alloc _) hb1
                          have hbw1 := (hbw.alloc hsz _).trans (hb1.mono (by simp; omega))
                          have HNE : Hid (some wr.heap.size ≠ Value.ownBlock (.slice A2 i c2)) := Lib.hid (own_old hown (Nat.le_refl _))
                          have HLI2 : Hid ((L ++ [(⟨2, 0, ⟨T.toArray⟩, false⟩ : Lp.V)]).length = i + 1) := by show _ = _; rw [List.length_append, HLI.out]; rfl
                          have HOK2 : Hid (∀ u ∈ L ++ [(⟨2, 0, ⟨T.toArray⟩, false⟩ : Lp.V)], u.ok) := by
                            show ∀ u ∈ L ++ [(⟨2, 0, ⟨T.toArray⟩, false⟩ : Lp.V)], u.ok
                            intro u hu
                            rcases List.mem_append.1 hu with h1 | h1
                            · exact HOK.out u h1
                            · have : u = (⟨2, 0, ⟨T.toArray⟩, false⟩ : Lp.V) := by simpa using h1
                              rw [this]; exact (vtext_ok (by omega))
                          have hleN : (1 + (Y : Int) : Int) ≤ (q.length : Int) + 1 := by omega
                          have hleP : (0 : Int) ≤ 1 + (Y : Int) := by omega
                          have hcx := box_cells hx1
                          have hz1 := hbw1.size
                          clear hb1 hown hbw HLI HOK
                          by_cases hcn : cp = (Y + 1)
                          · rw [if_pos hcn] at hrd
                            subst hcn
                            go_wp2_with fail
                            go_region_held3 (fun w' => w'.cell? ⟨wr.heap.size, 0, none⟩ = some (.int .u8 2) ∧ w'.cell? ⟨wr.heap.size, 1, none⟩ = some (.int .i64 0) ∧ w'.cell? ⟨wr.heap.size, 2, none⟩ = some (.string ⟨T.toArray⟩) ∧ w'.cell? ⟨wr.heap.size, 3, none⟩ = some (.bool false))
                              (first | go_keep | exact ⟨hx4 0, hx4 1, hx4 2, hx4 3⟩)
                              ((refine step_app _ rfl (.tmp 102) (.tmp 104) _ rfl w.heap.size 36 iV _ 4 40 Tryd.underlying28 hiV hzV0 hzV1 hzV2 rfl (by decide) _ _ _ (Lp.vv L) rfl ?_ _ 1 1 (Lp.vv [(⟨2, 0, ⟨T.toArray⟩, false⟩ : Lp.V)]) rfl rfl ?_ ?_ ?_ ?_ ?_ ?_
                                · exact (own_below hown1 (by repeat (first | exact Below.refl _ _ | apply Below.drew | refine Below.alloc ?_ (by simp) _)))
                                · (first | exact rds_new _ (Lp.vv [(⟨2, 0, ⟨T.toArray⟩, false⟩ : Lp.V)]) _ | exact rds_drew (rds_new _ (Lp.vv [(⟨2, 0, ⟨T.toArray⟩, false⟩ : Lp.V)]) _))
                                · simp [Value.oneCell', Lp.vv, Lp.V.cells]
                                · simp only [maxLen]; omega
                                · omega
                                · simp; omega
                                intro A4 c4 w4 hown4 hb4 hg4 hk4
                                have hx4 := box_cells (hk4 wr.heap.size _ (box_below hx1 (by repeat (first | exact Below.refl _ _ | apply Below.drew | refine Below.alloc ?_ (by simp) _))) HNE.out).1))
                            all_goals
                              have hb14 : Below w.heap.size w1 w4 := Below.trans (by repeat (first | exact Below.refl _ _ | apply Below.drew | refine Below.alloc ?_ (by first | omega | (simp; omega)) _)) hb4
                              have hbw4 := hbw1.trans hb14
                              rw [← Lp.vv_append] at hown4
                              clear hb4 hg4 hk4 hown1 hbw1 hb14 hx4
                              go_wp2
                              go_roundg (ks.length + 1 - (i + 1))
                              case measure => omega
                              case rel => exact ⟨i + 1, ((y :: q).drop (Y + 1)), b, o, 0, L ++ [(⟨2, 0, ⟨T.toArray⟩, false⟩ : Lp.V)], A4, c4, X / 2, by omega, rfl, by go_num, rfl, HXX.out, HX2, by (first | rfl | (simp; done) | (simp; omega)), by (first | (simp only [List.length_drop]; omega) | (simp only [List.length_drop, List.length_cons]; omega) | (simp; omega)), hrd, by (first | exact hpl | (simp only [List.length_drop]; omega) | (simp only [List.length_drop, List.length_cons]; omega) | (simp; omega)), rfl, hown4, HLI2, HOK2, HB1, hbw4⟩
                          · rw [if_neg hcn] at hrd
                            have hcne : (cp == (Y + 1)) = false := by simpa using hcn
                            simp only [Option.map_some, Nat.mul_one, addr_plus] at hrd
                            go_wp2_with fail
                            go_region_held3 (fun w' => w'.cell? ⟨wr.heap.size, 0, none⟩ = some (.int .u8 2) ∧ w'.cell? ⟨wr.heap.size, 1, none⟩ = some (.int .i64 0) ∧ w'.cell? ⟨wr.heap.size, 2, none⟩ = some (.string ⟨T.toArray⟩) ∧ w'.cell? ⟨wr.heap.size, 3, none⟩ = some (.bool false))
                              (first | go_keep | exact ⟨hx4 0, hx4 1, hx4 2, hx4 3⟩)
                              ((refine step_app _ rfl (.tmp 102) (.tmp 104) _ rfl w.heap.size 36 iV _ 4 40 Tryd.underlying28 hiV hzV0 hzV1 hzV2 rfl (by decide) _ _ _ (Lp.vv L) rfl ?_ _ 1 1 (Lp.vv [(⟨2, 0, ⟨T.toArray⟩, false⟩ : Lp.V)]) rfl rfl ?_ ?_ ?_ ?_ ?_ ?_
                                · exact (own_below hown1 (by repeat (first | exact Below.refl _ _ | apply Below.drew | refine Below.alloc ?_ (by simp) _)))
                                · (first | exact rds_new _ (Lp.vv [(⟨2, 0, ⟨T.toArray⟩, false⟩ : Lp.V)]) _ | exact rds_drew (rds_new _ (Lp.vv [(⟨2, 0, ⟨T.toArray⟩, false⟩ : Lp.V)]) _))
                                · simp [Value.oneCell', Lp.vv, Lp.V.cells]
                                · simp only [maxLen]; omega
                                · omega
                                · simp; omega
                                intro A4 c4 w4 hown4 hb4 hg4 hk4
                                have hx4 := box_cells (hk4 wr.heap.size _ (box_below hx1 (by repeat (first | exact Below.refl _ _ | apply Below.drew | refine Below.alloc ?_ (by simp) _))) HNE.out).1))
                            all_goals
                              have hb14 : Below w.heap.size w1 w4 := Below.trans (by repeat (first | exact Below.refl _ _ | apply Below.drew | refine Below.alloc ?_ (by first | omega | (simp; omega)) _)) hb4
                              have hbw4 := hbw1.trans hb14
                              rw [← Lp.vv_append] at hown4
                              clear hb4 hg4 hk4 hown1 hbw1 hb14 hx4
                              go_wp2
                              go_roundg (ks.length + 1 - (i + 1))
                              case measure => omega
                              case rel => exact ⟨i + 1, ((y :: q).drop (Y + 1)), b, (o + ((Y + 1))), cp - ((Y + 1)), L ++ [(⟨2, 0, ⟨T.toArray⟩, false⟩ : Lp.V)], A4, c4, X / 2, by omega, rfl, by go_num, rfl, HXX.out, HX2, by (first | rfl | (simp; done) | (simp; omega)), by (first | (simp only [List.length_drop]; omega) | (simp only [List.length_drop, List.length_cons]; omega) | (simp; omega)), hrd, by (first | exact hpl | (simp only [List.length_drop]; omega) | (simp only [List.length_drop, List.length_cons]; omega) | (simp; omega)), rfl, hown4, HLI2, HOK2, HB1, hbw4⟩
                    · have HF := Lib.hid (HNONE.out (by
                        simp only [Lp.rtake]
                        rw [if_neg (by decide), if_pos trivial, if_neg (fun g => hyq g.1)]))
                      have hn1 : (q.length : Int) + 1 < 1 + (y.toNat : Int) := by omega
                      clear HSOME HNONE
                      generalize y.toNat = Y at *
                      go_wp2
                      go_ret2
                      exact read4_none HKO.out HF.out hbw1
                · have q1 : wr.cell? ⟨bk, ok' + i, none⟩ = some (.int .u8 3) := q0
                  clear q0
                  have hbw1 := hbw.alloc hsz (.cells #[.int .u8 3, .int .i64 0, .string ⟨#[]⟩, .bool false] 36)
                  rcases p with _ | ⟨y, q⟩
                  · have HF := Lib.hid (HNONE.out rfl)
                    clear HSOME HNONE
                    go_wp2
                    go_ret2
                    exact read4_none HKO.out HF.out hbw1
                  · obtain ⟨b3, o3, he, p1⟩ := hpr.at_ (k := 0) (u := .int .u8 y.toNat) rfl
                    injection he with he
                    injection he with he1 he2
                    subst he1 he2
                    simp only [Nat.add_zero] at p1
                    have hltb : b < wr.heap.size := World.block_lt_of_cell? wr _ p1
                    simp only [List.length_cons] at hcp hpl ⊢
                    have hql : ¬ (q.length : Int) + 1 < 1 := by omega
                    by_cases hy1 : y.toNat ≤ 1
                    · have HB1 := Lib.hid (HSOME.out (Lp.vBool (y == 1)) q (by
                        simp only [Lp.rtake]
                        rw [if_neg (by decide), if_neg (by decide), if_pos hy1]))
                      have hyb : ((y.toNat : Int) == 1) = (y == 1) := by
                        rw [Bool.eq_iff_iff]; simp [← UInt8.toNat_inj]; omega
                      have hy2 : ¬ (1 : Int) < (y.toNat : Int) := by omega
                      have HRT : Hid (Lp.rightB 3 0 ⟨#[]⟩ (y == 1) = true) := by show _ = _; cases (y == 1) <;> rfl
                      generalize hY : (y == 1) = Y at *
                      clear HSOME HNONE hY hbw1
                      go_wp2_with fail
                      refine (right2_at _ _ _ _ true HRT.out _ (by decide)).mono ?_
                      rintro e w1 ⟨rfl, hb1⟩
                      have hrd := hp.drop (1) (cap := cp) (by rw [bv_length]; exact hcp)
                      rw [bv_drop] at hrd
                      have hx1 := box_below (heap_alloc_new wr (.cells #[.int .u8 3, .int .i64 0, .string ⟨#[]⟩, .bool Y] 36)) hb1
                      have hown1 := own_below (hown.alloc _) hb1
                      have hbw1 := (hbw.alloc hsz _).trans (hb1.mono (by simp; omega))
                      have HNE : Hid (some wr.heap.size ≠ Value.ownBlock (.slice A2 i c2)) := Lib.hid (own_old hown (Nat.le_refl _))
                      have HLI2 : Hid ((L ++ [(⟨3, 0, ⟨#[]⟩, Y⟩ : Lp.V)]).length = i + 1) := by show _ = _; rw [List.length_append, HLI.out]; rfl
                      have HOK2 : Hid (∀ u ∈ L ++ [(⟨3, 0, ⟨#[]⟩, Y⟩ : Lp.V)], u.ok) := by
                        show ∀ u ∈ L ++ [(⟨3, 0, ⟨#[]⟩, Y⟩ : Lp.V)], u.ok
                        intro u hu
                        rcases List.mem_append.1 hu with h1 | h1
                        · exact HOK.out u h1
                        · have : u = (⟨3, 0, ⟨#[]⟩, Y⟩ : Lp.V) := by simpa using h1
                          rw [this]; exact (vbool_ok Y)
                      have hleN : (1 : Int) ≤ (q.length : Int) + 1 := by omega
                      have hleP : (0 : Int) ≤ 1 := by omega
                      have hcx := box_cells hx1
                      have hz1 := hbw1.size
                      clear hb1 hown hbw HLI HOK
                      by_cases hcn : cp = 1
                      · rw [if_pos hcn] at hrd
                        subst hcn
                        go_wp2_with fail
                        go_region_held3 (fun w' => w'.cell? ⟨wr.heap.size, 0, none⟩ = some (.int .u8 3) ∧ w'.cell? ⟨wr.heap.size, 1, none⟩ = some (.int .i64 0) ∧ w'.cell? ⟨wr.heap.size, 2, none⟩ = some (.string ⟨#[]⟩) ∧ w'.cell? ⟨wr.heap.size, 3, none⟩ = some (.bool Y))
                          (first | go_keep | exact ⟨hx4 0, hx4 1, hx4 2, hx4 3⟩)
                          ((refine step_app _ rfl (.tmp 102) (.tmp 104) _ rfl w.heap.size 36 iV _ 4 40 Tryd.underlying28 hiV hzV0 hzV1 hzV2 rfl (by decide) _ _ _ (Lp.vv L) rfl ?_ _ 1 1 (Lp.vv [(⟨3, 0, ⟨#[]⟩, Y⟩ : Lp.V)]) rfl rfl ?_ ?_ ?_ ?_ ?_ ?_
                            · exact (own_below hown1 (by repeat (first | exact Below.refl _ _ | apply Below.drew | refine Below.alloc ?_ (by simp) _)))
                            · (first | exact rds_new _ (Lp.vv [(⟨3, 0, ⟨#[]⟩, Y⟩ : Lp.V)]) _ | exact rds_drew (rds_new _ (Lp.vv [(⟨3, 0, ⟨#[]⟩, Y⟩ : Lp.V)]) _))
                            · simp [Value.oneCell', Lp.vv, Lp.V.cells]
                            · simp only [maxLen]; omega
                            · omega
                            · simp; omega
                            intro A4 c4 w4 hown4 hb4 hg4 hk4
                            have hx4 := box_cells (hk4 wr.heap.size _ (box_below hx1 (by repeat (first | exact Below.refl _ _ | apply Below.drew | refine Below.alloc ?_ (by simp) _))) HNE.out).1))
                        all_goals
                          have hb14 : Below w.heap.size w1 w4 := Below.trans (by repeat (first | exact Below.refl _ _ | apply Below.drew | refine Below.alloc ?_ (by first | omega | (simp; omega)) _)) hb4
                          have hbw4 := hbw1.trans hb14
                          rw [← Lp.vv_append] at hown4
                          clear hb4 hg4 hk4 hown1 hbw1 hb14 hx4
                          go_wp2
                          go_roundg (ks.length + 1 - (i + 1))
                          case measure => omega
                          case rel => exact ⟨i + 1, ((y :: q).drop 1), b, o, 0, L ++ [(⟨3, 0, ⟨#[]⟩, Y⟩ : Lp.V)], A4, c4, X / 2, by omega, rfl, by go_num, rfl, HXX.out, HX2, by (first | rfl | (simp; done) | (simp; omega)), by (first | (simp only [List.length_drop]; omega) | (simp only [List.length_drop, List.length_cons]; omega) | (simp; omega)), hrd, by (first | exact hpl | (simp only [List.length_drop]; omega) | (simp only [List.length_drop, List.length_cons]; omega) | (simp; omega)), rfl, hown4, HLI2, HOK2, HB1, hbw4⟩
                      · rw [if_neg hcn] at hrd
                        have hcne : (cp == 1) = false := by simpa using hcn
                        simp only [Option.map_some, Nat.mul_one, addr_plus] at hrd
                        go_wp2_with fail
                        go_region_held3 (fun w' => w'.cell? ⟨wr.heap.size, 0, none⟩ = some (.int .u8 3) ∧ w'.cell? ⟨wr.heap.size, 1, none⟩ = some (.int .i64 0) ∧ w'.cell? ⟨wr.heap.size, 2, none⟩ = some (.string ⟨#[]⟩) ∧ w'.cell? ⟨wr.heap.size, 3, none⟩ = some (.bool Y))
                          (first | go_keep | exact ⟨hx4 0, hx4 1, hx4 2, hx4 3⟩)
                          ((refine step_app _ rfl (.tmp 102) (.tmp 104) _ rfl w.heap.size 36 iV _ 4 40 Tryd.underlying28 hiV hzV0 hzV1 hzV2 rfl (by decide) _ _ _ (Lp.vv L) rfl ?_ _ 1 1 (Lp.vv [(⟨3, 0, ⟨#[]⟩, Y⟩ : Lp.V)]) rfl rfl ?_ ?_ ?_ ?_ ?_ ?_
                            · exact (own_below hown1 (by repeat (first | exact Below.refl _ _ | apply Below.drew | refine Below.alloc ?_ (by simp) _)))
                            · (first | exact rds_new _ (Lp.vv [(⟨3, 0, ⟨#[]⟩, Y⟩ : Lp.V)]) _ | exact rds_drew (rds_new _ (Lp.vv [(⟨3, 0, ⟨#[]⟩, Y⟩ : Lp.V)]) _))
                            · simp [Value.oneCell', Lp.vv, Lp.V.cells]
                            · simp only [maxLen]; omega
                            · omega
                            · simp; omega
                            intro A4 c4 w4 hown4 hb4 hg4 hk4
                            have hx4 := box_cells (hk4 wr.heap.size _ (box_below hx1 (by repeat (first | exact Below.refl _ _ | apply Below.drew | refine Below.alloc ?_ (by simp) _))) HNE.out).1))
                        all_goals
                          have hb14 : Below w.heap.size w1 w4 := Below.trans (by repeat (first | exact Below.refl _ _ | apply Below.drew | refine Below.alloc ?_ (by first | omega | (simp; omega)) _)) hb4
                          have hbw4 := hbw1.trans hb14
                          rw [← Lp.vv_append] at hown4
                          clear hb4 hg4 hk4 hown1 hbw1 hb14 hx4
                          go_wp2
                          go_roundg (ks.length + 1 - (i + 1))
                          case measure => omega
                          case rel => exact ⟨i + 1, ((y :: q).drop 1), b, (o + (1)), cp - (1), L ++ [(⟨3, 0, ⟨#[]⟩, Y⟩ : Lp.V)], A4, c4, X / 2, by omega, rfl, by go_num, rfl, HXX.out, HX2, by (first | rfl | (simp; done) | (simp; omega)), by (first | (simp only [List.length_drop]; omega) | (simp only [List.length_drop, List.length_cons]; omega) | (simp; omega)), hrd, by (first | exact hpl | (simp only [List.length_drop]; omega) | (simp only [List.length_drop, List.length_cons]; omega) | (simp; omega)), rfl, hown4, HLI2, HOK2, HB1, hbw4⟩
                    · have HF := Lib.hid (HNONE.out (by
                        simp only [Lp.rtake]
                        rw [if_neg (by decide), if_neg (by decide), if_neg hy1]))
                      have hy2 : (1 : Int) < (y.toNat : Int) := by omega
                      clear HSOME HNONE
                      go_wp2
                      go_ret2
                      exact read4_none HKO.out HF.out hbw1
            · have hE : Hid (Lp.rtakes ks x.toNat r = some (L, p)) := by
                have e : i = ks.length := by omega
                have := HRE.out; rw [e] at this; exact rest_end this
              have rL : RdsV wr A2 L := Rds.own hown
              have HXe : Hid (x.toNat / 2 ^ ks.length = X) := by
                have e : i = ks.length := by omega
                rw [← e]; exact HX
              by_cases hX0 : X = 0
              · subst hX0
                rcases p with _ | ⟨y, p⟩
                · have HF : Hid (Lp.rread ks (x :: r) = some L) := by show _ = _; rw [HRR.out HXe.out, hE.out]; rfl
                  clear HRR hE HRE HRX HX HXe
                  go_wp2
                  go_ret2
                  exact ⟨hbw, .inr ⟨HKO.out, .inl ⟨L, A2, c2, HF.out, by rw [HLI.out]; rfl, rL, HOK.out⟩⟩⟩
                · have HF : Hid (Lp.rread ks (x :: r) = none) := by show _ = _; rw [HRR.out HXe.out, hE.out]; rfl
                  have hyl : (0 : Int) < (p.length : Int) + 1 := by omega
                  simp only [List.length_cons] at hcp hpl ⊢
                  clear HRR hE HRE HRX HX HXe
                  go_wp2
                  go_ret2
                  exact read4_none HKO.out HF.out hbw
              · have HF : Hid (Lp.rread ks (x :: r) = none) := by show _ = _; exact HRX.out (by rw [HXe.out]; exact hX0)
                have e1 : ((X : Int) != 0) = true := bne_iff_ne.2 (by omega)
                clear HRR hE HRE HRX HX HXe
                go_wp2
                go_ret2
                exact read4_none HKO.out HF.out hbw
end Go.Proofs.YthdnphnipfpdkaaDoor
