/-
 EvalTurns: the walk. Conditions: the tables of unicode/utf8 and of the reserved words as laid; the arguments as they came in.
-/
import Derived.Test.YtkfjmgmjbljnbaaGreatDoorYAsk18
import Derived.Test.YtkfjmgmjbljnbaaGreatDoorYZD
set_option maxRecDepth 100000
set_option maxHeartbeats 16000000
namespace Go.Proofs.YtkfjmgmjbljnbaaGreatDoor
open Go.RowKit
theorem vEq_self (u : Lp.V) : vEq u u = true := by simp [vEq]
theorem eqS_run (x1 x2 : Int) (x3 : ByteArray) (x4 : Bool) (w : World) : (binOp .eql 31 (.agg #[.int .u8 x1, .int .i64 x2, .string x3, .bool x4]) (.agg #[.int .u8 x1, .int .i64 x2, .string x3, .bool x4])).run Tryz.prog w = .ok (.bool true) w := by
 rw [eqV_run, vEq_self]
theorem neS_run (x1 x2 : Int) (x3 : ByteArray) (x4 : Bool) (w : World) : (binOp .neq 31 (.agg #[.int .u8 x1, .int .i64 x2, .string x3, .bool x4]) (.agg #[.int .u8 x1, .int .i64 x2, .string x3, .bool x4])).run Tryz.prog w = .ok (.bool false) w := by
 have h := eqS_run x1 x2 x3 x4 w
 rw [run_eql_struct] at h
 rw [run_neq_struct]
 generalize (Op.equalIn 10000 31 (.agg #[.int .u8 x1, .int .i64 x2, .string x3, .bool x4]) (.agg #[.int .u8 x1, .int .i64 x2, .string x3, .bool x4])).run Tryz.prog w = r at *
 cases r with
 | ok b w' =>
   simp only [Result.andThen_ok, Result.ok.injEq, Value.bool.injEq] at h ⊢
   obtain ⟨rfl, rfl⟩ := h
   exact ⟨rfl, rfl⟩
 | halt x w' => simp [Result.andThen] at h
theorem neG_run (x y : Operand) (xs ys : Array Value) (w : World) : (eqGuard .neq 31 x y (.agg xs) (.agg ys)).run Tryz.prog w = .ok () w := run_eqGuard_agg w _ _ _ _ _ _ (by kernel_rfl)
theorem cat2 (a b : ByteArray) {m n : Nat} (ha : a.size ≤ m) (hb : b.size ≤ n) (hmn : m + n ≤ 1000000000) : ∃ Y : ByteArray, a ++ b = Y ∧ Y.size ≤ m + n ∧ ∀ w, (Op.stringOp .add a b).run Tryz.prog w = .ok (.string Y) w := by
 refine ⟨_, rfl, ?_, fun w => run_string_add_sum w a b (by omega)⟩
 rw [ByteArray.size_append']; omega
theorem bapp (a b : ByteArray) : (a ++ b).data.toList = a.data.toList ++ b.data.toList := by simp
def cutB (s : ByteArray) : ByteArray := s.extract 0 (min s.size 250)
theorem cutB_list (s : ByteArray) : (cutB s).data.toList = s.data.toList.take 250 := by
 have h : s.data.size = s.size := rfl
 simp [cutB, ByteArray.data_extract, Array.toList_extract]
 omega
theorem cutB_size (s : ByteArray) : (cutB s).size ≤ 250 := by
 simp [cutB, ByteArray.size_extract]
 omega
theorem cutB_len (s : ByteArray) : (cutB s).data.toList.length ≤ 250 := by
 have h := cutB_size s
 rw [Array.length_toList]; exact h
theorem five_cat (p a q b r : ByteArray) (hp : p.size ≤ 10) (ha : a.size ≤ 250) (hq : q.size ≤ 10) (hb : b.size ≤ 250) (hr : r.size ≤ 10) : ∃ Y1 Y2 Y3 Y4 : ByteArray, (∀ w, (Op.stringOp .add p a).run Tryz.prog w = .ok (.string Y1) w) ∧ (∀ w, (Op.stringOp .add Y1 q).run Tryz.prog w = .ok (.string Y2) w) ∧ (∀ w, (Op.stringOp .add Y2 b).run Tryz.prog w = .ok (.string Y3) w) ∧ (∀ w, (Op.stringOp .add Y3 r).run Tryz.prog w = .ok (.string Y4) w) ∧ Y4.data.toList = p.data.toList ++ a.data.toList ++ q.data.toList ++ b.data.toList ++ r.data.toList := by
 obtain ⟨Y1, y1, z1, A1⟩ := cat2 p a hp ha (by decide)
 obtain ⟨Y2, y2, z2, A2⟩ := cat2 Y1 q z1 hq (by decide)
 obtain ⟨Y3, y3, z3, A3⟩ := cat2 Y2 b z2 hb (by decide)
 obtain ⟨Y4, y4, z4, A4⟩ := cat2 Y3 r z3 hr (by decide)
 refine ⟨Y1, Y2, Y3, Y4, A1, A2, A3, A4, ?_⟩
 rw [← y4, ← y3, ← y2, ← y1, bapp, bapp, bapp, bapp]
theorem take600 {l : List UInt8} (h : l.length ≤ 600) : l.take 600 = l := List.take_of_length_le h
attribute [local go_sem] eqG_run neG_run eqS_run neS_run
attribute [-go_sem] run_eql_struct run_neq_struct
theorem turns_walk (A : Option Addr) (c : Nat) (la : List TabA) (s1 s2 : ByteArray) (x : RowV) (w : World) (hA : ScA w A la) (hx : RowOk1 w x) (hT : Tabs w) (hR : Resv w) :
 Calls Tryz.prog 3 #[.slice A la.length c, .string s1, .string s2, x.val] w fun e w' => e = .returned (.bool true) ∧ Below w.heap.size w w' := by
 obtain ⟨Ax, cx, lx⟩ := x
 have HA := Lib.hid (awake18 w hT hR)
 have HT := Lib.hid (And.intro hT hR)
 have HS := Lib.hid hA
 have HX := Lib.hid hx
 have hxl : lx.length ≤ cx := hx.2.1
 have hm : (min (lx.length : Int) 20).toNat = min lx.length 20 := by omega
 have hm0 : (0 : Int) ≤ min (lx.length : Int) 20 := by omega
 have hm1 : min (lx.length : Int) 20 ≤ (lx.length : Int) := by omega
 have hm2 : min (lx.length : Int) 20 ≤ (cx : Int) := by omega
 have ha1 : (min (s1.size : Int) 250).toNat = min s1.size 250 := by omega
 have ha2 : (0 : Int) ≤ min (s1.size : Int) 250 := by omega
 have ha3 : min (s1.size : Int) 250 ≤ (s1.size : Int) := by omega
 have hb1' : (min (s2.size : Int) 250).toNat = min s2.size 250 := by omega
 have hb2' : (0 : Int) ≤ min (s2.size : Int) 250 := by omega
 have hb3' : min (s2.size : Int) 250 ≤ (s2.size : Int) := by omega
 have HM1 := Lib.hid (show s1.extract 0 (min (s1.size : Int) 250).toNat = cutB s1 by rw [ha1]; rfl)
 have HM2 := Lib.hid (show s2.extract 0 (min (s2.size : Int) 250).toNat = cutB s2 by rw [hb1']; rfl)
 have hc1 := cutB_size s1
 have hc2 := cutB_size s2
 have hl1 := cutB_len s1
 have hl2' := cutB_len s2
 simp only [RowV.val]
 clear hT hR hA hx ha1 hb1'
 go_enter Tryz.func3, Tryz.ntmps3
 go_wp2_with fail
 refine HA.out.mono ?_
 rintro e w1 ⟨rfl, hb1⟩
 go_wp2_with fail
 refine (scope18_any A c la w1 (HS.out.below hb1)).mono ?_
 rintro e w2 ⟨hb2, rfl | ⟨l, A1, c1, A2, c2, rfl, hS1, hS2, hl2, h8⟩⟩
 ·have HB := Lib.hid ((hb1.trans (hb2.mono hb1.size)).alloc (hb1.trans (hb2.mono hb1.size)).size (.cells #[.slice none 0 0] 25))
  clear hb1 hb2
  go_wp2
  go_ret
  exact ⟨rfl, HB.out⟩
 ·have hB := hb1.trans (hb2.mono hb1.size)
  have hwd := wide_scOf (fun p hp => (h8 p hp).1)
  have hbt : Below w2.heap.size w2 (w2.alloc (.cells #[.slice A1 l.length c1] 25)) := ba (Below.refl _ _) _
  have hzt := heap_alloc_new w2 (.cells #[.slice A1 l.length c1] 25)
  have hB3 := hB.trans (hbt.mono hB.size)
  have hS23 := hS2.below hbt
  have HF := Lib.hid (fun (W : World) (hb : Below (w2.alloc (.cells #[.slice A1 l.length c1] 25)).heap.size (w2.alloc (.cells #[.slice A1 l.length c1] 25)) W) => by
   obtain ⟨hcut, hcl⟩ := row_cut (HX.out.below (hB3.trans (hb.mono hB3.size)))
   have hF := fit_any A2 c2 l ((Ax, cx, lx.take (min lx.length 20)) : RowV) W (hS23.below hb) hcut hl2 (fun p hp => (h8 p hp).1) (by show (lx.take (min lx.length 20)).length ≤ 20; rw [hcl]; omega)
   simp only [RowV.val, hcl] at hF
   exact hF)
  have HSC := Lib.hid (And.intro (hS1.below hbt) (And.intro hzt (And.intro hB3 (show l.length ≤ 100 ∧ Lp.wide (scOf l) ≤ 10000 by omega))))
  clear hb1 hb2 hB hS1 hS2 hbt hzt hB3 h8 hwd hS23
  go_wp2_with fail
  go_region
  rw [HM1.out, HM2.out]
  generalize cutB s1 = a at *
  generalize cutB s2 = b at *
  clear HM1 HM2 ha2 ha3 hb2' hb3'
  obtain ⟨Y1, Y2, Y3, Y4, R1, R2, R3, R4, hY⟩ := five_cat ⟨#[40]⟩ a ⟨#[41, 32, 60, 32, 40]⟩ b ⟨#[41]⟩ (by decide) hc1 (by decide) hc2 (by decide)
  obtain ⟨Z1, Z2, Z3, Z4, S1, S2, S3, S4, hZ⟩ := five_cat ⟨#[40]⟩ b ⟨#[41, 32, 62, 32, 40]⟩ a ⟨#[41]⟩ (by decide) hc2 (by decide) hc1 (by decide)
  obtain ⟨N1, N2, N3, N4, T1, T2, T3, T4, hN⟩ := five_cat ⟨#[78, 79, 84, 32, 40, 40]⟩ a ⟨#[41, 32, 62, 61, 32, 40]⟩ b ⟨#[41, 41]⟩ (by decide) hc1 (by decide) hc2 (by decide)
  have hYl : Y4.data.toList.take 600 = Lp.sCmp [60] a.data.toList b.data.toList := by
   rw [take600 (by rw [hY]; simp; omega), hY]; simp [Lp.sCmp]
  have hZl : Z4.data.toList.take 600 = Lp.sCmp [62] b.data.toList a.data.toList := by
   rw [take600 (by rw [hZ]; simp; omega), hZ]; simp [Lp.sCmp]
  have hNl : N4.data.toList.take 600 = Lp.sNot [62, 61] a.data.toList b.data.toList := by
   rw [take600 (by rw [hN]; simp; omega), hN]; simp [Lp.sNot]
  have hal : a.data.toList.take 600 = a.data.toList := take600 (by omega)
  have hbl : b.data.toList.take 600 = b.data.toList := take600 (by omega)
  have HL := Lib.hid (And.intro hYl (And.intro hZl (And.intro hNl (And.intro hal hbl))))
  clear hY hZ hN hYl hZl hNl hal hbl hl1 hl2' hc1 hc2
  obtain ⟨W3, hW3⟩ : ∃ W3, w2.alloc (.cells #[.slice A1 l.length c1] 25) = W3 := ⟨_, rfl⟩
  rw [hW3] at HF HSC ⊢
  clear hW3
  go_wp2_with fail
  refine (HF.out _ ((Below.refl _ _).drew)).mono ?_
  rintro e w4 ⟨hb4, Af, cf, row, rfl, hrd, hrl, hrc, hro⟩
  have hb34 : Below W3.heap.size W3 w4 := (Below.refl W3.heap.size W3).drew.trans hb4
  have hbr : Below w4.heap.size w4 (w4.alloc (.cells #[.slice Af row.length cf] 23)) := ba (Below.refl _ _) _
  have hzr := heap_alloc_new w4 (.cells #[.slice Af row.length cf] 23)
  have hb35 := hb34.trans (hbr.mono hb34.size)
  have hgt5 := box_below HSC.out.2.1 hb35
  have hS5 := HSC.out.1.below hb35
  have hrd5 := Rds.below hrd hbr
  have hB5 := HSC.out.2.2.1.trans (hb35.mono HSC.out.2.2.1.size)
  have HK := Lib.hid (fun (s : ByteArray) (W : World) (hb : Below (w4.alloc (.cells #[.slice Af row.length cf] 23)).heap.size (w4.alloc (.cells #[.slice Af row.length cf] 23)) W) => ask_any A1 c1 l (Af, cf, row) s w2.heap.size w4.heap.size W (tabs_below HT.out.1 (hB5.trans (hb.mono hB5.size))) (resv_below HT.out.2 (hB5.trans (hb.mono hB5.size))) (hS5.below hb) HSC.out.2.2.2.1 HSC.out.2.2.2.2 hro (Rds.below hrd5 hb) (box_below hgt5 hb) (box_below hzr hb))
  have HBd := Lib.hid (fun (s : ByteArray) (W : World) (hb : Below (w4.alloc (.cells #[.slice Af row.length cf] 23)).heap.size (w4.alloc (.cells #[.slice Af row.length cf] 23)) W) => by
   have hBd := (bound_any A1 c1 (scOf l) s false W (tabs_below HT.out.1 (hB5.trans (hb.mono hB5.size))) (resv_below HT.out.2 (hB5.trans (hb.mono hB5.size))) (hS5.below hb).scm (by rw [scOf_len]; exact HSC.out.2.2.2.1) HSC.out.2.2.2.2).mono fun e w' h => h.bde
   rw [scOf_len] at hBd
   exact hBd)
  have hHK1 := HK.out Y4
  have hHK2 := HK.out Z4
  have hHK3 := HK.out N4
  have hBd1 := HBd.out a
  have hBd2 := HBd.out b
  rw [HL.out.1] at hHK1
  rw [HL.out.2.1] at hHK2
  rw [HL.out.2.2.1] at hHK3
  rw [HL.out.2.2.2.1] at hBd1
  rw [HL.out.2.2.2.2] at hBd2
  have hPL := fun x y => turns_plain (scOf l) row (a := a.data.toList) (b := b.data.toList) (x := x) (y := y)
  generalize askX (scOf l) row (Lp.condS (Lp.sCmp [60] a.data.toList b.data.toList)) = P1 at *
  generalize askX (scOf l) row (Lp.condS (Lp.sCmp [62] b.data.toList a.data.toList)) = P2 at *
  generalize askX (scOf l) row (Lp.condS (Lp.sNot [62, 61] a.data.toList b.data.toList)) = P3 at *
  generalize Lp.condS a.data.toList = qa at *
  generalize Lp.condS b.data.toList = qb at *
  obtain ⟨⟨k1, i1, t1, b1⟩, o1⟩ := P1
  obtain ⟨⟨k2, i2, t2, b2⟩, o2⟩ := P2
  obtain ⟨⟨k3, i3, t3, b3⟩, o3⟩ := P3
  have HK1 := Lib.hid hHK1
  have HK2 := Lib.hid hHK2
  have HK3 := Lib.hid hHK3
  have HD1 := Lib.hid hBd1
  have HD2 := Lib.hid hBd2
  have HPL := Lib.hid hPL
  have HB5 := Lib.hid hB5
  have cgt := box_cells hgt5 0
  simp only [List.getElem?_toArray, List.getElem?_cons_zero] at cgt
  clear hHK1 hHK2 hHK3 hBd1 hBd2 hPL HK HBd HF HSC HT hb4 hb34 hbr hzr hb35 hgt5 hS5 hrd5 hB5 hrd hrl hrc hro HL HS HX HA
  go_wp2_with fail
  obtain ⟨W5, hW5⟩ : ∃ W5, w4.alloc (.cells #[.slice Af row.length cf] 23) = W5 := ⟨_, rfl⟩
  rw [hW5] at HK1 HK2 HK3 HD1 HD2 HB5 cgt ⊢
  clear hW5
  refine (HK1.out _ (Below.refl _ _)).mono ?_
  rintro e w6 ⟨rfl, hb6⟩
  simp only [vv4]
  have hz1 := heap_alloc_new w6 (.cells #[.int .u8 k1, .int .i64 i1, .string t1, .bool b1] 31)
  have hb6' : Below W5.heap.size W5 (w6.alloc (.cells #[.int .u8 k1, .int .i64 i1, .string t1, .bool b1] 31)) := hb6.alloc hb6.size _
  have H6 := Lib.hid (And.intro hb6' hz1)
  clear hb6 hb6' hz1 HK1
  go_wp2_with fail
  refine (HK2.out _ H6.out.1).mono ?_
  rintro e w7 ⟨rfl, hb7⟩
  simp only [vv4]
  have hz2 := heap_alloc_new w7 (.cells #[.int .u8 k2, .int .i64 i2, .string t2, .bool b2] 31)
  have hx7 : Below w7.heap.size w7 (w7.alloc (.cells #[.int .u8 k2, .int .i64 i2, .string t2, .bool b2] 31)) := ba (Below.refl _ _) _
  have hb7' := hb7.trans (hx7.mono hb7.size)
  have H7 := Lib.hid (And.intro (H6.out.1.trans (hb7'.mono H6.out.1.size)) (And.intro (box_below H6.out.2 hb7') hz2))
  clear hb7 hb7' hz2 hx7 HK2 H6
  go_wp2_with fail
  refine (HK3.out _ H7.out.1).mono ?_
  rintro e w8 ⟨rfl, hb8⟩
  simp only [vv4]
  have hz3 := heap_alloc_new w8 (.cells #[.int .u8 k3, .int .i64 i3, .string t3, .bool b3] 31)
  have hx8 : Below w8.heap.size w8 (w8.alloc (.cells #[.int .u8 k3, .int .i64 i3, .string t3, .bool b3] 31)) := ba (Below.refl _ _) _
  have hb8' := hb8.trans (hx8.mono hb8.size)
  have H8 := Lib.hid (And.intro (H7.out.1.trans (hb8'.mono H7.out.1.size)) (And.intro (box_below H7.out.2.1 hb8') (And.intro (box_below H7.out.2.2 hb8') hz3)))
  have cgt8 := cell_belo cgt (H7.out.1.trans (hb8'.mono H7.out.1.size))
  clear hb8 hb8' hz3 hx8 HK3 H7
  go_wp2_with fail
  refine (HD1.out _ H8.out.1).mono ?_
  rintro e w9 ⟨hb9, hj1⟩
  obtain ⟨v9, ⟨k, vk, vi, vs, vb, tt, ss, Ar, nn, cr⟩, oa, he, hja⟩ : ∃ (v : Value) (rr : RC) (o : Bool), e = .returned (.tuple #[v, rr.val, .bool o]) ∧ (o = true → ∃ x, qa = some x ∧ (Lp.kindX (scOf l) x false).2 = 0) := by
   rcases hj1 with ⟨x, g, hq, hk, -, rr, -, rfl⟩ | ⟨-, rr, rfl⟩
   ·exact ⟨_, rr, true, rfl, fun _ => ⟨x, hq, hk⟩⟩
   ·exact ⟨_, rr, false, rfl, fun h => by cases h⟩
  subst he
  simp only [RC.val]
  have hx9 : Below w9.heap.size w9 (w9.alloc (.cells #[.int .u8 k, .int .u8 vk, .int .i64 vi, .string vs, .bool vb, .string tt, .string ss, .slice Ar nn cr] 35)) := ba (Below.refl _ _) _
  have hb9' := hb9.trans (hx9.mono hb9.size)
  have H9 := Lib.hid (And.intro (H8.out.1.trans (hb9'.mono H8.out.1.size)) (And.intro (box_below H8.out.2.1 hb9') (And.intro (box_below H8.out.2.2.1 hb9') (And.intro (box_below H8.out.2.2.2 hb9') hja))))
  have cgt9 := cell_belo cgt (H8.out.1.trans (hb9'.mono H8.out.1.size))
  clear hb9 hb9' hx9 HD1 H8 hj1 hja cgt8
  go_wp2_with fail
  refine (HD2.out _ H9.out.1).mono ?_
  rintro e w10 ⟨hb10, hj2⟩
  obtain ⟨v10, ⟨k', vk', vi', vs', vb', tt', ss', Ar', nn', cr'⟩, ob, he, hjb⟩ : ∃ (v : Value) (rr : RC) (o : Bool), e = .returned (.tuple #[v, rr.val, .bool o]) ∧ (o = true → ∃ x, qb = some x ∧ (Lp.kindX (scOf l) x false).2 = 0) := by
   rcases hj2 with ⟨x, g, hq, hk, -, rr, -, rfl⟩ | ⟨-, rr, rfl⟩
   ·exact ⟨_, rr, true, rfl, fun _ => ⟨x, hq, hk⟩⟩
   ·exact ⟨_, rr, false, rfl, fun h => by cases h⟩
  subst he
  simp only [RC.val]
  have hx10 : Below w10.heap.size w10 (w10.alloc (.cells #[.int .u8 k', .int .u8 vk', .int .i64 vi', .string vs', .bool vb', .string tt', .string ss', .slice Ar' nn' cr'] 35)) := ba (Below.refl _ _) _
  have hb10' := hb10.trans (hx10.mono hb10.size)
  have z1 := box_cells (box_below H9.out.2.1 hb10')
  have z2 := box_cells (box_below H9.out.2.2.1 hb10')
  have z3 := box_cells (box_below H9.out.2.2.2.1 hb10')
  have HQ := Lib.hid (HB5.out.trans ((H9.out.1.trans (hb10'.mono H9.out.1.size)).mono HB5.out.size))
  have HJ := Lib.hid (And.intro H9.out.2.2.2.2 hjb)
  clear hb10 hb10' hx10 HD2 H9 hj2 hjb cgt cgt9
  cases oa
  ·clear z1 z2 z3
   go_wp2
   go_ret
   exact ⟨rfl, HQ.out⟩
  ·cases ob
   ·clear z1 z2 z3
    go_wp2
    go_ret
    exact ⟨rfl, HQ.out⟩
   ·obtain ⟨x, hqa, hkx⟩ := HJ.out.1 rfl
    obtain ⟨y, hqb, hky⟩ := HJ.out.2 rfl
    obtain ⟨e2, e3⟩ := HPL.out x y hqa hqb hkx hky
    try simp only at e2 e3
    subst e2
    cases o2
    ·clear z1 z2 z3 e3 hqa hqb hkx hky HPL HJ
     go_wp2
     go_ret
     exact ⟨rfl, HQ.out⟩
    ·obtain ⟨e4, e5⟩ := e3 rfl
     injection e4 with e41 e42 e43 e44
     subst e41 e42 e43 e44
     cases o3
     ·clear e3 e5 hqa hqb hkx hky HPL HJ
      go_wp2
      go_ret
      exact ⟨rfl, HQ.out⟩
     ·have e6 := e5 rfl
      injection e6 with e61 e62 e63 e64
      subst e61 e62 e63 e64
      clear e3 e5 hqa hqb hkx hky HPL HJ
      go_wp2
      go_ret
      exact ⟨rfl, HQ.out⟩
end Go.Proofs.YtkfjmgmjbljnbaaGreatDoor
