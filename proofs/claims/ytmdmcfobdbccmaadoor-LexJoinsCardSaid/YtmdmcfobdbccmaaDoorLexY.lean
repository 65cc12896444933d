/-
  What lex.next gives, at a number, a text, a sign. Conditions: unicode/utf8's tables as laid; at most 10^9 bytes.
-/
import Derived.Test.YtmdmcfobdbccmaaDoorLexX
namespace Go.Proofs.YtmdmcfobdbccmaaDoor
open Go.RowKit

theorem size_of {s : ByteArray} {l : List UInt8} (h : s.data.toList = l) : s.size = l.length := by rw [← h, Array.length_toList]; rfl
theorem rightB_text (T : List UInt8) : Lp.rightB 2 0 ⟨T.toArray⟩ false = (decide (T.length ≤ 60) && Lp.textOk T) := by
  unfold Lp.rightB
  simp [ByteArray.size]
theorem textT_no {t : List UInt8} {n : Nat} (h : Lp.textOk t = false) : Lp.textT (some (t, n)) = (⟨0, [], 0⟩, 0, 4) := by simp only [Lp.textT, h]; rfl
theorem textT_long {t : List UInt8} {n : Nat} (h : Lp.textOk t = true) (h2 : ¬ t.length ≤ 60) : Lp.textT (some (t, n)) = (⟨0, [], 0⟩, 0, 2) := by simp only [Lp.textT, h, h2, if_true, if_false]; rfl
theorem textT_good {t : List UInt8} {n : Nat} (h : Lp.textOk t = true) (h2 : t.length ≤ 60) : Lp.textT (some (t, n)) = (⟨3, t, 0⟩, n + 1, 0) := by simp only [Lp.textT, h, h2, if_true]
theorem right_is (k i : Int) (s : ByteArray) (b r : Bool) (hr : Lp.rightB k i s b = r) (w : World) (hs : s.size ≤ 9223372036854775807) (hT : Tabs w) :
    Calls Tryd.prog 41 #[.agg #[.int .u8 k, .int .i64 i, .string s, .bool b]] w fun e w' => e = .returned (.bool r) ∧ Below w.heap.size w w' := by
  subst hr; exact right_any k i s b w hs hT
set_option maxRecDepth 100000 in
set_option maxHeartbeats 4000000 in
theorem next_num (s : ByteArray) (c : UInt8) (r : List UInt8) (hl : s.data.toList = c :: r) (w : World) (_ : s.size ≤ 1000000000) (hc : Lp.letB c = false) (hi : Lp.isDig c = true) (hT : Tabs w) :
    Calls Tryd.prog 17 #[.string s] w (NextPost (c :: r) w) := by
  have HN := Lib.hid (Lp.nextT_num r hc hi)
  have hb0 : Below w.heap.size w (w.alloc (.cells #[.int .u8 0, .string ⟨#[]⟩, .int .i64 0] 41)) := (Below.refl _ _).alloc (Nat.le_refl _) _
  have hx0 := heap_alloc_new w (.cells #[.int .u8 0, .string ⟨#[]⟩, .int .i64 0] 41)
  have hT0 := tabs_below hT hb0
  obtain ⟨kd, hd, hd1, hd2⟩ := decode0 hl
  obtain ⟨f1, f2, f3⟩ := letR_fact hd1 hd2
  generalize (Utf8.decode s 0).1 = rn at *
  have cD := fun W h => decode_any s W h
  rw [hd] at cD
  have CD := Lib.hid cD
  have cL := fun W => lletter_any (rn : Int) W
  rw [f1, hc] at cL
  unfold BoolPost at cL
  have CL := Lib.hid cL
  have cI := fun W => ldigit_any (rn : Int) W
  rw [f2, hi] at cI
  unfold BoolPost at cI
  have CI := Lib.hid cI
  clear hd hd1 hd2 f1 f2 cD cL cI
  have cW := fun W => while_dig s W
  have hle : (s.data.toList.takeWhile Lp.isDig).length ≤ s.size := by
    have := Lp.takeWhile_le Lp.isDig s.data.toList
    rw [Array.length_toList] at this; exact this
  have htk : (s.extract 0 (s.data.toList.takeWhile Lp.isDig).length).data.toList = s.data.toList.takeWhile Lp.isDig := by
    rw [Lib.extract_data, List.drop_zero]; simp only [Nat.sub_zero]; exact takeWhile_take _
  have cR := fun W => read_any (s.extract 0 (s.data.toList.takeWhile Lp.isDig).length) W
  unfold ReadPost at cR
  rw [htk, hl] at cR
  rw [hl] at cW hle
  have CW := Lib.hid cW
  have CR := Lib.hid cR
  clear hc hi hl cW cR htk hT f3
  generalize ((c :: r).takeWhile Lp.isDig).length = m at *
  go_enter Tryd.func17, Tryd.ntmps17
  go_wp2_with fail
  refine (CD.out _ hT0).mono ?_
  rintro e w1 ⟨rfl, b1⟩
  have x1 := box_below hx0 b1
  have k1 := hb0.trans (b1.mono hb0.size)
  have hT1 := tabs_below hT0 b1
  clear hx0 hb0 b1 hT0
  go_wp2_with fail
  refine (CL.out _).mono ?_
  rintro e w' ⟨rfl, rfl⟩
  go_wp2_with fail
  refine (CI.out _).mono ?_
  rintro e w' ⟨rfl, rfl⟩
  go_wp2_with fail
  refine (CW.out _).mono ?_
  rintro e w2 ⟨rfl, b2⟩
  have x2 := box_below x1 b2
  have k2 := k1.trans (b2.mono k1.size)
  clear x1 k1 b2 hT1
  go_wp2_with fail
  refine (CR.out _).mono ?_
  rintro e w3 ⟨rfl, b3⟩
  have x3 := box_below x2 b3
  have k3 := k2.trans (b3.mono k2.size)
  have c3 := box_cells x3
  have f3 := fun j => frozen_of_row w3 w.heap.size j _ _ x3
  clear x2 k2 b3
  go_wp2
  have hbE := ((k3.setCell (p := ⟨w.heap.size, 0, none⟩) (Nat.le_refl _) (.int .u8 2)).setCell (p := ⟨w.heap.size, 1, none⟩) (Nat.le_refl _) (.string ⟨#[]⟩)).setCell (p := ⟨w.heap.size, 2, none⟩) (Nat.le_refl _) (.int .i64 (Lp.readV ((c :: r).takeWhile Lp.isDig)))
  exact bodyPost_ret (v := .tuple #[.agg #[.int .u8 2, .string ⟨#[]⟩, .int .i64 (Lp.readV ((c :: r).takeWhile Lp.isDig))], .int .i64 (m : Int), .int .i64 (Lp.readE ((c :: r).takeWhile Lp.isDig))]) (by simp [results, Tryd.results17, go_sem, c3]) rfl (nextPost HN.out hbE)
set_option maxRecDepth 100000 in
set_option maxHeartbeats 4000000 in
theorem next_nosign (s : ByteArray) (c : UInt8) (r : List UInt8) (hl : s.data.toList = c :: r) (w : World) (_ : s.size ≤ 1000000000) (hc : Lp.letB c = false) (hi : Lp.isDig c = false) (h39 : c ≠ 39) (hg : Lp.signN (c :: r) = 0) (hT : Tabs w) :
    Calls Tryd.prog 17 #[.string s] w (NextPost (c :: r) w) := by
  have HN := Lib.hid ((Lp.nextT_sign r hc hi h39).trans (if_pos hg))
  have hb0 : Below w.heap.size w (w.alloc (.cells #[.int .u8 0, .string ⟨#[]⟩, .int .i64 0] 41)) := (Below.refl _ _).alloc (Nat.le_refl _) _
  have hx0 := heap_alloc_new w (.cells #[.int .u8 0, .string ⟨#[]⟩, .int .i64 0] 41)
  have hT0 := tabs_below hT hb0
  obtain ⟨kd, hd, hd1, hd2⟩ := decode0 hl
  obtain ⟨f1, f2, f3⟩ := letR_fact hd1 hd2
  generalize (Utf8.decode s 0).1 = rn at *
  have cD := fun W h => decode_any s W h
  rw [hd] at cD
  have CD := Lib.hid cD
  have cL := fun W => lletter_any (rn : Int) W
  rw [f1, hc] at cL
  unfold BoolPost at cL
  have CL := Lib.hid cL
  have cI := fun W => ldigit_any (rn : Int) W
  rw [f2, hi] at cI
  unfold BoolPost at cI
  have CI := Lib.hid cI
  clear hd hd1 hd2 f1 f2 cD cL cI
  rw [decide_eq_false h39] at f3
  have hz := size_of hl
  have hz1 : 1 ≤ s.size := by rw [hz]; simp
  have hle : Lp.signN (c :: r) ≤ s.size := by rw [hz]; exact Lp.signN_le _
  have cS := fun W => sign_any s W hz1
  rw [hl] at cS
  rw [hg] at cS
  have CS := Lib.hid cS
  clear hc hi h39 hg hl cS hT hz hle
  go_enter Tryd.func17, Tryd.ntmps17
  go_wp2_with fail
  refine (CD.out _ hT0).mono ?_
  rintro e w1 ⟨rfl, b1⟩
  have x1 := box_below hx0 b1
  have k1 := hb0.trans (b1.mono hb0.size)
  have hT1 := tabs_below hT0 b1
  clear hx0 hb0 b1 hT0
  go_wp2_with fail
  refine (CL.out _).mono ?_
  rintro e w' ⟨rfl, rfl⟩
  go_wp2_with fail
  refine (CI.out _).mono ?_
  rintro e w' ⟨rfl, rfl⟩
  go_wp2_with fail
  refine (CS.out _).mono ?_
  rintro e w' ⟨rfl, rfl⟩
  have c3 := box_cells x1
  have f4 := fun j => frozen_of_row w1 w.heap.size j _ _ x1
  clear hT1
  go_wp2
  have hbE := ((k1.setCell (p := ⟨w.heap.size, 0, none⟩) (Nat.le_refl _) (.int .u8 0)).setCell (p := ⟨w.heap.size, 1, none⟩) (Nat.le_refl _) (.string ⟨#[]⟩)).setCell (p := ⟨w.heap.size, 2, none⟩) (Nat.le_refl _) (.int .i64 0)
  exact bodyPost_ret (v := .tuple #[.agg #[.int .u8 0, .string ⟨#[]⟩, .int .i64 0], .int .i64 (0), .int .i64 (4)]) (by simp [results, Tryd.results17, go_sem, c3]) rfl (nextPost HN.out hbE)
set_option maxRecDepth 100000 in
set_option maxHeartbeats 4000000 in
theorem next_sign (s : ByteArray) (c : UInt8) (r : List UInt8) (hl : s.data.toList = c :: r) (w : World) (_ : s.size ≤ 1000000000) (hc : Lp.letB c = false) (hi : Lp.isDig c = false) (h39 : c ≠ 39) (hg : Lp.signN (c :: r) ≠ 0) (hT : Tabs w) :
    Calls Tryd.prog 17 #[.string s] w (NextPost (c :: r) w) := by
  have HN := Lib.hid ((Lp.nextT_sign r hc hi h39).trans (if_neg hg))
  have hb0 : Below w.heap.size w (w.alloc (.cells #[.int .u8 0, .string ⟨#[]⟩, .int .i64 0] 41)) := (Below.refl _ _).alloc (Nat.le_refl _) _
  have hx0 := heap_alloc_new w (.cells #[.int .u8 0, .string ⟨#[]⟩, .int .i64 0] 41)
  have hT0 := tabs_below hT hb0
  obtain ⟨kd, hd, hd1, hd2⟩ := decode0 hl
  obtain ⟨f1, f2, f3⟩ := letR_fact hd1 hd2
  generalize (Utf8.decode s 0).1 = rn at *
  have cD := fun W h => decode_any s W h
  rw [hd] at cD
  have CD := Lib.hid cD
  have cL := fun W => lletter_any (rn : Int) W
  rw [f1, hc] at cL
  unfold BoolPost at cL
  have CL := Lib.hid cL
  have cI := fun W => ldigit_any (rn : Int) W
  rw [f2, hi] at cI
  unfold BoolPost at cI
  have CI := Lib.hid cI
  clear hd hd1 hd2 f1 f2 cD cL cI
  rw [decide_eq_false h39] at f3
  have hz := size_of hl
  have hz1 : 1 ≤ s.size := by rw [hz]; simp
  have hle : Lp.signN (c :: r) ≤ s.size := by rw [hz]; exact Lp.signN_le _
  have cS := fun W => sign_any s W hz1
  rw [hl] at cS
  have CS := Lib.hid cS
  have HX : Hid (s.extract 0 (Lp.signN (c :: r)) = ⟨((c :: r).take (Lp.signN (c :: r))).toArray⟩) := by
    show _ = _
    apply ByteArray.ext
    apply Array.ext'
    rw [Lib.extract_data, List.drop_zero, Nat.sub_zero, hl]
  have hge : (((Lp.signN (c :: r) : Nat) : Int) == 0) = false := by rw [beq_eq_false_iff_ne]; omega
  clear hc hi h39 hg hl cS hT hz
  generalize Lp.signN (c :: r) = m at *
  go_enter Tryd.func17, Tryd.ntmps17
  go_wp2_with fail
  refine (CD.out _ hT0).mono ?_
  rintro e w1 ⟨rfl, b1⟩
  have x1 := box_below hx0 b1
  have k1 := hb0.trans (b1.mono hb0.size)
  have hT1 := tabs_below hT0 b1
  clear hx0 hb0 b1 hT0
  go_wp2_with fail
  refine (CL.out _).mono ?_
  rintro e w' ⟨rfl, rfl⟩
  go_wp2_with fail
  refine (CI.out _).mono ?_
  rintro e w' ⟨rfl, rfl⟩
  go_wp2_with fail
  refine (CS.out _).mono ?_
  rintro e w' ⟨rfl, rfl⟩
  have c3 := box_cells x1
  have f4 := fun j => frozen_of_row w1 w.heap.size j _ _ x1
  clear hT1
  go_wp2
  rw [HX.out]
  have hbE := ((k1.setCell (p := ⟨w.heap.size, 0, none⟩) (Nat.le_refl _) (.int .u8 4)).setCell (p := ⟨w.heap.size, 1, none⟩) (Nat.le_refl _) (.string ⟨((c :: r).take m).toArray⟩)).setCell (p := ⟨w.heap.size, 2, none⟩) (Nat.le_refl _) (.int .i64 0)
  exact bodyPost_ret (v := .tuple #[.agg #[.int .u8 4, .string ⟨((c :: r).take m).toArray⟩, .int .i64 0], .int .i64 (m : Int), .int .i64 (0)]) (by simp [results, Tryd.results17, go_sem, c3]) rfl (nextPost HN.out hbE)
set_option maxRecDepth 100000 in
set_option maxHeartbeats 4000000 in
theorem next_text_none (s : ByteArray) (r : List UInt8) (hl : s.data.toList = 39 :: r) (w : World) (hs : s.size ≤ 1000000000) (ht : Lp.txt r = none) (hT : Tabs w) :
    Calls Tryd.prog 17 #[.string s] w (NextPost (39 :: r) w) := by
  have HN : Hid (Lp.nextT (39 :: r) = (⟨0, [], 0⟩, 0, 4)) := by show _ = _; rw [Lp.nextT_text, ht]; rfl
  have hc : Lp.letB 39 = false := rfl
  have hi : Lp.isDig 39 = false := rfl
  have hb0 : Below w.heap.size w (w.alloc (.cells #[.int .u8 0, .string ⟨#[]⟩, .int .i64 0] 41)) := (Below.refl _ _).alloc (Nat.le_refl _) _
  have hx0 := heap_alloc_new w (.cells #[.int .u8 0, .string ⟨#[]⟩, .int .i64 0] 41)
  have hT0 := tabs_below hT hb0
  obtain ⟨kd, hd, hd1, hd2⟩ := decode0 hl
  obtain ⟨f1, f2, f3⟩ := letR_fact hd1 hd2
  generalize (Utf8.decode s 0).1 = rn at *
  have cD := fun W h => decode_any s W h
  rw [hd] at cD
  have CD := Lib.hid cD
  have cL := fun W => lletter_any (rn : Int) W
  rw [f1, hc] at cL
  unfold BoolPost at cL
  have CL := Lib.hid cL
  have cI := fun W => ldigit_any (rn : Int) W
  rw [f2, hi] at cI
  unfold BoolPost at cI
  have CI := Lib.hid cI
  clear hd hd1 hd2 f1 f2 cD cL cI
  rw [decide_eq_true rfl] at f3
  have hz := size_of hl
  have hz1 : 1 ≤ s.size := by rw [hz]; simp
  have cS := fun W h => text_any s W hs hz1 h
  rw [hl] at cS
  unfold TextPost at cS
  rw [show (39 :: r).drop 1 = r from rfl, ht] at cS
  have CS : Hid (∀ W, Tabs W → Calls Tryd.prog 39 #[.string s] W fun e w' => e = .returned (.tuple #[.string ⟨#[]⟩, .int .i64 0]) ∧ Below W.heap.size W w') := Lib.hid cS
  clear hc hi ht hl cS hT hz hs
  go_enter Tryd.func17, Tryd.ntmps17
  go_wp2_with fail
  refine (CD.out _ hT0).mono ?_
  rintro e w1 ⟨rfl, b1⟩
  have x1 := box_below hx0 b1
  have k1 := hb0.trans (b1.mono hb0.size)
  have hT1 := tabs_below hT0 b1
  clear hx0 hb0 b1 hT0
  go_wp2_with fail
  refine (CL.out _).mono ?_
  rintro e w' ⟨rfl, rfl⟩
  go_wp2_with fail
  refine (CI.out _).mono ?_
  rintro e w' ⟨rfl, rfl⟩
  go_wp2_with fail
  refine (CS.out _ hT1).mono ?_
  rintro e w2 ⟨rfl, b2⟩
  have x2 := box_alloc (box_below x1 b2) (.cells #[.int .u8 2, .int .i64 0, .string ⟨#[]⟩, .bool false] 53)
  have k2 := (k1.trans (b2.mono k1.size)).alloc (Nat.le_trans k1.size b2.size) (.cells #[.int .u8 2, .int .i64 0, .string ⟨#[]⟩, .bool false] 53)
  have v2 := heap_alloc_new w2 (.cells #[.int .u8 2, .int .i64 0, .string ⟨#[]⟩, .bool false] 53)
  have hT2 := tabs_alloc (tabs_below hT1 b2) (.cells #[.int .u8 2, .int .i64 0, .string ⟨#[]⟩, .bool false] 53)
  clear x1 k1 b2 hT1
  have c9 := box_cells x2
  have f9 := fun j => frozen_of_row _ w.heap.size j _ _ x2
  clear hT2 v2
  go_wp2
  have hbE := ((k2.setCell (p := ⟨w.heap.size, 0, none⟩) (Nat.le_refl _) (.int .u8 0)).setCell (p := ⟨w.heap.size, 1, none⟩) (Nat.le_refl _) (.string ⟨#[]⟩)).setCell (p := ⟨w.heap.size, 2, none⟩) (Nat.le_refl _) (.int .i64 0)
  exact bodyPost_ret (v := .tuple #[.agg #[.int .u8 0, .string ⟨#[]⟩, .int .i64 0], .int .i64 (0), .int .i64 (4)]) (by simp [results, Tryd.results17, go_sem, c9]) rfl (nextPost HN.out hbE)
set_option maxRecDepth 100000 in
set_option maxHeartbeats 4000000 in
theorem next_text_bad (s : ByteArray) (r : List UInt8) (hl : s.data.toList = 39 :: r) (w : World) (hs : s.size ≤ 1000000000) (t : List UInt8) (n : Nat) (ht : Lp.txt r = some (t, n)) (hv : Lib.validD t = false) (hT : Tabs w) :
    Calls Tryd.prog 17 #[.string s] w (NextPost (39 :: r) w) := by
  have HN : Hid (Lp.nextT (39 :: r) = (⟨0, [], 0⟩, 0, 4)) := by show _ = _; rw [Lp.nextT_text, ht]; exact textT_no (by unfold Lp.textOk; rw [hv]; rfl)
  have hc : Lp.letB 39 = false := rfl
  have hi : Lp.isDig 39 = false := rfl
  have hb0 : Below w.heap.size w (w.alloc (.cells #[.int .u8 0, .string ⟨#[]⟩, .int .i64 0] 41)) := (Below.refl _ _).alloc (Nat.le_refl _) _
  have hx0 := heap_alloc_new w (.cells #[.int .u8 0, .string ⟨#[]⟩, .int .i64 0] 41)
  have hT0 := tabs_below hT hb0
  obtain ⟨kd, hd, hd1, hd2⟩ := decode0 hl
  obtain ⟨f1, f2, f3⟩ := letR_fact hd1 hd2
  generalize (Utf8.decode s 0).1 = rn at *
  have cD := fun W h => decode_any s W h
  rw [hd] at cD
  have CD := Lib.hid cD
  have cL := fun W => lletter_any (rn : Int) W
  rw [f1, hc] at cL
  unfold BoolPost at cL
  have CL := Lib.hid cL
  have cI := fun W => ldigit_any (rn : Int) W
  rw [f2, hi] at cI
  unfold BoolPost at cI
  have CI := Lib.hid cI
  clear hd hd1 hd2 f1 f2 cD cL cI
  rw [decide_eq_true rfl] at f3
  have hz := size_of hl
  have hz1 : 1 ≤ s.size := by rw [hz]; simp
  have cS := fun W h => text_any s W hs hz1 h
  rw [hl] at cS
  unfold TextPost at cS
  rw [show (39 :: r).drop 1 = r from rfl, ht] at cS
  have CS : Hid (∀ W, Tabs W → Calls Tryd.prog 39 #[.string s] W fun e w' => e = .returned (.tuple #[.string ⟨t.toArray⟩, .int .i64 ((n : Int) + 1)]) ∧ Below W.heap.size W w') := Lib.hid cS
  have hne : (((n : Int) + 1) == 0) = false := by rw [beq_eq_false_iff_ne]; omega
  have htn := Lp.txt_n _ _ _ _ (Nat.le_refl _) ht
  simp only [List.length_cons] at hz
  have htl : (⟨t.toArray⟩ : ByteArray).size ≤ 9223372036854775807 := by show t.toArray.size ≤ _; simp; omega
  have hn0 : n ≤ 1000000000 := by omega
  have cV := fun W h => valid_any ⟨t.toArray⟩ W htl h
  rw [show (⟨t.toArray⟩ : ByteArray).data.toList = t from rfl, hv] at cV
  have CV := Lib.hid cV
  clear hc hi ht hl cS hT hz hs hv cV htn
  go_enter Tryd.func17, Tryd.ntmps17
  go_wp2_with fail
  refine (CD.out _ hT0).mono ?_
  rintro e w1 ⟨rfl, b1⟩
  have x1 := box_below hx0 b1
  have k1 := hb0.trans (b1.mono hb0.size)
  have hT1 := tabs_below hT0 b1
  clear hx0 hb0 b1 hT0
  go_wp2_with fail
  refine (CL.out _).mono ?_
  rintro e w' ⟨rfl, rfl⟩
  go_wp2_with fail
  refine (CI.out _).mono ?_
  rintro e w' ⟨rfl, rfl⟩
  go_wp2_with fail
  refine (CS.out _ hT1).mono ?_
  rintro e w2 ⟨rfl, b2⟩
  have x2 := box_alloc (box_below x1 b2) (.cells #[.int .u8 2, .int .i64 0, .string ⟨t.toArray⟩, .bool false] 53)
  have k2 := (k1.trans (b2.mono k1.size)).alloc (Nat.le_trans k1.size b2.size) (.cells #[.int .u8 2, .int .i64 0, .string ⟨t.toArray⟩, .bool false] 53)
  have v2 := heap_alloc_new w2 (.cells #[.int .u8 2, .int .i64 0, .string ⟨t.toArray⟩, .bool false] 53)
  have hT2 := tabs_alloc (tabs_below hT1 b2) (.cells #[.int .u8 2, .int .i64 0, .string ⟨t.toArray⟩, .bool false] 53)
  clear x1 k1 b2 hT1
  go_wp2_with fail
  refine (CV.out _ hT2).mono ?_
  rintro e w3 ⟨rfl, b3⟩
  have x3 := box_below x2 b3
  have k3 := k2.trans (b3.mono k2.size)
  have v3 := box_below v2 b3
  have hT3 := tabs_below hT2 b3
  clear x2 k2 b3 hT2 v2
  have c9 := box_cells x3
  have f9 := fun j => frozen_of_row _ w.heap.size j _ _ x3
  go_wp2
  have hbE := ((k3.setCell (p := ⟨w.heap.size, 0, none⟩) (Nat.le_refl _) (.int .u8 0)).setCell (p := ⟨w.heap.size, 1, none⟩) (Nat.le_refl _) (.string ⟨#[]⟩)).setCell (p := ⟨w.heap.size, 2, none⟩) (Nat.le_refl _) (.int .i64 0)
  exact bodyPost_ret (v := .tuple #[.agg #[.int .u8 0, .string ⟨#[]⟩, .int .i64 0], .int .i64 (0), .int .i64 (4)]) (by simp [results, Tryd.results17, go_sem, c9]) rfl (nextPost HN.out hbE)
set_option maxRecDepth 100000 in
set_option maxHeartbeats 4000000 in
theorem next_text_zero (s : ByteArray) (r : List UInt8) (hl : s.data.toList = 39 :: r) (w : World) (hs : s.size ≤ 1000000000) (t : List UInt8) (n : Nat) (ht : Lp.txt r = some (t, n)) (hv : Lib.validD t = true) (hz0 : t.contains 0 = true) (hT : Tabs w) :
    Calls Tryd.prog 17 #[.string s] w (NextPost (39 :: r) w) := by
  have HN : Hid (Lp.nextT (39 :: r) = (⟨0, [], 0⟩, 0, 4)) := by show _ = _; rw [Lp.nextT_text, ht]; exact textT_no (by unfold Lp.textOk; rw [hv, hz0]; rfl)
  have hc : Lp.letB 39 = false := rfl
  have hi : Lp.isDig 39 = false := rfl
  have hb0 : Below w.heap.size w (w.alloc (.cells #[.int .u8 0, .string ⟨#[]⟩, .int .i64 0] 41)) := (Below.refl _ _).alloc (Nat.le_refl _) _
  have hx0 := heap_alloc_new w (.cells #[.int .u8 0, .string ⟨#[]⟩, .int .i64 0] 41)
  have hT0 := tabs_below hT hb0
  obtain ⟨kd, hd, hd1, hd2⟩ := decode0 hl
  obtain ⟨f1, f2, f3⟩ := letR_fact hd1 hd2
  generalize (Utf8.decode s 0).1 = rn at *
  have cD := fun W h => decode_any s W h
  rw [hd] at cD
  have CD := Lib.hid cD
  have cL := fun W => lletter_any (rn : Int) W
  rw [f1, hc] at cL
  unfold BoolPost at cL
  have CL := Lib.hid cL
  have cI := fun W => ldigit_any (rn : Int) W
  rw [f2, hi] at cI
  unfold BoolPost at cI
  have CI := Lib.hid cI
  clear hd hd1 hd2 f1 f2 cD cL cI
  rw [decide_eq_true rfl] at f3
  have hz := size_of hl
  have hz1 : 1 ≤ s.size := by rw [hz]; simp
  have cS := fun W h => text_any s W hs hz1 h
  rw [hl] at cS
  unfold TextPost at cS
  rw [show (39 :: r).drop 1 = r from rfl, ht] at cS
  have CS : Hid (∀ W, Tabs W → Calls Tryd.prog 39 #[.string s] W fun e w' => e = .returned (.tuple #[.string ⟨t.toArray⟩, .int .i64 ((n : Int) + 1)]) ∧ Below W.heap.size W w') := Lib.hid cS
  have hne : (((n : Int) + 1) == 0) = false := by rw [beq_eq_false_iff_ne]; omega
  have htn := Lp.txt_n _ _ _ _ (Nat.le_refl _) ht
  simp only [List.length_cons] at hz
  have htl : (⟨t.toArray⟩ : ByteArray).size ≤ 9223372036854775807 := by show t.toArray.size ≤ _; simp; omega
  have hn0 : n ≤ 1000000000 := by omega
  have cV := fun W h => valid_any ⟨t.toArray⟩ W htl h
  rw [show (⟨t.toArray⟩ : ByteArray).data.toList = t from rfl, hv] at cV
  have CV := Lib.hid cV
  have CX := Lib.hid (fun W => idx_yes ⟨t.toArray⟩ W hz0)
  clear hc hi ht hl cS hT hz hs hv cV htn hz0
  go_enter Tryd.func17, Tryd.ntmps17
  go_wp2_with fail
  refine (CD.out _ hT0).mono ?_
  rintro e w1 ⟨rfl, b1⟩
  have x1 := box_below hx0 b1
  have k1 := hb0.trans (b1.mono hb0.size)
  have hT1 := tabs_below hT0 b1
  clear hx0 hb0 b1 hT0
  go_wp2_with fail
  refine (CL.out _).mono ?_
  rintro e w' ⟨rfl, rfl⟩
  go_wp2_with fail
  refine (CI.out _).mono ?_
  rintro e w' ⟨rfl, rfl⟩
  go_wp2_with fail
  refine (CS.out _ hT1).mono ?_
  rintro e w2 ⟨rfl, b2⟩
  have x2 := box_alloc (box_below x1 b2) (.cells #[.int .u8 2, .int .i64 0, .string ⟨t.toArray⟩, .bool false] 53)
  have k2 := (k1.trans (b2.mono k1.size)).alloc (Nat.le_trans k1.size b2.size) (.cells #[.int .u8 2, .int .i64 0, .string ⟨t.toArray⟩, .bool false] 53)
  have v2 := heap_alloc_new w2 (.cells #[.int .u8 2, .int .i64 0, .string ⟨t.toArray⟩, .bool false] 53)
  have hT2 := tabs_alloc (tabs_below hT1 b2) (.cells #[.int .u8 2, .int .i64 0, .string ⟨t.toArray⟩, .bool false] 53)
  clear x1 k1 b2 hT1
  go_wp2_with fail
  refine (CV.out _ hT2).mono ?_
  rintro e w3 ⟨rfl, b3⟩
  have x3 := box_below x2 b3
  have k3 := k2.trans (b3.mono k2.size)
  have v3 := box_below v2 b3
  have hT3 := tabs_below hT2 b3
  clear x2 k2 b3 hT2 v2
  go_wp2_with fail
  refine (CX.out _).mono ?_
  rintro e w' ⟨⟨n9, rfl⟩, rfl⟩
  have c9 := box_cells x3
  have f9 := fun j => frozen_of_row _ w.heap.size j _ _ x3
  go_wp2
  have hbE := ((k3.setCell (p := ⟨w.heap.size, 0, none⟩) (Nat.le_refl _) (.int .u8 0)).setCell (p := ⟨w.heap.size, 1, none⟩) (Nat.le_refl _) (.string ⟨#[]⟩)).setCell (p := ⟨w.heap.size, 2, none⟩) (Nat.le_refl _) (.int .i64 0)
  exact bodyPost_ret (v := .tuple #[.agg #[.int .u8 0, .string ⟨#[]⟩, .int .i64 0], .int .i64 (0), .int .i64 (4)]) (by simp [results, Tryd.results17, go_sem, c9]) rfl (nextPost HN.out hbE)
set_option maxRecDepth 100000 in
set_option maxHeartbeats 4000000 in
theorem next_text_long (s : ByteArray) (r : List UInt8) (hl : s.data.toList = 39 :: r) (w : World) (hs : s.size ≤ 1000000000) (t : List UInt8) (n : Nat) (ht : Lp.txt r = some (t, n)) (hv : Lib.validD t = true) (hz0 : t.contains 0 = false) (h60 : ¬ t.length ≤ 60) (hT : Tabs w) :
    Calls Tryd.prog 17 #[.string s] w (NextPost (39 :: r) w) := by
  have HN : Hid (Lp.nextT (39 :: r) = (⟨0, [], 0⟩, 0, 2)) := by show _ = _; rw [Lp.nextT_text, ht]; exact textT_long (by unfold Lp.textOk; rw [hv, hz0]; rfl) h60
  have hc : Lp.letB 39 = false := rfl
  have hi : Lp.isDig 39 = false := rfl
  have hb0 : Below w.heap.size w (w.alloc (.cells #[.int .u8 0, .string ⟨#[]⟩, .int .i64 0] 41)) := (Below.refl _ _).alloc (Nat.le_refl _) _
  have hx0 := heap_alloc_new w (.cells #[.int .u8 0, .string ⟨#[]⟩, .int .i64 0] 41)
  have hT0 := tabs_below hT hb0
  obtain ⟨kd, hd, hd1, hd2⟩ := decode0 hl
  obtain ⟨f1, f2, f3⟩ := letR_fact hd1 hd2
  generalize (Utf8.decode s 0).1 = rn at *
  have cD := fun W h => decode_any s W h
  rw [hd] at cD
  have CD := Lib.hid cD
  have cL := fun W => lletter_any (rn : Int) W
  rw [f1, hc] at cL
  unfold BoolPost at cL
  have CL := Lib.hid cL
  have cI := fun W => ldigit_any (rn : Int) W
  rw [f2, hi] at cI
  unfold BoolPost at cI
  have CI := Lib.hid cI
  clear hd hd1 hd2 f1 f2 cD cL cI
  rw [decide_eq_true rfl] at f3
  have hz := size_of hl
  have hz1 : 1 ≤ s.size := by rw [hz]; simp
  have cS := fun W h => text_any s W hs hz1 h
  rw [hl] at cS
  unfold TextPost at cS
  rw [show (39 :: r).drop 1 = r from rfl, ht] at cS
  have CS : Hid (∀ W, Tabs W → Calls Tryd.prog 39 #[.string s] W fun e w' => e = .returned (.tuple #[.string ⟨t.toArray⟩, .int .i64 ((n : Int) + 1)]) ∧ Below W.heap.size W w') := Lib.hid cS
  have hne : (((n : Int) + 1) == 0) = false := by rw [beq_eq_false_iff_ne]; omega
  have htn := Lp.txt_n _ _ _ _ (Nat.le_refl _) ht
  simp only [List.length_cons] at hz
  have htl : (⟨t.toArray⟩ : ByteArray).size ≤ 9223372036854775807 := by show t.toArray.size ≤ _; simp; omega
  have hn0 : n ≤ 1000000000 := by omega
  have cV := fun W h => valid_any ⟨t.toArray⟩ W htl h
  rw [show (⟨t.toArray⟩ : ByteArray).data.toList = t from rfl, hv] at cV
  have CV := Lib.hid cV
  have CX := Lib.hid (fun W => idx_no ⟨t.toArray⟩ W hz0)
  have hR : Lp.rightB 2 0 ⟨t.toArray⟩ false = false := by rw [rightB_text, show Lp.textOk t = true by unfold Lp.textOk; rw [hv, hz0]; rfl, Bool.and_true]; exact decide_eq_false h60
  have CR := Lib.hid (fun W h => right_is 2 0 ⟨t.toArray⟩ false _ hR W htl h)
  clear hc hi ht hl cS hT hz hs hv cV htn hz0 h60 hR
  go_enter Tryd.func17, Tryd.ntmps17
  go_wp2_with fail
  refine (CD.out _ hT0).mono ?_
  rintro e w1 ⟨rfl, b1⟩
  have x1 := box_below hx0 b1
  have k1 := hb0.trans (b1.mono hb0.size)
  have hT1 := tabs_below hT0 b1
  clear hx0 hb0 b1 hT0
  go_wp2_with fail
  refine (CL.out _).mono ?_
  rintro e w' ⟨rfl, rfl⟩
  go_wp2_with fail
  refine (CI.out _).mono ?_
  rintro e w' ⟨rfl, rfl⟩
  go_wp2_with fail
  refine (CS.out _ hT1).mono ?_
  rintro e w2 ⟨rfl, b2⟩
  have x2 := box_alloc (box_below x1 b2) (.cells #[.int .u8 2, .int .i64 0, .string ⟨t.toArray⟩, .bool false] 53)
  have k2 := (k1.trans (b2.mono k1.size)).alloc (Nat.le_trans k1.size b2.size) (.cells #[.int .u8 2, .int .i64 0, .string ⟨t.toArray⟩, .bool false] 53)
  have v2 := heap_alloc_new w2 (.cells #[.int .u8 2, .int .i64 0, .string ⟨t.toArray⟩, .bool false] 53)
  have hT2 := tabs_alloc (tabs_below hT1 b2) (.cells #[.int .u8 2, .int .i64 0, .string ⟨t.toArray⟩, .bool false] 53)
  clear x1 k1 b2 hT1
  go_wp2_with fail
  refine (CV.out _ hT2).mono ?_
  rintro e w3 ⟨rfl, b3⟩
  have x3 := box_below x2 b3
  have k3 := k2.trans (b3.mono k2.size)
  have v3 := box_below v2 b3
  have hT3 := tabs_below hT2 b3
  clear x2 k2 b3 hT2 v2
  have cv3 := box_cells v3
  go_wp2_with fail
  refine (CX.out _).mono ?_
  rintro e w' ⟨rfl, rfl⟩
  go_wp2_with fail
  refine (CR.out _ hT3).mono ?_
  rintro e w4 ⟨rfl, b4⟩
  have x4 := box_below x3 b4
  have k4 := k3.trans (b4.mono k3.size)
  clear x3 k3 b4 hT3 v3 cv3
  have c9 := box_cells x4
  have f9 := fun j => frozen_of_row _ w.heap.size j _ _ x4
  go_wp2
  have hbE := ((k4.setCell (p := ⟨w.heap.size, 0, none⟩) (Nat.le_refl _) (.int .u8 0)).setCell (p := ⟨w.heap.size, 1, none⟩) (Nat.le_refl _) (.string ⟨#[]⟩)).setCell (p := ⟨w.heap.size, 2, none⟩) (Nat.le_refl _) (.int .i64 0)
  exact bodyPost_ret (v := .tuple #[.agg #[.int .u8 0, .string ⟨#[]⟩, .int .i64 0], .int .i64 (0), .int .i64 (2)]) (by simp [results, Tryd.results17, go_sem, c9]) rfl (nextPost HN.out hbE)
set_option maxRecDepth 100000 in
set_option maxHeartbeats 4000000 in
theorem next_text_good (s : ByteArray) (r : List UInt8) (hl : s.data.toList = 39 :: r) (w : World) (hs : s.size ≤ 1000000000) (t : List UInt8) (n : Nat) (ht : Lp.txt r = some (t, n)) (hv : Lib.validD t = true) (hz0 : t.contains 0 = false) (h60 : t.length ≤ 60) (hT : Tabs w) :
    Calls Tryd.prog 17 #[.string s] w (NextPost (39 :: r) w) := by
  have HN : Hid (Lp.nextT (39 :: r) = (⟨3, t, 0⟩, n + 1, 0)) := by show _ = _; rw [Lp.nextT_text, ht]; exact textT_good (by unfold Lp.textOk; rw [hv, hz0]; rfl) h60
  have hc : Lp.letB 39 = false := rfl
  have hi : Lp.isDig 39 = false := rfl
  have hb0 : Below w.heap.size w (w.alloc (.cells #[.int .u8 0, .string ⟨#[]⟩, .int .i64 0] 41)) := (Below.refl _ _).alloc (Nat.le_refl _) _
  have hx0 := heap_alloc_new w (.cells #[.int .u8 0, .string ⟨#[]⟩, .int .i64 0] 41)
  have hT0 := tabs_below hT hb0
  obtain ⟨kd, hd, hd1, hd2⟩ := decode0 hl
  obtain ⟨f1, f2, f3⟩ := letR_fact hd1 hd2
  generalize (Utf8.decode s 0).1 = rn at *
  have cD := fun W h => decode_any s W h
  rw [hd] at cD
  have CD := Lib.hid cD
  have cL := fun W => lletter_any (rn : Int) W
  rw [f1, hc] at cL
  unfold BoolPost at cL
  have CL := Lib.hid cL
  have cI := fun W => ldigit_any (rn : Int) W
  rw [f2, hi] at cI
  unfold BoolPost at cI
  have CI := Lib.hid cI
  clear hd hd1 hd2 f1 f2 cD cL cI
  rw [decide_eq_true rfl] at f3
  have hz := size_of hl
  have hz1 : 1 ≤ s.size := by rw [hz]; simp
  have cS := fun W h => text_any s W hs hz1 h
  rw [hl] at cS
  unfold TextPost at cS
  rw [show (39 :: r).drop 1 = r from rfl, ht] at cS
  have CS : Hid (∀ W, Tabs W → Calls Tryd.prog 39 #[.string s] W fun e w' => e = .returned (.tuple #[.string ⟨t.toArray⟩, .int .i64 ((n : Int) + 1)]) ∧ Below W.heap.size W w') := Lib.hid cS
  have hne : (((n : Int) + 1) == 0) = false := by rw [beq_eq_false_iff_ne]; omega
  have htn := Lp.txt_n _ _ _ _ (Nat.le_refl _) ht
  simp only [List.length_cons] at hz
  have htl : (⟨t.toArray⟩ : ByteArray).size ≤ 9223372036854775807 := by show t.toArray.size ≤ _; simp; omega
  have hn0 : n ≤ 1000000000 := by omega
  have cV := fun W h => valid_any ⟨t.toArray⟩ W htl h
  rw [show (⟨t.toArray⟩ : ByteArray).data.toList = t from rfl, hv] at cV
  have CV := Lib.hid cV
  have CX := Lib.hid (fun W => idx_no ⟨t.toArray⟩ W hz0)
  have hR : Lp.rightB 2 0 ⟨t.toArray⟩ false = true := by rw [rightB_text, show Lp.textOk t = true by unfold Lp.textOk; rw [hv, hz0]; rfl, Bool.and_true]; exact decide_eq_true h60
  have CR := Lib.hid (fun W h => right_is 2 0 ⟨t.toArray⟩ false _ hR W htl h)
  clear hc hi ht hl cS hT hz hs hv cV htn hz0 h60 hR
  go_enter Tryd.func17, Tryd.ntmps17
  go_wp2_with fail
  refine (CD.out _ hT0).mono ?_
  rintro e w1 ⟨rfl, b1⟩
  have x1 := box_below hx0 b1
  have k1 := hb0.trans (b1.mono hb0.size)
  have hT1 := tabs_below hT0 b1
  clear hx0 hb0 b1 hT0
  go_wp2_with fail
  refine (CL.out _).mono ?_
  rintro e w' ⟨rfl, rfl⟩
  go_wp2_with fail
  refine (CI.out _).mono ?_
  rintro e w' ⟨rfl, rfl⟩
  go_wp2_with fail
  refine (CS.out _ hT1).mono ?_
  rintro e w2 ⟨rfl, b2⟩
  have x2 := box_alloc (box_below x1 b2) (.cells #[.int .u8 2, .int .i64 0, .string ⟨t.toArray⟩, .bool false] 53)
  have k2 := (k1.trans (b2.mono k1.size)).alloc (Nat.le_trans k1.size b2.size) (.cells #[.int .u8 2, .int .i64 0, .string ⟨t.toArray⟩, .bool false] 53)
  have v2 := heap_alloc_new w2 (.cells #[.int .u8 2, .int .i64 0, .string ⟨t.toArray⟩, .bool false] 53)
  have hT2 := tabs_alloc (tabs_below hT1 b2) (.cells #[.int .u8 2, .int .i64 0, .string ⟨t.toArray⟩, .bool false] 53)
  clear x1 k1 b2 hT1
  go_wp2_with fail
  refine (CV.out _ hT2).mono ?_
  rintro e w3 ⟨rfl, b3⟩
  have x3 := box_below x2 b3
  have k3 := k2.trans (b3.mono k2.size)
  have v3 := box_below v2 b3
  have hT3 := tabs_below hT2 b3
  clear x2 k2 b3 hT2 v2
  have cv3 := box_cells v3
  go_wp2_with fail
  refine (CX.out _).mono ?_
  rintro e w' ⟨rfl, rfl⟩
  go_wp2_with fail
  refine (CR.out _ hT3).mono ?_
  rintro e w4 ⟨rfl, b4⟩
  have x4 := box_below x3 b4
  have k4 := k3.trans (b4.mono k3.size)
  clear x3 k3 b4 hT3 v3 cv3
  have c9 := box_cells x4
  have f9 := fun j => frozen_of_row _ w.heap.size j _ _ x4
  go_wp2
  have hbE := ((k4.setCell (p := ⟨w.heap.size, 0, none⟩) (Nat.le_refl _) (.int .u8 3)).setCell (p := ⟨w.heap.size, 1, none⟩) (Nat.le_refl _) (.string ⟨t.toArray⟩)).setCell (p := ⟨w.heap.size, 2, none⟩) (Nat.le_refl _) (.int .i64 0)
  exact bodyPost_ret (v := .tuple #[.agg #[.int .u8 3, .string ⟨t.toArray⟩, .int .i64 0], .int .i64 ((n + 1 : Nat)), .int .i64 (0)]) (by simp [results, Tryd.results17, go_sem, c9]) rfl (nextPost HN.out hbE)
end Go.Proofs.YtmdmcfobdbccmaaDoor
