/-
 lapidarylaw18's awake. Conditions: the tables of unicode/utf8 and of the reserved words as laid.
-/
import Derived.Test.YtkfjmgmjbljnbaaGreatDoorYLaw18a
set_option maxRecDepth 100000
set_option maxHeartbeats 8000000
namespace Go.Proofs.YtkfjmgmjbljnbaaGreatDoor
open Go.RowKit
theorem t18_1 : toldX (Lp.condS [49, 32, 61, 32, 78, 85, 76, 76]) = (⟨0, 0, ⟨#[]⟩, false⟩, 0) := by kernel_rfl
theorem t18_2 : toldX (Lp.condS [78, 85, 76, 76, 32, 65, 78, 68, 32, 70, 65, 76, 83, 69]) = (⟨3, 0, ⟨#[]⟩, false⟩, 0) := by kernel_rfl
theorem t18_3 : toldX (Lp.condS [49, 32, 47, 32, 48, 32, 61, 32, 49, 32, 79, 82, 32, 84, 82, 85, 69]) = (⟨0, 0, ⟨#[]⟩, false⟩, 10) := by kernel_rfl
theorem c18_cnt : Lp.condS [67, 79, 85, 78, 84, 40, 42, 41] = some .cnt := by kernel_rfl
theorem told_at (s : ByteArray) (l : List UInt8) (hl : s.data.toList.take 600 = l) (p : Lp.V × Int) (h : toldX (Lp.condS l) = p) {w W : World} (hT : Tabs w) (hR : Resv w) (hb : Below w.heap.size w W) :
 Calls Tryz.prog 20 #[.string s] W fun e w' => e = .returned (.tuple #[.agg #[.int .u8 p.1.k, .int .i64 p.1.i, .string p.1.s, .bool p.1.b], .int .i64 p.2]) ∧ Below W.heap.size W w' := by
 subst hl h
 exact told_any18 s W (tabs_below hT hb) (resv_below hR hb)
theorem awake18 (w : World) (hT : Tabs w) (hR : Resv w) :
 Calls Tryz.prog 14 #[] w fun e w' => e = .returned (.bool true) ∧ Below w.heap.size w w' := by
 have H1 := Lib.hid (fun (W : World) (hb : Below w.heap.size w W) => told_at ⟨#[49, 32, 61, 32, 78, 85, 76, 76]⟩ _ rfl _ t18_1 hT hR hb)
 have H2 := Lib.hid (fun (W : World) (hb : Below w.heap.size w W) => told_at ⟨#[78, 85, 76, 76, 32, 65, 78, 68, 32, 70, 65, 76, 83, 69]⟩ _ rfl _ t18_2 hT hR hb)
 have H3 := Lib.hid (fun (W : World) (hb : Below w.heap.size w W) => told_at ⟨#[49, 32, 47, 32, 48, 32, 61, 32, 49, 32, 79, 82, 32, 84, 82, 85, 69]⟩ _ rfl _ t18_3 hT hR hb)
 have H4 := Lib.hid (fun (W : World) (hb : Below w.heap.size w W) => (bound_any none 0 [] ⟨#[67, 79, 85, 78, 84, 40, 42, 41]⟩ true W (tabs_below hT hb) (resv_below hR hb) (scm_nil _) (by decide) (by decide)).mono fun e w' h => h.bde)
 simp only [show (⟨#[67, 79, 85, 78, 84, 40, 42, 41]⟩ : ByteArray).data.toList.take 600 = [67, 79, 85, 78, 84, 40, 42, 41] from rfl, c18_cnt] at H4
 clear hT hR
 go_enter Tryz.func14, Tryz.ntmps14
 go_wp2_with fail
 refine (H1.out _ (Below.refl _ _)).mono ?_
 rintro e w1 ⟨rfl, hb1⟩
 have hk1 := ba hb1 (.cells #[.int .u8 0, .int .i64 0, .string ⟨#[]⟩, .bool false] 31)
 have hz1 := heap_alloc_new w1 (.cells #[.int .u8 0, .int .i64 0, .string ⟨#[]⟩, .bool false] 31)
 go_wp2_with fail
 refine (H2.out _ hk1).mono ?_
 rintro e w2 ⟨rfl, hb2⟩
 have hk2 := ba (hk1.trans (hb2.mono hk1.size)) (.cells #[.int .u8 3, .int .i64 0, .string ⟨#[]⟩, .bool false] 31)
 have hz12 := box_alloc (box_below hz1 hb2) (.cells #[.int .u8 3, .int .i64 0, .string ⟨#[]⟩, .bool false] 31)
 have hz2 := heap_alloc_new w2 (.cells #[.int .u8 3, .int .i64 0, .string ⟨#[]⟩, .bool false] 31)
 clear hz1 hb2 hb1
 go_wp2_with fail
 refine (H3.out _ hk2).mono ?_
 rintro e w3 ⟨rfl, hb3⟩
 have hk3 := ba (hk2.trans (hb3.mono hk2.size)) (.cells #[.int .u8 0, .int .i64 0, .string ⟨#[]⟩, .bool false] 31)
 have hz13 := box_alloc (box_below hz12 hb3) (.cells #[.int .u8 0, .int .i64 0, .string ⟨#[]⟩, .bool false] 31)
 have hz23 := box_alloc (box_below hz2 hb3) (.cells #[.int .u8 0, .int .i64 0, .string ⟨#[]⟩, .bool false] 31)
 clear hz12 hz2 hb3
 go_wp2_with fail
 refine (H4.out _ hk3).mono ?_
 rintro e w4 ⟨hb4, hj⟩
 have hk4 := hk3.trans (hb4.mono hk3.size)
 have hz14 := box_below hz13 hb4
 have hz24 := box_below hz23 hb4
 clear hz13 hz23 hb4
 rcases hj with ⟨x, g, hq, hk, hnt, ⟨k, vk, vi, vs, vb, tt, ss, Ar, nn, cr⟩, -, rfl⟩ | ⟨hq | ⟨x, hq, hk⟩, -⟩
 ·injection hq with hq
  subst hq
  simp only [RC.val]
  have hbx : Below w4.heap.size w4 (w4.alloc (.cells #[.int .u8 k, .int .u8 vk, .int .i64 vi, .string vs, .bool vb, .string tt, .string ss, .slice Ar nn cr] 35)) := ba (Below.refl _ _) _
  have HE := Lib.hid (eGroup_any [] .cnt none 0 [] (ev_all [] .cnt true _ trivial rfl (Nat.zero_le _) (Lp.RowOk.nil _) (fun _ h => by cases h)) _ g _ (hnt.below hbx) ⟨Rds.nil_, fun _ h => by cases h⟩)
  have HQ := Lib.hid (show Lp.evalX [] .cnt (frG none 0 []).row (frG none 0 []).rows = (⟨1, 0, ⟨#[]⟩, false⟩, 0) from rfl)
  rw [HQ.out] at HE
  have hk5 := hk4.trans (hbx.mono hk4.size)
  have hz15 := box_below hz14 hbx
  have hz25 := box_below hz24 hbx
  simp only [List.length_nil] at HE
  unfold ptr at *
  clear hz14 hz24 hk4 hbx hnt hk hk3 hk2 hk1 H1 H2 H3 H4
  go_wp2_with fail
  refine HE.out.mono ?_
  rintro e w5 ⟨rfl, hb5⟩
  unfold vv4
  have hk6 := Lib.hid (ba (hk5.trans (hb5.mono hk5.size)) (.cells #[.int .u8 1, .int .i64 0, .string ⟨#[]⟩, .bool false] 31))
  have c1 := box_cells (box_alloc (box_below hz15 hb5) (.cells #[.int .u8 1, .int .i64 0, .string ⟨#[]⟩, .bool false] 31))
  have c2 := box_cells (box_alloc (box_below hz25 hb5) (.cells #[.int .u8 1, .int .i64 0, .string ⟨#[]⟩, .bool false] 31))
  clear hz15 hz25 hb5 hk5 HE
  go_wp2
  go_ret
  exact ⟨rfl, hk6.out⟩
 ·cases hq
 ·injection hq with hq
  subst hq
  exact absurd rfl hk
end Go.Proofs.YtkfjmgmjbljnbaaGreatDoor
