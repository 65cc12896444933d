/-
 eval's Value, Group, Holds. Conditions: what value gives.
-/
import Derived.Test.YtkfjmgmjbljnbaaGreatDoorYEval5
set_option maxRecDepth 100000
set_option maxHeartbeats 8000000
namespace Go.Proofs.YtkfjmgmjbljnbaaGreatDoor
open Go.RowKit
def frV (r : RowV) : Fr := ⟨r, none, 0, [], false⟩
def frG (A : Option Addr) (c : Nat) (R : List RowV) : Fr := ⟨(none, 0, []), A, c, R, true⟩
theorem frV_row (r : RowV) : (frV r).row = r.2.2 := rfl
theorem frV_rows (r : RowV) : (frV r).rows = [] := rfl
theorem eValue_any (sc : List Lp.Tb) (x : Lp.X) (r : RowV) (h : EvOk sc (frV r) x) (S : Nat → Prop) (g : Nat) (w : World) (hnt : NT S w sc x g) (hr : RdsV w r.1 r.2.2) :
 Calls Tryz.prog 19 #[ptr g, r.val] w (EvPost (Lp.evalX sc x r.2.2 []) w) := by
 have hb1 : Below w.heap.size w (w.alloc (.cells #[.int .u8 0, .int .i64 0, .string ⟨#[]⟩, .bool false] 31)) := ba (Below.refl _ _) _
 have hr1 := heap_alloc_new w (.cells #[.int .u8 0, .int .i64 0, .string ⟨#[]⟩, .bool false] 31)
 have HK := Lib.hid (h S _ g (hnt.below hb1) ⟨hr.below hb1, Rds.nil_, fun x hx => by cases hx⟩)
 rw [frV_row, frV_rows] at HK
 obtain ⟨A, c, l⟩ := r
 simp only [frV, Fr.val, RowV.val, List.length_nil] at HK ⊢
 have H1 := Lib.hid (And.intro hb1 hr1)
 generalize Lp.evalX sc x l [] = p at *
 unfold ptr at *
 clear hb1 hr1 hnt hr h
 go_enter Tryz.func19, Tryz.ntmps19
 go_wp2_with fail
 refine HK.out.mono ?_
 rintro e w2 hj
 obtain ⟨k, vi, vs, vb, E, hE, rfl, hb3⟩ := hj.form
 have HQ := Lib.hid hE
 clear hj hE
 have hr3 := box_below H1.out.2 hb3
 have hk3 := H1.out.1.trans (hb3.mono H1.out.1.size)
 have hc1 := box_cells hr3
 have hf1 := fun j => frozen_of_row _ _ j _ _ hr3
 have HCE := Lib.hid (box_cells (set4_same hr3 (.int .u8 k) (.int .i64 vi) (.string vs) (.bool vb)))
 have K5 := Lib.hid (below_set4 hk3 (g := w.heap.size) (by omega) (.int .u8 k) (.int .i64 vi) (.string vs) (.bool vb))
 clear hb3 hr3 hk3 HK
 go_wp2
 have hcE := HCE.out
 exact bodyPost_ret (v := .tuple #[.agg #[.int .u8 k, .int .i64 vi, .string vs, .bool vb], .int .i64 E]) (by simp [results, Tryz.results19, go_sem, hcE]) rfl (EvPost.mk HQ.out K5.out)
theorem eGroup_any (sc : List Lp.Tb) (x : Lp.X) (A : Option Addr) (c : Nat) (R : List RowV) (h : EvOk sc (frG A c R) x) (S : Nat → Prop) (g : Nat) (w : World) (hnt : NT S w sc x g) (hr : RowsM w A R) :
 Calls Tryz.prog 24 #[ptr g, .slice A R.length c] w (EvPost (Lp.evalX sc x (frG A c R).row (frG A c R).rows) w) := by
 have hb1 : Below w.heap.size w (w.alloc (.cells #[.int .u8 0, .int .i64 0, .string ⟨#[]⟩, .bool false] 31)) := ba (Below.refl _ _) _
 have hr1 := heap_alloc_new w (.cells #[.int .u8 0, .int .i64 0, .string ⟨#[]⟩, .bool false] 31)
 have HK := Lib.hid (h S _ g (hnt.below hb1) ⟨Rds.nil_, hr.below hb1⟩)
 generalize Lp.evalX sc x (frG A c R).row (frG A c R).rows = p at *
 simp only [frG, Fr.val, RowV.val, List.length_nil] at HK
 have H1 := Lib.hid (And.intro hb1 hr1)
 unfold ptr at *
 clear hb1 hr1 hnt hr h
 go_enter Tryz.func24, Tryz.ntmps24
 go_wp2_with fail
 refine HK.out.mono ?_
 rintro e w2 hj
 obtain ⟨k, vi, vs, vb, E, hE, rfl, hb3⟩ := hj.form
 have HQ := Lib.hid hE
 clear hj hE
 have hr3 := box_below H1.out.2 hb3
 have hk3 := H1.out.1.trans (hb3.mono H1.out.1.size)
 have hc1 := box_cells hr3
 have hf1 := fun j => frozen_of_row _ _ j _ _ hr3
 have HCE := Lib.hid (box_cells (set4_same hr3 (.int .u8 k) (.int .i64 vi) (.string vs) (.bool vb)))
 have K5 := Lib.hid (below_set4 hk3 (g := w.heap.size) (by omega) (.int .u8 k) (.int .i64 vi) (.string vs) (.bool vb))
 clear hb3 hr3 hk3 HK
 go_wp2
 have hcE := HCE.out
 exact bodyPost_ret (v := .tuple #[.agg #[.int .u8 k, .int .i64 vi, .string vs, .bool vb], .int .i64 E]) (by simp [results, Tryz.results24, go_sem, hcE]) rfl (EvPost.mk HQ.out K5.out)
end Go.Proofs.YtkfjmgmjbljnbaaGreatDoor
