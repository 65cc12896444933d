/-
 eval's value of numbers, columns and groups without parts; Value, Group, Holds. Conditions: what value gives.
-/
import Derived.Test.YtkfjmgmjbljnbaaGreatDoorYEval4
set_option maxRecDepth 100000
set_option maxHeartbeats 8000000
namespace Go.Proofs.YtkfjmgmjbljnbaaGreatDoor
open Go.RowKit
theorem ev_lit (sc : List Lp.Tb) (f : Fr) (k i : Int) (s : List UInt8) (b : Bool) : EvOk sc f (.lit k i s b) := by
 intro S w g hnt hF
 obtain ⟨-, hg⟩ := hnt
 obtain ⟨fr, hfr⟩ : ∃ u, u = f.r.val := ⟨_, rfl⟩
 have hb1 : Below w.heap.size w (w.alloc (.cells #[fr, .slice f.A f.R.length f.c, .bool f.g] 105)) := ba (Below.refl _ _) _
 have hb2 : ∀ o, Below w.heap.size w ((w.alloc (.cells #[fr, .slice f.A f.R.length f.c, .bool f.g] 105)).alloc o) := fun o => ba hb1 o
 have hc := box_cells (box_below hg (hb2 (.cells #[.int .u8 0, .int .i64 0, .string ⟨#[]⟩, .bool false] 31)))
 simp only [ndv, sLit] at hc
 have HB := Lib.hid hb2
 unfold Fr.val ptr
 rw [← hfr]
 clear hfr hb1 hb2 hg hF
 have hQ : Lp.evalX sc (.lit k i s b) f.row f.rows = (⟨k, i, ⟨s.toArray⟩, b⟩, 0) := rfl
 have HQ := Lib.hid hQ
 clear hQ
 go_enter Tryz.func45, Tryz.ntmps45
 go_wp2
 exact bodyPost_ret (v := .tuple #[.agg #[.int .u8 k, .int .i64 i, .string ⟨s.toArray⟩, .bool b], .int .i64 0]) (by simp [results, Tryz.results45, go_sem]) rfl (EvPost.mk HQ.out (HB.out _))
theorem ev_col_eq (sc : List Lp.Tb) (f : Fr) (t s : List UInt8) {p : Nat × Int} (hp : Lp.findX sc t s = some p) : Lp.evalX sc (.col t s) f.row f.rows = ((f.row[p.1]?).getD Lp.nullV, 0) := by
 simp only [Lp.evalX, hp]
theorem ev_col (sc : List Lp.Tb) (f : Fr) (t s : List UInt8) : EvOk sc f (.col t s) := by
 intro S w g hnt hF
 obtain ⟨-, p, hp, hg⟩ := hnt
 have HQ := Lib.hid (ev_col_eq sc f t s hp)
 obtain ⟨fr, hfr⟩ : ∃ u, u = f.r.val := ⟨_, rfl⟩
 have hb1 : Below w.heap.size w ((w.alloc (.cells #[fr, .slice f.A f.R.length f.c, .bool f.g] 105)).alloc (.cells #[.int .u8 0, .int .i64 0, .string ⟨#[]⟩, .bool false] 31)) := ba (ba (Below.refl _ _) _) _
 have hr1 := heap_new2 w (.cells #[fr, .slice f.A f.R.length f.c, .bool f.g] 105) (.cells #[.int .u8 0, .int .i64 0, .string ⟨#[]⟩, .bool false] 31)
 have hx1 := box_alloc (heap_alloc_new w (.cells #[fr, .slice f.A f.R.length f.c, .bool f.g] 105)) (.cells #[.int .u8 0, .int .i64 0, .string ⟨#[]⟩, .bool false] 31)
 have hg1 := box_below hg hb1
 have HK := Lib.hid (column_any f p.1 _ (hF.below hb1.drew))
 have hc := box_cells hg1
 have hcx := box_cells hx1
 have H1 := Lib.hid (And.intro hb1 hr1)
 simp only [ndv, sCol] at hc
 generalize p.1 = at_ at *
 obtain ⟨v, hv⟩ : ∃ v, (f.row[at_]?).getD Lp.nullV = v := ⟨_, rfl⟩
 rw [hv] at HK HQ
 obtain ⟨k, vi, vs, vb⟩ := v
 unfold Fr.val ptr vv4 at *
 rw [← hfr] at HK ⊢
 clear hfr hb1 hr1 hx1 hg1 hg hp hF hv
 go_enter Tryz.func45, Tryz.ntmps45
 go_wp2_with fail
 go_region_with (go_at_call 81; refine HK.out.mono ?_; rintro e w2 ⟨rfl, hb3⟩; have hr3 := box_below (w := ((w.alloc (.cells #[fr, .slice f.A f.R.length f.c, .bool f.g] 105)).alloc (.cells #[.int .u8 0, .int .i64 0, .string ⟨#[]⟩, .bool false] 31)).drew) H1.out.2 hb3; have hk3 := H1.out.1.drew.trans (hb3.mono H1.out.1.size); have hc1 := box_cells hr3; have hf1 := fun j => frozen_of_row _ _ j _ _ hr3; have HCE := Lib.hid (box_cells (set4_same hr3 (.int .u8 k) (.int .i64 vi) (.string vs) (.bool vb))); have K5 := Lib.hid (below_set4 hk3 (g := w.heap.size + 1) (by omega) (.int .u8 k) (.int .i64 vi) (.string vs) (.bool vb)); clear hb3 hr3 hk3)
 all_goals
  clear HK hc hcx
  go_wp2
  have hcE := HCE.out
  exact bodyPost_ret (v := .tuple #[.agg #[.int .u8 k, .int .i64 vi, .string vs, .bool vb], .int .i64 0]) (by simp [results, Tryz.results45, go_sem, hcE]) rfl (EvPost.mk HQ.out K5.out)
end Go.Proofs.YtkfjmgmjbljnbaaGreatDoor
