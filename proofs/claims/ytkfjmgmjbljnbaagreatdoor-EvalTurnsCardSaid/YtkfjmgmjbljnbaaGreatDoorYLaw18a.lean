/-
 lapidarylaw18's told. Conditions: the tables of unicode/utf8 and of the reserved words as laid.
-/
import Derived.Test.YtkfjmgmjbljnbaaGreatDoorYBound18
import Derived.Test.YtkfjmgmjbljnbaaGreatDoorYEval9
set_option maxRecDepth 100000
set_option maxHeartbeats 8000000
namespace Go.Proofs.YtkfjmgmjbljnbaaGreatDoor
open Go.RowKit
def toldX (q : Option Lp.X) : Lp.V × Int := match q with
 | none => (Lp.nullV, 4)
 | some x => if (Lp.kindX [] x false).2 = 0 then Lp.evalX [] x [] [] else (Lp.nullV, 4)
theorem scm_nil (w : World) : ScM w none [] := ⟨[], rfl, .inl rfl, fun p hp => by simp at hp⟩
theorem told_no {q : Option Lp.X} (h : q = none) : toldX q = (Lp.nullV, 4) := by subst h; rfl
theorem told_bad {q : Option Lp.X} {x : Lp.X} (h : q = some x) (hk : ¬ (Lp.kindX [] x false).2 = 0) : toldX q = (Lp.nullV, 4) := by subst h; exact if_neg hk
theorem told_yes {q : Option Lp.X} {x : Lp.X} (h : q = some x) (hk : (Lp.kindX [] x false).2 = 0) : toldX q = Lp.evalX [] x [] [] := by subst h; exact if_pos hk
def BdE (sc : List Lp.Tb) (gr : Bool) (q : Option Lp.X) (w : World) (e : Ending) (w' : World) : Prop :=
 Below w.heap.size w w' ∧ ((∃ x g, q = some x ∧ (Lp.kindX sc x gr).2 = 0 ∧ NT (fun k => w.heap.size ≤ k) w' sc x g ∧ ∃ rr : RC, RX (fun k => w.heap.size ≤ k) w' x rr ∧ e = .returned (.tuple #[ptr g, rr.val, .bool true])) ∨
  ((q = none ∨ ∃ x, q = some x ∧ ¬ (Lp.kindX sc x gr).2 = 0) ∧ ∃ rr : RC, e = .returned (.tuple #[.pointer none, rr.val, .bool false])))
theorem BdPost.bde {sc : List Lp.Tb} {gr : Bool} {w w' : World} {q : Option Lp.X} {e : Ending} (h : BdPost sc gr w q e w') : BdE sc gr q w e w' := by
 obtain ⟨hb, h⟩ := h
 refine ⟨hb, ?_⟩
 cases q with
 | none => obtain ⟨rr, h⟩ := h; exact .inr ⟨.inl rfl, rr, h⟩
 | some x =>
   obtain ⟨rr, hx, h⟩ := h
   by_cases hk : (Lp.kindX sc x gr).2 = 0
   ·rw [if_pos hk] at h
    obtain ⟨g, h1, h2⟩ := h
    exact .inl ⟨x, g, rfl, hk, h2, rr, hx, h1⟩
   ·rw [if_neg hk] at h
    exact .inr ⟨.inr ⟨x, rfl, hk⟩, rr, h⟩
theorem told_any18 (s : ByteArray) (w : World) (hT : Tabs w) (hR : Resv w) :
 Calls Tryz.prog 20 #[.string s] w (EvPost (toldX (Lp.condS (s.data.toList.take 600))) w) := by
 have hb0 : Below w.heap.size w (w.alloc (.cells #[.int .u8 0, .int .i64 0, .string ⟨#[]⟩, .bool false] 31)) := ba (Below.refl _ _) _
 have hr0 := heap_alloc_new w (.cells #[.int .u8 0, .int .i64 0, .string ⟨#[]⟩, .bool false] 31)
 have HB := Lib.hid ((bound_any none 0 [] s false _ (tabs_below hT hb0) (resv_below hR hb0) (scm_nil _) (by decide) (by decide)).mono fun e w' h => h.bde)
 have hok : ∀ x, Lp.condS (s.data.toList.take 600) = some x → x.wf := fun x h => (Lp.condS_ok (by rw [List.length_take]; omega) h).1
 have HOK := Lib.hid hok
 have H0 := Lib.hid (And.intro hb0 hr0)
 generalize Lp.condS (s.data.toList.take 600) = q at *
 clear hb0 hr0 hT hR hok
 go_enter Tryz.func20, Tryz.ntmps20
 go_wp2_with fail
 refine HB.out.mono ?_
 rintro e w1 ⟨hb1, hj⟩
 have hr1 := box_below H0.out.2 hb1
 have hk1 := H0.out.1.trans (hb1.mono H0.out.1.size)
 rcases hj with ⟨x, g, hq, hk, hnt, ⟨k, vk, vi, vs, vb, tt, ss, Ar, nn, cr⟩, -, rfl⟩ | ⟨hq, ⟨k, vk, vi, vs, vb, tt, ss, Ar, nn, cr⟩, rfl⟩
 ·simp only [RC.val]
  have hbx : Below w1.heap.size w1 (w1.alloc (.cells #[.int .u8 k, .int .u8 vk, .int .i64 vi, .string vs, .bool vb, .string tt, .string ss, .slice Ar nn cr] 35)) := ba (Below.refl _ _) _
  have HE := Lib.hid (eValue_any [] x (none, 0, []) (ev_all [] x false _ (HOK.out x hq) hk (Nat.zero_le _) (Lp.RowOk.nil _) (fun _ h => by cases h)) _ g _ (hnt.below hbx) Rds.nil_)
  have HQ := Lib.hid (told_yes hq hk)
  have hr2 := box_below hr1 hbx
  have hk2 := hk1.trans (hbx.mono hk1.size)
  have HZ := Lib.hid (And.intro hr2 hk2)
  simp only [RowV.val, List.length_nil] at HE
  unfold ptr at *
  clear hbx hr1 hk1 hr2 hk2 hq hk hnt hb1 HB HOK H0
  go_wp2_with fail
  refine HE.out.mono ?_
  rintro e w2 hj
  obtain ⟨uk, ui, us, ub, E, hE, rfl, hb3⟩ := hj.form
  rw [hE] at HQ
  have hr3 := box_below HZ.out.1 hb3
  have hk3 := HZ.out.2.trans (hb3.mono HZ.out.2.size)
  have hc1 := box_cells hr3
  have hf1 := fun j => frozen_of_row _ _ j _ _ hr3
  have HCE := Lib.hid (box_cells (set4_same hr3 (.int .u8 uk) (.int .i64 ui) (.string us) (.bool ub)))
  have K5 := Lib.hid (below_set4 hk3 (g := w.heap.size) (Nat.le_refl _) (.int .u8 uk) (.int .i64 ui) (.string us) (.bool ub))
  clear hj hE hb3 hr3 hk3 HE
  go_wp2
  have hcE := HCE.out
  exact bodyPost_ret (v := .tuple #[.agg #[.int .u8 uk, .int .i64 ui, .string us, .bool ub], .int .i64 E]) (by simp [results, Tryz.results20, go_sem, hcE]) rfl (EvPost.mk HQ.out K5.out)
 ·simp only [RC.val]
  have hbx : Below w1.heap.size w1 (w1.alloc (.cells #[.int .u8 k, .int .u8 vk, .int .i64 vi, .string vs, .bool vb, .string tt, .string ss, .slice Ar nn cr] 35)) := ba (Below.refl _ _) _
  have hQ : toldX q = (Lp.nullV, 4) := by
   rcases hq with hq | ⟨x, hq, hk⟩
   ·exact told_no hq
   ·exact told_bad hq hk
  have HQ := Lib.hid hQ
  have hr3 := box_below hr1 hbx
  have hk3 := hk1.trans (hbx.mono hk1.size)
  have hc1 := box_cells hr3
  have hf1 := fun j => frozen_of_row _ _ j _ _ hr3
  have HCE := Lib.hid (box_cells (set4_same hr3 (.int .u8 0) (.int .i64 0) (.string ⟨#[]⟩) (.bool false)))
  have K5 := Lib.hid (below_set4 hk3 (g := w.heap.size) (Nat.le_refl _) (.int .u8 0) (.int .i64 0) (.string ⟨#[]⟩) (.bool false))
  clear hbx hr1 hk1 hr3 hk3 hq hQ hb1 HB HOK H0
  go_wp2
  have hcE := HCE.out
  exact bodyPost_ret (v := .tuple #[.agg #[.int .u8 0, .int .i64 0, .string ⟨#[]⟩, .bool false], .int .i64 4]) (by simp [results, Tryz.results20, go_sem, hcE]) rfl (EvPost.mk HQ.out K5.out)
end Go.Proofs.YtkfjmgmjbljnbaaGreatDoor
