/-
 lapidarylaw18's ask: the value of a text in a scope, of a row. Conditions: the tables of unicode/utf8 and of the reserved words as laid.
-/
import Derived.Test.YtkfjmgmjbljnbaaGreatDoorYLaw18c
import Derived.Test.YtkfjmgmjbljnbaaGreatDoorYZC
set_option maxRecDepth 100000
set_option maxHeartbeats 8000000
namespace Go.Proofs.YtkfjmgmjbljnbaaGreatDoor
open Go.RowKit
def askX (sc : List Lp.Tb) (row : List Lp.V) (q : Option Lp.X) : Lp.V × Bool := match q with
 | none => (Lp.nullV, false)
 | some x => if (Lp.kindX sc x false).2 = 0 then ((Lp.evalX sc x row []).1, (Lp.evalX sc x row []).2 == 0) else (Lp.nullV, false)
def AskPost (p : Lp.V × Bool) (w : World) (e : Ending) (w' : World) : Prop := e = .returned (.tuple #[vv4 p.1, .bool p.2]) ∧ Below w.heap.size w w'
theorem AskPost.mk {p : Lp.V × Bool} {w w' : World} {k i : Int} {s : ByteArray} {b o : Bool} (h : p = (⟨k, i, s, b⟩, o)) (hb : Below w.heap.size w w') : AskPost p w (.returned (.tuple #[.agg #[.int .u8 k, .int .i64 i, .string s, .bool b], .bool o])) w' := by
 subst h; exact ⟨rfl, hb⟩
theorem ask_no {sc : List Lp.Tb} {row : List Lp.V} {q : Option Lp.X} (h : q = none ∨ ∃ x, q = some x ∧ ¬ (Lp.kindX sc x false).2 = 0) : askX sc row q = (Lp.nullV, false) := by
 rcases h with rfl | ⟨x, rfl, hk⟩
 ·rfl
 ·exact if_neg hk
theorem ask_yes18 {sc : List Lp.Tb} {row : List Lp.V} {q : Option Lp.X} {x : Lp.X} (h : q = some x) (hk : (Lp.kindX sc x false).2 = 0) : askX sc row q = ((Lp.evalX sc x row []).1, (Lp.evalX sc x row []).2 == 0) := by
 subst h; exact if_pos hk
theorem ask_any (A1 : Option Addr) (c1 : Nat) (l : List TabA) (r : RowV) (s : ByteArray) (gt gr : Nat) (w : World) (hT : Tabs w) (hR : Resv w) (hS : ScA w A1 l) (hn : l.length ≤ 100) (hw : Lp.wide (scOf l) ≤ 10000) (hro : Lp.RowOk (scOf l) r.2.2) (hrd : RdsV w r.1 r.2.2)
 (hgt : w.heap[gt]? = some (.cells #[.slice A1 l.length c1] 25 (0, 0))) (hgr : w.heap[gr]? = some (.cells #[r.val] 23 (0, 0))) :
 Calls Tryz.prog 17 #[.string s, .pointer (some ⟨gt, 0, none⟩), .pointer (some ⟨gr, 0, none⟩)] w (AskPost (askX (scOf l) r.2.2 (Lp.condS (s.data.toList.take 600))) w) := by
 obtain ⟨Ar0, cr0, row⟩ := r
 simp only [RowV.val] at hgr
 have hb0 : Below w.heap.size w (w.alloc (.cells #[.int .u8 0, .int .i64 0, .string ⟨#[]⟩, .bool false] 31)) := ba (Below.refl _ _) _
 have hr0 := heap_alloc_new w (.cells #[.int .u8 0, .int .i64 0, .string ⟨#[]⟩, .bool false] 31)
 have hBd := (bound_any A1 c1 (scOf l) s false _ (tabs_below hT hb0) (resv_below hR hb0) (hS.below hb0).scm (by rw [scOf_len]; exact hn) hw).mono fun e w' h => h.bde
 rw [scOf_len] at hBd
 have HB := Lib.hid hBd
 have hok : ∀ x, Lp.condS (s.data.toList.take 600) = some x → x.wf := fun x h => (Lp.condS_ok (by rw [List.length_take]; omega) h).1
 have HOK := Lib.hid hok
 have H0 := Lib.hid (And.intro hb0 (And.intro hr0 (And.intro (box_below hgr hb0) (Rds.below hrd hb0))))
 have HRO := Lib.hid hro
 have ct := box_cells (box_below hgt hb0) 0
 simp only [List.getElem?_toArray, List.getElem?_cons_zero] at ct
 generalize Lp.condS (s.data.toList.take 600) = q at *
 clear hb0 hr0 hT hR hok hBd hS hn hw hro hrd hgt hgr
 go_enter Tryz.func17, Tryz.ntmps17
 go_wp2_with fail
 refine HB.out.mono ?_
 rintro e w1 ⟨hb1, hj⟩
 have hr1 := box_below H0.out.2.1 hb1
 have hg1 := box_below H0.out.2.2.1 hb1
 have hd1 := Rds.below H0.out.2.2.2 hb1
 have hk1 := H0.out.1.trans (hb1.mono H0.out.1.size)
 rcases hj with ⟨x, g, hq, hk, hnt, ⟨k, vk, vi, vs, vb, tt, ss, Ar, nn, cr⟩, -, rfl⟩ | ⟨hq, ⟨k, vk, vi, vs, vb, tt, ss, Ar, nn, cr⟩, rfl⟩
 ·simp only [RC.val]
  have hbx : Below w1.heap.size w1 (w1.alloc (.cells #[.int .u8 k, .int .u8 vk, .int .i64 vi, .string vs, .bool vb, .string tt, .string ss, .slice Ar nn cr] 35)) := ba (Below.refl _ _) _
  have HE := Lib.hid (value_at (HOK.out x hq) hk (r := (Ar0, cr0, row)) HRO.out (hnt.below hbx) (Rds.below hd1 hbx))
  have HQ := Lib.hid (ask_yes18 (row := row) hq hk)
  have hr2 := box_below hr1 hbx
  have hg2 := box_cells (box_below hg1 hbx) 0
  simp only [List.getElem?_toArray, List.getElem?_cons_zero] at hg2
  have hk2 := hk1.trans (hbx.mono hk1.size)
  have HZ := Lib.hid (And.intro hr2 hk2)
  simp only [RowV.val] at HE
  unfold ptr at *
  clear hbx hr1 hk1 hr2 hk2 hq hk hnt hb1 HB HOK H0 hg1 hd1 ct
  go_wp2_with fail
  refine HE.out.mono ?_
  rintro e w2 hj
  obtain ⟨uk, ui, us, ub, E, hE, rfl, hb3⟩ := hj.form
  rw [hE] at HQ
  have hbv : Below w2.heap.size w2 (w2.alloc (.cells #[.int .u8 uk, .int .i64 ui, .string us, .bool ub] 31)) := ba (Below.refl _ _) _
  have cv := box_cells (heap_alloc_new w2 (.cells #[.int .u8 uk, .int .i64 ui, .string us, .bool ub] 31))
  have hr3 := box_below (box_below HZ.out.1 hb3) hbv
  have hk3 := (HZ.out.2.trans (hb3.mono HZ.out.2.size)).trans (hbv.mono (HZ.out.2.trans (hb3.mono HZ.out.2.size)).size)
  have hc1 := box_cells hr3
  have hf1 := fun j => frozen_of_row _ _ j _ _ hr3
  have HCE := Lib.hid (box_cells (set4_same hr3 (.int .u8 uk) (.int .i64 ui) (.string us) (.bool ub)))
  have K5 := Lib.hid (below_set4 hk3 (g := w.heap.size) (Nat.le_refl _) (.int .u8 uk) (.int .i64 ui) (.string us) (.bool ub))
  clear hj hE hb3 hr3 hk3 HE hbv
  go_wp2
  have hcE := HCE.out
  exact bodyPost_ret (v := .tuple #[.agg #[.int .u8 uk, .int .i64 ui, .string us, .bool ub], .bool (E == 0)]) (by simp [results, Tryz.results17, go_sem, hcE]) rfl (AskPost.mk HQ.out K5.out)
 ·simp only [RC.val]
  have hbx : Below w1.heap.size w1 (w1.alloc (.cells #[.int .u8 k, .int .u8 vk, .int .i64 vi, .string vs, .bool vb, .string tt, .string ss, .slice Ar nn cr] 35)) := ba (Below.refl _ _) _
  have HQ := Lib.hid (ask_no (row := row) hq)
  have hr3 := box_below hr1 hbx
  have hk3 := hk1.trans (hbx.mono hk1.size)
  have hc1 := box_cells hr3
  have hf1 := fun j => frozen_of_row _ _ j _ _ hr3
  have HCE := Lib.hid (box_cells (set4_same hr3 (.int .u8 0) (.int .i64 0) (.string ⟨#[]⟩) (.bool false)))
  have K5 := Lib.hid (below_set4 hk3 (g := w.heap.size) (Nat.le_refl _) (.int .u8 0) (.int .i64 0) (.string ⟨#[]⟩) (.bool false))
  clear hbx hr1 hk1 hr3 hk3 hq hb1 HB HOK H0 hg1 hd1 ct
  go_wp2
  have hcE := HCE.out
  exact bodyPost_ret (v := .tuple #[.agg #[.int .u8 0, .int .i64 0, .string ⟨#[]⟩, .bool false], .bool false]) (by simp [results, Tryz.results17, go_sem, hcE]) rfl (AskPost.mk HQ.out K5.out)
theorem kind_turn (sc : List Lp.Tb) (x y : Lp.X) (hx : (Lp.kindX sc x false).2 = 0) (hy : (Lp.kindX sc y false).2 = 0) : (Lp.kindX sc (.bin [62] y x) false).2 = (Lp.kindX sc (.bin [60] x y) false).2 := by
 show (Lp.thenK (Lp.kindX sc y false) fun k => Lp.thenK (Lp.kindX sc x false) (Lp.kindB [62] k)).2 = (Lp.thenK (Lp.kindX sc x false) fun k => Lp.thenK (Lp.kindX sc y false) (Lp.kindB [60] k)).2
 unfold Lp.thenK
 simp only [hx, hy, if_true]
 show (if Lp.fitK (Lp.kindX sc y false).1 (Lp.kindX sc x false).1 || Lp.fitK (Lp.kindX sc x false).1 (Lp.kindX sc y false).1 then ((3, 0) : Int × Int) else (0, 8)).2 = (if Lp.fitK (Lp.kindX sc x false).1 (Lp.kindX sc y false).1 || Lp.fitK (Lp.kindX sc y false).1 (Lp.kindX sc x false).1 then ((3, 0) : Int × Int) else (0, 8)).2
 rw [Bool.or_comm]
theorem turns_plain (sc : List Lp.Tb) (row : List Lp.V) {a b : List UInt8} {x y : Lp.X} (hA : Lp.condS a = some x) (hB : Lp.condS b = some y) (hx : (Lp.kindX sc x false).2 = 0) (hy : (Lp.kindX sc y false).2 = 0) :
 (askX sc row (Lp.condS (Lp.sCmp [62] b a))).2 = (askX sc row (Lp.condS (Lp.sCmp [60] a b))).2 ∧ ((askX sc row (Lp.condS (Lp.sCmp [60] a b))).2 = true → (askX sc row (Lp.condS (Lp.sCmp [62] b a))).1 = (askX sc row (Lp.condS (Lp.sCmp [60] a b))).1 ∧ ((askX sc row (Lp.condS (Lp.sNot [62, 61] a b))).2 = true → (askX sc row (Lp.condS (Lp.sNot [62, 61] a b))).1 = (askX sc row (Lp.condS (Lp.sCmp [60] a b))).1)) := by
 have h1 := Lp.read_cmp (c := 60) (.inl rfl) hA hB
 have h2 := Lp.read_cmp (c := 62) (.inr rfl) hB hA
 by_cases hw : Lp.whole 1 (Lp.splA [] a).1 = true ∧ Lp.whole 1 (Lp.splA [] b).1 = true
 ·rw [if_pos hw] at h1
  rw [if_pos hw.symm] at h2
  rw [h1, h2]
  have ht := Lp.eval_turn sc x y row []
  have hk := kind_turn sc x y hx hy
  have a1 : askX sc row (some (.bin [60] x y)) = if (Lp.kindX sc (.bin [60] x y) false).2 = 0 then ((Lp.evalX sc (.bin [60] x y) row []).1, (Lp.evalX sc (.bin [60] x y) row []).2 == 0) else (Lp.nullV, false) := rfl
  have a2 : askX sc row (some (.bin [62] y x)) = if (Lp.kindX sc (.bin [60] x y) false).2 = 0 then ((Lp.evalX sc (.bin [62] y x) row []).1, (Lp.evalX sc (.bin [62] y x) row []).2 == 0) else (Lp.nullV, false) := by rw [← hk]; rfl
  by_cases hk0 : (Lp.kindX sc (.bin [60] x y) false).2 = 0
  ·rw [if_pos hk0] at a1 a2
   rw [a1, a2]
   have e2 : ((Lp.evalX sc (.bin [62] y x) row []).2 == 0) = ((Lp.evalX sc (.bin [60] x y) row []).2 == 0) := by
    by_cases h : (Lp.evalX sc (.bin [60] x y) row []).2 = 0
    ·rw [beq_iff_eq.2 h, beq_iff_eq.2 (ht.1.1 h)]
    ·rw [beq_eq_false_iff_ne.2 h, beq_eq_false_iff_ne.2 fun g => h (ht.1.2 g)]
   refine ⟨e2, fun hp => ⟨(ht.2 (eq_of_beq hp)).symm, fun h3 => ?_⟩⟩
   cases hq : Lp.condS (Lp.sNot [62, 61] a b) with
   | none => rw [hq] at h3; cases h3
   | some z =>
     have hz := Lp.read_not hA hB hq
     subst hz
     by_cases kz : (Lp.kindX sc (.un Lp.uNot (.bin [62, 61] x y)) false).2 = 0
     ·have a3 := ask_yes18 (row := row) hq kz
      rw [a3] at h3
      rw [← hq, a3]
      exact (Lp.eval_not sc x y row [] (eq_of_beq hp) (eq_of_beq h3)).symm
     ·rw [ask_no (.inr ⟨_, hq, kz⟩)] at h3
      cases h3
  ·rw [if_neg hk0] at a1 a2
   rw [a1, a2]
   exact ⟨rfl, fun h => by cases h⟩
 ·rw [if_neg hw] at h1
  rw [if_neg fun h => hw h.symm] at h2
  rw [h1, h2]
  exact ⟨rfl, fun h => by cases h⟩
end Go.Proofs.YtkfjmgmjbljnbaaGreatDoor
