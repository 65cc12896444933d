/-
 lapidarylaw18's bound: the node of a text in a scope, and the document's expression. Conditions: the tables of unicode/utf8 and of the reserved words as laid.
-/
import Derived.Test.YtkfjmgmjbljnbaaGreatDoorYGS
import Derived.Test.YtkfjmgmjbljnbaaGreatDoorYGF
set_option maxRecDepth 100000
set_option maxHeartbeats 8000000
namespace Go.Proofs.YtkfjmgmjbljnbaaGreatDoor
open Go.RowKit
def BdPost (sc : List Lp.Tb) (gr : Bool) (w : World) (q : Option Lp.X) (e : Ending) (w' : World) : Prop :=
 Below w.heap.size w w' ∧ match q with
 | none => ∃ rr : RC, e = .returned (.tuple #[.pointer none, rr.val, .bool false])
 | some x => ∃ rr : RC, RX (fun k => w.heap.size ≤ k) w' x rr ∧ if (Lp.kindX sc x gr).2 = 0 then ∃ g, e = .returned (.tuple #[ptr g, rr.val, .bool true]) ∧ NT (fun k => w.heap.size ≤ k) w' sc x g
   else e = .returned (.tuple #[.pointer none, rr.val, .bool false])
theorem bd_no {sc : List Lp.Tb} {gr : Bool} {w w' : World} {q : Option Lp.X} (rr : RC) (hq : q = none) (hb : Below w.heap.size w w') : BdPost sc gr w q (.returned (.tuple #[.pointer none, rr.val, .bool false])) w' := by
 subst hq; exact ⟨hb, rr, rfl⟩
theorem bd_bad {sc : List Lp.Tb} {gr : Bool} {w w' : World} {q : Option Lp.X} {x : Lp.X} (rr : RC) (hq : q = some x) (hb : Below w.heap.size w w') (hx : RX (fun k => w.heap.size ≤ k) w' x rr) (hk : ¬ (Lp.kindX sc x gr).2 = 0) : BdPost sc gr w q (.returned (.tuple #[.pointer none, rr.val, .bool false])) w' := by
 subst hq; exact ⟨hb, rr, hx, by rw [if_neg hk]⟩
theorem bd_yes {sc : List Lp.Tb} {gr : Bool} {w w' : World} {q : Option Lp.X} {x : Lp.X} {g : Nat} (rr : RC) (hq : q = some x) (hb : Below w.heap.size w w') (hx : RX (fun k => w.heap.size ≤ k) w' x rr) (hk : (Lp.kindX sc x gr).2 = 0) (hn : NT (fun k => w.heap.size ≤ k) w' sc x g) : BdPost sc gr w q (.returned (.tuple #[ptr g, rr.val, .bool true])) w' := by
 subst hq; exact ⟨hb, rr, hx, by rw [if_pos hk]; exact ⟨g, rfl, hn⟩⟩
theorem bd_end {w v : World} {x : Lp.X} {r0 r : RC} (hz : v.heap[w.heap.size]? = some (.cells r0.cells.toArray 35 (0, 0))) (hb : Below w.heap.size w v) (hx : RX (fun j => w.heap.size < j) v x r) :
 (put8 v w.heap.size r).heap[w.heap.size]? = some (.cells r.cells.toArray 35 (0, 0)) ∧ Below w.heap.size w (put8 v w.heap.size r) ∧ RX (fun j => w.heap.size ≤ j) (put8 v w.heap.size r) x r :=
 ⟨put8_box r hz, below_set8 hb (Nat.le_refl _), RX.mono (fun _ hk _ => Nat.le_of_lt hk) (put8_rx (fun j (hj : w.heap.size < j) => by omega) hx)⟩
attribute [local go_sem] ta_del
theorem bound_any (A : Option Addr) (c : Nat) (sc : List Lp.Tb) (s : ByteArray) (gr : Bool) (w : World) (hT : Tabs w) (hR : Resv w) (hS : ScM w A sc) (hn : sc.length ≤ 100) (hw : Lp.wide sc ≤ 10000) :
 Calls Tryz.prog 18 #[.slice A sc.length c, .string s, .bool gr] w (BdPost sc gr w (Lp.condS (s.data.toList.take 600))) := by
 have hb0 : Below w.heap.size w (w.alloc (.cells rcZ.cells.toArray 35)) := (Below.refl _ _).alloc (Nat.le_refl _) _
 have hz0 := heap_alloc_new w (.cells rcZ.cells.toArray 35)
 have hl : (s.data.toList.take 600).length ≤ 1000 := by rw [List.length_take]; omega
 have HP := Lib.hid (parse_any _ (s.data.toList.take 600) _ (tabs_below hT hb0) (resv_below hR hb0) (fewP s) hl)
 have HO := Lib.hid (fun W => (few_list s) ▸ rone_any (fewB s) W (by have := few_size s; omega))
 have H0 := Lib.hid (And.intro hb0 hz0)
 have HS := Lib.hid hS
 have HN := Lib.hid (And.intro hn hw)
 have hok : ∀ x, Lp.condS (s.data.toList.take 600) = some x → x.wf := fun x h => (Lp.condS_ok (by rw [List.length_take]; omega) h).1
 have HOK := Lib.hid hok
 have hfs := few_size s
 have hm : s.extract 0 (min (s.size : Int) 600).toNat = fewB s := by
  have h : (min (s.size : Int) 600).toNat = min s.size 600 := by omega
  rw [h]; rfl
 have h0 : (0 : Int) ≤ min (s.size : Int) 600 := by omega
 have h1 : min (s.size : Int) 600 ≤ (s.size : Int) := by omega
 have HM := Lib.hid hm
 clear hb0 hz0 hl hT hR hS hn hw hok hm
 go_enter Tryz.func18, Tryz.ntmps18
 go_upto_region 2 with fail
 rw [HM.out]
 generalize fewB s = T at *
 clear h0 h1 HM
 go_wp2_with fail
 refine HP.out.mono ?_
 rintro e w1 ⟨hb1, hq1⟩
 have hz1 := box_below H0.out.2 hb1
 have hbw1 := H0.out.1.trans (hb1.mono H0.out.1.size)
 rcases hc : Lp.condS (s.data.toList.take 600) with _ | x
 ·rw [hc] at hq1
  obtain ⟨c, hc0, rfl⟩ := hq1
  have HQ := Lib.hid hc
  have e1 : (c == 0) = false := beq_eq_false_iff_ne.2 hc0
  have e2 : (c != 0) = true := by rw [bne, e1]; rfl
  rw [hc] at HO
  have HZ := Lib.hid (And.intro hz1 hbw1)
  clear hc hc0 hb1 hz1 hbw1 HP H0 HOK
  go_wp2_with fail
  refine (HO.out _).mono ?_
  rintro e w2 ⟨hb2, rfl⟩
  simp only [RC.val, rcZ]
  have hb3 : Below w2.heap.size w2 (w2.alloc (.cells rcZ.cells.toArray 35)) := (Below.refl _ _).alloc (Nat.le_refl _) _
  have hz2 := box_below HZ.out.1 hb2
  have hz3 := box_below hz2 hb3
  have hy3 := heap_alloc_new w2 (.cells rcZ.cells.toArray 35)
  have hbw3 := (HZ.out.2.trans (hb2.mono HZ.out.2.size)).trans (hb3.mono (Nat.le_of_lt (heap_lt hz2)))
  have c0 := box_cells hz3
  have cy := box_cells hy3
  have z0 := fun j => frozen_of_row _ _ j _ _ hz3
  simp only [RC.cells, rcZ] at c0 cy z0
  have HZ3 := Lib.hid (And.intro hz3 hbw3)
  clear hb2 hb3 hz2 hz3 hy3 hbw3 HZ HO
  go_wp2_with fail
  go_region
  have hbx := put8_box rcZ HZ3.out.1
  have hbl := below_set8 (g := w.heap.size) (r := rcZ) HZ3.out.2 (Nat.le_refl _)
  obtain ⟨V, hV⟩ : ∃ V, put8 (w2.alloc (.cells rcZ.cells.toArray 35)) w.heap.size rcZ = V := ⟨_, rfl⟩
  rw [hV] at hbx hbl
  have hcE := box_cells (w := V.drew) hbx
  have HE := Lib.hid (show Below w.heap.size w V.drew from hbl.drew)
  have HV := Lib.hid hV
  clear c0 cy z0 hbx hbl hV HZ3
  go_wp2
  change bodyPost _ _ _ _ _ (put8 (w2.alloc (.cells rcZ.cells.toArray 35)) w.heap.size rcZ).drew
  rw [HV.out]
  simp only [RC.cells, rcZ] at hcE
  exact bodyPost_ret (v := .tuple #[.pointer none, rcZ.val, .bool false]) (by simp [results, Tryz.results18, go_sem, hcE, RC.val, rcZ]) rfl (bd_no rcZ HQ.out HE.out)
 ·rw [hc] at hq1
  obtain ⟨g, T2, g2, rfl, hg, hx1⟩ := hq1
  have hwf := HOK.out x hc
  have HQ := Lib.hid (And.intro hc hwf)
  rw [hc] at HO
  have HZ := Lib.hid (And.intro hz1 (And.intro hbw1 (And.intro hg (PX.mono (B' := 0) (Nat.zero_le _) hx1))))
  clear hc hb1 hz1 hbw1 HP H0 hg hx1 hwf HOK
  go_wp2_with fail
  refine (HO.out _).mono ?_
  rintro e w2 ⟨hb2, ⟨k, vk, vi, vs, vb, tt, ss, Ar, nn, cr⟩, rfl, hrx⟩
  simp only [RC.val]
  have hb3 : Below w2.heap.size w2 (w2.alloc (.cells #[.int .u8 k, .int .u8 vk, .int .i64 vi, .string vs, .bool vb, .string tt, .string ss, .slice Ar nn cr] 35)) := (Below.refl _ _).alloc (Nat.le_refl _) _
  have hz2 := box_below HZ.out.1 hb2
  have hz3 := box_below hz2 hb3
  have hg3 := box_below (box_below HZ.out.2.2.1 hb2) hb3
  have hy3 := heap_alloc_new w2 (.cells #[.int .u8 k, .int .u8 vk, .int .i64 vi, .string vs, .bool vb, .string tt, .string ss, .slice Ar nn cr] 35)
  have hbw3 := (HZ.out.2.1.trans (hb2.mono HZ.out.2.1.size)).trans (hb3.mono (Nat.le_of_lt (heap_lt hz2)))
  have hlt1 := heap_lt HZ.out.1
  have hpx3 := PX.keep (stays_below hb3) (PX.keep (stays_below hb2) HZ.out.2.2.2)
  have hrx3 := RX.mono (S' := fun j => w.heap.size < j) (fun j hj _ => by have h : w1.heap.size ≤ j := hj; omega) (RX.below hb3 hrx)
  have HE := Lib.hid (bindExpr_any A c sc gr x (.iface T2 (.pointer (some ⟨g2, 0, none⟩))) _ HN.out.1 HN.out.2 HQ.out.2 hpx3 (HS.out.below hbw3))
  have cg := box_cells hg3
  have HZ3 := Lib.hid (And.intro hz3 (And.intro hbw3 (And.intro hrx3 hy3)))
  clear hb2 hb3 hz2 hz3 hg3 hy3 hbw3 HZ HO hpx3 hrx3 hrx hlt1
  go_wp2_with fail
  refine HE.out.mono ?_
  rintro e w4 ⟨hb4, hr⟩
  have hz4 := box_below HZ3.out.1 hb4
  have hy4 := box_below HZ3.out.2.2.2 hb4
  have hbw4 := HZ3.out.2.1.trans (hb4.mono HZ3.out.2.1.size)
  have hrx4 := RX.below hb4 HZ3.out.2.2.1
  have c0 := box_cells hz4
  have cy := box_cells hy4
  have z0 := fun j => frozen_of_row _ _ j _ _ hz4
  simp only [RC.cells, rcZ] at c0
  have hend := bd_end (r := ⟨k, vk, vi, vs, vb, tt, ss, Ar, nn, cr⟩) hz4 hbw4 hrx4
  obtain ⟨V, hV⟩ : ∃ V, put8 w4 w.heap.size ⟨k, vk, vi, vs, vb, tt, ss, Ar, nn, cr⟩ = V := ⟨_, rfl⟩
  rw [hV] at hend
  have hcE := box_cells (w := V.drew) hend.1
  have HEN := Lib.hid hend.2
  have HV := Lib.hid hV
  have HB4 := Lib.hid (And.intro hbw4 (show w.heap.size ≤ (w2.alloc (.cells #[.int .u8 k, .int .u8 vk, .int .i64 vi, .string vs, .bool vb, .string tt, .string ss, .slice Ar nn cr] 35)).heap.size from HZ3.out.2.1.size))
  have hlt4 := heap_lt HZ3.out.1
  have HLT := Lib.hid hlt4
  clear hb4 hz4 hy4 hbw4 hrx4 hend hV HE cg HZ3 hlt4
  simp only [RC.cells] at hcE
  by_cases hk : (Lp.kindX sc x gr).2 = 0
  ·rw [if_pos hk] at hr
   obtain ⟨g3, rfl, hnt⟩ := hr
   have HNT := Lib.hid (And.intro hk hnt)
   unfold ptr
   clear hk hnt
   go_wp2_with fail
   go_region
   clear c0 cy z0
   go_wp2
   change bodyPost _ _ _ _ _ (put8 w4 w.heap.size ⟨k, vk, vi, vs, vb, tt, ss, Ar, nn, cr⟩).drew
   rw [HV.out]
   have hnt2 : NT (fun k => w.heap.size ≤ k) V sc x g3 := by
    rw [← HV.out]
    exact HNT.out.2.turn (fun j hj _ => ⟨Nat.le_trans HB4.out.2 hj, put8_far (by have h : _ ≤ j := hj; have := HLT.out; omega)⟩)
   exact bodyPost_ret (v := .tuple #[ptr g3, RC.val ⟨k, vk, vi, vs, vb, tt, ss, Ar, nn, cr⟩, .bool true]) (by simp [results, Tryz.results18, go_sem, hcE, RC.val, ptr]) rfl (bd_yes ⟨k, vk, vi, vs, vb, tt, ss, Ar, nn, cr⟩ HQ.out.1 HEN.out.1.drew (RX.drew HEN.out.2) HNT.out.1 (NT.turn (w := V) (w' := V.drew) (fun _ h _ => ⟨h, rfl⟩) hnt2))
  ·rw [if_neg hk] at hr
   subst hr
   have HK := Lib.hid hk
   have e3 : ((Lp.kindX sc x gr).2 == 0) = false := beq_eq_false_iff_ne.2 hk
   generalize (Lp.kindX sc x gr).2 = E at e3 ⊢
   clear hk
   go_wp2_with fail
   go_region
   clear c0 cy z0
   go_wp2
   change bodyPost _ _ _ _ _ (put8 w4 w.heap.size ⟨k, vk, vi, vs, vb, tt, ss, Ar, nn, cr⟩).drew
   rw [HV.out]
   exact bodyPost_ret (v := .tuple #[.pointer none, RC.val ⟨k, vk, vi, vs, vb, tt, ss, Ar, nn, cr⟩, .bool false]) (by simp [results, Tryz.results18, go_sem, hcE, RC.val]) rfl (bd_bad ⟨k, vk, vi, vs, vb, tt, ss, Ar, nn, cr⟩ HQ.out.1 HEN.out.1.drew (RX.drew HEN.out.2) HK.out)
end Go.Proofs.YtkfjmgmjbljnbaaGreatDoor
