/-
 The document's Column: the kind of a column by its number. Conditions: at most 100 tables, 10000 columns in all, the number within.
-/
import Derived.Test.YtkfjmgmjbljnbaaGreatDoorBFind
import Derived.Test.YtkfjmgmjbljnbaaGreatDoorBGY
set_option maxRecDepth 100000
set_option maxHeartbeats 8000000
namespace Go.Proofs.YtkfjmgmjbljnbaaGreatDoor
open Go.RowKit
theorem set2_same {w : World} {g : Nat} {t : TypeId} {a0 a1 : Value} (h : w.heap[g]? = some (.cells #[a0, a1] t (0, 0))) (u0 u1 : Value) :
 ((w.setCell ⟨g, 0, none⟩ u0).setCell ⟨g, 1, none⟩ u1).heap[g]? = some (.cells #[u0, u1] t (0, 0)) := by
 simp [World.setCell, Array.getElem?_modify, h]
theorem below_set2 {w w1 : World} (h : Below w.heap.size w w1) {g : Nat} (hg : w.heap.size ≤ g) (u0 u1 : Value) : Below w.heap.size w ((w1.setCell ⟨g, 0, none⟩ u0).setCell ⟨g, 1, none⟩ u1) :=
 (h.setCell (p := ⟨g, 0, none⟩) hg u0).setCell (p := ⟨g, 1, none⟩) hg u1
theorem flatK_at17 {sc : List Lp.Tb} : ∀ {t j : Nat} (h : t < sc.length) (hj : j < (sc[t]).cs.length), (Lp.flatK sc)[Lp.wide (sc.take t) + j]? = some ((sc[t]).cs[j]).k := by
 induction sc with
 | nil => intro t j h; simp at h
 | cons tb sc ih =>
   intro t j h hj
   have e : Lp.flatK (tb :: sc) = tb.cs.map (·.k) ++ Lp.flatK sc := by simp [Lp.flatK]
   rw [e]
   cases t with
   | zero =>
     simp only [List.take_zero, List.getElem_cons_zero] at hj ⊢
     rw [show Lp.wide [] = 0 from rfl, Nat.zero_add, List.getElem?_append_left (by simpa using hj)]
     simp [List.getElem?_eq_getElem hj]
   | succ t =>
     have h2 := ih (t := t) (j := j) (by simpa using h) (by simpa using hj)
     have e2 : Lp.wide ((tb :: sc).take (t + 1)) = tb.cs.length + Lp.wide (sc.take t) := by simp [Lp.wide]
     rw [e2, List.getElem?_append_right (by simp; omega), show tb.cs.length + Lp.wide (sc.take t) + j - (tb.cs.map (·.k)).length = Lp.wide (sc.take t) + j by simp; omega, h2]
     simp
theorem column17_any (A : Option Addr) (c : Nat) (l : List TabA) (n : Nat) (k : Int) (w : World) (hA : ScA w A l) (hn : l.length ≤ 100) (hw : Lp.wide (scOf l) ≤ 10000) (hk : (Lp.flatK (scOf l))[n]? = some k) :
 Calls Tryz.prog 66 #[.slice A l.length c, .int .i64 n] w fun e w' => (∃ s, e = .returned (.agg #[.string s, .int .u8 k])) ∧ Below w.heap.size w w' := by
 have HA := Lib.hid hA
 have HW := Lib.hid hw
 have HK := Lib.hid hk
 have hnI : (l.length : Int) ≤ 100 := by omega
 clear hA hw hk
 go_enter Tryz.func66, Tryz.ntmps66
 go_wp2_with fail
 have hz := heap_alloc_new w (.cells #[.string ⟨#[]⟩, .int .u8 0] 55)
 have hb0 : Below w.heap.size w (w.alloc (.cells #[.string ⟨#[]⟩, .int .u8 0] 55)) := (Below.refl _ _).alloc (Nat.le_refl _) _
 have HZ := Lib.hid (And.intro hz hb0)
 generalize (w.alloc (.cells #[.string ⟨#[]⟩, .int .u8 0] 55)) = W0 at *
 clear hz hb0
 go_loopw [1, 6, 9] (fun s1 _ s9 wr => ∃ i m : Nat, i ≤ l.length ∧ s9 = .int .i64 i ∧ s1 = .int .i64 m ∧ n = Lp.wide (scOf (l.take i)) + m ∧ Below W0.heap.size W0 wr) (fun _ _ s9 _ => l.length - (intOf s9).toNat)
 case atStart => exact ⟨0, n, Nat.zero_le _, rfl, rfl, by show n = 0 + n; omega, Below.refl _ _⟩
 case round =>
  obtain ⟨i, m, hi, rfl, rfl, hm, hb⟩ := hrel
  have HB := Lib.hid hb
  by_cases hlt : i < l.length
  ·obtain ⟨bT, oT, hAT, q0, q1⟩ := tbv_cells ((HA.out.below (HZ.out.2.trans (hb.mono HZ.out.2.size))).1) hlt
   have hok := (HA.out.below (HZ.out.2.trans (hb.mono HZ.out.2.size))).2 _ (List.getElem_mem hlt)
   have hT1 := scOf_take l hlt
   have hlt2 : i < (scOf l).length := by simpa [scOf] using hlt
   have htk : scOf (l.take i) = (scOf l).take i := by simp [scOf, List.map_take]
   have hel : (scOf l)[i] = (l[i]).1 := by simp [scOf]
   have hwd0 : Lp.wide (scOf (l.take (i + 1))) = Lp.wide (scOf (l.take i)) + (l[i]).1.cs.length := by rw [hT1, Lp.wide_snoc]
   have hwd : Lp.wide (scOf (l.take (i + 1))) ≤ 10000 := by
    have := wide_take (scOf l) (i + 1)
    rw [show (scOf l).take (i + 1) = scOf (l.take (i + 1)) from by simp [scOf, List.map_take]] at this
    have := HW.out
    omega
   have hat : ∀ (hj : m < (l[i]).1.cs.length), ((l[i]).1.cs[m]).k = k := by
    intro hj
    have h := flatK_at17 (sc := scOf l) hlt2 (j := m) (by rw [hel]; exact hj)
    rw [← htk, ← hm, HK.out] at h
    simp only [hel] at h
    exact (Option.some.inj h).symm
   generalize (l[i]) = p at *
   obtain ⟨⟨tn, cs⟩, At, ct⟩ := p
   simp only at q0 q1 hok hwd0 hat
   subst hAT
   have hbT : Below wr.heap.size wr (wr.alloc (.cells #[.string ⟨tn.toArray⟩, .slice At cs.length ct] 90)) := (Below.refl _ _).alloc (Nat.le_refl _) _
   have x2 := box_cells (heap_alloc_new wr (.cells #[.string ⟨tn.toArray⟩, .slice At cs.length ct] 90))
   have hrT := hok.2.1.below hbT
   have hzT := box_below (box_below HZ.out.1 hb) hbT
   have hkW := HZ.out.2.trans ((hb.trans (hbT.mono hb.size)).mono HZ.out.2.size)
   have HBT := Lib.hid (hb.trans (hbT.mono hb.size))
   have hcsI : (cs.length : Int) ≤ 10000 := by omega
   have hmI : (m : Int) ≤ 10000 ∨ cs.length ≤ m := by omega
   have HWD := Lib.hid hwd0
   clear hT1 htk hel hwd hwd0 hok hb hbT hlt2
   by_cases hml : m < cs.length
   ·have hkm := hat hml
    obtain ⟨bC, oC, hAC, r0, r1⟩ := colv_cells hrT hml
    subst hAC
    rw [hkm] at r1
    generalize (⟨(cs[m]).n.toArray⟩ : ByteArray) = nc at *
    have cz := box_cells hzT
    have fz := fun j => frozen_of_row _ _ j _ _ hzT
    have HCE := Lib.hid (box_cells (set2_same hzT (.string nc) (.int .u8 k)))
    have HKS := Lib.hid (below_set2 hkW (Nat.le_refl _) (.string nc) (.int .u8 k))
    have hmI2 : (m : Int) < (cs.length : Int) := by omega
    clear hat hrT hzT hkW hm hkm hmI
    go_wp2
    have hcE := HCE.out
    exact bodyPost_ret (v := .agg #[.string nc, .int .u8 k]) (by simp [results, Tryz.results66, go_sem, hcE]) rfl ⟨⟨_, rfl⟩, HKS.out⟩
   ·have hmI2 : (cs.length : Int) ≤ (m : Int) := by omega
    have hmI3 : (m : Int) ≤ 20000 := by
     have := (List.getElem?_eq_some_iff.1 HK.out).1
     have h2 : (Lp.flatK (scOf l)).length ≤ 10000 := by
      have h3 := HW.out
      unfold Lp.wide at h3
      unfold Lp.flatK
      rw [List.length_flatMap]
      simpa using h3
     omega
    have HM := Lib.hid hm
    clear hat hrT hzT hkW hm
    go_wp2
    go_roundw
    case rel => exact ⟨i + 1, m - cs.length, by omega, by go_num, by go_num, by rw [HWD.out]; have := HM.out; omega, HBT.out⟩
    case measure => simp [intOf]; omega
  ·exfalso
   have hi2 : i = l.length := by omega
   rw [hi2, List.take_length] at hm
   have h1 := (List.getElem?_eq_some_iff.1 HK.out).1
   have h2 : (Lp.flatK (scOf l)).length = Lp.wide (scOf l) := by
    unfold Lp.wide Lp.flatK
    rw [List.length_flatMap]
    simp
   omega
end Go.Proofs.YtkfjmgmjbljnbaaGreatDoor
