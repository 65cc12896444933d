/-
 The document's Safe, of every expression. Conditions: right expressions.
-/
import Derived.Test.YtkfjmgmjbljnbaaGreatDoorBParts17
set_option maxRecDepth 100000
set_option maxHeartbeats 8000000
namespace Go.Proofs.YtkfjmgmjbljnbaaGreatDoor
open Go.RowKit
def sixL : List (List UInt8) := [[45], [43], [42], [47], [37], [83, 85, 77]]
def SafeOk (x : Lp.X) : Prop := ∀ (S : Nat → Prop) (w : World) (r : RC), RX S w x r → Calls Tryz.prog 35 #[r.val] w fun e w' => e = .returned (.bool (Lp.safeX x)) ∧ Below w.heap.size w w'
theorem safe_take {xs : List Lp.X} {i : Nat} (h : i < xs.length) (ha : (xs.take i).all Lp.safeX = true) (hr : Lp.safeX xs[i] = true) : (xs.take (i + 1)).all Lp.safeX = true := by
 rw [List.take_succ_eq_append_getElem h, List.all_append, ha]
 simp [hr]
theorem safe_no {xs : List Lp.X} {i : Nat} (h : i < xs.length) (hr : Lp.safeX xs[i] = false) : xs.all Lp.safeX = false := by
 rw [List.all_eq_false]
 exact ⟨xs[i], List.getElem_mem h, by rw [hr]; decide⟩
theorem safe_node (k vk vi : Int) (vs : ByteArray) (vb : Bool) (t : ByteArray) (op : List UInt8) (c : Nat) (xs : List Lp.X) (hn : xs.length ≤ 2) (S : Nat → Prop) (w : World) (Ar : Option Addr) (rs : List RC) (hp : Pts S w Ar xs rs) (ho : ∀ y ∈ xs, SafeOk y) :
 Calls Tryz.prog 35 #[.agg #[.int .u8 k, .int .u8 vk, .int .i64 vi, .string vs, .bool vb, .string t, .string ⟨op.toArray⟩, .slice Ar xs.length c]] w fun e w' => e = .returned (.bool (xs.all Lp.safeX && (!sixL.contains op || k == 2))) ∧ Below w.heap.size w w' := by
 have hb0 : Below w.heap.size w (w.alloc (.cells #[.int .u8 k, .int .u8 vk, .int .i64 vi, .string vs, .bool vb, .string t, .string ⟨op.toArray⟩, .slice Ar xs.length c] 35)) := (Below.refl _ _).alloc (Nat.le_refl _) _
 have hz := heap_alloc_new w (.cells #[.int .u8 k, .int .u8 vk, .int .i64 vi, .string vs, .bool vb, .string t, .string ⟨op.toArray⟩, .slice Ar xs.length c] 35)
 have hc := box_cells hz
 have HB := Lib.hid (And.intro hb0 (And.intro hz (hp.below hb0)))
 have HO := Lib.hid ho
 have hnI : (xs.length : Int) ≤ 2 := by omega
 have HS := Lib.hid (show sixL.contains op = (op == [45] || (op == [43] || (op == [42] || (op == [47] || (op == [37] || (op == [83, 85, 77] || false)))))) from rfl)
 clear hb0 hz hp ho
 go_enter Tryz.func35, Tryz.ntmps35
 go_wp2_with fail
 generalize (w.alloc (.cells #[.int .u8 k, .int .u8 vk, .int .i64 vi, .string vs, .bool vb, .string t, .string ⟨op.toArray⟩, .slice Ar xs.length c] 35)) = W at *
 clear hc
 go_loopw [4, 8] (fun _ s8 wr => ∃ i : Nat, i ≤ xs.length ∧ s8 = .int .i64 i ∧ (xs.take i).all Lp.safeX = true ∧ Below W.heap.size W wr) (fun _ s8 _ => xs.length - (intOf s8).toNat)
 case atStart => exact ⟨0, Nat.zero_le _, rfl, rfl, Below.refl _ _⟩
 case round =>
  obtain ⟨i, hi, rfl, ha, hb⟩ := hrel
  have hkw := HB.out.1.trans (hb.mono HB.out.1.size)
  by_cases hlt : i < xs.length
  ·have hpw := HB.out.2.2.below hb
   have hri : i < rs.length := by rw [hpw.1]; exact hlt
   obtain ⟨bR, oR, hAR, q0, q1, q2, q3, q4, q5, q6, q7⟩ := rcs_cells hpw.2.1 hri
   have hrx := hpw.2.2 i hlt hri
   have hok := HO.out _ (List.getElem_mem hlt)
   have HYE := Lib.hid (safe_take hlt ha)
   have HNO := Lib.hid (safe_no hlt)
   subst hAR
   generalize rs[i] = r at *
   generalize xs[i] = y at *
   obtain ⟨rk, rvk, rvi, rvs, rvb, rt, rs0, rA, rn, rc⟩ := r
   have hbx : Below wr.heap.size wr (wr.alloc (.cells #[.int .u8 rk, .int .u8 rvk, .int .i64 rvi, .string rvs, .bool rvb, .string rt, .string rs0, .slice rA rn rc] 35)) := (Below.refl _ _).alloc (Nat.le_refl _) _
   have HC := Lib.hid (hok S _ _ (RX.below hbx hrx))
   simp only [RC.val] at HC
   have HX := Lib.hid (hb.trans (hbx.mono hb.size))
   generalize Lp.safeX y = b at *
   clear ha hb hpw hri hrx hok hbx hkw
   go_wp2_with fail
   refine HC.out.mono ?_
   rintro e w9 ⟨rfl, hb9⟩
   have HQ := Lib.hid (HX.out.trans (hb9.mono HX.out.size))
   cases b
   ·have HN := Lib.hid (HNO.out rfl)
    have HQ2 := Lib.hid (HB.out.1.trans (HQ.out.mono HB.out.1.size))
    clear hb9 q0 q1 q2 q3 q4 q5 q6 q7
    go_wp2
    go_ret
    exact ⟨by rw [HN.out]; rfl, HQ2.out⟩
   ·have HN := Lib.hid (HYE.out rfl)
    clear hb9 q0 q1 q2 q3 q4 q5 q6 q7
    go_wp2
    go_roundw
    case rel => exact ⟨i + 1, by omega, by go_num, HN.out, HQ.out⟩
    case measure => simp [intOf]; omega
  ·have hi2 : i = xs.length := by omega
   rw [hi2, List.take_length] at ha
   have HAL := Lib.hid ha
   have hc := box_cells (box_below HB.out.2.1 hb)
   have HQ := Lib.hid hkw
   clear hb hkw hi2 ha
   obtain ⟨b2, e0⟩ : ∃ b2, (k == 2) = b2 := ⟨_, rfl⟩
   have E0 := Lib.hid e0
   cases e1 : (op == [45])
   ·cases e2 : (op == [43])
    ·cases e3 : (op == [42])
     ·cases e4 : (op == [47])
      ·cases e5 : (op == [37])
       ·cases e6 : (op == [83, 85, 77])
        ·have H := Lib.hid (show sixL.contains op = false by rw [HS.out, e1, e2, e3, e4, e5, e6]; rfl)
         clear HS
         go_wp2
         go_ret
         exact ⟨by rw [H.out, HAL.out]; rfl, HQ.out⟩
        ·have H := Lib.hid (show sixL.contains op = true by rw [HS.out, e1, e2, e3, e4, e5, e6]; rfl)
         clear HS
         go_wp2
         go_ret
         exact ⟨by rw [H.out, HAL.out, E0.out]; rfl, HQ.out⟩
       ·have H := Lib.hid (show sixL.contains op = true by rw [HS.out, e1, e2, e3, e4, e5]; rfl)
        clear HS
        go_wp2
        go_ret
        exact ⟨by rw [H.out, HAL.out, E0.out]; rfl, HQ.out⟩
      ·have H := Lib.hid (show sixL.contains op = true by rw [HS.out, e1, e2, e3, e4]; rfl)
       clear HS
       go_wp2
       go_ret
       exact ⟨by rw [H.out, HAL.out, E0.out]; rfl, HQ.out⟩
     ·have H := Lib.hid (show sixL.contains op = true by rw [HS.out, e1, e2, e3]; rfl)
      clear HS
      go_wp2
      go_ret
      exact ⟨by rw [H.out, HAL.out, E0.out]; rfl, HQ.out⟩
    ·have H := Lib.hid (show sixL.contains op = true by rw [HS.out, e1, e2]; rfl)
     clear HS
     go_wp2
     go_ret
     exact ⟨by rw [H.out, HAL.out, E0.out]; rfl, HQ.out⟩
   ·have H := Lib.hid (show sixL.contains op = true by rw [HS.out, e1]; rfl)
    clear HS
    go_wp2
    go_ret
    exact ⟨by rw [H.out, HAL.out, E0.out]; rfl, HQ.out⟩
theorem pts_nil (S : Nat → Prop) (w : World) : Pts S w none [] [] := ⟨rfl, .inl rfl, fun _ h => absurd h (Nat.not_lt_zero _)⟩
theorem safe_nod {x : Lp.X} (hw : x.wf) (hk : kids x ≠ []) : ((kids x).all Lp.safeX && (!sixL.contains (nodS x) || nodK x == 2)) = Lp.safeX x := by
 have hb : ∀ o ∈ Lp.binOps, sixL.contains o = Lp.riskB o := by decide
 have ha : ∀ o ∈ Lp.aggOps, sixL.contains o = (o == Lp.uSum) := by decide
 cases x with
 | lit => exact absurd rfl hk
 | col => exact absurd rfl hk
 | cnt => exact absurd rfl hk
 | un op x =>
   rcases hw.1 with rfl | rfl
   ·show ((Lp.safeX x && true) && true) = (true && Lp.safeX x)
    simp
   ·show ((Lp.safeX x && true) && false) = (false && Lp.safeX x)
    simp
 | bin op a b =>
   show ((Lp.safeX a && (Lp.safeX b && true)) && (!sixL.contains op || false)) = (!Lp.riskB op && Lp.safeX a && Lp.safeX b)
   rw [hb op hw.1]
   cases Lp.riskB op <;> cases Lp.safeX a <;> cases Lp.safeX b <;> rfl
 | isn n x =>
   cases n
   ·show ((Lp.safeX x && true) && true) = Lp.safeX x
    simp
   ·show ((Lp.safeX x && true) && true) = Lp.safeX x
    simp
 | agg op x =>
   show ((Lp.safeX x && true) && (!sixL.contains op || false)) = (!(op == Lp.uSum) && Lp.safeX x)
   rw [ha op hw.1]
   cases (op == Lp.uSum) <;> cases Lp.safeX x <;> rfl
theorem safe_one {x : Lp.X} (hx : x.wf) (hk : kids x ≠ []) (hn : (kids x).length ≤ 2) (ho : ∀ y ∈ kids x, SafeOk y) : SafeOk x := by
 intro S w r hr
 obtain ⟨Ar, rs, rfl, hp⟩ := rx_pts hr hk
 have h := safe_node (nodK x) 0 0 ⟨#[]⟩ false ⟨#[]⟩ (nodS x) (kids x).length (kids x) hn S w Ar rs hp ho
 rw [safe_nod hx hk] at h
 exact h
theorem safe17_any : ∀ x : Lp.X, x.wf → SafeOk x := by
 have nil_ne : ∀ {y : Lp.X} {ys : List Lp.X}, y :: ys ≠ [] := fun h => by cases h
 intro x
 induction x with
 | lit k i s b =>
   intro _ S w r hr
   obtain rfl : r = rcL k i s b := hr
   exact safe_node 1 k i ⟨s.toArray⟩ b ⟨#[]⟩ [] 0 [] (by simp) S w none [] (pts_nil S w) fun y hy => by cases hy
 | col t s =>
   intro _ S w r hr
   obtain rfl : r = rcC t s := hr
   have h := safe_node 2 0 0 ⟨#[]⟩ false ⟨t.toArray⟩ s 0 [] (by simp) S w none [] (pts_nil S w) fun y hy => by cases hy
   rw [show (([] : List Lp.X).all Lp.safeX && (!sixL.contains s || (2 : Int) == 2)) = true by simp] at h
   exact h
 | cnt =>
   intro _ S w r hr
   obtain rfl : r = rc0 6 Lp.uCount := hr
   exact safe_node 6 0 0 ⟨#[]⟩ false ⟨#[]⟩ Lp.uCount 0 [] (by simp) S w none [] (pts_nil S w) fun y hy => by cases hy
 | un op x ih => intro hx; exact safe_one hx (by exact nil_ne) (by simp [kids]) fun y hy => by rw [List.mem_singleton.1 hy]; exact ih hx.2
 | isn n x ih => intro hx; exact safe_one hx (by exact nil_ne) (by simp [kids]) fun y hy => by rw [List.mem_singleton.1 hy]; exact ih hx
 | bin op a b iha ihb =>
   intro hx
   refine safe_one hx (by exact nil_ne) (by simp [kids]) (fun y hy => ?_)
   rcases List.mem_cons.1 hy with rfl | hy
   ·exact iha hx.2.1
   ·rw [List.mem_singleton.1 hy]; exact ihb hx.2.2
 | agg op x ih => intro hx; exact safe_one hx (by exact nil_ne) (by simp [kids]) fun y hy => by rw [List.mem_singleton.1 hy]; exact ih hx.2
end Go.Proofs.YtkfjmgmjbljnbaaGreatDoor
