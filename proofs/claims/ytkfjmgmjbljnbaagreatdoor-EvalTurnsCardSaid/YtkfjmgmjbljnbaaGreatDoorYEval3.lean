/-
 eval's parts. Conditions: what value gives of each.
-/
import Derived.Test.YtkfjmgmjbljnbaaGreatDoorYEval2
import Derived.Test.YtkfjmgmjbljnbaaGreatDoorYGE
set_option maxRecDepth 100000
set_option maxHeartbeats 8000000
namespace Go.Proofs.YtkfjmgmjbljnbaaGreatDoor
open Go.RowKit
def EvOk (sc : List Lp.Tb) (f : Fr) (x : Lp.X) : Prop := ∀ (S : Nat → Prop) (W : World) (g : Nat), NT S W sc x g → f.At W → Calls Tryz.prog 45 #[f.val, ptr g] W (EvPost (Lp.evalX sc x f.row f.rows) W)
def fev (sc : List Lp.Tb) (f : Fr) (x : Lp.X) : Lp.V × Int := Lp.evalX sc x f.row f.rows
def firstV (sc : List Lp.Tb) (f : Fr) : List Lp.X → Int
 | [] => 0
 | x :: r => if (fev sc f x).2 = 0 then firstV sc f r else (fev sc f x).2
theorem firstV_snoc (sc : List Lp.Tb) (f : Fr) (x : Lp.X) : ∀ l, firstV sc f l = 0 → firstV sc f (l ++ [x]) = (fev sc f x).2
 | [], _ => by
   show (if (fev sc f x).2 = 0 then (0 : Int) else _) = _
   split
   ·rename_i h; exact h.symm
   ·rfl
 | y :: l, h => by
   have h0 : (fev sc f y).2 = 0 := by
    unfold firstV at h
    split at h
    ·assumption
    ·rename_i h1; exact absurd h h1
   have h1 : firstV sc f l = 0 := by
    unfold firstV at h
    rwa [if_pos h0] at h
   show (if (fev sc f y).2 = 0 then firstV sc f (l ++ [x]) else _) = _
   rw [if_pos h0, firstV_snoc sc f x l h1]
theorem firstV_pre (sc : List Lp.Tb) (f : Fr) : ∀ l r, firstV sc f l ≠ 0 → firstV sc f (l ++ r) = firstV sc f l
 | [], _, h => absurd rfl h
 | y :: l, r, h => by
   show (if (fev sc f y).2 = 0 then firstV sc f (l ++ r) else _) = (if (fev sc f y).2 = 0 then firstV sc f l else _)
   unfold firstV at h
   split
   ·rename_i h0
    rw [if_pos h0] at h
    exact firstV_pre sc f l r h
   ·rfl
theorem NTs.both {S : Nat → Prop} {w : World} {sc : List Lp.Tb} : ∀ {xs : List Lp.X} {gs : List Nat} (_ : NTs S w sc xs gs), xs.length = gs.length ∧ ∀ (i : Nat) (x : Lp.X) (g : Nat), xs[i]? = some x → gs[i]? = some g → NT S w sc x g
 | [], [], _ => ⟨rfl, fun i x g h _ => by simp at h⟩
 | x :: xs, g :: gs, h => by
   obtain ⟨h1, h2⟩ := h.2.both
   refine ⟨by simp [h1], fun i y k hy hk => ?_⟩
   cases i with
   | zero =>
     simp at hy hk
     subst hy hk
     exact h.1
   | succ i => exact h2 i y k (by simpa using hy) (by simpa using hk)
 | [], _ :: _, h => h.elim
 | _ :: _, [], h => h.elim
def EPPost (sc : List Lp.Tb) (f : Fr) (xs : List Lp.X) (w : World) (e : Ending) (w' : World) : Prop :=
 Below w.heap.size w w' ∧ if firstV sc f xs = 0 then ∃ Ao co, e = .returned (.tuple #[.slice Ao xs.length co, .int .i64 0]) ∧ RdsV w' Ao (xs.map fun x => (fev sc f x).1)
  else e = .returned (.tuple #[.slice none 0 0, .int .i64 (firstV sc f xs)])
theorem eparts_yes {sc : List Lp.Tb} {f : Fr} {xs : List Lp.X} {w w' : World} {A1 : Option Addr} {n c1 B : Nat} (hn : n = xs.length) (hq : firstV sc f xs = 0) (hb : Below w.heap.size w w') (hown : w'.ownsRow B 31 4 (.slice A1 n c1) n (Lp.vv (xs.map fun x => (fev sc f x).1))) :
 EPPost sc f xs w (.returned (.tuple #[.slice A1 n c1, .int .i64 0])) w' := by
 subst hn
 refine ⟨hb, ?_⟩
 rw [if_pos hq]
 exact ⟨A1, c1, rfl, Rds.own hown⟩
theorem eparts_no {sc : List Lp.Tb} {f : Fr} {xs : List Lp.X} {w w' : World} {E : Int} (hE : E ≠ 0) (hq : firstV sc f xs = E) (hb : Below w.heap.size w w') : EPPost sc f xs w (.returned (.tuple #[.slice none 0 0, .int .i64 E])) w' := by
 subst hq
 refine ⟨hb, ?_⟩
 rw [if_neg hE]
theorem valInfo : (Tryz.prog.info? 31).map (fun i => (i.zero, i.size, i.bytes)) = some (some (.agg #[.int .u8 0, .int .i64 0, .string ⟨#[]⟩, .bool false]), 4, 40) := by kernel_rfl
theorem eparts_any (sc : List Lp.Tb) (f : Fr) (xs : List Lp.X) (gs : List Nat) (S : Nat → Prop) (g : Nat) (op : List UInt8) (kd : Int) (v : Lp.V) (a : Int) (A : Option Addr) (c : Nat) (w : World) (hF : f.At w) (hn : xs.length ≤ 10)
 (hg : w.heap[g]? = some (.cells (ndv op kd v a A xs.length c) 66 (0, 0))) (hp : Prts S w A gs) (hnt : NTs S w sc xs gs) (hE : ∀ x ∈ xs, EvOk sc f x) :
 Calls Tryz.prog 83 #[f.val, ptr g] w (EPPost sc f xs w) := by
 obtain ⟨iT, hiT, hz0, hz1, hz2⟩ := info_parts valInfo
 obtain ⟨hlen, hat⟩ := hnt.both
 obtain ⟨b, off, rfl, -, hp⟩ := hp
 have hb0 : Below w.heap.size w (w.alloc (.cells #[f.r.val, .slice f.A f.R.length f.c, .bool f.g] 105)) := ba (Below.refl _ _) _
 have hx0 := heap_alloc_new w (.cells #[f.r.val, .slice f.A f.R.length f.c, .bool f.g] 105)
 have H0 := Lib.hid (And.intro (hF.below hb0) (And.intro hb0 hx0))
 have HP := Lib.hid (fun j u hu => cell_belo (hp j u hu) hb0)
 have HN := Lib.hid (fun i x k h1 h2 => (hat i x k h1 h2).below hb0)
 have HB := Lib.hid hE
 have hcg := box_cells (box_below hg hb0)
 simp only [ndv] at hcg
 have hnI : (xs.length : Int) ≤ 10 := by omega
 clear hF hb0 hx0 hp hat hE hg hnt
 obtain ⟨fr, hfr⟩ : ∃ u, u = f.r.val := ⟨_, rfl⟩
 unfold Fr.val
 rw [← hfr] at H0 hcg HP HN ⊢
 have HFR := Lib.hid hfr
 clear hfr
 unfold ptr at *
 go_enter Tryz.func83, Tryz.ntmps83
 go_wp2_with fail
 generalize (w.alloc (.cells #[fr, .slice f.A f.R.length f.c, .bool f.g] 105)) = W0 at *
 clear hcg
 go_loopw [6, 8, 9, 10, 16] (fun s6 _ _ _ s16 wr => ∃ (i : Nat) (A1 : Option Addr) (c1 : Nat), i ≤ xs.length ∧ s16 = .int .i64 i ∧ s6 = .slice A1 i c1 ∧ wr.ownsRow W0.heap.size 31 4 (.slice A1 i c1) i (Lp.vv ((xs.take i).map fun x => (fev sc f x).1)) ∧ firstV sc f (xs.take i) = 0 ∧ Below W0.heap.size W0 wr) (fun _ _ _ _ s16 _ => xs.length - (intOf s16).toNat)
 case atStart => exact ⟨0, none, 0, Nat.zero_le _, rfl, rfl, World.ownsRow_nil _ _ _ _, rfl, Below.refl _ _⟩
 case round =>
  obtain ⟨i, A1, c1, hi, rfl, rfl, hown, hfe, hb⟩ := hrel
  by_cases hlt : i < xs.length
  ·have hT1 : xs.take (i + 1) = xs.take i ++ [xs[i]] := List.take_succ_eq_append_getElem hlt
   have hgi : gs[i]? = some (gs[i]'(by omega)) := List.getElem?_eq_getElem _
   have hcell := cell_belo (HP.out i _ (by rw [List.getElem?_map, hgi]; rfl)) hb
   have hnx := (HN.out i _ _ (List.getElem?_eq_getElem hlt) hgi).below hb
   have hC := HB.out _ (List.getElem_mem hlt) _ wr _ hnx (H0.out.1.below hb)
   have HPre := Lib.hid (fun (h : firstV sc f (xs.take (i + 1)) ≠ 0) => (show firstV sc f xs = firstV sc f (xs.take (i + 1)) by
    have := firstV_pre sc f (xs.take (i + 1)) (xs.drop (i + 1)) h
    rwa [List.take_append_drop] at this))
   have hFE := firstV_snoc sc f xs[i] _ hfe
   rw [← hT1] at hFE
   have HT1 := Lib.hid hT1
   have hbx := box_cells (box_below H0.out.2.2 hb)
   generalize (xs[i]) = x at *
   generalize (gs[i]'(by omega)) = gx at *
   rw [show Lp.evalX sc x f.row f.rows = fev sc f x from rfl] at hC
   unfold Fr.val ptr at hC
   rw [← HFR.out] at hC
   have HC := Lib.hid hC
   have HFE := Lib.hid hFE
   have HW := Lib.hid (And.intro hown hb)
   clear hT1 hC hfe hFE hown hb hnx hgi
   go_wp2_with fail
   refine HC.out.mono ?_
   rintro e w2 ⟨rfl, hb2⟩
   obtain ⟨⟨⟨k, vi, vs, vb⟩, E⟩, hp⟩ : ∃ p, fev sc f x = p := ⟨_, rfl⟩
   rw [hp] at HFE ⊢
   have HV := Lib.hid hp
   unfold vv4
   clear hp
   by_cases h0 : E = 0
   ·subst h0
    have hown2 := (own_under HW.out.1 hb2)
    have hzw : W0.heap.size ≤ w2.heap.size := Nat.le_trans HW.out.2.size hb2.size
    have HB2 := Lib.hid hb2
    clear hb2 HC
    go_wp2_with (at_builtin; refine wpList_app _ rfl (.tmp 29) (.tmp 31) _ rfl W0.heap.size 31 iT _ 4 40 Tryz.underlying23 hiT hz0 hz1 hz2 rfl (by omega) _ _ _ _ rfl ((hown2.alloc _).alloc _) _ 1 1 (Lp.vv [⟨k, vi, vs, vb⟩]) rfl rfl (rds_blk (Lp.vv [⟨k, vi, vs, vb⟩]) (heap_new2 w2 _ _)) (by simp [Value.oneCell', Lp.vv, Lp.V.cells]) (by simp only [maxLen]; omega) (by omega) (by simp; omega) ?_; intro A2 c2 w4 hown4 hb4 _ hk4)
    have hbn := (((HW.out.2.trans (HB2.out.mono HW.out.2.size)).alloc (by omega) (.cells #[.int .u8 k, .int .i64 vi, .string vs, .bool vb] 31)).alloc (by simp; omega) (.cells #[.int .u8 k, .int .i64 vi, .string vs, .bool vb] 31)).trans hb4
    have hown5 : w4.ownsRow W0.heap.size 31 4 (.slice A2 (i + 1) c2) (i + 1) (Lp.vv ((xs.take (i + 1)).map fun x => (fev sc f x).1)) := by
     rw [HT1.out, List.map_append, Lp.vv_append]
     simp only [List.map_cons, List.map_nil, HV.out]
     exact hown4
    have HNX := Lib.hid (And.intro hown5 hbn)
    clear hown2 hown4 hb4 hk4 hbn hown5
    go_wp2
    go_roundw
    case rel => exact ⟨i + 1, A2, c2, by omega, by go_num, rfl, HNX.out.1, HFE.out, HNX.out.2⟩
    case measure => simp [intOf]; omega
   ·have HR := Lib.hid (eparts_no (w := w) (w' := w2.alloc (.cells #[.int .u8 k, .int .i64 vi, .string vs, .bool vb] 31)) h0 ((HPre.out (by rw [HFE.out]; exact h0)).trans HFE.out) (ba ((H0.out.2.1.trans (HW.out.2.mono H0.out.2.1.size)).trans (hb2.mono (Nat.le_trans H0.out.2.1.size HW.out.2.size))) _))
    have e1 : (E == 0) = false := beq_eq_false_iff_ne.2 h0
    have e2 : (E != 0) = true := by rw [bne, e1]; rfl
    clear h0 hb2
    go_wp2
    go_ret2
    exact HR.out
  ·have hi2 : i = xs.length := by omega
   rw [hi2, List.take_length] at hown hfe
   have HR := Lib.hid (eparts_yes (w := w) (A1 := A1) (c1 := c1) hi2 hfe (H0.out.2.1.trans (hb.mono H0.out.2.1.size)) (by rw [hi2]; exact hown))
   clear hi2 hfe hown hb
   go_wp2
   go_ret2
   exact HR.out
end Go.Proofs.YtkfjmgmjbljnbaaGreatDoor
