/-
 The document's Kind, of every expression. Conditions: at most 100 tables, 10000 columns in all; right expressions.
-/
import Derived.Test.YtkfjmgmjbljnbaaGreatDoorBParts17
set_option maxRecDepth 100000
set_option maxHeartbeats 16000000
namespace Go.Proofs.YtkfjmgmjbljnbaaGreatDoor
open Go.RowKit
theorem kindInfo17 : (Tryz.prog.info? 29).map (fun i => (i.zero, i.size, i.bytes)) = some (some (.int .u8 0), 1, 1) := by kernel_rfl
def ksOf (sc : List Lp.Tb) (gr : Bool) (xs : List Lp.X) : List Int := xs.map fun y => (Lp.kindX sc y gr).1
theorem ks_len (sc : List Lp.Tb) (gr : Bool) (xs : List Lp.X) : (ksOf sc gr xs).length = xs.length := by simp [ksOf]
theorem ks_snoc (sc : List Lp.Tb) (gr : Bool) {xs : List Lp.X} {i : Nat} (h : i < xs.length) : kv (ksOf sc gr (xs.take i)) ++ [.int .u8 (Lp.kindX sc xs[i] gr).1] = kv (ksOf sc gr (xs.take (i + 1))) := by
 rw [List.take_succ_eq_append_getElem h]
 simp only [kv, ksOf, List.map_append, List.map_cons, List.map_nil]
theorem firstE_next (sc : List Lp.Tb) (gr : Bool) {xs : List Lp.X} {i : Nat} (h : i < xs.length) (h0 : firstE sc gr (xs.take i) = 0) : firstE sc gr (xs.take (i + 1)) = (Lp.kindX sc xs[i] gr).2 := by
 rw [List.take_succ_eq_append_getElem h, firstE_snoc _ _ _ _ h0]
theorem firstE_stop (sc : List Lp.Tb) (gr : Bool) {xs : List Lp.X} {i : Nat} (h : i < xs.length) (h0 : firstE sc gr (xs.take i) = 0) (h1 : (Lp.kindX sc xs[i] gr).2 ≠ 0) : firstE sc gr xs = (Lp.kindX sc xs[i] gr).2 := by
 have h2 := firstE_next sc gr h h0
 have h3 := firstE_pre sc gr (xs.take (i + 1)) (xs.drop (i + 1)) (by rw [h2]; exact h1)
 rw [List.take_append_drop] at h3
 rw [h3, h2]
theorem kids_len (x : Lp.X) : (kids x).length ≤ 2 := by cases x <;> simp [kids]
def KindOk (A : Option Addr) (c : Nat) (l : List TabA) (x : Lp.X) : Prop := ∀ (gr : Bool) (S : Nat → Prop) (w : World) (r : RC), ScA w A l → RX S w x r → Calls Tryz.prog 32 #[.slice A l.length c, r.val, .bool gr] w (KindP (Lp.kindX (scOf l) x gr) w)
theorem kind_end {w w' : World} {p q : Int × Int} (h : p = q) (hb : Below w.heap.size w w') : KindP p w (.returned (.tuple #[.int .u8 q.1, .int .i64 q.2])) w' := by subst h; exact ⟨rfl, hb⟩
theorem node17 (A : Option Addr) (c : Nat) (l : List TabA) (x : Lp.X) (gr gr2 : Bool) (hk : kids x ≠ []) (hg : nodK x = 6 ∧ gr = true ∧ gr2 = false ∨ nodK x ≠ 6 ∧ gr2 = gr) (hend : EndK x) (S : Nat → Prop) (w : World) (Ar : Option Addr) (rs : List RC) (hA : ScA w A l) (hp : Pts S w Ar (kids x) rs) (ho : ∀ y ∈ kids x, KindOk A c l y) :
 Calls Tryz.prog 32 #[.slice A l.length c, (rcN (nodK x) (nodS x) Ar (kids x).length).val, .bool gr] w (KindP (Lp.kindX (scOf l) x gr) w) := by
 obtain ⟨iK, hiK, hz0, hz1, hz2⟩ := info_parts kindInfo17
 have hkx := kind_nod (scOf l) x hk hg
 obtain ⟨R, hR0⟩ : ∃ R, Lp.kindX (scOf l) x gr = R := ⟨_, rfl⟩
 rw [hR0] at hkx ⊢
 have HKX := Lib.hid hkx
 clear hkx hR0
 have hn2 := kids_len x
 have HE := Lib.hid hend
 have key : ∀ G : Bool, G = gr2 → ∀ y ∈ kids x, ∀ (S : Nat → Prop) (w : World) (r : RC), ScA w A l → RX S w y r → Calls Tryz.prog 32 #[.slice A l.length c, r.val, .bool G] w (KindP (Lp.kindX (scOf l) y gr2) w) := by
  rintro G rfl y hy S w r h1 h2
  exact ho y hy G S w r h1 h2
 have HO := Lib.hid key
 simp only [RC.val, rcN]
 have hb0 : Below w.heap.size w (w.alloc (.cells #[.int .u8 (nodK x), .int .u8 0, .int .i64 0, .string ⟨#[]⟩, .bool false, .string ⟨#[]⟩, .string ⟨(nodS x).toArray⟩, .slice Ar (kids x).length (kids x).length] 35)) := (Below.refl _ _).alloc (Nat.le_refl _) _
 have hz := heap_alloc_new w (.cells #[.int .u8 (nodK x), .int .u8 0, .int .i64 0, .string ⟨#[]⟩, .bool false, .string ⟨#[]⟩, .string ⟨(nodS x).toArray⟩, .slice Ar (kids x).length (kids x).length] 35)
 have hc := box_cells hz
 have HB := Lib.hid (And.intro hb0 (And.intro hz (And.intro (hA.below hb0) (hp.below hb0))))
 have h6 : ((nodK x == 6) = true ∧ gr = true ∧ gr2 = false) ∨ ((nodK x == 6) = false ∧ gr2 = gr) := by
  rcases hg with ⟨h1, h2, h3⟩ | ⟨h1, h2⟩
  ·exact .inl ⟨beq_iff_eq.2 h1, h2, h3⟩
  ·exact .inr ⟨beq_eq_false_iff_ne.2 h1, h2⟩
 obtain ⟨xs, hxs⟩ : ∃ xs, kids x = xs := ⟨_, rfl⟩
 rw [hxs] at HKX hn2 HO hb0 hz hc HB ⊢
 have HXS := Lib.hid hxs
 obtain ⟨k, hkk⟩ : ∃ k, nodK x = k := ⟨_, rfl⟩
 rw [hkk] at hb0 hz hc HB h6 ⊢
 have HKK := Lib.hid hkk
 obtain ⟨op, hop⟩ : ∃ op, nodS x = op := ⟨_, rfl⟩
 rw [hop] at hb0 hz hc HB ⊢
 have HOP := Lib.hid hop
 have hnI : (xs.length : Int) ≤ 2 := by omega
 clear hb0 hz hA hp hk hg hend ho key hxs hkk hop
 go_enter Tryz.func32, Tryz.ntmps32
 rcases h6 with ⟨h6, rfl, hg2⟩ | ⟨h6, hg2⟩
 case' inl =>
  have HO2 := Lib.hid (HO.out false hg2.symm)
  clear HO hg2
 case' inr =>
  obtain rfl : gr2 = gr := hg2
  have HO2 := Lib.hid (HO.out gr2 rfl)
  clear HO
 all_goals
  go_wp2_with fail
  generalize (w.alloc (.cells #[.int .u8 k, .int .u8 0, .int .i64 0, .string ⟨#[]⟩, .bool false, .string ⟨#[]⟩, .string ⟨op.toArray⟩, .slice Ar xs.length xs.length] 35)) = W at *
  clear hc
  go_loopw [8, 10, 11, 12, 22] (fun s8 _ _ _ s22 wr => ∃ (i : Nat) (A8 : Option Addr) (c8 : Nat), i ≤ xs.length ∧ s22 = .int .i64 i ∧ s8 = .slice A8 i c8 ∧ firstE (scOf l) gr2 (xs.take i) = 0 ∧ wr.ownsRow W.heap.size 29 1 (.slice A8 i c8) i (kv (ksOf (scOf l) gr2 (xs.take i))) ∧ Below W.heap.size W wr) (fun _ _ _ _ s22 _ => xs.length - (intOf s22).toNat)
  case atStart => exact ⟨0, none, 0, Nat.zero_le _, rfl, rfl, rfl, World.ownsRow_nil _ _ _ _, Below.refl _ _⟩
  case round =>
   obtain ⟨i, A8, c8, hi, rfl, rfl, hf, hown, hb⟩ := hrel
   have hkw := HB.out.1.trans (hb.mono HB.out.1.size)
   by_cases hlt : i < xs.length
   ·have HR := Lib.hid (And.intro hf (And.intro hown hb))
    have hpw := HB.out.2.2.2.below hb
    have hri : i < rs.length := by rw [hpw.1]; exact hlt
    obtain ⟨bR, oR, hAR, q0, q1, q2, q3, q4, q5, q6, q7⟩ := rcs_cells hpw.2.1 hri
    have hrx := hpw.2.2 i hlt hri
    have hok := HO2.out _ (List.getElem_mem hlt)
    have HNX := Lib.hid (firstE_next (scOf l) gr2 hlt hf)
    have HST := Lib.hid (firstE_stop (scOf l) gr2 hlt hf)
    have HKS := Lib.hid (ks_snoc (scOf l) gr2 hlt)
    subst hAR
    generalize rs[i] = r at *
    generalize xs[i] = y at *
    obtain ⟨rk, rvk, rvi, rvs, rvb, rt, rs0, rA, rn, rc⟩ := r
    have hbx : Below wr.heap.size wr (wr.alloc (.cells #[.int .u8 rk, .int .u8 rvk, .int .i64 rvi, .string rvs, .bool rvb, .string rt, .string rs0, .slice rA rn rc] 35)) := (Below.refl _ _).alloc (Nat.le_refl _) _
    have HC := Lib.hid (hok S _ _ ((HB.out.2.2.1.below hb).below hbx) (RX.below hbx hrx))
    simp only [RC.val] at HC
    have HX := Lib.hid (And.intro (own_under hown hbx) (hb.trans (hbx.mono hb.size)))
    clear hf hown hb hpw hri hrx hok hbx hkw
    go_wp2_with fail
    refine HC.out.mono ?_
    rintro e w9 ⟨rfl, hb9⟩
    have hown9 := own_under HX.out.1 hb9
    have hb9w := HX.out.2.trans (hb9.mono HX.out.2.size)
    by_cases h2 : (Lp.kindX (scOf l) y gr2).2 = 0
    ·have HN := Lib.hid (HNX.out.trans h2)
     have HKS2 := Lib.hid HKS.out
     have hsz := hb9w.size
     rw [h2]
     generalize (Lp.kindX (scOf l) y gr2).1 = p1 at *
     have HY := Lib.hid (And.intro hown9 hb9w)
     clear hown9 hb9w hb9 q0 q1 q2 q3 q4 q5 q6 q7 HX HC h2 HST HNX
     go_wp2_with (at_builtin; refine wpList_app _ rfl (.tmp 36) (.tmp 38) _ rfl W.heap.size 29 iK _ 1 1 Tryz.underlying130 hiK hz0 hz1 hz2 rfl (by omega) _ _ _ _ rfl (HY.out.1.alloc _) _ 1 1 [.int .u8 p1] rfl rfl (rds_new _ _ _) (by simp [Value.oneCell']) (by simp only [maxLen]; omega) (by omega) (by simp; omega) ?_; intro A4 c4 w4 hown4 hb4 hg4 _)
     have hb5 := (HY.out.2.alloc hsz _).trans hb4
     rw [HKS2.out] at hown4
     have HZ := Lib.hid (And.intro hown4 hb5)
     clear hown4 hb4 hg4 hb5 HY
     go_wp2
     go_roundw
     case rel => exact ⟨i + 1, A4, c4, by omega, by go_num, by trivial, HN.out, HZ.out.1, HZ.out.2⟩
     case measure => simp [intOf]; omega
    ·have HS := Lib.hid (HST.out h2)
     have e1 : ((Lp.kindX (scOf l) y gr2).2 != 0) = true := by rw [bne, beq_eq_false_iff_ne.2 h2]; rfl
     have HQ := Lib.hid (HB.out.1.trans (hb9w.mono HB.out.1.size))
     have HH2 := Lib.hid h2
     generalize (Lp.kindX (scOf l) y gr2).2 = p2 at *
     clear hown9 hb9w hb9 q0 q1 q2 q3 q4 q5 q6 q7 HX HC h2 HST HNX HKS
     go_wp2
     go_ret2
     exact kind_end (q := (0, p2)) (by rw [HKX.out, HS.out, if_neg HH2.out]) HQ.out
   ·have hi2 : i = xs.length := by omega
    subst hi2
    rw [List.take_length] at hf hown
    have hR : R = endX x (ksOf (scOf l) gr2 xs) := by rw [HKX.out, hf]; exact if_pos rfl
    have hkl := ks_len (scOf l) gr2 xs
    generalize ksOf (scOf l) gr2 xs = ks at *
    have hzr := box_below HB.out.2.1 hb
    have hc := box_cells hzr
    have HQ := Lib.hid hkw
    have HR := Lib.hid hR
    have HL := Lib.hid (show ks.length = (kids x).length by rw [HXS.out]; exact hkl)
    have HW := Lib.hid (And.intro hown hzr)
    have hal := fun (q : Int) => all17_any A8 c8 ks q wr (Rds.own hown) (by omega)
    rw [hkl] at hal
    have HAL := Lib.hid hal
    clear hf hb hkw hR hal hlt
    rcases HE.out with ⟨h1, h2⟩ | ⟨hkn, h1, h2⟩ | ⟨hkn, h1, h2⟩ | ⟨hkn, h1, h2⟩ | ⟨hkn, h1, h0, h2⟩ | ⟨hkn, h1, h0, h2⟩
    ·obtain rfl : k = 5 := by rw [← HKK.out]; exact h1
     have HV := Lib.hid (h2 ks)
     clear h2 HE hkl hown hzr
     go_wp2
     go_ret2
     exact kind_end (q := (3, 0)) (by rw [HR.out, HV.out]) HQ.out
    ·rw [HKK.out] at hkn
     rw [HOP.out] at h1
     obtain ⟨k1, k2, k5⟩ := hkn
     have HV := Lib.hid (h2 ks HL.out)
     have HC := Lib.hid (HAL.out 3)
     clear h2 HE hkl hown hzr
     generalize Lp.allK ks 3 = b at *
     rcases h1 with rfl | rfl | rfl
     all_goals
      simp only [Lp.uNot, Lp.uAnd, Lp.uOr] at *
      cases b
      all_goals
       go_wp2_with fail
       refine HC.out.mono ?_
       rintro e w' ⟨rfl, rfl⟩
       go_wp2
       go_ret2
       first | exact kind_end (q := (3, 0)) (by rw [HR.out, HV.out]; rfl) HQ.out | exact kind_end (q := (0, 8)) (by rw [HR.out, HV.out]; rfl) HQ.out
    ·rw [HKK.out] at hkn
     rw [HOP.out] at h1
     obtain ⟨k1, k2, k5⟩ := hkn
     have HV := Lib.hid (h2 ks HL.out)
     have HC := Lib.hid (HAL.out 1)
     clear h2 HE hkl hown hzr
     generalize Lp.allK ks 1 = b at *
     simp only [List.mem_cons, List.not_mem_nil, or_false] at h1
     rcases h1 with rfl | rfl | rfl | rfl | rfl | rfl
     all_goals
      try simp only [Lp.uSum] at *
      cases b
      all_goals
       go_wp2_with fail
       refine HC.out.mono ?_
       rintro e w' ⟨rfl, rfl⟩
       go_wp2
       go_ret2
       first | exact kind_end (q := (1, 0)) (by rw [HR.out, HV.out]; rfl) HQ.out | exact kind_end (q := (0, 8)) (by rw [HR.out, HV.out]; rfl) HQ.out
    ·rw [HKK.out] at hkn
     rw [HOP.out] at h1
     obtain ⟨k1, k2, k5⟩ := hkn
     have HV := Lib.hid (h2 ks)
     subst h1
     simp only [Lp.uCount] at *
     clear h2 HE hkl hown hzr
     go_wp2
     go_ret2
     exact kind_end (q := (1, 0)) (by rw [HR.out, HV.out]) HQ.out
    ·rw [HKK.out] at hkn
     rw [HOP.out] at h1
     obtain ⟨k1, k2, k5⟩ := hkn
     obtain ⟨a, rfl⟩ := one_of (HL.out.trans h0)
     have HV := Lib.hid (h2 a)
     obtain ⟨b, off, hA8, q0⟩ := (Rds.own hown).at_ (kv_at (l := [a]) (i := 0) (by simp))
     subst hA8
     simp only [Nat.add_zero, List.getElem_cons_zero] at q0
     have hx1 : xs.length = 1 := by simpa using hkl.symm
     clear h2 HE hkl hown hzr HAL
     rcases h1 with rfl | rfl
     all_goals
      simp only [Lp.uMin, Lp.uMax] at *
      go_wp2
      go_ret2
      exact kind_end (q := (a, 0)) (by rw [HR.out, HV.out]) HQ.out
    ·rw [HKK.out] at hkn
     rw [HOP.out] at h1
     obtain ⟨k1, k2, k5⟩ := hkn
     obtain ⟨a, b, rfl⟩ := two_of (HL.out.trans h0)
     have HV := Lib.hid (h2 a b)
     obtain ⟨bb, off, hA8, q0⟩ := (Rds.own hown).at_ (kv_at (l := [a, b]) (i := 0) (by simp))
     obtain ⟨bb2, off2, hA82, q1⟩ := (Rds.own hown).at_ (kv_at (l := [a, b]) (i := 1) (by simp))
     subst hA8
     simp only [Option.some.injEq, Addr.mk.injEq, and_true] at hA82
     obtain ⟨rfl, rfl⟩ := hA82
     simp only [Nat.add_zero, List.getElem_cons_zero, List.getElem_cons_succ] at q0 q1
     have hx1 : xs.length = 2 := by simpa using hkl.symm
     obtain ⟨o1, o2, o3, o4, o5, o6, o7, o8, o9, o10, o11, o12⟩ := cmp_facts op h1
     clear h2 HE hkl hown hzr HAL h1
     cases e1 : (a == 0)
     ·have n1 : (a != 0) = true := by rw [bne, e1]; rfl
      cases e2 : (b == 0)
      ·have n2 : (b != 0) = true := by rw [bne, e2]; rfl
       cases e3 : (a == b)
       ·have n3 : (a != b) = true := by rw [bne, e3]; rfl
        have HT := Lib.hid (show (if a ≠ 0 ∧ b ≠ 0 ∧ a ≠ b then ((0, 8) : Int × Int) else (3, 0)) = (0, 8) from if_pos ⟨ne_of_beq_false e1, ne_of_beq_false e2, ne_of_beq_false e3⟩)
        go_wp2_with fail
        go_region
        go_wp2
        go_ret2
        exact kind_end (q := (0, 8)) (by rw [HR.out, HV.out, HT.out]) HQ.out.drew
       ·have n3 : (a != b) = false := by rw [bne, e3]; rfl
        have HT := Lib.hid (show (if a ≠ 0 ∧ b ≠ 0 ∧ a ≠ b then ((0, 8) : Int × Int) else (3, 0)) = (3, 0) from if_neg fun h => h.2.2 (eq_of_beq e3))
        go_wp2_with fail
        go_region
        go_wp2
        go_ret2
        exact kind_end (q := (3, 0)) (by rw [HR.out, HV.out, HT.out]) HQ.out.drew
      ·have n2 : (b != 0) = false := by rw [bne, e2]; rfl
       have HT := Lib.hid (show (if a ≠ 0 ∧ b ≠ 0 ∧ a ≠ b then ((0, 8) : Int × Int) else (3, 0)) = (3, 0) from if_neg fun h => h.2.1 (eq_of_beq e2))
       go_wp2_with fail
       go_region
       go_wp2
       go_ret2
       exact kind_end (q := (3, 0)) (by rw [HR.out, HV.out, HT.out]) HQ.out.drew
     ·have n1 : (a != 0) = false := by rw [bne, e1]; rfl
      have HT := Lib.hid (show (if a ≠ 0 ∧ b ≠ 0 ∧ a ≠ b then ((0, 8) : Int × Int) else (3, 0)) = (3, 0) from if_neg fun h => h.1 (eq_of_beq e1))
      go_wp2_with fail
      go_region
      go_wp2
      go_ret2
      exact kind_end (q := (3, 0)) (by rw [HR.out, HV.out, HT.out]) HQ.out.drew
theorem kind_one (A : Option Addr) (c : Nat) (l : List TabA) {x : Lp.X} (hx : x.wf) (hk : kids x ≠ []) (ho : ∀ y ∈ kids x, KindOk A c l y) (h6 : nodK x ≠ 6) : KindOk A c l x := by
 intro gr S w r hA hr
 obtain ⟨Ar, rs, rfl, hp⟩ := rx_pts hr hk
 exact node17 A c l x gr gr hk (.inr ⟨h6, rfl⟩) (end_of hx hk) S w Ar rs hA hp ho
theorem kind_grp (A : Option Addr) (n c : Nat) (r : RC) (hr : r.k = 6) (w : World) :
 Calls Tryz.prog 32 #[.slice A n c, r.val, .bool false] w (KindP (0, 3) w) := by
 obtain ⟨k, vk, vi, vs, vb, t, s, Ar, rn, rc⟩ := r
 simp only at hr
 subst hr
 have HB := Lib.hid (show Below w.heap.size w (w.alloc (.cells #[.int .u8 6, .int .u8 vk, .int .i64 vi, .string vs, .bool vb, .string t, .string s, .slice Ar rn rc] 35)) from (Below.refl _ _).alloc (Nat.le_refl _) _)
 simp only [RC.val]
 go_enter Tryz.func32, Tryz.ntmps32
 go_wp2
 go_ret2
 exact ⟨rfl, HB.out⟩
theorem kind17_any (A : Option Addr) (c : Nat) (l : List TabA) (hn : l.length ≤ 100) (hw : Lp.wide (scOf l) ≤ 10000) : ∀ x : Lp.X, x.wf → KindOk A c l x := by
 have nil_ne : ∀ {y : Lp.X} {ys : List Lp.X}, y :: ys ≠ [] := fun h => by cases h
 intro x
 induction x with
 | lit k i s b => intro _ gr S w r hA hr; obtain rfl : r = rcL k i s b := hr; exact kind_lit17 A c l.length k i s b gr w
 | col t s => intro _ gr S w r hA hr; obtain rfl : r = rcC t s := hr; exact kind_col17 A c l t s gr w hA hn hw
 | cnt =>
   intro _ gr S w r hA hr
   obtain rfl : r = rc0 6 Lp.uCount := hr
   exact kind_cnt17 A c l.length gr w
 | un op x ih => intro hx; exact kind_one A c l hx (by exact nil_ne) (fun y hy => by rw [List.mem_singleton.1 hy]; exact ih hx.2) (by show (3 : Int) ≠ 6; decide)
 | isn n x ih => intro hx; exact kind_one A c l hx (by exact nil_ne) (fun y hy => by rw [List.mem_singleton.1 hy]; exact ih hx) (by show (5 : Int) ≠ 6; decide)
 | bin op a b iha ihb =>
   intro hx
   refine kind_one A c l hx (by exact nil_ne) (fun y hy => ?_) (by show (4 : Int) ≠ 6; decide)
   rcases List.mem_cons.1 hy with rfl | hy
   ·exact iha hx.2.1
   ·rw [List.mem_singleton.1 hy]; exact ihb hx.2.2
 | agg op x ih =>
   intro hx gr S w r hA hr
   obtain ⟨Ar, rs, rfl, hp⟩ := rx_pts (x := .agg op x) hr (by exact nil_ne)
   cases gr
   ·exact kind_grp A l.length c _ rfl w
   ·exact node17 A c l (.agg op x) true false (by exact nil_ne) (.inl ⟨rfl, rfl, rfl⟩) (end_of hx (by exact nil_ne)) S w Ar rs hA hp fun y hy => by rw [List.mem_singleton.1 hy]; exact ih hx.2
end Go.Proofs.YtkfjmgmjbljnbaaGreatDoor
