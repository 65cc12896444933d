/-
  The walk of KeyJoins: it returns true, at any two rows. Condition: unicode/utf8's tables as laid.
-/
import Derived.Test.YthdnphnipfpdkaaDoorAwake3
import Derived.Deep.QuietTactic
import Derived.BigQuiet
namespace Go.Proofs.YthdnphnipfpdkaaDoor
open Go.RowKit

theorem valInfo : (Tryd.prog.info? 36).map (fun i => (i.zero, i.size, i.bytes)) = some (some (.agg #[.int .u8 0, .int .i64 0, .string ⟨#[]⟩, .bool false]), 4, 40) := by kernel_rfl
theorem vv_one (l : List Lp.V) : ∀ u ∈ Lp.vv l, u.oneCell' = true := by
  intro u hu
  obtain ⟨v, _, hv⟩ := List.mem_flatMap.1 hu
  simp only [Lp.V.cells, List.mem_cons, List.not_mem_nil, or_false] at hv
  rcases hv with rfl | rfl | rfl | rfl <;> rfl
theorem RdsV.take {w : World} {A : Option Addr} {l : List Lp.V} (h : RdsV w A l) (n : Nat) : RdsV w A (l.take n) := by
  unfold RdsV; rw [← Lp.vv_take]; exact Rds.take h _
theorem RdsV.below {w w' : World} {A : Option Addr} {l : List Lp.V} (h : RdsV w A l) (hb : Below w.heap.size w w') : RdsV w' A l := Rds.below h hb
theorem drewN_below (w : World) (n : Nat) : Below w.heap.size w (w.drewN n) := ⟨rfl, rfl, rfl, Nat.le_refl _, fun _ _ => rfl⟩
theorem own_stays {w w' : World} {B n size : Nat} {e : TypeId} {v : Value} {xs : List Value} {r : Option Nat} (h : w.ownsRow B e size v n xs) (hg : w.grownBy w' r) (hr : ∀ k, r = some k → k < B) : w'.ownsRow B e size v n xs := by
  refine h.kept hg ?_
  cases hv : v.ownBlock with
  | none => exact .inl rfl
  | some k =>
    refine .inr fun e => ?_
    have h1 := (h.lt k hv).1
    have h2 := hr k e.symm
    omega

/-- key.Bytes of a row that is not all right. -/
theorem keyBytes_wrong (A : Option Addr) (n c : Nat) (l : List Lp.V) (hn0 : n = l.length) (w : World) (h : RdsV w A l) (hT : Tabs w) (hn : l.length ≤ 1073741824) (hs : ∀ v ∈ l, v.ok) (hr : l.all Lp.V.right = false) :
    Calls Tryd.prog 22 #[.slice A n c] w fun e w' => e = .returned (.tuple #[.slice none 0 0, .int .i64 3]) ∧ Below w.heap.size w w' := by
  subst hn0
  refine (keyBytes_any A c l w h hT hn hs).mono ?_
  rintro e w' ⟨hb, ⟨hf, _⟩ | ⟨_, he⟩⟩
  · rw [hr] at hf; cases hf
  · exact ⟨he, hb⟩

set_option maxHeartbeats 4000000 in
theorem keyJoins_walk (A1 A2 : Option Addr) (c1 c2 : Nat) (l1 l2 : List Lp.V) (w : World) (h1 : RdsV w A1 l1) (h2 : RdsV w A2 l2)
    (hc1 : l1.length ≤ c1) (hc2 : l2.length ≤ c2) (k1 : ∀ u ∈ l1, u.ok) (k2 : ∀ u ∈ l2, u.ok) (hT : Tabs w) :
    Calls Tryd.prog 4 #[.slice A1 l1.length c1, .slice A2 l2.length c2] w fun e w' => e = .returned (.bool true) ∧ Below w.heap.size w w' := by
  obtain ⟨i0, hi0, hz0, hz1, hz2⟩ := info_parts byteInfo
  obtain ⟨iV, hiV, hzV0, hzV1, hzV2⟩ := info_parts valInfo
  go_enter Tryd.func4, Tryd.ntmps4
  go_wp2_with fail
  refine (awake3_any _ hT).mono ?_
  rintro e w1 ⟨rfl, hb1⟩
  have g1 := (h1.take (min (l1.length : Int) 6).toNat).below hb1
  have g2 := (h2.take (min (l2.length : Int) 6).toNat).below hb1
  have hT1 := tabs_below hT hb1
  have K1 := Lib.hid (fun u (hu : u ∈ l1.take (min (l1.length : Int) 6).toNat) => k1 u (List.mem_of_mem_take hu))
  have K2 := Lib.hid (fun u (hu : u ∈ l2.take (min (l2.length : Int) 6).toNat) => k2 u (List.mem_of_mem_take hu))
  clear h1 h2 hT k1 k2
  go_wp2_with fail
  go_quiet (fail)
  have n1 : Hid ((min (l1.length : Int) 6).toNat = (l1.take (min (l1.length : Int) 6).toNat).length) := by show _ = _; rw [List.length_take]; omega
  have n2 : Hid ((min (l2.length : Int) 6).toNat = (l2.take (min (l2.length : Int) 6).toNat).length) := by show _ = _; rw [List.length_take]; omega
  have m1 : (min (l1.length : Int) 6).toNat ≤ 6 := by omega
  have m2 : (min (l2.length : Int) 6).toNat ≤ 6 := by omega
  have b1 : (min (l1.length : Int) 6).toNat ≤ c1 := by omega
  have b2 : (min (l2.length : Int) 6).toNat ≤ c2 := by omega
  generalize l1.take (min (l1.length : Int) 6).toNat = L1 at *
  generalize l2.take (min (l2.length : Int) 6).toNat = L2 at *
  generalize (min (l1.length : Int) 6).toNat = M1 at *
  generalize (min (l2.length : Int) 6).toNat = M2 at *
  have e1 : L1.length ≤ 6 := by rw [← n1.out]; exact m1
  have e2 : L2.length ≤ 6 := by rw [← n2.out]; exact m2
  have g1q := g1.below (drewN_below w1 nq)
  have g2q := g2.below (drewN_below w1 nq)
  have hTq := tabs_below hT1 (drewN_below w1 nq)
  have hbq := hb1.trans ((drewN_below w1 nq).mono hb1.size)
  clear g1 g2 hT1 hb1
  generalize w1.drewN nq = wq at *
  cases r1 : L1.all Lp.V.right
  · cases r2 : L2.all Lp.V.right
    · go_wp2_with fail
      refine (keyBytes_wrong _ _ _ L1 n1.out _ g1q hTq (by omega) K1.out r1).mono ?_
      rintro e w2 ⟨rfl, hb2⟩
      have g1w := g1q.below hb2
      have g2w := g2q.below hb2
      have hTw := tabs_below hTq hb2
      go_wp2_with fail
      refine (keyBytes_wrong _ _ _ L2 n2.out _ g2w hTw (by omega) K2.out r2).mono ?_
      rintro e w3 ⟨rfl, hb3⟩
      have g1x := g1w.below hb3
      have g2x := g2w.below hb3
      have hTx := tabs_below hTw hb3
      have hbx : Below wq.heap.size wq w3 := hb2.trans (hb3.mono hb2.size)
      have zx := hbx.size
      have hown0 := World.ownsRow_made (e := 36) (size := 4) w3 #[] 0 (Nat.le_refl _) (by simp [maxLen]) rfl
      have g1y : RdsV (w3.alloc (.cells #[] 36)) A1 L1 := g1x.below ((Below.refl _ _).alloc (Nat.le_refl _) _)
      have g2y : RdsV (w3.alloc (.cells #[] 36)) A2 L2 := g2x.below ((Below.refl _ _).alloc (Nat.le_refl _) _)
      have hTy := tabs_alloc hTx (.cells #[] 36)
      have v1 : (Lp.vv L1).length = M1 * 4 := by rw [Lp.vv_length, n1.out]
      have v2 : (Lp.vv L2).length = M2 * 4 := by rw [Lp.vv_length, n2.out]
      have V1 := Lib.hid v1
      have V2 := Lib.hid v2
      clear v1 v2
      go_wp2_with (first
        | (at_builtin; refine wpList_app _ rfl (.tmp 34) (.tmp 35) _ rfl w3.heap.size 36 iV _ 4 40 Tryd.underlying28 hiV hzV0 hzV1 hzV2 rfl (by omega) _ 0 0 [] rfl hown0 A1 M1 c1 (Lp.vv L1) rfl V1.out g1y (vv_one L1) (by simp only [maxLen]; omega) (by omega) (by simp) ?_; intro A5 c5 w5 o5 hb5 _ _; simp only [Nat.zero_add, List.nil_append] at o5; have hb35 := ((Below.refl w3.heap.size w3).alloc (Nat.le_refl _) _).trans hb5; have g2z := g2x.below hb35; have z35 := hb35.size)
        | (at_builtin; refine wpList_app _ rfl (.tmp 36) (.tmp 37) _ rfl w3.heap.size 36 iV _ 4 40 Tryd.underlying28 hiV hzV0 hzV1 hzV2 rfl (by omega) _ _ _ _ rfl o5 A2 M2 c2 (Lp.vv L2) rfl V2.out g2z (vv_one L2) (by simp only [maxLen]; omega) (by omega) (by omega) ?_; intro A6 c6 w6 o6 hb6 _ _))
      rw [← Lp.vv_append] at o6
      have hb36 : Below w3.heap.size w3 w6 := hb35.trans hb6
      have g6 : RdsV w6 A6 (L1 ++ L2) := Rds.own o6
      have hT6 := tabs_below hTx hb36
      have n3 : M1 + M2 = (L1 ++ L2).length := by rw [List.length_append, n1.out, n2.out]
      have N3 := Lib.hid n3
      have K3 := Lib.hid (fun u (hu : u ∈ L1 ++ L2) => (List.mem_append.1 hu).elim (K1.out u) (K2.out u))
      have r3 : (L1 ++ L2).all Lp.V.right = false := by rw [List.all_append, r1, r2]; rfl
      have R3 := Lib.hid r3
      have z6 := hb36.size
      clear n3 r3 hown0 g1y g2y hTy V1 V2 o5 o6 hb5 hb6 g2z
      refine (keyBytes_wrong _ _ _ (L1 ++ L2) N3.out _ g6 hT6 (by rw [List.length_append]; omega) K3.out R3.out).mono ?_
      rintro e w7 ⟨rfl, hb7⟩
      have hbw7 : Below wq.heap.size wq w7 := (hbx.trans (hb36.mono zx)).trans (hb7.mono (by omega))
      go_wp2
      go_ret
      exact ⟨rfl, hbq.trans (hbw7.mono hbq.size)⟩
    · go_wp2_with fail
      refine (keyBytes_wrong _ _ _ L1 n1.out _ g1q hTq (by omega) K1.out r1).mono ?_
      rintro e w2 ⟨rfl, hb2⟩
      have g1w := g1q.below hb2
      have g2w := g2q.below hb2
      have hTw := tabs_below hTq hb2
      go_wp2_with fail
      refine (keyBytes_right _ _ _ L2 _ n2.out rfl _ g2w hTw (by omega) K2.out r2).mono ?_
      rintro e w3 ⟨⟨AQ, cQ, rfl, oQ⟩, hb3⟩
      have g1x := g1w.below hb3
      have g2x := g2w.below hb3
      have hTx := tabs_below hTw hb3
      have hbx : Below wq.heap.size wq w3 := hb2.trans (hb3.mono hb2.size)
      have zx := hbx.size
      have hown0 := World.ownsRow_made (e := 36) (size := 4) w3 #[] 0 (Nat.le_refl _) (by simp [maxLen]) rfl
      have g1y : RdsV (w3.alloc (.cells #[] 36)) A1 L1 := g1x.below ((Below.refl _ _).alloc (Nat.le_refl _) _)
      have g2y : RdsV (w3.alloc (.cells #[] 36)) A2 L2 := g2x.below ((Below.refl _ _).alloc (Nat.le_refl _) _)
      have hTy := tabs_alloc hTx (.cells #[] 36)
      have v1 : (Lp.vv L1).length = M1 * 4 := by rw [Lp.vv_length, n1.out]
      have v2 : (Lp.vv L2).length = M2 * 4 := by rw [Lp.vv_length, n2.out]
      have V1 := Lib.hid v1
      have V2 := Lib.hid v2
      clear v1 v2
      go_wp2_with (first
        | (at_builtin; refine wpList_app _ rfl (.tmp 34) (.tmp 35) _ rfl w3.heap.size 36 iV _ 4 40 Tryd.underlying28 hiV hzV0 hzV1 hzV2 rfl (by omega) _ 0 0 [] rfl hown0 A1 M1 c1 (Lp.vv L1) rfl V1.out g1y (vv_one L1) (by simp only [maxLen]; omega) (by omega) (by simp) ?_; intro A5 c5 w5 o5 hb5 _ _; simp only [Nat.zero_add, List.nil_append] at o5; have hb35 := ((Below.refl w3.heap.size w3).alloc (Nat.le_refl _) _).trans hb5; have g2z := g2x.below hb35; have z35 := hb35.size)
        | (at_builtin; refine wpList_app _ rfl (.tmp 36) (.tmp 37) _ rfl w3.heap.size 36 iV _ 4 40 Tryd.underlying28 hiV hzV0 hzV1 hzV2 rfl (by omega) _ _ _ _ rfl o5 A2 M2 c2 (Lp.vv L2) rfl V2.out g2z (vv_one L2) (by simp only [maxLen]; omega) (by omega) (by omega) ?_; intro A6 c6 w6 o6 hb6 _ _))
      rw [← Lp.vv_append] at o6
      have hb36 : Below w3.heap.size w3 w6 := hb35.trans hb6
      have g6 : RdsV w6 A6 (L1 ++ L2) := Rds.own o6
      have hT6 := tabs_below hTx hb36
      have n3 : M1 + M2 = (L1 ++ L2).length := by rw [List.length_append, n1.out, n2.out]
      have N3 := Lib.hid n3
      have K3 := Lib.hid (fun u (hu : u ∈ L1 ++ L2) => (List.mem_append.1 hu).elim (K1.out u) (K2.out u))
      have r3 : (L1 ++ L2).all Lp.V.right = false := by rw [List.all_append, r1, r2]; rfl
      have R3 := Lib.hid r3
      have z6 := hb36.size
      clear n3 r3 hown0 g1y g2y hTy V1 V2 o5 o6 hb5 hb6 g2z
      refine (keyBytes_wrong _ _ _ (L1 ++ L2) N3.out _ g6 hT6 (by rw [List.length_append]; omega) K3.out R3.out).mono ?_
      rintro e w7 ⟨rfl, hb7⟩
      have hbw7 : Below wq.heap.size wq w7 := (hbx.trans (hb36.mono zx)).trans (hb7.mono (by omega))
      go_wp2
      go_ret
      exact ⟨rfl, hbq.trans (hbw7.mono hbq.size)⟩
  · cases r2 : L2.all Lp.V.right
    · go_wp2_with fail
      refine (keyBytes_right _ _ _ L1 _ n1.out rfl _ g1q hTq (by omega) K1.out r1).mono ?_
      rintro e w2 ⟨⟨AP, cP, rfl, oP⟩, hb2⟩
      have g1w := g1q.below hb2
      have g2w := g2q.below hb2
      have hTw := tabs_below hTq hb2
      go_wp2_with fail
      refine (keyBytes_wrong _ _ _ L2 n2.out _ g2w hTw (by omega) K2.out r2).mono ?_
      rintro e w3 ⟨rfl, hb3⟩
      have g1x := g1w.below hb3
      have g2x := g2w.below hb3
      have hTx := tabs_below hTw hb3
      have hbx : Below wq.heap.size wq w3 := hb2.trans (hb3.mono hb2.size)
      have zx := hbx.size
      have hown0 := World.ownsRow_made (e := 36) (size := 4) w3 #[] 0 (Nat.le_refl _) (by simp [maxLen]) rfl
      have g1y : RdsV (w3.alloc (.cells #[] 36)) A1 L1 := g1x.below ((Below.refl _ _).alloc (Nat.le_refl _) _)
      have g2y : RdsV (w3.alloc (.cells #[] 36)) A2 L2 := g2x.below ((Below.refl _ _).alloc (Nat.le_refl _) _)
      have hTy := tabs_alloc hTx (.cells #[] 36)
      have v1 : (Lp.vv L1).length = M1 * 4 := by rw [Lp.vv_length, n1.out]
      have v2 : (Lp.vv L2).length = M2 * 4 := by rw [Lp.vv_length, n2.out]
      have V1 := Lib.hid v1
      have V2 := Lib.hid v2
      clear v1 v2
      go_wp2_with (first
        | (at_builtin; refine wpList_app _ rfl (.tmp 34) (.tmp 35) _ rfl w3.heap.size 36 iV _ 4 40 Tryd.underlying28 hiV hzV0 hzV1 hzV2 rfl (by omega) _ 0 0 [] rfl hown0 A1 M1 c1 (Lp.vv L1) rfl V1.out g1y (vv_one L1) (by simp only [maxLen]; omega) (by omega) (by simp) ?_; intro A5 c5 w5 o5 hb5 _ _; simp only [Nat.zero_add, List.nil_append] at o5; have hb35 := ((Below.refl w3.heap.size w3).alloc (Nat.le_refl _) _).trans hb5; have g2z := g2x.below hb35; have z35 := hb35.size)
        | (at_builtin; refine wpList_app _ rfl (.tmp 36) (.tmp 37) _ rfl w3.heap.size 36 iV _ 4 40 Tryd.underlying28 hiV hzV0 hzV1 hzV2 rfl (by omega) _ _ _ _ rfl o5 A2 M2 c2 (Lp.vv L2) rfl V2.out g2z (vv_one L2) (by simp only [maxLen]; omega) (by omega) (by omega) ?_; intro A6 c6 w6 o6 hb6 _ _))
      rw [← Lp.vv_append] at o6
      have hb36 : Below w3.heap.size w3 w6 := hb35.trans hb6
      have g6 : RdsV w6 A6 (L1 ++ L2) := Rds.own o6
      have hT6 := tabs_below hTx hb36
      have n3 : M1 + M2 = (L1 ++ L2).length := by rw [List.length_append, n1.out, n2.out]
      have N3 := Lib.hid n3
      have K3 := Lib.hid (fun u (hu : u ∈ L1 ++ L2) => (List.mem_append.1 hu).elim (K1.out u) (K2.out u))
      have r3 : (L1 ++ L2).all Lp.V.right = false := by rw [List.all_append, r1, r2]; rfl
      have R3 := Lib.hid r3
      have z6 := hb36.size
      clear n3 r3 hown0 g1y g2y hTy V1 V2 o5 o6 hb5 hb6 g2z
      refine (keyBytes_wrong _ _ _ (L1 ++ L2) N3.out _ g6 hT6 (by rw [List.length_append]; omega) K3.out R3.out).mono ?_
      rintro e w7 ⟨rfl, hb7⟩
      have hbw7 : Below wq.heap.size wq w7 := (hbx.trans (hb36.mono zx)).trans (hb7.mono (by omega))
      go_wp2
      go_ret
      exact ⟨rfl, hbq.trans (hbw7.mono hbq.size)⟩
    · go_wp2_with fail
      refine (keyBytes_right _ _ _ L1 _ n1.out rfl _ g1q hTq (by omega) K1.out r1).mono ?_
      rintro e w2 ⟨⟨AP, cP, rfl, oP⟩, hb2⟩
      have g1w := g1q.below hb2
      have g2w := g2q.below hb2
      have hTw := tabs_below hTq hb2
      go_wp2_with fail
      refine (keyBytes_right _ _ _ L2 _ n2.out rfl _ g2w hTw (by omega) K2.out r2).mono ?_
      rintro e w3 ⟨⟨AQ, cQ, rfl, oQ⟩, hb3⟩
      have g1x := g1w.below hb3
      have g2x := g2w.below hb3
      have hTx := tabs_below hTw hb3
      have hbx : Below wq.heap.size wq w3 := hb2.trans (hb3.mono hb2.size)
      have zx := hbx.size
      have hown0 := World.ownsRow_made (e := 36) (size := 4) w3 #[] 0 (Nat.le_refl _) (by simp [maxLen]) rfl
      have g1y : RdsV (w3.alloc (.cells #[] 36)) A1 L1 := g1x.below ((Below.refl _ _).alloc (Nat.le_refl _) _)
      have g2y : RdsV (w3.alloc (.cells #[] 36)) A2 L2 := g2x.below ((Below.refl _ _).alloc (Nat.le_refl _) _)
      have hTy := tabs_alloc hTx (.cells #[] 36)
      have v1 : (Lp.vv L1).length = M1 * 4 := by rw [Lp.vv_length, n1.out]
      have v2 : (Lp.vv L2).length = M2 * 4 := by rw [Lp.vv_length, n2.out]
      have V1 := Lib.hid v1
      have V2 := Lib.hid v2
      clear v1 v2
      go_wp2_with (first
        | (at_builtin; refine wpList_app _ rfl (.tmp 34) (.tmp 35) _ rfl w3.heap.size 36 iV _ 4 40 Tryd.underlying28 hiV hzV0 hzV1 hzV2 rfl (by omega) _ 0 0 [] rfl hown0 A1 M1 c1 (Lp.vv L1) rfl V1.out g1y (vv_one L1) (by simp only [maxLen]; omega) (by omega) (by simp) ?_; intro A5 c5 w5 o5 hb5 _ _; simp only [Nat.zero_add, List.nil_append] at o5; have hb35 := ((Below.refl w3.heap.size w3).alloc (Nat.le_refl _) _).trans hb5; have g2z := g2x.below hb35; have z35 := hb35.size)
        | (at_builtin; refine wpList_app _ rfl (.tmp 36) (.tmp 37) _ rfl w3.heap.size 36 iV _ 4 40 Tryd.underlying28 hiV hzV0 hzV1 hzV2 rfl (by omega) _ _ _ _ rfl o5 A2 M2 c2 (Lp.vv L2) rfl V2.out g2z (vv_one L2) (by simp only [maxLen]; omega) (by omega) (by omega) ?_; intro A6 c6 w6 o6 hb6 _ _))
      rw [← Lp.vv_append] at o6
      have hb36 : Below w3.heap.size w3 w6 := hb35.trans hb6
      have g6 : RdsV w6 A6 (L1 ++ L2) := Rds.own o6
      have hT6 := tabs_below hTx hb36
      have n3 : M1 + M2 = (L1 ++ L2).length := by rw [List.length_append, n1.out, n2.out]
      have N3 := Lib.hid n3
      have K3 := Lib.hid (fun u (hu : u ∈ L1 ++ L2) => (List.mem_append.1 hu).elim (K1.out u) (K2.out u))
      have r3 : (L1 ++ L2).all Lp.V.right = true := by rw [List.all_append, r1, r2]; rfl
      have R3 := Lib.hid r3
      have z6 := hb36.size
      have oP6 := own_below (own_below oP hb3) (hb36)
      have oQ6 := own_below oQ hb36
      clear n3 r3 hown0 g1y g2y hTy V1 V2 o5 o6 hb5 hb6 g2z
      refine (keyBytes_right _ _ _ (L1 ++ L2) _ N3.out (Lp.kbs_append L1 L2) _ g6 hT6 (by rw [List.length_append]; omega) K3.out R3.out).mono ?_
      rintro e w7 ⟨⟨AA, cA, rfl, oA⟩, hb7⟩
      have oP7 := own_below oP6 hb7
      have PK : Hid (∀ k, Value.ownBlock (.slice AP (Lp.kbs L1).length cP) = some k → k < w6.heap.size) := fun k hk => by
        have q1 := (World.ownsRow.lt oP k hk).2; have q2 := hb3.size; omega
      have rQ7 := Rds.own (own_below oQ6 hb7)
      have z7 := hb7.size
      have y1 := Lp.kbs_le r1
      have y2 := Lp.kbs_le r2
      have hbw7 : Below wq.heap.size wq w7 := (hbx.trans (hb36.mono zx)).trans (hb7.mono (by omega))
      clear oP oQ oP6 oQ6 g6 hT6 hb7 hb36 g1x g2x hTx g1w g2w hTw g1q g2q hTq hb2 hb3 hbx hb35
      go_wp2_with (first
        | (at_builtin; refine wpList_app_g _ (by rfl) (.tmp 59) (.tmp 60) _ rfl wq.heap.size 5 i0 _ 1 1 Tryd.underlying22 hi0 hz0 hz1 hz2 rfl (Nat.zero_lt_one) _ _ _ _ rfl oP7 AQ (Lp.kbs L2).length cQ (bv (Lp.kbs L2)) rfl (by rw [bv_length, Nat.mul_one]) rQ7 (bv_one _) (by simp only [maxLen]; omega) (by omega) (by omega) ?_; intro A8 c8 w8 o8 hb8 hg8 _))
      rw [← bv_append] at o8
      have rA8 := Rds.own (own_stays oA hg8 PK.out)
      refine (same3_any _ _ _ _ (Lp.kbs L1 ++ Lp.kbs L2) (Lp.kbs L1 ++ Lp.kbs L2) _ _ (by simp) (by simp) _ rA8 (Rds.own o8)).mono ?_
      rintro e w' ⟨rfl, rfl⟩
      go_wp2
      go_ret
      exact ⟨rfl, hbq.trans ((hbw7.trans hb8).mono hbq.size)⟩
end Go.Proofs.YthdnphnipfpdkaaDoor
