/-
  The walk of KeyBytes: it returns true, of any row. Condition: unicode/utf8's tables as laid.
-/
import Derived.Test.YthdnphnipfpdkaaDoorKeyRead
import Derived.Test.YthdnphnipfpdkaaDoorRef3Bytes
import Derived.Test.YthdnphnipfpdkaaDoorRow3
import Derived.Test.YthdnphnipfpdkaaDoorAwake3
import Derived.Test.YthdnphnipfpdkaaDoorWalkKeyJoins
namespace Go.Proofs.YthdnphnipfpdkaaDoor
open Go.RowKit

theorem bytes3_right (A : Option Addr) (n c : Nat) (l : List Lp.V) (hn0 : n = l.length) (w : World) (h : RdsV w A l) (hn : l.length ≤ 1073741824) (hs : ∀ v ∈ l, v.ok) (hr : l.all Lp.V.right = true) :
    Calls Tryd.prog 32 #[.slice A n c] w fun e w' => (∃ A' c', e = .returned (.tuple #[.slice A' (Lp.kbs l).length c', .int .i64 0]) ∧ Rds w' A' (bv (Lp.kbs l))) ∧ Below w.heap.size w w' := by
  refine (bytes3_any A n c l hn0 w h hn hs).mono ?_
  rintro e w' ⟨hb, ⟨_, A', c', he, ho⟩ | ⟨hf, _⟩⟩
  · exact ⟨⟨A', c', he, ho.rds⟩, hb⟩
  · rw [hr] at hf; cases hf
theorem bytes3_wrong (A : Option Addr) (n c : Nat) (l : List Lp.V) (hn0 : n = l.length) (w : World) (h : RdsV w A l) (hn : l.length ≤ 1073741824) (hs : ∀ v ∈ l, v.ok) (hr : l.all Lp.V.right = false) :
    Calls Tryd.prog 32 #[.slice A n c] w fun e w' => e = .returned (.tuple #[.slice none 0 0, .int .i64 3]) ∧ Below w.heap.size w w' := by
  refine (bytes3_any A n c l hn0 w h hn hs).mono ?_
  rintro e w' ⟨hb, ⟨hf, _⟩ | ⟨_, he⟩⟩
  · rw [hr] at hf; cases hf
  · exact ⟨he, hb⟩
theorem read_some (A : Option Addr) (n c : Nat) (l : List UInt8) (L : List Lp.V) (hL : Lp.kread l = some L) (hnl : n = l.length) (w : World) (h : Rds w A (bv l)) (hc : n ≤ c) (hl : l.length ≤ 1000000) (hT : Tabs w) :
    Calls Tryd.prog 33 #[.slice A n c] w fun e w' => (∃ A' c', e = .returned (.tuple #[.slice A' L.length c', .int .i64 0]) ∧ RdsV w' A' L ∧ ∀ u ∈ L, u.ok) ∧ Below w.heap.size w w' := by
  refine (read_any A n c l hnl w h hc hl hT).mono ?_
  rintro e w' ⟨hb, ⟨L', A', c', ho, he, hr, hk⟩ | ⟨ho, _⟩⟩
  · rw [hL] at ho
    injection ho with ho
    subst ho
    exact ⟨⟨A', c', he, hr, hk⟩, hb⟩
  · rw [hL] at ho; cases ho
theorem read_none (A : Option Addr) (n c : Nat) (l : List UInt8) (hL : Lp.kread l = none) (hnl : n = l.length) (w : World) (h : Rds w A (bv l)) (hc : n ≤ c) (hl : l.length ≤ 1000000) (hT : Tabs w) :
    Calls Tryd.prog 33 #[.slice A n c] w fun e w' => e = .returned (.tuple #[.slice none 0 0, .int .i64 3]) ∧ Below w.heap.size w w' := by
  refine (read_any A n c l hnl w h hc hl hT).mono ?_
  rintro e w' ⟨hb, ⟨L', A', c', ho, _⟩ | ⟨_, he⟩⟩
  · rw [hL] at ho; cases ho
  · exact ⟨he, hb⟩

set_option maxRecDepth 100000 in
set_option maxHeartbeats 4000000 in
theorem keyBytes_walk (A1 : Option Addr) (c1 : Nat) (l1 : List Lp.V) (w : World) (h1 : RdsV w A1 l1) (hc1 : l1.length ≤ c1) (k1 : ∀ u ∈ l1, u.ok) (hT : Tabs w) :
    Calls Tryd.prog 10 #[.slice A1 l1.length c1] w fun e w' => e = .returned (.bool true) ∧ Below w.heap.size w w' := by
  obtain ⟨iV, hiV, hzV0, hzV1, hzV2⟩ := info_parts valInfo
  go_enter Tryd.func10, Tryd.ntmps10
  go_wp2_with fail
  refine (awake3_any _ hT).mono ?_
  rintro e w1 ⟨rfl, hb1⟩
  have g1 := (h1.take (min (l1.length : Int) 12).toNat).below hb1
  have hT1 := tabs_below hT hb1
  have K1 := Lib.hid (fun u (hu : u ∈ l1.take (min (l1.length : Int) 12).toNat) => k1 u (List.mem_of_mem_take hu))
  have n1 : Hid ((min (l1.length : Int) 12).toNat = (l1.take (min (l1.length : Int) 12).toNat).length) := by show _ = _; rw [List.length_take]; omega
  have m1 : (min (l1.length : Int) 12).toNat ≤ 12 := by omega
  have b1 : (min (l1.length : Int) 12).toNat ≤ c1 := by omega
  clear h1 hT k1
  have hown0 := World.ownsRow_made (e := 36) (size := 4) w1 #[] 0 (Nat.le_refl _) (by simp [maxLen]) rfl
  have hr0 := g1.below ((Below.refl _ _).alloc (Nat.le_refl _) (.cells #[] 36))
  have hsz1 := hb1.size
  go_wp2_with (at_builtin; refine wpList_app _ rfl (.tmp 11) (.tmp 16) _ rfl w1.heap.size 36 iV _ 4 40 Tryd.underlying28 hiV hzV0 hzV1 hzV2 rfl (by omega) _ 0 0 [] rfl hown0 A1 (min (l1.length : Int) 12).toNat c1 (Lp.vv (l1.take (min (l1.length : Int) 12).toNat)) rfl (by rw [Lp.vv_length, ← n1.out]) hr0 (vv_one _) (by simp only [maxLen]; omega) (by omega) (by simp) ?_; intro A2 c2 w2 hown2 hb2 hg2 _)
  simp only [Nat.zero_add, List.nil_append] at hown2
  have hbw2 := (hb1.alloc hsz1 (.cells #[] 36)).trans (hb2.mono hsz1)
  have hT2 := tabs_below hT1 (((Below.refl _ _).alloc (Nat.le_refl _) _).trans hb2)
  have rL : RdsV w2 A2 (l1.take (min (l1.length : Int) 12).toNat) := Rds.own hown2
  clear g1 hT1 hown0 hr0 hown2 hb2 hg2 hb1 hsz1
  generalize l1.take (min (l1.length : Int) 12).toNat = L at *
  generalize (min (l1.length : Int) 12).toNat = M at *
  have e1 : L.length ≤ 12 := by rw [← n1.out]; exact m1
  have hz2 := hbw2.size
  go_wp2_with fail
  cases r1 : L.all Lp.V.right
  · have R1 := Lib.hid r1
    clear r1
    refine (keyBytes_wrong _ _ _ L n1.out _ rL hT2 (by omega) K1.out R1.out).mono ?_
    rintro e w3 ⟨rfl, hb3⟩
    have rL3 := rL.below hb3
    have hT3 := tabs_below hT2 hb3
    have hbw3 := hbw2.trans (hb3.mono hz2)
    clear rL hT2 hb3 hbw2
    go_wp2_with fail
    refine (bytes3_wrong _ _ _ L n1.out _ rL3 (by omega) K1.out R1.out).mono ?_
    rintro e w4 ⟨rfl, hb4⟩
    have hT4 := tabs_below hT3 hb4
    have hbw4 := hbw3.trans (hb4.mono hbw3.size)
    clear hb4 hbw3 rL3
    go_wp2_with fail
    refine (same3_any none none _ _ [] [] _ _ rfl rfl _ Rds.nil_ Rds.nil_).mono ?_
    rintro e w' ⟨rfl, rfl⟩
    go_wp2_with fail
    refine (read_some none _ _ [] [] Lp.kread_nil rfl _ Rds.nil_ (Nat.le_refl _) (by simp) hT4).mono ?_
    rintro e w5 ⟨⟨A5, c5, rfl, _, _⟩, hb5⟩
    go_wp2
    go_ret
    exact ⟨rfl, hbw4.trans (hb5.mono hbw4.size)⟩
  · have HKR := Lib.hid (Lp.kread_kbs r1 K1.out)
    have hkl := Lp.kbs_le r1
    have R1 := Lib.hid r1
    clear r1
    refine (keyBytes_right _ _ _ L _ n1.out rfl _ rL hT2 (by omega) K1.out R1.out).mono ?_
    rintro e w3 ⟨⟨AP, cP, rfl, oP⟩, hb3⟩
    have rL3 := rL.below hb3
    have hT3 := tabs_below hT2 hb3
    have rP3 := oP.rds
    have hcP := own_le oP
    have hbw3 := hbw2.trans (hb3.mono hz2)
    clear rL hT2 hb3 hbw2 oP
    go_wp2_with fail
    refine (bytes3_right _ _ _ L n1.out _ rL3 (by omega) K1.out R1.out).mono ?_
    rintro e w4 ⟨⟨AQ, cQ, rfl, rQ4⟩, hb4⟩
    have rL4 := rL3.below hb4
    have hT4 := tabs_below hT3 hb4
    have rP4 := rP3.below hb4
    have hbw4 := hbw3.trans (hb4.mono hbw3.size)
    clear hb4 hbw3 rL3 hT3 rP3
    go_wp2_with fail
    refine (same3_any _ _ _ _ (Lp.kbs L) (Lp.kbs L) _ _ rfl rfl _ rP4 rQ4).mono ?_
    rintro e w' ⟨rfl, rfl⟩
    rw [beq_self_eq_true]
    go_wp2_with fail
    refine (read_some _ _ _ (Lp.kbs L) L HKR.out rfl _ rP4 hcP (by omega) hT4).mono ?_
    rintro e w5 ⟨⟨A5, c5, rfl, r5, _⟩, hb5⟩
    have rL5 := rL4.below hb5
    have hbw5 := hbw4.trans (hb5.mono hbw4.size)
    clear hb5 hbw4 rL4 hT4 rP4 rQ4
    go_wp2_with fail
    refine (sameRow_any _ _ _ _ _ _ L L true rfl n1.out (Lp.sameRow_self L) _ r5 rL5 (by omega)).mono ?_
    rintro e w6 ⟨rfl, hb6⟩
    go_wp2
    go_ret
    exact ⟨rfl, hbw5.trans (hb6.mono hbw5.size)⟩
end Go.Proofs.YthdnphnipfpdkaaDoor
