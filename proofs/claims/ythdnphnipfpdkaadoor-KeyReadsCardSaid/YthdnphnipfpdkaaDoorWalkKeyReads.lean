/-
  The walk of KeyReads: it returns true, of any bytes. Condition: unicode/utf8's tables as laid.
-/
import Derived.Test.YthdnphnipfpdkaaDoorWalkKeyBytes
import Derived.Test.YthdnphnipfpdkaaDoorRef3Read
namespace Go.Proofs.YthdnphnipfpdkaaDoor
open Go.RowKit

theorem read3_some (A : Option Addr) (n c : Nat) (l : List UInt8) (L : List Lp.V) (hL : Lp.kread l = some L) (hnl : n = l.length) (w : World) (h : Rds w A (bv l)) (hc : n ≤ c) (hl : l.length ≤ 1000000) :
    Calls Tryd.prog 34 #[.slice A n c] w fun e w' => (∃ A' c', e = .returned (.tuple #[.slice A' L.length c', .int .i64 0]) ∧ RdsV w' A' L) ∧ Below w.heap.size w w' := by
  refine (read3_any A n c l hnl w h hc hl).mono ?_
  rintro e w' ⟨hb, ⟨L', A', c', ho, he, hr, hk⟩ | ⟨ho, _⟩⟩
  · rw [hL] at ho
    injection ho with ho
    subst ho
    exact ⟨⟨A', c', he, hr⟩, hb⟩
  · rw [hL] at ho; cases ho
theorem read3_none (A : Option Addr) (n c : Nat) (l : List UInt8) (hL : Lp.kread l = none) (hnl : n = l.length) (w : World) (h : Rds w A (bv l)) (hc : n ≤ c) (hl : l.length ≤ 1000000) :
    Calls Tryd.prog 34 #[.slice A n c] w fun e w' => e = .returned (.tuple #[.slice none 0 0, .int .i64 3]) ∧ Below w.heap.size w w' := by
  refine (read3_any A n c l hnl w h hc hl).mono ?_
  rintro e w' ⟨hb, ⟨L', A', c', ho, _⟩ | ⟨_, he⟩⟩
  · rw [hL] at ho; cases ho
  · exact ⟨he, hb⟩
theorem kread_len (n : Nat) : ∀ {l : List UInt8} {L : List Lp.V}, l.length ≤ n → Lp.kread l = some L → L.length ≤ l.length := by
  induction n with
  | zero =>
    intro l L hn h
    have : l = [] := List.eq_nil_of_length_eq_zero (by omega)
    subst this
    rw [Lp.kread_nil] at h; injection h with h; subst h; simp
  | succ n ih =>
    intro l L hn h
    by_cases hl : l = []
    · subst hl; rw [Lp.kread_nil] at h; injection h with h; subst h; simp
    · cases hk : Lp.ktake l with
      | none => rw [Lp.kread_none hl hk] at h; cases h
      | some x =>
        obtain ⟨v, r⟩ := x
        have hlt := Lp.ktake_less hk
        rw [Lp.kread_some hk] at h
        cases hr : Lp.kread r with
        | none => rw [hr] at h; cases h
        | some R =>
          rw [hr] at h
          simp only [Option.map_some, Option.some.injEq] at h
          have := ih (l := r) (L := R) (by omega) hr
          rw [← h]; simp; omega

set_option maxRecDepth 100000 in
set_option maxHeartbeats 4000000 in
theorem keyReads_walk (A : Option Addr) (c : Nat) (l : List UInt8) (w : World) (h : Rds w A (bv l)) (hc : l.length ≤ c) (hT : Tabs w) :
    Calls Tryd.prog 11 #[.slice A l.length c] w fun e w' => e = .returned (.bool true) ∧ Below w.heap.size w w' := by
  obtain ⟨i0, hi0, hz0, hz1, hz2⟩ := info_parts byteInfo
  go_enter Tryd.func11, Tryd.ntmps11
  go_wp2_with fail
  refine (awake3_any _ hT).mono ?_
  rintro e w1 ⟨rfl, hb1⟩
  have g1 := h.below hb1
  have hT1 := tabs_below hT hb1
  clear h hT
  go_wp2_with fail
  refine (cut3_any A c l 300 (by omega) w1 g1 (by omega) hc).mono ?_
  rintro e w2 ⟨AP, cP, rfl, oP, hb2⟩
  have hT2 := tabs_below hT1 hb2
  have hP : (l.take (300 : Int).toNat).length ≤ 300 := by simp; omega
  have hbw2 := hb1.trans (hb2.mono hb1.size)
  have rP := oP.rds
  have hcP := own_le oP
  clear g1 hT1 hb1 hb2 oP
  generalize l.take (300 : Int).toNat = P at *
  go_wp2_with fail
  refine (copy3_any AP cP P w2 rP (by omega)).mono ?_
  rintro e w3 ⟨AC, cC, rfl, oC, hb3⟩
  have hbw3 := hbw2.trans (hb3.mono hbw2.size)
  have hz23 := hb3.size
  have hy2 := hbw2.size
  go_wp2_with (at_builtin; refine wpList_app _ rfl (.tmp 13) (.tmp 14) _ rfl w2.heap.size 5 i0 _ 1 1 Tryd.underlying22 hi0 hz0 hz1 hz2 rfl (by omega) _ _ _ _ rfl (World.ownsRow.alloc oC _) _ 1 1 [.int .u8 165] rfl rfl (rds_new _ _ _) (by simp [Value.oneCell']) (by simp only [maxLen]; omega) (by omega) (by simp; omega) ?_; intro A4 c4 w4 o4 hb4 hg4 _; have hcap := own_le o4)
  have hb24 : Below w2.heap.size w2 w4 := hb3.trans (((Below.refl _ _).alloc hz23 _).trans hb4)
  have rP4 := rP.below hb24
  have hT4 := tabs_below hT2 hb24
  have hbw4 := hbw2.trans (hb24.mono hy2)
  have rQ0 := Rds.take (Rds.own o4) P.length
  have ht : (bv P ++ [Value.int .u8 165]).take P.length = bv P := by rw [List.take_append_of_le_length (by rw [bv_length]; exact Nat.le_refl _), List.take_of_length_le (by rw [bv_length]; exact Nat.le_refl _)]
  rw [ht] at rQ0
  obtain ⟨g, cap, hv, hgB, hlt⟩ := World.ownsRow.form o4 (by omega)
  injection hv with hA _ hC
  subst hA hC
  have q4 := World.ownsRow.cellAt o4 P.length (by omega)
  have hq : (bv P ++ [Value.int .u8 165])[P.length]? = some (.int .u8 165) := by rw [List.getElem?_append_right (by rw [bv_length]; exact Nat.le_refl _), bv_length, Nat.sub_self]; rfl
  rw [hq] at q4
  have rQ4 := rQ0
  clear hq ht rQ0 o4 hb4 hg4 hb3 oC hb24 rP hT2 hbw2 hbw3
  cases hk : Lp.kread P with
  | none =>
    have HK := Lib.hid hk
    clear hk
    refine (read_none _ _ _ P HK.out rfl _ rQ4 (by omega) (by omega) hT4).mono ?_
    rintro e w5 ⟨rfl, hb5⟩
    have rP5 := rP4.below hb5
    have rQ5 := rQ4.below hb5
    have q5 := (hb5.cell (p := ⟨g, P.length, none⟩) hlt).trans q4
    have hlt5 : g < w5.heap.size := Nat.lt_of_lt_of_le hlt hb5.size
    have hbw5 := hbw4.trans (hb5.mono hbw4.size)
    clear hb5 hbw4 rP4 rQ4 q4 hT4
    go_wp2_with fail
    refine (read3_none _ _ _ P HK.out rfl _ rP5 hcP (by omega)).mono ?_
    rintro e w6 ⟨rfl, hb6⟩
    have rP6 := rP5.below hb6
    have rQ6 := rQ5.below hb6
    have q6 := (hb6.cell (p := ⟨g, P.length, none⟩) hlt5).trans q5
    have hlt6 : g < w6.heap.size := Nat.lt_of_lt_of_le hlt5 hb6.size
    have hbw6 := hbw5.trans (hb6.mono hbw5.size)
    clear hb6 hbw5 rP5 rQ5 q5
    go_wp2_with fail
    refine (sameRow_any none none _ _ _ _ [] [] true rfl rfl rfl _ Rds.nil_ Rds.nil_ (by simp)).mono ?_
    rintro e w7 ⟨rfl, hb7⟩
    have rP7 := rP6.below hb7
    have rQ7 := rQ6.below hb7
    have q7 := (hb7.cell (p := ⟨g, P.length, none⟩) hlt6).trans q6
    have hbw7 := hbw6.trans (hb7.mono hbw6.size)
    clear hb7 hbw6 rP6 rQ6 q6
    go_wp2_with fail
    refine (same3_any _ _ _ _ P P _ _ rfl rfl _ rQ7 rP7).mono ?_
    rintro e w' ⟨rfl, rfl⟩
    rw [beq_self_eq_true]
    have hPl : (0 : Int) ≤ (P.length : Int) := by omega
    go_wp2
    go_ret
    exact ⟨rfl, hbw7⟩
  | some L =>
    have hLl := kread_len _ (Nat.le_refl _) hk
    have HK := Lib.hid hk
    clear hk
    refine (read_some _ _ _ P L HK.out rfl _ rQ4 (by omega) (by omega) hT4).mono ?_
    rintro e w5 ⟨⟨A5, c5, rfl, r5, _⟩, hb5⟩
    have rP5 := rP4.below hb5
    have rQ5 := rQ4.below hb5
    have q5 := (hb5.cell (p := ⟨g, P.length, none⟩) hlt).trans q4
    have hlt5 : g < w5.heap.size := Nat.lt_of_lt_of_le hlt hb5.size
    have hbw5 := hbw4.trans (hb5.mono hbw4.size)
    clear hb5 hbw4 rP4 rQ4 q4 hT4
    go_wp2_with fail
    refine (read3_some _ _ _ P L HK.out rfl _ rP5 hcP (by omega)).mono ?_
    rintro e w6 ⟨⟨A6, c6, rfl, r6⟩, hb6⟩
    have r56 := r5.below hb6
    have rP6 := rP5.below hb6
    have rQ6 := rQ5.below hb6
    have q6 := (hb6.cell (p := ⟨g, P.length, none⟩) hlt5).trans q5
    have hlt6 : g < w6.heap.size := Nat.lt_of_lt_of_le hlt5 hb6.size
    have hbw6 := hbw5.trans (hb6.mono hbw5.size)
    clear hb6 hbw5 rP5 rQ5 q5
    go_wp2_with fail
    refine (sameRow_any _ _ _ _ _ _ L L true rfl rfl (Lp.sameRow_self L) _ r56 r6 (by omega)).mono ?_
    rintro e w7 ⟨rfl, hb7⟩
    have rP7 := rP6.below hb7
    have rQ7 := rQ6.below hb7
    have q7 := (hb7.cell (p := ⟨g, P.length, none⟩) hlt6).trans q6
    have hbw7 := hbw6.trans (hb7.mono hbw6.size)
    clear hb7 hbw6 rP6 rQ6 q6
    go_wp2_with fail
    refine (same3_any _ _ _ _ P P _ _ rfl rfl _ rQ7 rP7).mono ?_
    rintro e w' ⟨rfl, rfl⟩
    rw [beq_self_eq_true]
    have hPl : (0 : Int) ≤ (P.length : Int) := by omega
    go_wp2
    go_ret
    exact ⟨rfl, hbw7⟩
end Go.Proofs.YthdnphnipfpdkaaDoor
