/-
  The walk of RowReads: it returns true, of any kinds and any bytes. Condition: unicode/utf8's tables as laid.
-/
import Derived.Test.YthdnphnipfpdkaaDoorRef4Read
import Derived.Test.YthdnphnipfpdkaaDoorAwake4
namespace Go.Proofs.YthdnphnipfpdkaaDoor
open Go.RowKit

theorem rtakes_len {ks : List UInt8} : ∀ {n : Nat} {p q : List UInt8} {L : List Lp.V}, Lp.rtakes ks n p = some (L, q) → L.length = ks.length := by
  induction ks with
  | nil => intro n p q L h; simp only [Lp.rtakes, Option.some.injEq, Prod.mk.injEq] at h; rw [← h.1]; rfl
  | cons k ks ih =>
    intro n p q L h
    rw [Lp.rtakes] at h
    split at h
    · simp only [Option.map_eq_some_iff] at h
      obtain ⟨⟨L', q'⟩, h1, h2⟩ := h
      have h3 := ih h1
      simp only [Prod.mk.injEq] at h2
      rw [← h2.1]; simp [h3]
    · split at h
      · cases h
      · simp only [Option.map_eq_some_iff] at h
        obtain ⟨⟨L', q'⟩, h1, h2⟩ := h
        have h3 := ih h1
        simp only [Prod.mk.injEq] at h2
        rw [← h2.1]; simp [h3]
theorem rread_len {ks l : List UInt8} {L : List Lp.V} (h : Lp.rread ks l = some L) : L.length = ks.length := by
  cases l with
  | nil => cases h
  | cons x r =>
    simp only [Lp.rread] at h
    split at h
    · cases h
    · cases hr : Lp.rtakes ks x.toNat r with
      | none => rw [hr] at h; cases h
      | some y =>
        obtain ⟨L', q⟩ := y
        rw [hr] at h
        cases q with
        | nil => simp only [Option.some.injEq] at h; subst h; exact rtakes_len hr
        | cons => cases h
def Lp.rrow (ks l : List UInt8) : List Lp.V := if Lp.kindsOk ks = true then (Lp.rread ks l).getD [] else []
def Lp.rerr (ks l : List UInt8) : Int := if Lp.kindsOk ks = true then (if (Lp.rread ks l).isSome then 0 else 3) else 1
theorem rrow_len (ks l : List UInt8) : (Lp.rrow ks l).length ≤ 8 := by
  unfold Lp.rrow
  split
  · rename_i h
    cases hr : Lp.rread ks l with
    | none => simp
    | some L => simp only [Option.getD_some]; rw [rread_len hr]; simp [Lp.kindsOk] at h; exact h.1.2
  · simp
theorem readPost_uni {w w' : World} {ks l : List UInt8} {L : List Lp.V} {E : Int} {e : Ending} (hL : Lp.rrow ks l = L) (hE : Lp.rerr ks l = E) (h : RowReadPost w ks l e w') :
    (∃ A' c', e = .returned (.tuple #[.slice A' L.length c', .int .i64 E]) ∧ RdsV w' A' L) ∧ Below w.heap.size w w' := by
  subst hL hE
  obtain ⟨hb, ⟨h0, he⟩ | ⟨h0, ⟨L, A, c, h1, he, hr, _⟩ | ⟨h1, he⟩⟩⟩ := h
  · refine ⟨⟨none, 0, ?_, ?_⟩, hb⟩
    · rw [he, Lp.rrow, Lp.rerr, h0]; rfl
    · rw [Lp.rrow, h0]; exact Rds.nil_
  · refine ⟨⟨A, c, ?_, ?_⟩, hb⟩
    · rw [he, Lp.rrow, Lp.rerr, h0, h1]; rfl
    · rw [Lp.rrow, h0, h1]; exact hr
  · refine ⟨⟨none, 0, ?_, ?_⟩, hb⟩
    · rw [he, Lp.rrow, Lp.rerr, h0, h1]; rfl
    · rw [Lp.rrow, h0, h1]; exact Rds.nil_

set_option maxRecDepth 100000 in
set_option maxHeartbeats 4000000 in
theorem rowReads_walk (AK : Option Addr) (cK : Nat) (ks : List UInt8) (A : Option Addr) (c : Nat) (l : List UInt8) (w : World) (hK : Rds w AK (bv ks)) (hkn : ks.length ≤ 9223372036854775807) (h : Rds w A (bv l)) (hc : l.length ≤ c) (hT : Tabs w) :
    Calls Tryd.prog 13 #[.slice AK ks.length cK, .slice A l.length c] w fun e w' => e = .returned (.bool true) ∧ Below w.heap.size w w' := by
  obtain ⟨i0, hi0, hz0, hz1, hz2⟩ := info_parts byteInfo
  go_enter Tryd.func13, Tryd.ntmps13
  go_wp2_with fail
  refine (awake4_any _ hT).mono ?_
  rintro e w1 ⟨rfl, hb1⟩
  have hx12 : (ks.take 12).length ≤ 12 := by simp; omega
  obtain ⟨K, hKe⟩ : ∃ K, ks.take 12 = K := ⟨_, rfl⟩
  rw [hKe] at hx12
  have HKE := Lib.hid hKe
  clear hKe
  go_wp2_with fail
  refine (cut3_any A c l 300 (by omega) w1 (h.below hb1) (by omega) hc).mono ?_
  rintro e w2 ⟨AP, cP, rfl, oP, hb2⟩
  have hP : (l.take (300 : Int).toNat).length ≤ 300 := by simp; omega
  have hbw2 := hb1.trans (hb2.mono hb1.size)
  have rP := oP.rds
  have hcP := own_le oP
  clear hb1 hb2 oP h
  generalize l.take (300 : Int).toNat = P at *
  go_wp2_with fail
  refine (copy3_any AP cP P w2 rP (by omega)).mono ?_
  rintro e w3 ⟨AC, cC, rfl, oC, hb3⟩
  have hz23 := hb3.size
  have hy2 := hbw2.size
  go_wp2_with (at_builtin; refine wpList_app _ rfl (.tmp 15) (.tmp 16) _ rfl w2.heap.size 5 i0 _ 1 1 Tryd.underlying22 hi0 hz0 hz1 hz2 rfl (by omega) _ _ _ _ rfl (World.ownsRow.alloc oC _) _ 1 1 [.int .u8 165] rfl rfl (rds_new _ _ _) (by simp [Value.oneCell']) (by simp only [maxLen]; omega) (by omega) (by simp; omega) ?_; intro A4 c4 w4 o4 hb4 hg4 _; have hcap := own_le o4)
  have hb24 : Below w2.heap.size w2 w4 := hb3.trans (((Below.refl _ _).alloc hz23 _).trans hb4)
  have hbw4 := hbw2.trans (hb24.mono hy2)
  have rP4 := rP.below hb24
  have rQ0 := Rds.take (Rds.own o4) P.length
  have ht : (bv P ++ [Value.int .u8 165]).take P.length = bv P := by rw [List.take_append_of_le_length (by rw [bv_length]; exact Nat.le_refl _), List.take_of_length_le (by rw [bv_length]; exact Nat.le_refl _)]
  rw [ht] at rQ0
  obtain ⟨g, cap, hv, hgB, hlt⟩ := World.ownsRow.form o4 (by omega)
  injection hv with hA _ hC
  subst hA hC
  have q4 := World.ownsRow.cellAt o4 P.length (by omega)
  have hq : (bv P ++ [Value.int .u8 165])[P.length]? = some (.int .u8 165) := by rw [List.getElem?_append_right (by rw [bv_length]; exact Nat.le_refl _), bv_length, Nat.sub_self]; rfl
  rw [hq] at q4
  have rQ4 := rQ0
  obtain ⟨L, hL⟩ : ∃ L, Lp.rrow K P = L := ⟨_, rfl⟩
  obtain ⟨E, hE⟩ : ∃ E, Lp.rerr K P = E := ⟨_, rfl⟩
  have hLl := rrow_len K P
  rw [hL] at hLl
  have HL := Lib.hid hL
  have HE := Lib.hid hE
  have hs4 := hbw4.size
  have gK4 := hK.below hbw4
  have hT4 := tabs_below hT hbw4
  clear hq ht rQ0 o4 hb4 hg4 hb3 oC hb24 rP hbw2 hL hE hK hT
  refine (kinds_r _ _ _ ks K rfl HKE.out _ gK4 hkn).mono ?_
  rintro e w5 ⟨⟨AX, cX, rfl, rX⟩, hb⟩
  go_wp2_with fail
  refine ((rowRead_any _ _ _ K _ _ _ P rfl rfl _ rX (by omega) (rQ4.below hb) (by omega) (by omega) (tabs_below hT4 hb)).mono fun _ _ h => readPost_uni HL.out HE.out h).mono ?_
  rintro e w6 ⟨⟨A6, c6, rfl, r6⟩, hb6⟩
  replace hb := hb.trans (hb6.mono hb.size)
  clear hb6 rX
  go_wp2_with fail
  refine (kinds_r _ _ _ ks K rfl HKE.out _ (gK4.below hb) hkn).mono ?_
  rintro e w7 ⟨⟨AY, cY, rfl, rY⟩, hb7⟩
  have r67 := r6.below hb7
  replace hb := hb.trans (hb7.mono hb.size)
  clear hb7 r6
  go_wp2_with fail
  refine ((read4_any _ _ _ K _ _ _ P rfl rfl _ rY (by omega) (rP4.below hb) (by omega) (by omega)).mono fun _ _ h => readPost_uni HL.out HE.out h).mono ?_
  rintro e w8 ⟨⟨A8, c8, rfl, r8⟩, hb8⟩
  have r68 := r67.below hb8
  replace hb := hb.trans (hb8.mono hb.size)
  clear hb8 r67 rY
  go_wp2_with fail
  refine (sameRow_any _ _ _ _ _ _ L L true rfl rfl (Lp.sameRow_self L) _ r68 r8 (by omega)).mono ?_
  rintro e w9 ⟨rfl, hb9⟩
  replace hb := hb.trans (hb9.mono hb.size)
  have rP9 := rP4.below hb
  have rQ9 := rQ4.below hb
  have q9 := (hb.cell (p := ⟨g, P.length, none⟩) hlt).trans q4
  have hlt9 : g < w9.heap.size := Nat.lt_of_lt_of_le hlt hb.size
  have hbE := hbw4.trans (hb.mono hs4)
  have hEE : (E == E) = true := by simp
  clear hb9 hb r68 r8 rP4 rQ4 q4 gK4 hT4
  go_wp2_with fail
  refine (same3_any _ _ _ _ P P _ _ rfl rfl _ rQ9 rP9).mono ?_
  rintro e w' ⟨rfl, rfl⟩
  rw [beq_self_eq_true]
  have hPl : (0 : Int) ≤ (P.length : Int) := by omega
  go_wp2
  go_ret
  exact ⟨rfl, hbE⟩
end Go.Proofs.YthdnphnipfpdkaaDoor
