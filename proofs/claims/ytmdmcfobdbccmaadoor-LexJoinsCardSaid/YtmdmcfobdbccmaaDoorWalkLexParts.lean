/-
  The walk of LexParts: it returns true, of any two texts. Conditions: unicode/utf8's tables as laid.
-/
import Derived.Test.YtmdmcfobdbccmaaDoorLexL
import Derived.Test.YtmdmcfobdbccmaaDoorPlainParts
namespace Go.Proofs.YtmdmcfobdbccmaaDoor
open Go.RowKit

theorem toks_few (l : List UInt8) : (Lp.toks l).1.length ≤ 2000 := by
  by_cases h : 2000 < l.length
  · rw [Lp.toks_long h]; simp
  · rw [Lp.toks_short (by omega)]
    have := Lp.splA_len l.length [] l (Nat.le_refl _)
    simp at this; omega
theorem lsplit_is (s : ByteArray) (L : List Lp.Tok) (E : Int) (h : Lp.toks s.data.toList = (L, E)) (w : World) (hT : Tabs w) (hs : s.size ≤ 9223372036854775807) :
    Calls Tryd.prog 10 #[.string s] w fun e w' => Below w.heap.size w w' ∧ ∃ A c, e = .returned (.tuple #[.slice A L.length c, .int .i64 E]) ∧ L.length ≤ c ∧ w'.ownsRow w.heap.size 41 3 (.slice A L.length c) L.length (Lp.tkv L) := by
  have := lsplit_any s w hT hs
  unfold SplPost at this
  rw [h] at this
  exact this
theorem pair_of {α β : Type} (p : α × β) : ∃ a b, p = (a, b) := ⟨p.1, p.2, rfl⟩
/-- A row of the call's own stays where another one grows, whose block is older than all of its own. -/
theorem own_apart2 {w w' : World} {B1 n1 s1 : Nat} {e1 : TypeId} {v1 v2 : Value} {x1 : List Value} (h1 : w.ownsRow B1 e1 s1 v1 n1 x1) (hlt : ∀ k, v2.ownBlock = some k → k < B1) (hg : w.grownBy w' v2.ownBlock) : w'.ownsRow B1 e1 s1 v1 n1 x1 := by
  refine h1.kept hg ?_
  rcases h1.2 with ⟨rfl, _⟩ | ⟨g, cap, cur, rfl, hb, _⟩
  · exact .inl rfl
  · refine .inr (fun e => ?_)
    have := hlt g e.symm
    omega
theorem cat_nl (a b : ByteArray) : (a ++ (⟨#[10]⟩ : ByteArray) ++ b).data.toList = a.data.toList ++ 10 :: b.data.toList := by simp
theorem under_drewN (B : Nat) (w : World) (n : Nat) : Below B w (w.drewN n) := ⟨rfl, rfl, rfl, Nat.le_refl _, fun _ _ => rfl⟩
set_option maxRecDepth 100000 in
set_option maxHeartbeats 4000000 in
theorem lexParts_walk (s t : ByteArray) (w : World) (hs : s.size ≤ 9223372036854775807) (ht : t.size ≤ 9223372036854775807) (hT : Tabs w) :
    Calls Tryd.prog 4 #[.string s, .string t] w fun e w' => e = .returned (.bool true) ∧ Below w.heap.size w w' := by
  obtain ⟨iT, hiT, hz0, hz1, hz2⟩ := info_parts tokInfo
  go_enter Tryd.func4, Tryd.ntmps4
  go_wp2_with fail
  refine (awake14_any _ hT).mono ?_
  rintro e w1 ⟨rfl, hb1⟩
  have hT1 := tabs_below hT hb1
  clear hT
  go_wp2_with fail
  go_quiet (fail)
  have hb1' := hb1.trans (under_drewN w.heap.size w1 nq)
  have hT1' := tabs_below hT1 (under_drewN w1.heap.size w1 nq)
  have hzs : (s.extract 0 (min (s.size : Int) 500).toNat).size ≤ 500 := by simp; omega
  have hzt : (t.extract 0 (min (t.size : Int) 500).toNat).size ≤ 500 := by simp; omega
  generalize s.extract 0 (min (s.size : Int) 500).toNat = S at *
  generalize t.extract 0 (min (t.size : Int) 500).toNat = T at *
  clear hs ht hb1 hT1
  generalize w1.drewN nq = w2 at *
  have hlS := toks_few S.data.toList
  have hlT := toks_few T.data.toList
  obtain ⟨L, E, hL⟩ : ∃ L E, Lp.toks S.data.toList = (L, E) := pair_of _
  obtain ⟨M, F, hM⟩ : ∃ L E, Lp.toks T.data.toList = (L, E) := pair_of _
  have hP := @Lp.toks_parts S.data.toList T.data.toList L M
  rw [hL] at hlS
  rw [hM] at hlT
  simp only at hlS hlT
  obtain ⟨R, G, hR⟩ : ∃ L E, Lp.toks (S ++ (⟨#[10]⟩ : ByteArray) ++ T).data.toList = (L, E) := pair_of _
  have hRP : E = 0 → F = 0 → R = L ++ M ∧ G = 0 := by
    rintro rfl rfl
    have := hP hL hM (by
      have a1 : S.data.toList.length = S.size := by rw [Array.length_toList]; rfl
      have a2 : T.data.toList.length = T.size := by rw [Array.length_toList]; rfl
      omega)
    rw [← cat_nl, hR] at this
    injection this with h1 h2
    exact ⟨h1, h2⟩
  have HL := Lib.hid (fun W h => lsplit_is S L E hL W h (by omega))
  have HM := Lib.hid (fun W h => lsplit_is T M F hM W h (by omega))
  have HR := Lib.hid (fun W h => lsplit_is (S ++ (⟨#[10]⟩ : ByteArray) ++ T) R G hR W h (by have e1 : (⟨#[10]⟩ : ByteArray).size = 1 := rfl; simp only [ByteArray.size_append, e1]; omega))
  have HRP := Lib.hid hRP
  have hcat : S.size + 1 + T.size ≤ 1001 := by omega
  clear hL hM hR hP hRP
  go_wp2_with fail
  refine (HL.out _ hT1').mono ?_
  rintro e w3 ⟨hb3, A, c, rfl, hc, hown⟩
  have k3 := hb1'.trans (hb3.mono hb1'.size)
  have hT3 := tabs_below hT1' hb3
  have hB : w.heap.size ≤ w2.heap.size := hb1'.size
  have hz3 := hb3.size
  clear hb1' hb3 hT1'
  go_wp2_with fail
  refine (HM.out _ hT3).mono ?_
  rintro e w4 ⟨hb4, A2, c2, rfl, hc2, hown2⟩
  have k4 := k3.trans (hb4.mono k3.size)
  have hT4 := tabs_below hT3 hb4
  have hown' := own_under hown hb4
  have r2 : RdsT w4 A2 M := Rds.own hown2
  have hz4 := Nat.le_trans hz3 hb4.size
  clear k3 hb4 hT3 hown hown2 hz3
  go_wp2_with fail
  refine (HR.out _ hT4).mono ?_
  rintro e w5 ⟨hb5, A3, c3, rfl, hc3, hown3⟩
  have k5 := k4.trans (hb5.mono k4.size)
  have hown'' := own_under hown' hb5
  have r2' := Rds.below r2 hb5
  have r3 : RdsT w5 A3 R := Rds.own hown3
  have hown_le := Nat.le_trans hz4 hb5.size
  clear k4 hb5 hT4 hown' hown3 r2 hz4
  by_cases hE : E = 0
  · have e0 : (E == 0) = true := by rw [hE]; rfl
    have e0' : (E != 0) = false := by rw [hE]; rfl
    by_cases hF : F = 0
    · have f0 : (F == 0) = true := by rw [hF]; rfl
      have f0' : (F != 0) = false := by rw [hF]; rfl
      obtain ⟨e1, e2⟩ := HRP.out hE hF
      have g0 : (G == 0) = true := by rw [e2]; rfl
      have HE1 := Lib.hid e1
      have hRl : R.length ≤ 4000 := by rw [e1, List.length_append]; omega
      have hRl2 : Hid (L.length + M.length = R.length) := by show _ = _; rw [e1, List.length_append]
      clear hE hF e1 e2
      go_wp2_with fail
      refine (back_any A3 _ c3 R rfl _ r3 (by omega)).mono ?_
      rintro e w6 ⟨⟨A6, c6, rfl, hown6⟩, hb6⟩
      have r6 : RdsT w6 A6 R := Rds.own hown6
      have hown7 := own_under hown'' hb6
      have r7 := Rds.below r2' hb6
      have k6 := k5.trans (hb6.mono k5.size)
      have hB6 := k6.size
      have hz6 : w2.heap.size ≤ w6.heap.size := Nat.le_trans (hown_le) hb6.size
      go_wp2_with (at_builtin; refine wpList_app_g _ (by rfl) (.tmp 52) (.tmp 53) _ rfl w2.heap.size 41 iT _ 3 32 Tryd.underlying23 hiT hz0 hz1 hz2 rfl (by omega) A L.length c (Lp.tkv L) rfl hown7 A2 M.length c2 (Lp.tkv M) rfl (tkv_length M) r7 (tkv_one M) (by simp only [maxLen]; omega) (by omega) hz6 ?_; intro A8 c8 w8 hown8 hb8 hg8 _)
      have r8 : RdsT w8 A8 R := by unfold RdsT; rw [HE1.out, tkv_append]; exact Rds.own hown8
      have r6' : RdsT w8 A6 R := Rds.own (own_apart2 hown6 (fun k hk => (hown''.lt k hk).2) hg8)
      have k8 := k6.trans (hb8.mono hB)
      clear hown8 hb8 hg8 r6 r7 hown7 hown6 hown'' r2' hb6
      go_wp2_with fail
      refine (back_any A8 _ c8 R hRl2.out _ r8 (by omega)).mono ?_
      rintro e w9 ⟨⟨A9, c9, rfl, hown9⟩, hb9⟩
      have r9 : RdsT w9 A9 R := Rds.own hown9
      have r6'' := Rds.below r6' hb9
      have k9 := k8.trans (hb9.mono k8.size)
      clear r6' hown9 hb9 k8
      go_wp2_with fail
      refine (tsame_any A6 A9 _ _ c6 c9 R rfl rfl _ r6'' r9 (by omega)).mono ?_
      rintro e w10 ⟨rfl, hb10⟩
      go_wp2
      go_ret
      exact ⟨rfl, k9.trans (hb10.mono k9.size)⟩
    · have f0 : (F == 0) = false := beq_eq_false_iff_ne.2 hF
      have f0' : (F != 0) = true := bne_iff_ne.2 hF
      clear hE hF HRP
      go_wp2
      go_ret
      exact ⟨rfl, k5⟩
  · have e0 : (E == 0) = false := beq_eq_false_iff_ne.2 hE
    have e0' : (E != 0) = true := bne_iff_ne.2 hE
    clear hE HRP
    go_wp2
    go_ret
    exact ⟨rfl, k5⟩
end Go.Proofs.YtmdmcfobdbccmaaDoor
