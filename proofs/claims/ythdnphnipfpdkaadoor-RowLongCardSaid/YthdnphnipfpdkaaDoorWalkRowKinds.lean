/-
  The walk of RowKinds: it returns true, of any kind and any value. Condition: unicode/utf8's tables as laid.
-/
import Derived.Test.YthdnphnipfpdkaaDoorAwake4
import Derived.Test.YthdnphnipfpdkaaDoorRef2Right
namespace Go.Proofs.YthdnphnipfpdkaaDoor
open Go.RowKit

theorem fits_e (AK : Option Addr) (n cK : Nat) (ks : List UInt8) (AL : Option Addr) (m cL : Nat) (l : List Lp.V) (E : Int) (hE : Lp.rfits ks l = E) (hnk : n = ks.length) (hml : m = l.length) (w : World) (hK : Rds w AK (bv ks)) (hkn : ks.length ≤ 70368744177664)
    (hL : RdsV w AL l) (hln : l.length ≤ 1073741824) (hs : ∀ v ∈ l, v.ok) (hT : Tabs w) :
    Calls Tryd.prog 31 #[.slice AK n cK, .slice AL m cL] w fun e w' => e = .returned (.int .i64 E) ∧ Below w.heap.size w w' := by
  subst hE; exact fits_any AK n cK ks AL m cL l hnk hml w hK hkn hL hln hs hT
theorem one_kind {k : UInt8} (h1 : 1 ≤ k.toNat) (h3 : k.toNat ≤ 3) : Lp.kindsOk [k] = true := by simp [Lp.kindsOk, h1, h3]
theorem one_wrong {k : UInt8} (h1 : 1 ≤ k.toNat) (h3 : k.toNat ≤ 3) {v : Lp.V} (h : v.right = false) : Lp.rfits [k] [v] = 3 := fits_wrong (one_kind h1 h3) rfl (by simp [h])
theorem one_right {k : UInt8} (h1 : 1 ≤ k.toNat) (h3 : k.toNat ≤ 3) {v : Lp.V} (h : v.right = true) : Lp.rfits [k] [v] = if v.k = 0 ∨ v.k = (k.toNat : Int) then 0 else 8 := by
  by_cases hf : v.k = 0 ∨ v.k = (k.toNat : Int)
  · rw [if_pos hf, fits_size (one_kind h1 h3) rfl (by simp [h]) (by simp [Lp.fitsK, Lp.fitK, hf])]
    have := Lp.cb_le h
    have e : Lp.cbs [v] = Lp.cb v := by simp [Lp.cbs]
    rw [e, if_neg (by omega)]
  · rw [if_neg hf, fits_type (one_kind h1 h3) rfl (by simp [h]) (by simp [Lp.fitsK, Lp.fitK] at hf ⊢; exact hf)]
theorem kind_of (k : Nat) : (((UInt8.ofNat (1 + k % 3)).toNat : Nat) : Int) = 1 + (k : Int) % 3 := by simp; omega

set_option maxRecDepth 100000 in
set_option maxHeartbeats 4000000 in
theorem rowKinds_walk (kk : Int) (v : Lp.V) (w : World) (hk0 : 0 ≤ kk) (hk1 : kk < 256) (kv : v.ok) (hT : Tabs w) :
    Calls Tryd.prog 9 #[.int .u8 kk, .agg #[.int .u8 v.k, .int .i64 v.i, .string v.s, .bool v.b]] w fun e w' => e = .returned (.bool true) ∧ Below w.heap.size w w' := by
  obtain ⟨n, rfl⟩ : ∃ n : Nat, kk = (n : Int) := ⟨kk.toNat, by omega⟩
  have hko := kind_of n
  obtain ⟨k, hk⟩ : ∃ k : UInt8, k = UInt8.ofNat (1 + n % 3) := ⟨_, rfl⟩
  rw [← hk] at hko
  have h1 : 1 ≤ k.toNat := by omega
  have h3 : k.toNat ≤ 3 := by omega
  have HKO := Lib.hid hko
  have hv1 := kv.1
  have KV := Lib.hid kv
  clear hk hko kv
  go_enter Tryd.func9, Tryd.ntmps9
  go_wp2_with fail
  refine (awake4_any _ (tabs_alloc hT _)).mono ?_
  rintro e w1 ⟨rfl, hb1⟩
  have hx1 := box_below (heap_alloc_new w _) hb1
  have hbw1 : Below w.heap.size w w1 := ((Below.refl _ _).alloc (Nat.le_refl _) _).trans (hb1.mono (by simp))
  have hT1 := tabs_below hT hbw1
  have hc1 := box_cells hx1
  have hz1 := hbw1.size
  clear hb1 hT
  go_wp2_with fail
  cases hr : v.right
  · have HF := Lib.hid (one_wrong h1 h3 hr)
    have HR := Lib.hid hr
    clear hr
    refine (right2_at _ _ _ _ false HR.out _ hv1).mono ?_
    rintro e w2 ⟨rfl, hb2⟩
    have hx2 := box_below hx1 hb2
    have hc2 := box_cells hx2
    have hT2 := tabs_below hT1 hb2
    have hbw2 := hbw1.trans (hb2.mono hz1)
    have hz2 := hbw2.size
    clear hx1 hT1 hc1 hb2 hbw1
    have hlt2 := heap_lt hx2
    go_wp2_with fail
    refine (fits_e _ _ _ [k] _ _ _ [v] 3 HF.out rfl rfl _ (rds_blk (bv [k]) (by rw [← HKO.out]; exact box_alloc (heap_alloc_new w2 _) _)) (by simp) (rds_blk (Lp.vv [v]) (heap_new2 w2 _ _)) (by simp) (by intro u hu; simp at hu; rw [hu]; exact KV.out) (tabs_alloc (tabs_alloc hT2 _) _)).mono ?_
    rintro e w3 ⟨rfl, hb3⟩
    have hbw3 : Below w.heap.size w w3 := ((hbw2.alloc hz2 _).alloc (by simp; omega) _).trans (hb3.mono (by simp; omega))
    go_wp2
    go_ret
    exact ⟨rfl, hbw3⟩
  · have HF := Lib.hid (one_right h1 h3 hr)
    have HR := Lib.hid hr
    clear hr
    refine (right2_at _ _ _ _ true HR.out _ hv1).mono ?_
    rintro e w2 ⟨rfl, hb2⟩
    have hx2 := box_below hx1 hb2
    have hc2 := box_cells hx2
    have hT2 := tabs_below hT1 hb2
    have hbw2 := hbw1.trans (hb2.mono hz1)
    have hz2 := hbw2.size
    have hlt2 := heap_lt hx2
    clear hx1 hT1 hc1 hb2 hbw1
    go_wp2_with fail
    refine (fits_e _ _ _ [k] _ _ _ [v] _ HF.out rfl rfl _ (rds_blk (bv [k]) (by rw [← HKO.out]; exact box_alloc (heap_alloc_new w2 _) _)) (by simp) (rds_blk (Lp.vv [v]) (heap_new2 w2 _ _)) (by simp) (by intro u hu; simp at hu; rw [hu]; exact KV.out) (tabs_alloc (tabs_alloc hT2 _) _)).mono ?_
    rintro e w3 ⟨rfl, hb3⟩
    have hbw3 : Below w.heap.size w w3 := ((hbw2.alloc hz2 _).alloc (by simp; omega) _).trans (hb3.mono (by simp; omega))
    have hx3 := box_below (box_alloc (box_alloc hx2 _) _) hb3
    have hc3 := box_cells hx3
    clear hx2 hc2 hb3 hlt2
    rw [HKO.out]
    by_cases q0 : v.k = 0
    · have e1 : (v.k == 0) = true := by simpa using q0
      rw [if_pos (.inl q0)]
      clear q0
      go_wp2
      go_ret
      exact ⟨rfl, hbw3⟩
    · have e1 : (v.k == 0) = false := by simpa using q0
      by_cases q1 : v.k = 1 + (n : Int) % 3
      · have e2 : (v.k == 1 + (n : Int) % 3) = true := by simpa using q1
        rw [if_pos (.inr q1)]
        clear q0 q1
        go_wp2
        go_ret
        exact ⟨rfl, hbw3⟩
      · have e2 : (v.k == 1 + (n : Int) % 3) = false := by simpa using q1
        rw [if_neg (fun h => h.elim q0 q1)]
        clear q0 q1
        go_wp2
        go_ret
        exact ⟨rfl, hbw3⟩
end Go.Proofs.YthdnphnipfpdkaaDoor
