/-
 EvalSafe: the walk. Conditions: the tables of unicode/utf8 and of the reserved words as laid; the arguments as they came in.
-/
import Derived.Test.YtkfjmgmjbljnbaaGreatDoorYLaw18c
set_option maxRecDepth 100000
set_option maxHeartbeats 8000000
namespace Go.Proofs.YtkfjmgmjbljnbaaGreatDoor
open Go.RowKit
theorem safe_walk (A : Option Addr) (c : Nat) (la : List TabA) (s : ByteArray) (x : RowV) (w : World) (hA : ScA w A la) (hx : RowOk1 w x) (hT : Tabs w) (hR : Resv w) :
 Calls Tryz.prog 5 #[.slice A la.length c, .string s, x.val] w fun e w' => e = .returned (.bool true) ∧ Below w.heap.size w w' := by
 obtain ⟨Ax, cx, lx⟩ := x
 have HA := Lib.hid (awake18 w hT hR)
 have HT := Lib.hid (And.intro hT hR)
 have HS := Lib.hid hA
 have HX := Lib.hid hx
 have hxl : lx.length ≤ cx := hx.2.1
 simp only [RowV.val]
 clear hT hR hA hx
 go_enter Tryz.func5, Tryz.ntmps5
 go_wp2_with fail
 refine HA.out.mono ?_
 rintro e w1 ⟨rfl, hb1⟩
 go_wp2_with fail
 refine (scope18_any A c la w1 (HS.out.below hb1)).mono ?_
 rintro e w2 ⟨hb2, rfl | ⟨l, A1, c1, A2, c2, rfl, hS1, hS2, hl2, h8⟩⟩
 ·have HB := Lib.hid (hb1.trans (hb2.mono hb1.size))
  clear hb1 hb2
  go_wp2
  go_ret
  exact ⟨rfl, HB.out⟩
 ·have hB := hb1.trans (hb2.mono hb1.size)
  have hwd := wide_scOf (fun p hp => (h8 p hp).1)
  have hBd := (bound_any A1 c1 (scOf l) s false w2 (tabs_below HT.out.1 hB) (resv_below HT.out.2 hB) hS1.scm (by rw [scOf_len]; omega) (by omega)).mono fun e w' h => h.bde
  rw [scOf_len] at hBd
  have HBd := Lib.hid hBd
  have HB := Lib.hid (And.intro hB (And.intro hS2 (And.intro hl2 h8)))
  have hok : ∀ x, Lp.condS (s.data.toList.take 600) = some x → x.wf := fun x h => (Lp.condS_ok (by rw [List.length_take]; omega) h).1
  have HOK := Lib.hid hok
  clear hb1 hb2 hS1 hS2 hBd hB h8 hwd hok
  generalize Lp.condS (s.data.toList.take 600) = q at *
  go_wp2_with fail
  refine HBd.out.mono ?_
  rintro e w3 ⟨hb3, hj⟩
  rcases hj with ⟨x, g, hq, hk, hnt, ⟨k, vk, vi, vs, vb, tt, ss, Ar, nn, cr⟩, -, rfl⟩ | ⟨-, ⟨k, vk, vi, vs, vb, tt, ss, Ar, nn, cr⟩, rfl⟩
  ·simp only [RC.val]
   have hbx : Below w3.heap.size w3 (w3.alloc (.cells #[.int .u8 k, .int .u8 vk, .int .i64 vi, .string vs, .bool vb, .string tt, .string ss, .slice Ar nn cr] 35)) := ba (Below.refl _ _) _
   have hwf := HOK.out x hq
   have hk3 := hb3.trans (hbx.mono hb3.size)
   have HSf := Lib.hid (safe_any (scOf l) x hwf _ g _ (hnt.below hbx))
   have HZ := Lib.hid (And.intro (hnt.below hbx) (And.intro hk (And.intro hwf hk3)))
   obtain ⟨b, hb⟩ : ∃ b, Lp.safeX x = b := ⟨_, rfl⟩
   rw [hb] at HSf
   have HSB := Lib.hid hb
   unfold ptr at HSf ⊢
   clear hbx hwf hk3 hq hk hnt hb3 hb HBd HOK
   go_wp2_with fail
   refine HSf.out.mono ?_
   rintro e w4 ⟨rfl, hb4⟩
   have hk4 := HZ.out.2.2.2.trans (hb4.mono HZ.out.2.2.2.size)
   have hk0 := HB.out.1.trans (hk4.mono HB.out.1.size)
   cases b
   ·have HK := Lib.hid hk0
    clear hb4 hk4 hk0
    go_wp2
    go_ret
    exact ⟨rfl, HK.out⟩
   ·obtain ⟨hcut, hcl⟩ := row_cut (HX.out.below hk0)
    have hm : (min (lx.length : Int) 20).toNat = min lx.length 20 := by omega
    have hm0 : (0 : Int) ≤ min (lx.length : Int) 20 := by omega
    have hm1 : min (lx.length : Int) 20 ≤ (lx.length : Int) := by omega
    have hm2 : min (lx.length : Int) 20 ≤ (cx : Int) := by omega
    have hF := fit_any A2 c2 l ((Ax, cx, lx.take (min lx.length 20)) : RowV) w4 (HB.out.2.1.below hk4) hcut HB.out.2.2.1 (fun p hp => (HB.out.2.2.2 p hp).1) (by show (lx.take (min lx.length 20)).length ≤ 20; rw [hcl]; omega)
    simp only [RowV.val, hcl] at hF
    have HF := Lib.hid hF
    have HN := Lib.hid (HZ.out.1.below hb4)
    have HK := Lib.hid hk0
    clear hb4 hk4 hk0 hcut hcl hF
    go_wp2_with fail
    refine HF.out.mono ?_
    rintro e w5 ⟨hb5, Af, cf, row, rfl, hrd, hrl, hrc, hro⟩
    have HV := Lib.hid (value_at HZ.out.2.2.1 HZ.out.2.1 (r := (Af, cf, row)) hro (HN.out.below hb5) hrd)
    have h0 := safe_zero HZ.out.2.2.1 HZ.out.2.1 hro HSB.out
    simp only [RowV.val] at HV
    have hk5 := HK.out.trans (hb5.mono HK.out.size)
    have HK5 := Lib.hid hk5
    have H0 := Lib.hid h0
    unfold ptr at HV
    clear hb5 hk5 hrd hrl hrc hro h0
    go_wp2_with fail
    refine HV.out.mono ?_
    rintro e w6 hj
    obtain ⟨uk, ui, us, ub, E, hE, rfl, hb6⟩ := hj.form
    rw [hE] at H0
    have h0 : E = 0 := H0.out
    subst h0
    have HK6 := Lib.hid (ba (HK5.out.trans (hb6.mono HK5.out.size)) (.cells #[.int .u8 uk, .int .i64 ui, .string us, .bool ub] 31))
    clear hj hE hb6
    go_wp2
    go_ret
    exact ⟨rfl, HK6.out⟩
  ·simp only [RC.val]
   have HK := Lib.hid (ba (HB.out.1.trans (hb3.mono HB.out.1.size)) (.cells #[.int .u8 k, .int .u8 vk, .int .i64 vi, .string vs, .bool vb, .string tt, .string ss, .slice Ar nn cr] 35))
   clear hb3
   go_wp2
   go_ret
   exact ⟨rfl, HK.out⟩
end Go.Proofs.YtkfjmgmjbljnbaaGreatDoor
