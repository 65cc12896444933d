/-
 Contracts and laws, joined: Law17a, Law17b. Conditions: those of each.
-/
import Derived.Test.YtkfjmgmjbljnbaaGreatDoorBGF
import Derived.Test.YtkfjmgmjbljnbaaGreatDoorBGV
import Derived.Test.YtkfjmgmjbljnbaaGreatDoorBGS
set_option maxRecDepth 100000
set_option maxHeartbeats 8000000
namespace Go.Proofs.YtkfjmgmjbljnbaaGreatDoor
open Go.RowKit
def tT : List Lp.Tb := [⟨[116], [⟨[97], 1⟩, ⟨[98], 2⟩]⟩]
theorem t17_any (w : World) : Calls Tryz.prog 101 #[] w fun e w' => ∃ g, e = .returned (.slice (some ⟨g, 0, none⟩) 1 1) ∧ ScM w' (some ⟨g, 0, none⟩) tT ∧ Below w.heap.size w w' := by
 have hb0 : Below w.heap.size w (w.alloc (.cells #[.string ⟨#[97]⟩, .int .u8 1, .string ⟨#[98]⟩, .int .u8 2] 55)) := (Below.refl _ _).alloc (Nat.le_refl _) _
 have hb1 : Below w.heap.size w ((w.alloc (.cells #[.string ⟨#[97]⟩, .int .u8 1, .string ⟨#[98]⟩, .int .u8 2] 55)).alloc (.cells #[.string ⟨#[116]⟩, .slice (some ⟨w.heap.size, 0, none⟩) 2 2] 58)) := hb0.alloc (by simp) _
 have hx0 := box_alloc (heap_alloc_new w (.cells #[.string ⟨#[97]⟩, .int .u8 1, .string ⟨#[98]⟩, .int .u8 2] 55)) (.cells #[.string ⟨#[116]⟩, .slice (some ⟨w.heap.size, 0, none⟩) 2 2] 58)
 have hx1 := heap_new2 w (.cells #[.string ⟨#[97]⟩, .int .u8 1, .string ⟨#[98]⟩, .int .u8 2] 55) (.cells #[.string ⟨#[116]⟩, .slice (some ⟨w.heap.size, 0, none⟩) 2 2] 58)
 have hS : ScM ((w.alloc (.cells #[.string ⟨#[97]⟩, .int .u8 1, .string ⟨#[98]⟩, .int .u8 2] 55)).alloc (.cells #[.string ⟨#[116]⟩, .slice (some ⟨w.heap.size, 0, none⟩) 2 2] 58)) (some ⟨w.heap.size + 1, 0, none⟩) tT := by
  refine ⟨[(⟨[116], [⟨[97], 1⟩, ⟨[98], 2⟩]⟩, some ⟨w.heap.size, 0, none⟩, 2)], rfl, rds_blk _ hx1, ?_⟩
  intro p hp
  rw [List.mem_singleton] at hp
  subst hp
  exact rds_blk _ hx0
 have HR := Lib.hid (And.intro hS hb1)
 clear hb0 hb1 hx0 hx1 hS
 go_enter Tryz.func101, Tryz.ntmps101
 go_wp2
 go_ret
 exact ⟨_, rfl, HR.out.1, HR.out.2⟩
def askS (q : Option Lp.X) : ByteArray := match q with
 | none => ⟨#[]⟩
 | some x => if (Lp.kindX tT x false).2 = 0 then shB tT x else ⟨#[]⟩
def askE (q : Option Lp.X) : Int := match q with
 | none => 4
 | some x => (Lp.kindX tT x false).2
theorem ask_wide : Lp.wide tT ≤ 10000 := by decide
theorem ask_none {q : Option Lp.X} (h : q = none) : askS q = ⟨#[]⟩ ∧ askE q = 4 := by subst h; exact ⟨rfl, rfl⟩
theorem ask_err {q : Option Lp.X} {x : Lp.X} (h : q = some x) (hk : ¬ (Lp.kindX tT x false).2 = 0) : askS q = ⟨#[]⟩ ∧ askE q = (Lp.kindX tT x false).2 := by
 subst h; exact ⟨if_neg hk, rfl⟩
theorem ask_yes {q : Option Lp.X} {x : Lp.X} (h : q = some x) (hk : (Lp.kindX tT x false).2 = 0) : askS q = shB tT x ∧ askE q = 0 := by
 subst h; exact ⟨if_pos hk, hk⟩
theorem asked17 (s : ByteArray) (w : World) (hT : Tabs w) (hR : Resv w) (hL : LitT w) :
 Calls Tryz.prog 63 #[.string s] w fun e w' => e = .returned (.tuple #[.string (askS (Lp.condS (s.data.toList.take 600))), .int .i64 (askE (Lp.condS (s.data.toList.take 600)))]) ∧ Below w.heap.size w w' := by
 have HC := Lib.hid (condition_any s w hT hR)
 have HL := Lib.hid hL
 have hok : ∀ x, Lp.condS (s.data.toList.take 600) = some x → x.wf ∧ x.size ≤ 2000 := fun x h => Lp.condS_ok (by rw [List.length_take]; omega) h
 have HO := Lib.hid hok
 generalize hq : Lp.condS (s.data.toList.take 600) = q at *
 clear hT hR hL hok hq
 go_enter Tryz.func63, Tryz.ntmps63
 go_wp2_with fail
 refine HC.out.mono ?_
 rintro e w1 ⟨hb1, hc⟩
 cases q with
 | none =>
   obtain ⟨⟨k, vk, vi, vs, vb, tt, ss, A, nn, c⟩, rfl⟩ := hc
   have HB := Lib.hid hb1
   obtain ⟨q1, q2⟩ := ask_none (q := none) rfl
   have Q1 := Lib.hid q1
   have Q2 := Lib.hid q2
   simp only [RC.val]
   clear hb1 HC q1 q2
   go_wp2
   go_ret2
   exact ⟨by rw [Q1.out, Q2.out]; rfl, HB.out.alloc HB.out.size _⟩
 | some x =>
   obtain ⟨T, g, ⟨k, vk, vi, vs, vb, tt, ss, A, nn, c⟩, rfl, hp, -⟩ := hc
   have hw := HO.out x rfl
   simp only [RC.val]
   have hba : Below w1.heap.size w1 (w1.alloc (.cells #[.int .u8 k, .int .u8 vk, .int .i64 vi, .string vs, .bool vb, .string tt, .string ss, .slice A nn c] 35)) := (Below.refl _ _).alloc (Nat.le_refl _) _
   have HP := Lib.hid (PX.mono (Nat.zero_le _) (PX.keep (stays_below hba) hp))
   have HB := Lib.hid (hb1.trans (hba.mono hb1.size))
   have HW := Lib.hid hw
   clear hp hba hb1 HC hw
   go_wp2_with fail
   refine (t17_any _).mono ?_
   rintro e w2 ⟨g2, rfl, hS, hb2⟩
   have HB2 := Lib.hid (HB.out.trans (hb2.mono HB.out.size))
   have HE := Lib.hid (bindExpr_any (some ⟨g2, 0, none⟩) 1 tT false x (.iface T (.pointer (some ⟨g, 0, none⟩))) w2 (by decide) ask_wide HW.out.1 (PX.keep (stays_below hb2) HP.out) hS)
   clear hS hb2 HP HB
   go_wp2_with fail
   refine HE.out.mono ?_
   rintro e w3 ⟨hb3, hr⟩
   have HB3 := Lib.hid (HB2.out.trans (hb3.mono HB2.out.size))
   by_cases hk : (Lp.kindX tT x false).2 = 0
   ·rw [if_pos hk] at hr
    obtain ⟨g3, rfl, hnt⟩ := hr
    have HSh := Lib.hid (show_any tT ask_wide x HW.out.1 (by have := HW.out.2; omega) _ w3 w3 g3 hnt (HL.out.below HB3.out) (Below.refl _ _))
    obtain ⟨q1, q2⟩ := ask_yes rfl hk
    have Q1 := Lib.hid q1
    have Q2 := Lib.hid q2
    clear hnt hb3 HB2 HE hk q1 q2
    go_wp2_with fail
    refine HSh.out.mono ?_
    rintro e w4 ⟨rfl, hb4⟩
    have HB4 := Lib.hid (HB3.out.trans (hb4.mono HB3.out.size))
    clear hb4
    go_wp2
    go_ret2
    exact ⟨by rw [Q1.out, Q2.out]; rfl, HB4.out⟩
   ·rw [if_neg hk] at hr
    subst hr
    obtain ⟨q1, q2⟩ := ask_err rfl hk
    have Q1 := Lib.hid q1
    have Q2 := Lib.hid q2
    clear hb3 HB2 HE hk q1 q2
    generalize (Lp.kindX tT x false).2 = E at *
    go_wp2_with fail
    refine (show_nil _).mono ?_
    rintro e w4 ⟨rfl, rfl⟩
    go_wp2
    go_ret2
    exact ⟨by rw [Q1.out, Q2.out]; rfl, HB3.out⟩
end Go.Proofs.YtkfjmgmjbljnbaaGreatDoor
namespace Go.Proofs.YtkfjmgmjbljnbaaGreatDoor
open Go.RowKit
theorem cond_a1 : Lp.condS [97, 32, 43, 32, 49] = some (.bin [43] (.col [] [97]) (.lit 1 1 [] false)) := by kernel_rfl
theorem cond_b1 : Lp.condS [98, 32, 43, 32, 49] = some (.bin [43] (.col [] [98]) (.lit 1 1 [] false)) := by kernel_rfl
theorem cond_x : Lp.condS [120] = some (.col [] [120]) := by kernel_rfl
theorem cond_sum : Lp.condS [83, 85, 77, 40, 97, 41] = some (.agg Lp.uSum (.col [] [97])) := by kernel_rfl
theorem awk1 : askS (Lp.condS [97, 32, 43, 32, 49]) = ⟨#[40, 35, 48, 32, 43, 32, 49, 41]⟩ ∧ askE (Lp.condS [97, 32, 43, 32, 49]) = 0 := by
 rw [cond_a1]
 have h0 : Lib.itoa 0 = [48] := by
  have := Lib.decDigits_one (i := 0) (by decide)
  show (if (0 : Int) < 0 then _ else Lib.decDigits (0 : Int).toNat) = _
  rw [if_neg (by decide)]; exact this
 have h1 : Lib.itoa 1 = [49] := by
  have := Lib.decDigits_one (i := 1) (by decide)
  show (if (1 : Int) < 0 then _ else Lib.decDigits (1 : Int).toNat) = _
  rw [if_neg (by decide)]; exact this
 have hf : Lp.findX tT [] [97] = some (0, 1) := by decide
 have hk : Lp.kindX tT (.bin [43] (.col [] [97]) (.lit 1 1 [] false)) false = (1, 0) := by decide
 refine ⟨?_, ?_⟩
 ·unfold askS
  simp only [hk, if_true]
  apply ba_ext
  simp [shB, Lp.showX, Lp.atX, hf, h0, Lp.litX, Lp.lit, h1]
 ·unfold askE
  simp only [hk]
theorem awk2 : askE (Lp.condS [98, 32, 43, 32, 49]) = 8 := by rw [cond_b1]; decide
theorem awk3 : askE (Lp.condS [120]) = 6 := by rw [cond_x]; decide
theorem awk4 : askE (Lp.condS [83, 85, 77, 40, 97, 41]) = 3 := by rw [cond_sum]; decide
theorem asked_at (s : ByteArray) (l : List UInt8) (T : ByteArray) (E : Int) (hl : s.data.toList.take 600 = l) (h1 : askS (Lp.condS l) = T) (h2 : askE (Lp.condS l) = E) {w W : World} (hT : Tabs w) (hR : Resv w) (hL : LitT w) (hb : Below w.heap.size w W) :
 Calls Tryz.prog 63 #[.string s] W fun e w' => e = .returned (.tuple #[.string T, .int .i64 E]) ∧ Below w.heap.size w w' := by
 subst h1 h2 hl
 exact (asked17 s W (tabs_below hT hb) (resv_below hR hb) (hL.below hb)).mono fun e w' h => ⟨h.1, hb.trans (h.2.mono hb.size)⟩
theorem awake17 (w : World) (hT : Tabs w) (hR : Resv w) (hL : LitT w) :
 Calls Tryz.prog 27 #[] w fun e w' => e = .returned (.bool true) ∧ Below w.heap.size w w' := by
 have H1 := Lib.hid (fun (W : World) (hb : Below w.heap.size w W) => asked_at ⟨#[97, 32, 43, 32, 49]⟩ _ _ _ rfl awk1.1 awk1.2 hT hR hL hb)
 have H2 := Lib.hid (fun (W : World) (hb : Below w.heap.size w W) => asked_at ⟨#[98, 32, 43, 32, 49]⟩ _ _ _ rfl rfl awk2 hT hR hL hb)
 have H3 := Lib.hid (fun (W : World) (hb : Below w.heap.size w W) => asked_at ⟨#[120]⟩ _ _ _ rfl rfl awk3 hT hR hL hb)
 have H4 := Lib.hid (fun (W : World) (hb : Below w.heap.size w W) => asked_at ⟨#[83, 85, 77, 40, 97, 41]⟩ _ _ _ rfl rfl awk4 hT hR hL hb)
 generalize askS (Lp.condS [98, 32, 43, 32, 49]) = T2 at *
 generalize askS (Lp.condS [120]) = T3 at *
 generalize askS (Lp.condS [83, 85, 77, 40, 97, 41]) = T4 at *
 clear hT hR hL
 go_enter Tryz.func27, Tryz.ntmps27
 go_wp2_with fail
 refine (H1.out _ (Below.refl _ _)).mono ?_
 rintro e w1 ⟨rfl, hb1⟩
 go_wp2_with fail
 refine (H2.out _ hb1).mono ?_
 rintro e w2 ⟨rfl, hb2⟩
 go_wp2_with fail
 refine (H3.out _ hb2).mono ?_
 rintro e w3 ⟨rfl, hb3⟩
 go_wp2_with fail
 refine (H4.out _ hb3).mono ?_
 rintro e w4 ⟨rfl, hb4⟩
 go_wp2
 go_ret
 exact ⟨rfl, hb4⟩
end Go.Proofs.YtkfjmgmjbljnbaaGreatDoor
