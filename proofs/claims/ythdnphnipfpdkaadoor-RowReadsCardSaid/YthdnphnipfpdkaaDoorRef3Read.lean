/-
  What lapidaryref03.Read gives, of any bytes: the row, or that there is none. Condition: at most 10^6 bytes.
-/
import Derived.Test.YthdnphnipfpdkaaDoorKeyRead
import Derived.Test.YthdnphnipfpdkaaDoorRef2Right
import Derived.Test.YthdnphnipfpdkaaDoorAwake3
namespace Go.Proofs.YthdnphnipfpdkaaDoor
open Go.RowKit

theorem truth2_any (b : Bool) (w : World) : Calls Tryd.prog 46 #[.bool b] w fun e w' => e = .returned (.agg #[.int .u8 3, .int .i64 0, .string ⟨#[]⟩, .bool b]) ∧ (w.alloc (.cells #[.int .u8 3, .int .i64 0, .string ⟨#[]⟩, .bool b] 36)) = w' := by
  go_enter Tryd.func46, Tryd.ntmps46
  go_wp2
  exact bodyPost_ret (v := .agg #[.int .u8 3, .int .i64 0, .string ⟨#[]⟩, .bool b]) (by simp [results, Tryd.results46, go_sem]) rfl ⟨rfl, rfl⟩
theorem sub_sign (n : Nat) (h : n < 18446744073709551616) : RowKit.wrap64 (IntKind.u64.wrap ((n : Int) - 9223372036854775808)) = (n : Int) - 9223372036854775808 := by
  rw [← IntWalk.i64_left, IntKind.wrap_i64, IntKind.wrap_u64]; omega
theorem ahead_at {l : List UInt8} {k : Nat} (h : k < (Lp.ahead l).length) : ∃ hk : k < l.length, l[k] ≠ 0 := by
  induction l generalizing k with
  | nil => simp [Lp.ahead] at h
  | cons x l ih =>
    rw [Lp.ahead_cons] at h
    by_cases hx : x = 0
    · rw [if_pos hx] at h; simp at h
    · rw [if_neg hx] at h
      cases k with
      | zero => exact ⟨by simp, hx⟩
      | succ k =>
        obtain ⟨h1, h2⟩ := ih (by simpa using h)
        exact ⟨by simpa using h1, by simpa using h2⟩
theorem ahead_end {l : List UInt8} (h : (Lp.ahead l).length < l.length) : l[(Lp.ahead l).length] = 0 := by
  induction l with
  | nil => simp at h
  | cons x l ih =>
    have e := Lp.ahead_cons x l
    by_cases hx : x = 0
    · rw [if_pos hx] at e
      simp only [e, List.length_nil, List.getElem_cons_zero]; exact hx
    · rw [if_neg hx] at e
      have h2 : (Lp.ahead l).length < l.length := by rw [e] at h; simpa using h
      simp only [e, List.length_cons, List.getElem_cons_succ]
      exact ih h2
theorem ahead_le (l : List UInt8) : (Lp.ahead l).length ≤ l.length := by
  unfold Lp.ahead; exact (List.takeWhile_sublist _).length_le

set_option maxRecDepth 100000 in
set_option maxHeartbeats 4000000 in
theorem read3_any (A : Option Addr) (n c : Nat) (l : List UInt8) (hnl : n = l.length) (w : World) (h : Rds w A (bv l)) (hc : n ≤ c) (hl : l.length ≤ 1000000) :
    Calls Tryd.prog 34 #[.slice A n c] w (ReadPost w (Lp.kread l)) := by
  subst hnl
  obtain ⟨iV, hiV, hzV0, hzV1, hzV2⟩ := info_parts valInfo
  go_enter Tryd.func34, Tryd.ntmps34
  go_wp2_with fail
  go_loopg [0, 4, 5, 6, 7, 9] (l.length + 1) (fun gk s0 s4 _ _ _ _ wr => ∃ (p : List UInt8) (Ap : Option Addr) (cp : Nat) (L : List Lp.V) (A2 : Option Addr) (c2 : Nat), gk = p.length + 1 ∧ s0 = .slice Ap p.length cp ∧ p.length ≤ cp ∧ Rds w Ap (bv p) ∧
    s4 = .slice A2 L.length c2 ∧ wr.ownsRow w.heap.size 36 4 (.slice A2 L.length c2) L.length (Lp.vv L) ∧ L.length + p.length ≤ l.length ∧ Hid (∀ u ∈ L, u.ok) ∧ Hid (Lp.kread l = (Lp.kread p).map (L ++ ·)) ∧ Below w.heap.size w wr)
  case atStart => exact ⟨l, A, c, [], none, 0, rfl, rfl, hc, h, rfl, World.ownsRow_nil _ _ _ _, by simp, (fun u hu => by cases hu), by show _ = _; simp, Below.refl _ _⟩
  case round =>
    obtain ⟨p, Ap, cp, L, A2, c2, rfl, rfl, hcp, hp, rfl, hown, hLl, HOK, HR, hbw⟩ := hrel
    have hsz := hbw.size
    rcases p with _ | ⟨x, p⟩
    · have HF : Hid (Lp.kread l = some L) := by show _ = _; rw [HR.out, Lp.kread_nil]; simp
      clear HR
      have rL := Rds.own hown
      go_wp2
      go_ret2
      exact ⟨hbw, .inl ⟨L, A2, c2, HF.out, rfl, rL, HOK.out⟩⟩
    · have hpl : (0 : Int) < ((x :: p).length : Int) := by simp only [List.length_cons]; omega
      obtain ⟨b, off, rfl, p0⟩ := (hp.below hbw).at_ (k := 0) (u := .int .u8 x.toNat) rfl
      obtain ⟨b', off', he, p0w⟩ := hp.at_ (k := 0) (u := .int .u8 x.toNat) rfl
      injection he with he
      injection he with he1 he2
      subst he1 he2
      have hltw := World.block_lt_of_cell? w _ p0w
      have hlt := World.block_lt_of_cell? wr _ p0
      simp only [Nat.add_zero] at p0 hlt hltw
      clear p0w
      have hxlt := x.toNat_lt
      simp only [List.length_cons] at hcp hLl hpl ⊢
      have hbs : ∀ o, Below w.heap.size w (wr.alloc o) := fun o => hbw.alloc hsz o
      have HB := Lib.hid hbs
      have hownA := fun o => World.ownsRow.alloc hown o
      have HOA := Lib.hid hownA
      clear hbs hownA
      have HNO : Hid (Lp.ktake (x :: p) = none → Lp.kread l = none) := Lib.hid fun hk => by rw [HR.out, Lp.kread_none (by simp) hk]; rfl
      have HYES : Hid (∀ v r, Lp.ktake (x :: p) = some (v, r) → Lp.kread l = (Lp.kread r).map ((L ++ [v]) ++ ·)) := Lib.hid fun v r hk => by
        rw [HR.out, Lp.kread_some hk, Option.map_map]
        congr 1
        funext z
        simp
      have HOKS : Hid (∀ v : Lp.V, v.ok → ∀ u ∈ L ++ [v], u.ok) := Lib.hid fun v hv u hu => by
        rcases List.mem_append.1 hu with h1 | h1
        · exact HOK.out u h1
        · have : u = v := by simpa using h1
          rw [this]; exact hv
      clear HR HOK
      have HNE : Hid (some wr.heap.size ≠ Value.ownBlock (.slice A2 L.length c2)) := Lib.hid (own_old hown (Nat.le_refl _))
      by_cases x1 : x.toNat = 1
      · have HK : Hid (Lp.ktake (x :: p) = some ((⟨0, 0, ⟨#[]⟩, false⟩ : Lp.V), (x :: p).drop 1)) := by show _ = _; rw [show x = 1 from UInt8.toNat_inj.1 x1]; rfl
        rw [x1] at p0
        have hx1 := heap_alloc_new wr (.cells #[.int .u8 0, .int .i64 0, .string ⟨#[]⟩, .bool false] 36)
        have hown1 := HOA.out (.cells #[.int .u8 0, .int .i64 0, .string ⟨#[]⟩, .bool false] 36)
        have hbw1 := HB.out (.cells #[.int .u8 0, .int .i64 0, .string ⟨#[]⟩, .bool false] 36)
        clear x1 hxlt hown hbw
        go_wp2_with fail
        generalize wr.alloc (.cells #[.int .u8 0, .int .i64 0, .string ⟨#[]⟩, .bool false] 36) = w1 at *
        have hrd := hp.drop (1) (cap := cp) (by rw [bv_length, List.length_cons]; exact hcp)
        rw [bv_drop] at hrd
        have HN := Lib.hid (HYES.out _ _ HK.out)
        have hrl : Hid (((x :: p).drop 1).length < p.length + 1) := Lib.hid (by have := Lp.ktake_less HK.out; simpa only [List.length_cons] using this)
        have HO := Lib.hid (HOKS.out (⟨0, 0, ⟨#[]⟩, false⟩ : Lp.V) (vnull_ok))
        have hleN : (1 : Int) ≤ (p.length : Int) + 1 := by omega
        have hleP : (0 : Int) ≤ 1 := by omega
        clear HK HYES HNO HOKS HOA HB
        have hcx := box_cells hx1
        have hz1 := hbw1.size
        by_cases hcn : cp = 1
        · rw [if_pos hcn] at hrd
          subst hcn
          go_wp2_with fail
          go_region_held3 (fun w' => w'.cell? ⟨wr.heap.size, 0, none⟩ = some (.int .u8 0) ∧ w'.cell? ⟨wr.heap.size, 1, none⟩ = some (.int .i64 0) ∧ w'.cell? ⟨wr.heap.size, 2, none⟩ = some (.string ⟨#[]⟩) ∧ w'.cell? ⟨wr.heap.size, 3, none⟩ = some (.bool false))
            (first | go_keep | exact ⟨hx4 0, hx4 1, hx4 2, hx4 3⟩)
            ((refine step_app _ rfl (.tmp 86) (.tmp 88) _ rfl w.heap.size 36 iV _ 4 40 Tryd.underlying28 hiV hzV0 hzV1 hzV2 rfl (by decide) _ _ _ (Lp.vv L) rfl ?_ _ 1 1 (Lp.vv [(⟨0, 0, ⟨#[]⟩, false⟩ : Lp.V)]) rfl rfl ?_ ?_ ?_ ?_ ?_ ?_
              · exact (own_below hown1 (by repeat (first | exact Below.refl _ _ | apply Below.drew | refine Below.alloc ?_ (by simp) _)))
              · (first | exact rds_new _ (Lp.vv [(⟨0, 0, ⟨#[]⟩, false⟩ : Lp.V)]) _ | exact rds_drew (rds_new _ (Lp.vv [(⟨0, 0, ⟨#[]⟩, false⟩ : Lp.V)]) _))
              · simp [Value.oneCell', Lp.vv, Lp.V.cells]
              · simp only [maxLen]; omega
              · omega
              · simp; omega
              intro A4 c4 w4 hown4 hb4 hg4 hk4
              have hx4 := box_cells (hk4 wr.heap.size _ (box_below hx1 (by repeat (first | exact Below.refl _ _ | apply Below.drew | refine Below.alloc ?_ (by simp) _))) HNE.out).1))
          all_goals
            have hb14 : Below w.heap.size w1 w4 := Below.trans (by repeat (first | exact Below.refl _ _ | apply Below.drew | refine Below.alloc ?_ (by first | omega | (simp; omega)) _)) hb4
            have hbw4 := hbw1.trans hb14
            have hown5 : w4.ownsRow w.heap.size 36 4 (.slice A4 (L ++ [(⟨0, 0, ⟨#[]⟩, false⟩ : Lp.V)]).length c4) (L ++ [(⟨0, 0, ⟨#[]⟩, false⟩ : Lp.V)]).length (Lp.vv (L ++ [(⟨0, 0, ⟨#[]⟩, false⟩ : Lp.V)])) := by
              rw [Lp.vv_append, List.length_append]; exact hown4
            clear hown4 hb4 hg4 hk4 hown1 hbw1 hb14 hx4
            go_wp2
            go_roundg (((x :: p).drop 1).length + 1)
            case measure => have := hrl.out; simp only [List.length_cons]; omega
            case rel => exact ⟨((x :: p).drop 1), (some ⟨b, off, none⟩), 0, L ++ [(⟨0, 0, ⟨#[]⟩, false⟩ : Lp.V)], A4, c4, rfl, by (simp; omega), by (simp only [List.length_drop, List.length_cons]; omega), hrd, by simp, hown5, by have := hrl.out; simp only [List.length_append, List.length_cons, List.length_nil]; omega, HO, HN, hbw4⟩
        · rw [if_neg hcn] at hrd
          have hcne : (cp == 1) = false := by simpa using hcn
          simp only [Option.map_some, Nat.mul_one, addr_plus] at hrd
          go_wp2_with fail
          go_region_held3 (fun w' => w'.cell? ⟨wr.heap.size, 0, none⟩ = some (.int .u8 0) ∧ w'.cell? ⟨wr.heap.size, 1, none⟩ = some (.int .i64 0) ∧ w'.cell? ⟨wr.heap.size, 2, none⟩ = some (.string ⟨#[]⟩) ∧ w'.cell? ⟨wr.heap.size, 3, none⟩ = some (.bool false))
            (first | go_keep | exact ⟨hx4 0, hx4 1, hx4 2, hx4 3⟩)
            ((refine step_app _ rfl (.tmp 86) (.tmp 88) _ rfl w.heap.size 36 iV _ 4 40 Tryd.underlying28 hiV hzV0 hzV1 hzV2 rfl (by decide) _ _ _ (Lp.vv L) rfl ?_ _ 1 1 (Lp.vv [(⟨0, 0, ⟨#[]⟩, false⟩ : Lp.V)]) rfl rfl ?_ ?_ ?_ ?_ ?_ ?_
              · exact (own_below hown1 (by repeat (first | exact Below.refl _ _ | apply Below.drew | refine Below.alloc ?_ (by simp) _)))
              · (first | exact rds_new _ (Lp.vv [(⟨0, 0, ⟨#[]⟩, false⟩ : Lp.V)]) _ | exact rds_drew (rds_new _ (Lp.vv [(⟨0, 0, ⟨#[]⟩, false⟩ : Lp.V)]) _))
              · simp [Value.oneCell', Lp.vv, Lp.V.cells]
              · simp only [maxLen]; omega
              · omega
              · simp; omega
              intro A4 c4 w4 hown4 hb4 hg4 hk4
              have hx4 := box_cells (hk4 wr.heap.size _ (box_below hx1 (by repeat (first | exact Below.refl _ _ | apply Below.drew | refine Below.alloc ?_ (by simp) _))) HNE.out).1))
          all_goals
            have hb14 : Below w.heap.size w1 w4 := Below.trans (by repeat (first | exact Below.refl _ _ | apply Below.drew | refine Below.alloc ?_ (by first | omega | (simp; omega)) _)) hb4
            have hbw4 := hbw1.trans hb14
            have hown5 : w4.ownsRow w.heap.size 36 4 (.slice A4 (L ++ [(⟨0, 0, ⟨#[]⟩, false⟩ : Lp.V)]).length c4) (L ++ [(⟨0, 0, ⟨#[]⟩, false⟩ : Lp.V)]).length (Lp.vv (L ++ [(⟨0, 0, ⟨#[]⟩, false⟩ : Lp.V)])) := by
              rw [Lp.vv_append, List.length_append]; exact hown4
            clear hown4 hb4 hg4 hk4 hown1 hbw1 hb14 hx4
            go_wp2
            go_roundg (((x :: p).drop 1).length + 1)
            case measure => have := hrl.out; simp only [List.length_cons]; omega
            case rel => exact ⟨((x :: p).drop 1), (some ⟨b, off + (1), none⟩), cp - (1), L ++ [(⟨0, 0, ⟨#[]⟩, false⟩ : Lp.V)], A4, c4, rfl, by simp, by (simp only [List.length_drop, List.length_cons]; omega), hrd, by simp, hown5, by have := hrl.out; simp only [List.length_append, List.length_cons, List.length_nil]; omega, HO, HN, hbw4⟩
      · by_cases x2 : x.toNat = 2
        · have hx : x = 2 := UInt8.toNat_inj.1 x2
          rw [x2] at p0
          clear x1 x2 hxlt
          rcases p with _ | ⟨y, p⟩
          · have HK : Hid (Lp.ktake [x] = none) := by show _ = _; rw [hx]; rfl
            clear hx hown
            go_wp2
            go_ret2
            exact ⟨HB.out _, .inr ⟨HNO.out HK.out, rfl⟩⟩
          · obtain ⟨b3, o3, he, p1⟩ := (hp.below hbw).at_ (k := 1) (u := .int .u8 y.toNat) rfl
            injection he with he
            injection he with he1 he2
            subst he1 he2
            have hy := y.toNat_lt
            simp only [List.length_cons] at hcp hLl hpl ⊢
            have el : (0 : Int) ≤ (p.length : Int) := by omega
            by_cases hy1 : y.toNat ≤ 1
            · have HK : Hid (Lp.ktake (x :: y :: p) = some ((⟨3, 0, ⟨#[]⟩, y == 1⟩ : Lp.V), (x :: y :: p).drop 2)) := by show _ = _; rw [hx]; simp [Lp.ktake, hy1]; rfl
              have hyb : ((y.toNat : Int) == 1) = (y == 1) := by
                rw [Bool.eq_iff_iff]; simp [← UInt8.toNat_inj]; omega
              have hx1 := box_alloc (heap_alloc_new wr (.cells #[.int .u8 3, .int .i64 0, .string ⟨#[]⟩, .bool (y == 1)] 36)) (.cells #[.int .u8 3, .int .i64 0, .string ⟨#[]⟩, .bool (y == 1)] 36)
              have hown1 := World.ownsRow.alloc (HOA.out (.cells #[.int .u8 3, .int .i64 0, .string ⟨#[]⟩, .bool (y == 1)] 36)) (.cells #[.int .u8 3, .int .i64 0, .string ⟨#[]⟩, .bool (y == 1)] 36)
              have hbw1 := (HB.out (.cells #[.int .u8 3, .int .i64 0, .string ⟨#[]⟩, .bool (y == 1)] 36)).alloc (by simp; omega) (.cells #[.int .u8 3, .int .i64 0, .string ⟨#[]⟩, .bool (y == 1)] 36)
              clear hx hown hbw
              generalize hY : (y == 1) = Y at *
              go_wp2_with fail
              refine (truth2_any _ _).mono ?_
              rintro e w' ⟨rfl, rfl⟩
              go_wp2_with fail
              generalize (wr.alloc (.cells #[.int .u8 3, .int .i64 0, .string ⟨#[]⟩, .bool Y] 36)).alloc (.cells #[.int .u8 3, .int .i64 0, .string ⟨#[]⟩, .bool Y] 36) = w1 at *
              clear hY hyb p1
              have hrd := hp.drop (2) (cap := cp) (by rw [bv_length, List.length_cons]; exact hcp)
              rw [bv_drop] at hrd
              have HN := Lib.hid (HYES.out _ _ HK.out)
              have hrl : Hid (((x :: y :: p).drop 2).length < p.length + 1 + 1) := Lib.hid (by have := Lp.ktake_less HK.out; simpa only [List.length_cons] using this)
              have HO := Lib.hid (HOKS.out (⟨3, 0, ⟨#[]⟩, Y⟩ : Lp.V) (vbool_ok Y))
              have hleN : (2 : Int) ≤ (p.length : Int) + 1 + 1 := by omega
              have hleP : (0 : Int) ≤ 2 := by omega
              clear HK HYES HNO HOKS HOA HB
              have hcx := box_cells hx1
              have hz1 := hbw1.size
              by_cases hcn : cp = 2
              · rw [if_pos hcn] at hrd
                subst hcn
                go_wp2_with fail
                go_region_held3 (fun w' => w'.cell? ⟨wr.heap.size, 0, none⟩ = some (.int .u8 3) ∧ w'.cell? ⟨wr.heap.size, 1, none⟩ = some (.int .i64 0) ∧ w'.cell? ⟨wr.heap.size, 2, none⟩ = some (.string ⟨#[]⟩) ∧ w'.cell? ⟨wr.heap.size, 3, none⟩ = some (.bool Y))
                  (first | go_keep | exact ⟨hx4 0, hx4 1, hx4 2, hx4 3⟩)
                  ((refine step_app _ rfl (.tmp 86) (.tmp 88) _ rfl w.heap.size 36 iV _ 4 40 Tryd.underlying28 hiV hzV0 hzV1 hzV2 rfl (by decide) _ _ _ (Lp.vv L) rfl ?_ _ 1 1 (Lp.vv [(⟨3, 0, ⟨#[]⟩, Y⟩ : Lp.V)]) rfl rfl ?_ ?_ ?_ ?_ ?_ ?_
                    · exact (own_below hown1 (by repeat (first | exact Below.refl _ _ | apply Below.drew | refine Below.alloc ?_ (by simp) _)))
                    · (first | exact rds_new _ (Lp.vv [(⟨3, 0, ⟨#[]⟩, Y⟩ : Lp.V)]) _ | exact rds_drew (rds_new _ (Lp.vv [(⟨3, 0, ⟨#[]⟩, Y⟩ : Lp.V)]) _))
                    · simp [Value.oneCell', Lp.vv, Lp.V.cells]
                    · simp only [maxLen]; omega
                    · omega
                    · simp; omega
                    intro A4 c4 w4 hown4 hb4 hg4 hk4
                    have hx4 := box_cells (hk4 wr.heap.size _ (box_below hx1 (by repeat (first | exact Below.refl _ _ | apply Below.drew | refine Below.alloc ?_ (by simp) _))) HNE.out).1))
                all_goals
                  have hb14 : Below w.heap.size w1 w4 := Below.trans (by repeat (first | exact Below.refl _ _ | apply Below.drew | refine Below.alloc ?_ (by first | omega | (simp; omega)) _)) hb4
                  have hbw4 := hbw1.trans hb14
                  have hown5 : w4.ownsRow w.heap.size 36 4 (.slice A4 (L ++ [(⟨3, 0, ⟨#[]⟩, Y⟩ : Lp.V)]).length c4) (L ++ [(⟨3, 0, ⟨#[]⟩, Y⟩ : Lp.V)]).length (Lp.vv (L ++ [(⟨3, 0, ⟨#[]⟩, Y⟩ : Lp.V)])) := by
                    rw [Lp.vv_append, List.length_append]; exact hown4
                  clear hown4 hb4 hg4 hk4 hown1 hbw1 hb14 hx4
                  go_wp2
                  go_roundg (((x :: y :: p).drop 2).length + 1)
                  case measure => have := hrl.out; simp only [List.length_cons]; omega
                  case rel => exact ⟨((x :: y :: p).drop 2), (some ⟨b, off, none⟩), 0, L ++ [(⟨3, 0, ⟨#[]⟩, Y⟩ : Lp.V)], A4, c4, rfl, by (simp; omega), by (simp only [List.length_drop, List.length_cons]; omega), hrd, by simp, hown5, by have := hrl.out; simp only [List.length_append, List.length_cons, List.length_nil]; omega, HO, HN, hbw4⟩
              · rw [if_neg hcn] at hrd
                have hcne : (cp == 2) = false := by simpa using hcn
                simp only [Option.map_some, Nat.mul_one, addr_plus] at hrd
                go_wp2_with fail
                go_region_held3 (fun w' => w'.cell? ⟨wr.heap.size, 0, none⟩ = some (.int .u8 3) ∧ w'.cell? ⟨wr.heap.size, 1, none⟩ = some (.int .i64 0) ∧ w'.cell? ⟨wr.heap.size, 2, none⟩ = some (.string ⟨#[]⟩) ∧ w'.cell? ⟨wr.heap.size, 3, none⟩ = some (.bool Y))
                  (first | go_keep | exact ⟨hx4 0, hx4 1, hx4 2, hx4 3⟩)
                  ((refine step_app _ rfl (.tmp 86) (.tmp 88) _ rfl w.heap.size 36 iV _ 4 40 Tryd.underlying28 hiV hzV0 hzV1 hzV2 rfl (by decide) _ _ _ (Lp.vv L) rfl ?_ _ 1 1 (Lp.vv [(⟨3, 0, ⟨#[]⟩, Y⟩ : Lp.V)]) rfl rfl ?_ ?_ ?_ ?_ ?_ ?_
                    · exact (own_below hown1 (by repeat (first | exact Below.refl _ _ | apply Below.drew | refine Below.alloc ?_ (by simp) _)))
                    · (first | exact rds_new _ (Lp.vv [(⟨3, 0, ⟨#[]⟩, Y⟩ : Lp.V)]) _ | exact rds_drew (rds_new _ (Lp.vv [(⟨3, 0, ⟨#[]⟩, Y⟩ : Lp.V)]) _))
                    · simp [Value.oneCell', Lp.vv, Lp.V.cells]
                    · simp only [maxLen]; omega
                    · omega
                    · simp; omega
                    intro A4 c4 w4 hown4 hb4 hg4 hk4
                    have hx4 := box_cells (hk4 wr.heap.size _ (box_below hx1 (by repeat (first | exact Below.refl _ _ | apply Below.drew | refine Below.alloc ?_ (by simp) _))) HNE.out).1))
                all_goals
                  have hb14 : Below w.heap.size w1 w4 := Below.trans (by repeat (first | exact Below.refl _ _ | apply Below.drew | refine Below.alloc ?_ (by first | omega | (simp; omega)) _)) hb4
                  have hbw4 := hbw1.trans hb14
                  have hown5 : w4.ownsRow w.heap.size 36 4 (.slice A4 (L ++ [(⟨3, 0, ⟨#[]⟩, Y⟩ : Lp.V)]).length c4) (L ++ [(⟨3, 0, ⟨#[]⟩, Y⟩ : Lp.V)]).length (Lp.vv (L ++ [(⟨3, 0, ⟨#[]⟩, Y⟩ : Lp.V)])) := by
                    rw [Lp.vv_append, List.length_append]; exact hown4
                  clear hown4 hb4 hg4 hk4 hown1 hbw1 hb14 hx4
                  go_wp2
                  go_roundg (((x :: y :: p).drop 2).length + 1)
                  case measure => have := hrl.out; simp only [List.length_cons]; omega
                  case rel => exact ⟨((x :: y :: p).drop 2), (some ⟨b, off + (2), none⟩), cp - (2), L ++ [(⟨3, 0, ⟨#[]⟩, Y⟩ : Lp.V)], A4, c4, rfl, by simp, by (simp only [List.length_drop, List.length_cons]; omega), hrd, by simp, hown5, by have := hrl.out; simp only [List.length_append, List.length_cons, List.length_nil]; omega, HO, HN, hbw4⟩
            · have HK : Hid (Lp.ktake (x :: y :: p) = none) := by show _ = _; rw [hx]; simp [Lp.ktake, hy1]
              have hy2 : (1 : Int) < (y.toNat : Int) := by omega
              clear hx hown
              go_wp2
              go_ret2
              exact ⟨HB.out _, .inr ⟨HNO.out HK.out, rfl⟩⟩
        · by_cases x3 : x.toNat = 3
          · have hx : x = 3 := UInt8.toNat_inj.1 x3
            rw [x3] at p0
            clear x1 x2 x3 hxlt
            by_cases h8 : p.length < 8
            · have HK : Hid (Lp.ktake (x :: p) = none) := by show _ = _; rw [hx]; simp [Lp.ktake, h8]
              clear hx hown
              go_wp2
              go_ret2
              exact ⟨HB.out _, .inr ⟨HNO.out HK.out, rfl⟩⟩
            · have HK : Hid (Lp.ktake (x :: p) = some ((⟨1, (Lp.unbe (p.take 8) : Int) - 9223372036854775808, ⟨#[]⟩, false⟩ : Lp.V), (x :: p).drop 9)) := by show _ = _; rw [hx]; simp [Lp.ktake, h8]; rfl
              have hlt64 : Lp.unbe (p.take 8) < 18446744073709551616 := by
                have h1 := Lp.unbe_lt (p.take 8)
                rw [List.length_take, Nat.min_eq_left (by omega)] at h1
                exact h1
              have hxs := Lib.hid (sub_sign _ hlt64)
              have hok : Hid (Lp.inR ((Lp.unbe (p.take 8) : Int) - 9223372036854775808)) := by show Lp.inR _; unfold Lp.inR; omega
              have h8' : 8 ≤ p.length := by omega
              have hcp1 : (cp == 1) = false := by simp; omega
              have hpr := hp.below hbw
              clear hx
              go_wp2_with fail
              go_loop [7, 9, 43] (fun s7 _ s43 => ∃ k : Nat, k ≤ 8 ∧ s43 = .int .i64 k ∧ s7 = .int .u64 (Lp.unbe (p.take k) : Nat)) (fun _ _ s43 => 8 - (intOf s43).toNat)
              case atStart => exact ⟨0, by omega, rfl, rfl⟩
              case round =>
                obtain ⟨k, hk8, rfl, rfl⟩ := hrel
                by_cases hlt8 : k < 8
                · have hkl : k < p.length := by omega
                  obtain ⟨b3, o3, he, p1⟩ := hpr.at_ (k := k + 1) (u := .int .u8 p[k].toNat) (by simp [bv, List.getElem?_eq_getElem hkl])
                  injection he with he
                  injection he with he1 he2
                  subst he1 he2
                  have eoff : off + (k + 1) = off + 1 + k := by omega
                  rw [eoff] at p1
                  have hN : Hid (Lp.unbe (p.take (k + 1)) = Lp.unbe (p.take k) * 256 + p[k].toNat) := by show _ = _; rw [List.take_succ_eq_append_getElem hkl, Lp.unbe_snoc]
                  have hlt7 : Lp.unbe (p.take k) < 72057594037927936 := by
                    have h1 := Lp.unbe_lt (p.take k)
                    have h2 : (p.take k).length ≤ 7 := by simp; omega
                    have h3 : 256 ^ (p.take k).length ≤ 256 ^ 7 := Nat.pow_le_pow_right (by omega) h2
                    omega
                  have hbl := p[k].toNat_lt
                  clear eoff
                  generalize Lp.unbe (p.take k) = M at *
                  generalize p[k].toNat = B at *
                  go_wp2
                  go_round
                  case rel => exact ⟨k + 1, by omega, by go_num, by rw [hN.out]; go_num⟩
                  case measure => simp [intOf]; omega
                · obtain rfl : k = 8 := by omega
                  generalize Lp.unbe (p.take 8) = M at *
                  have hx1 := heap_alloc_new wr (.cells #[.int .u8 1, .int .i64 ((M : Int) - 9223372036854775808), .string ⟨#[]⟩, .bool false] 36)
                  have hown1 := HOA.out (.cells #[.int .u8 1, .int .i64 ((M : Int) - 9223372036854775808), .string ⟨#[]⟩, .bool false] 36)
                  have hbw1 := HB.out (.cells #[.int .u8 1, .int .i64 ((M : Int) - 9223372036854775808), .string ⟨#[]⟩, .bool false] 36)
                  clear hown hbw hpr
                  go_wp2_with fail
                  rw [hxs.out]
                  generalize wr.alloc (.cells #[.int .u8 1, .int .i64 ((M : Int) - 9223372036854775808), .string ⟨#[]⟩, .bool false] 36) = w1 at *
                  clear hxs hlt64
                  generalize hI : (M : Int) - 9223372036854775808 = I at *
                  clear hI
                  have hrd := hp.drop (9) (cap := cp) (by rw [bv_length, List.length_cons]; exact hcp)
                  rw [bv_drop] at hrd
                  have HN := Lib.hid (HYES.out _ _ HK.out)
                  have hrl : Hid (((x :: p).drop 9).length < p.length + 1) := Lib.hid (by have := Lp.ktake_less HK.out; simpa only [List.length_cons] using this)
                  have HO := Lib.hid (HOKS.out (⟨1, I, ⟨#[]⟩, false⟩ : Lp.V) (vint_ok hok.out))
                  have hleN : (9 : Int) ≤ (p.length : Int) + 1 := by omega
                  have hleP : (0 : Int) ≤ 9 := by omega
                  clear HK HYES HNO HOKS HOA HB
                  have hcx := box_cells hx1
                  have hz1 := hbw1.size
                  by_cases hcn : cp = 9
                  · rw [if_pos hcn] at hrd
                    subst hcn
                    go_wp2_with fail
                    go_region_held3 (fun w' => w'.cell? ⟨wr.heap.size, 0, none⟩ = some (.int .u8 1) ∧ w'.cell? ⟨wr.heap.size, 1, none⟩ = some (.int .i64 I) ∧ w'.cell? ⟨wr.heap.size, 2, none⟩ = some (.string ⟨#[]⟩) ∧ w'.cell? ⟨wr.heap.size, 3, none⟩ = some (.bool false))
                      (first | go_keep | exact ⟨hx4 0, hx4 1, hx4 2, hx4 3⟩)
                      ((refine step_app _ rfl (.tmp 86) (.tmp 88) _ rfl w.heap.size 36 iV _ 4 40 Tryd.underlying28 hiV hzV0 hzV1 hzV2 rfl (by decide) _ _ _ (Lp.vv L) rfl ?_ _ 1 1 (Lp.vv [(⟨1, I, ⟨#[]⟩, false⟩ : Lp.V)]) rfl rfl ?_ ?_ ?_ ?_ ?_ ?_
                        · exact (own_below hown1 (by repeat (first | exact Below.refl _ _ | apply Below.drew | refine Below.alloc ?_ (by simp) _)))
                        · (first | exact rds_new _ (Lp.vv [(⟨1, I, ⟨#[]⟩, false⟩ : Lp.V)]) _ | exact rds_drew (rds_new _ (Lp.vv [(⟨1, I, ⟨#[]⟩, false⟩ : Lp.V)]) _))
                        · simp [Value.oneCell', Lp.vv, Lp.V.cells]
                        · simp only [maxLen]; omega
                        · omega
                        · simp; omega
                        intro A4 c4 w4 hown4 hb4 hg4 hk4
                        have hx4 := box_cells (hk4 wr.heap.size _ (box_below hx1 (by repeat (first | exact Below.refl _ _ | apply Below.drew | refine Below.alloc ?_ (by simp) _))) HNE.out).1))
                    all_goals
                      have hb14 : Below w.heap.size w1 w4 := Below.trans (by repeat (first | exact Below.refl _ _ | apply Below.drew | refine Below.alloc ?_ (by first | omega | (simp; omega)) _)) hb4
                      have hbw4 := hbw1.trans hb14
                      have hown5 : w4.ownsRow w.heap.size 36 4 (.slice A4 (L ++ [(⟨1, I, ⟨#[]⟩, false⟩ : Lp.V)]).length c4) (L ++ [(⟨1, I, ⟨#[]⟩, false⟩ : Lp.V)]).length (Lp.vv (L ++ [(⟨1, I, ⟨#[]⟩, false⟩ : Lp.V)])) := by
                        rw [Lp.vv_append, List.length_append]; exact hown4
                      clear hown4 hb4 hg4 hk4 hown1 hbw1 hb14 hx4
                      go_wp2
                      go_roundg (((x :: p).drop 9).length + 1)
                      case measure => have := hrl.out; simp only [List.length_cons]; omega
                      case rel => exact ⟨((x :: p).drop 9), (some ⟨b, off, none⟩), 0, L ++ [(⟨1, I, ⟨#[]⟩, false⟩ : Lp.V)], A4, c4, rfl, by (simp; omega), by (simp only [List.length_drop, List.length_cons]; omega), hrd, by simp, hown5, by have := hrl.out; simp only [List.length_append, List.length_cons, List.length_nil]; omega, HO, HN, hbw4⟩
                  · rw [if_neg hcn] at hrd
                    have hcne : (cp == 9) = false := by simpa using hcn
                    simp only [Option.map_some, Nat.mul_one, addr_plus] at hrd
                    go_wp2_with fail
                    go_region_held3 (fun w' => w'.cell? ⟨wr.heap.size, 0, none⟩ = some (.int .u8 1) ∧ w'.cell? ⟨wr.heap.size, 1, none⟩ = some (.int .i64 I) ∧ w'.cell? ⟨wr.heap.size, 2, none⟩ = some (.string ⟨#[]⟩) ∧ w'.cell? ⟨wr.heap.size, 3, none⟩ = some (.bool false))
                      (first | go_keep | exact ⟨hx4 0, hx4 1, hx4 2, hx4 3⟩)
                      ((refine step_app _ rfl (.tmp 86) (.tmp 88) _ rfl w.heap.size 36 iV _ 4 40 Tryd.underlying28 hiV hzV0 hzV1 hzV2 rfl (by decide) _ _ _ (Lp.vv L) rfl ?_ _ 1 1 (Lp.vv [(⟨1, I, ⟨#[]⟩, false⟩ : Lp.V)]) rfl rfl ?_ ?_ ?_ ?_ ?_ ?_
                        · exact (own_below hown1 (by repeat (first | exact Below.refl _ _ | apply Below.drew | refine Below.alloc ?_ (by simp) _)))
                        · (first | exact rds_new _ (Lp.vv [(⟨1, I, ⟨#[]⟩, false⟩ : Lp.V)]) _ | exact rds_drew (rds_new _ (Lp.vv [(⟨1, I, ⟨#[]⟩, false⟩ : Lp.V)]) _))
                        · simp [Value.oneCell', Lp.vv, Lp.V.cells]
                        · simp only [maxLen]; omega
                        · omega
                        · simp; omega
                        intro A4 c4 w4 hown4 hb4 hg4 hk4
                        have hx4 := box_cells (hk4 wr.heap.size _ (box_below hx1 (by repeat (first | exact Below.refl _ _ | apply Below.drew | refine Below.alloc ?_ (by simp) _))) HNE.out).1))
                    all_goals
                      have hb14 : Below w.heap.size w1 w4 := Below.trans (by repeat (first | exact Below.refl _ _ | apply Below.drew | refine Below.alloc ?_ (by first | omega | (simp; omega)) _)) hb4
                      have hbw4 := hbw1.trans hb14
                      have hown5 : w4.ownsRow w.heap.size 36 4 (.slice A4 (L ++ [(⟨1, I, ⟨#[]⟩, false⟩ : Lp.V)]).length c4) (L ++ [(⟨1, I, ⟨#[]⟩, false⟩ : Lp.V)]).length (Lp.vv (L ++ [(⟨1, I, ⟨#[]⟩, false⟩ : Lp.V)])) := by
                        rw [Lp.vv_append, List.length_append]; exact hown4
                      clear hown4 hb4 hg4 hk4 hown1 hbw1 hb14 hx4
                      go_wp2
                      go_roundg (((x :: p).drop 9).length + 1)
                      case measure => have := hrl.out; simp only [List.length_cons]; omega
                      case rel => exact ⟨((x :: p).drop 9), (some ⟨b, off + (9), none⟩), cp - (9), L ++ [(⟨1, I, ⟨#[]⟩, false⟩ : Lp.V)], A4, c4, rfl, by simp, by (simp only [List.length_drop, List.length_cons]; omega), hrd, by simp, hown5, by have := hrl.out; simp only [List.length_append, List.length_cons, List.length_nil]; omega, HO, HN, hbw4⟩
          · by_cases x4 : x.toNat = 4
            · have hx : x = 4 := UInt8.toNat_inj.1 x4
              rw [x4] at p0
              clear x1 x2 x3 x4 hxlt
              have hTle := ahead_le p
              have hpr := hp.below hbw
              have HAT := Lib.hid (fun k (hk : k < (Lp.ahead p).length) => ahead_at (l := p) hk)
              have HEND := Lib.hid (fun (hk : (Lp.ahead p).length < p.length) => ahead_end hk)
              have HKN : Hid (¬ (Lp.ahead p).length < p.length → Lp.ktake (x :: p) = none) := Lib.hid fun ha => by rw [hx]; simp [Lp.ktake, ha]
              have HKB : Hid (¬ (Lp.textOk (Lp.ahead p) = true ∧ (Lp.ahead p).length ≤ 60) → Lp.ktake (x :: p) = none) := Lib.hid fun ha => by
                rw [hx]; simp only [Lp.ktake]
                rw [if_neg (by decide), if_neg (by decide), if_neg (by decide), if_pos trivial, if_neg (fun g => ha g.2)]
              have HKY : Hid ((Lp.ahead p).length < p.length → Lp.textOk (Lp.ahead p) = true ∧ (Lp.ahead p).length ≤ 60 → Lp.ktake (x :: p) = some ((⟨2, 0, ⟨(Lp.ahead p).toArray⟩, false⟩ : Lp.V), (x :: p).drop ((Lp.ahead p).length + 2))) := Lib.hid fun ha hb => by
                rw [hx]; simp only [Lp.ktake]
                rw [if_neg (by decide), if_neg (by decide), if_neg (by decide), if_pos trivial, if_pos ⟨ha, hb.1, hb.2⟩]; rfl
              have HTA := Lib.hid (Lp.take_ahead p)
              have hcv : Hid (Rds w (some ⟨b, off + 1, none⟩) (bv (Lp.ahead p))) := by
                show Rds _ _ _
                have h1 := hp.drop 1 (cap := p.length + 2) (by rw [bv_length, List.length_cons]; omega)
                rw [if_neg (by omega)] at h1
                simp only [Option.map_some, Nat.mul_one, addr_plus] at h1
                have h2 := Rds.take h1 (Lp.ahead p).length
                have h3 : ((bv (x :: p)).drop 1).take (Lp.ahead p).length = bv (Lp.ahead p) := by
                  show (bv p).take _ = _
                  rw [bv_take, HTA.out]
                rw [h3] at h2; exact h2
              have hrb : Hid (Lp.rightB 2 0 ⟨(Lp.ahead p).toArray⟩ false = (decide ((Lp.ahead p).length ≤ 60) && Lp.textOk (Lp.ahead p))) := by
                show _ = _
                unfold Lp.rightB
                simp [ByteArray.size]
              clear hx HTA
              generalize Lp.ahead p = T at *
              go_wp2_with fail
              go_loop [6] (fun s6 => ∃ k : Nat, k ≤ T.length ∧ s6 = .int .i64 ((k : Int) + 1)) (fun s6 => p.length + 2 - (intOf s6).toNat)
              case atStart => exact ⟨0, Nat.zero_le _, rfl⟩
              case round =>
                obtain ⟨k, hkT, rfl⟩ := hrel
                by_cases hkl : k < T.length
                · obtain ⟨hkp, hnz⟩ := HAT.out k hkl
                  obtain ⟨b3, o3, he, p1⟩ := hpr.at_ (k := k + 1) (u := .int .u8 p[k].toNat) (by simp [bv, List.getElem?_eq_getElem hkp])
                  injection he with he
                  injection he with he1 he2
                  subst he1 he2
                  have hnz2 : ((p[k].toNat : Int) != 0) = true := by
                    have : p[k].toNat ≠ 0 := fun e => hnz (UInt8.toNat_inj.1 e)
                    simpa using this
                  clear hnz
                  generalize p[k].toNat = B at *
                  have hk0 : (0 : Int) ≤ (k : Int) + 1 := by omega
                  have hk1 : (k : Int) + 1 < (p.length : Int) + 1 := by omega
                  have hk2 : ((k : Int) + 1).toNat = k + 1 := by omega
                  go_wp2
                  all_goals
                    go_round
                    case rel => exact ⟨k + 1, by omega, by go_num⟩
                    case measure => simp [intOf]; omega
                · obtain rfl : k = T.length := by omega
                  by_cases ha : T.length < p.length
                  · have hz0 := HEND.out ha
                    obtain ⟨b3, o3, he, p1⟩ := hpr.at_ (k := T.length + 1) (u := .int .u8 0) (by simp [bv, List.getElem?_eq_getElem ha, hz0])
                    injection he with he
                    injection he with he1 he2
                    subst he1 he2
                    have hne1 : ((T.length : Int) == (p.length : Int)) = false := by simp; omega
                    have hne2 : ((T.length : Int) + 1 == (p.length : Int) + 1) = false := by simp; omega
                    have hk0 : (0 : Int) ≤ (T.length : Int) + 1 := by omega
                    have hk1 : (T.length : Int) + 1 < (p.length : Int) + 1 := by omega
                    have hk2 : ((T.length : Int) + 1).toNat = T.length + 1 := by omega
                    have hcp1 : (cp == 1) = false := by simp; omega
                    have hcvE := conv_rds T.length (cp - 1) rfl (hcv.out.below (HB.out (.cells #[.int .u8 0, .int .i64 0, .string ⟨#[]⟩, .bool false] 36)))
                    have hTl : T.length ≤ 9223372036854775807 := by omega
                    clear hz0 hpr HKN HAT HEND
                    cases hr : Lp.rightB 2 0 ⟨T.toArray⟩ false
                    · have HK : Hid (Lp.ktake (x :: p) = none) := Lib.hid (HKB.out (fun g => by have := hrb.out; rw [hr] at this; simp [g.1, g.2] at this))
                      have HR := Lib.hid hr
                      clear hr hown
                      go_wp2_with fail
                      refine (right2_at _ _ _ _ _ HR.out _ ?_).mono ?_
                      · simpa [ByteArray.size] using hTl
                      rintro e w1 ⟨rfl, hb1⟩
                      have hbw1 := (HB.out (.cells #[.int .u8 2, .int .i64 0, .string ⟨T.toArray⟩, .bool false] 36)).trans (hb1.mono (by simp; omega))
                      go_wp2
                      go_ret2
                      exact ⟨hbw1, .inr ⟨HNO.out HK.out, rfl⟩⟩
                    · have hTO : Lp.textOk T = true ∧ T.length ≤ 60 := by have := hrb.out; rw [hr] at this; simp at this; exact ⟨this.2, this.1⟩
                      have HK := Lib.hid (HKY.out ha hTO)
                      have HR := Lib.hid hr
                      clear hr hTO
                      go_wp2_with fail
                      refine (right2_at _ _ _ _ _ HR.out _ ?_).mono ?_
                      · simpa [ByteArray.size] using hTl
                      rintro e w1 ⟨rfl, hb1⟩
                      have hbw1 := (HB.out (.cells #[.int .u8 2, .int .i64 0, .string ⟨T.toArray⟩, .bool false] 36)).trans (hb1.mono (by simp; omega))
                      have hown1 := own_below (HOA.out (.cells #[.int .u8 2, .int .i64 0, .string ⟨T.toArray⟩, .bool false] 36)) hb1
                      have hx1 := box_below (heap_alloc_new wr (.cells #[.int .u8 2, .int .i64 0, .string ⟨T.toArray⟩, .bool false] 36)) hb1
                      have hsz1 := hb1.size
                      have eNN : ((T.length : Int) + 1 + 1).toNat = T.length + 2 := by omega
                      have eNN2 : ((T.length : Int) + 2).toNat = T.length + 2 := by omega
                      have eNN3 : (T.length : Int) + 1 + 1 ≤ (p.length : Int) + 1 := by omega
                      have eNN4 : (0 : Int) ≤ (T.length : Int) + 1 + 1 := by omega
                      clear hown hbw hb1 hcvE hcv p1 HKB HKY hrb
                      have hrd := hp.drop (T.length + 2) (cap := cp) (by rw [bv_length, List.length_cons]; exact hcp)
                      rw [bv_drop] at hrd
                      have HN := Lib.hid (HYES.out _ _ HK.out)
                      have hrl : Hid (((x :: p).drop (T.length + 2)).length < p.length + 1) := Lib.hid (by have := Lp.ktake_less HK.out; simpa only [List.length_cons] using this)
                      have HO := Lib.hid (HOKS.out (⟨2, 0, ⟨T.toArray⟩, false⟩ : Lp.V) (vtext_ok hTl))
                      have hleN : ((T.length : Int) + 2 : Int) ≤ (p.length : Int) + 1 := by omega
                      have hleP : (0 : Int) ≤ (T.length : Int) + 2 := by omega
                      clear HK HYES HNO HOKS HOA HB
                      have hcx := box_cells hx1
                      have hz1 := hbw1.size
                      by_cases hcn : cp = T.length + 2
                      · rw [if_pos hcn] at hrd
                        subst hcn
                        go_wp2_with fail
                        go_region_held3 (fun w' => w'.cell? ⟨wr.heap.size, 0, none⟩ = some (.int .u8 2) ∧ w'.cell? ⟨wr.heap.size, 1, none⟩ = some (.int .i64 0) ∧ w'.cell? ⟨wr.heap.size, 2, none⟩ = some (.string ⟨T.toArray⟩) ∧ w'.cell? ⟨wr.heap.size, 3, none⟩ = some (.bool false))
                          (first | go_keep | exact ⟨hx4 0, hx4 1, hx4 2, hx4 3⟩)
                          ((refine step_app _ rfl (.tmp 86) (.tmp 88) _ rfl w.heap.size 36 iV _ 4 40 Tryd.underlying28 hiV hzV0 hzV1 hzV2 rfl (by decide) _ _ _ (Lp.vv L) rfl ?_ _ 1 1 (Lp.vv [(⟨2, 0, ⟨T.toArray⟩, false⟩ : Lp.V)]) rfl rfl ?_ ?_ ?_ ?_ ?_ ?_
                            · exact (own_below hown1 (by repeat (first | exact Below.refl _ _ | apply Below.drew | refine Below.alloc ?_ (by simp) _)))
                            · (first | exact rds_new _ (Lp.vv [(⟨2, 0, ⟨T.toArray⟩, false⟩ : Lp.V)]) _ | exact rds_drew (rds_new _ (Lp.vv [(⟨2, 0, ⟨T.toArray⟩, false⟩ : Lp.V)]) _))
                            · simp [Value.oneCell', Lp.vv, Lp.V.cells]
                            · simp only [maxLen]; omega
                            · omega
                            · simp; omega
                            intro A4 c4 w4 hown4 hb4 hg4 hk4
                            have hx4 := box_cells (hk4 wr.heap.size _ (box_below hx1 (by repeat (first | exact Below.refl _ _ | apply Below.drew | refine Below.alloc ?_ (by simp) _))) HNE.out).1))
                        all_goals
                          have hb14 : Below w.heap.size w1 w4 := Below.trans (by repeat (first | exact Below.refl _ _ | apply Below.drew | refine Below.alloc ?_ (by first | omega | (simp; omega)) _)) hb4
                          have hbw4 := hbw1.trans hb14
                          have hown5 : w4.ownsRow w.heap.size 36 4 (.slice A4 (L ++ [(⟨2, 0, ⟨T.toArray⟩, false⟩ : Lp.V)]).length c4) (L ++ [(⟨2, 0, ⟨T.toArray⟩, false⟩ : Lp.V)]).length (Lp.vv (L ++ [(⟨2, 0, ⟨T.toArray⟩, false⟩ : Lp.V)])) := by
                            rw [Lp.vv_append, List.length_append]; exact hown4
                          clear hown4 hb4 hg4 hk4 hown1 hbw1 hb14 hx4
                          go_wp2
                          go_roundg (((x :: p).drop (T.length + 2)).length + 1)
                          case measure => have := hrl.out; simp only [List.length_cons]; omega
                          case rel => exact ⟨((x :: p).drop (T.length + 2)), (some ⟨b, off, none⟩), 0, L ++ [(⟨2, 0, ⟨T.toArray⟩, false⟩ : Lp.V)], A4, c4, rfl, by (simp; omega), by (simp only [List.length_drop, List.length_cons]; omega), hrd, by simp, hown5, by have := hrl.out; simp only [List.length_append, List.length_cons, List.length_nil]; omega, HO, HN, hbw4⟩
                      · rw [if_neg hcn] at hrd
                        have hcne : (cp == T.length + 2) = false := by simpa using hcn
                        simp only [Option.map_some, Nat.mul_one, addr_plus] at hrd
                        go_wp2_with fail
                        go_region_held3 (fun w' => w'.cell? ⟨wr.heap.size, 0, none⟩ = some (.int .u8 2) ∧ w'.cell? ⟨wr.heap.size, 1, none⟩ = some (.int .i64 0) ∧ w'.cell? ⟨wr.heap.size, 2, none⟩ = some (.string ⟨T.toArray⟩) ∧ w'.cell? ⟨wr.heap.size, 3, none⟩ = some (.bool false))
                          (first | go_keep | exact ⟨hx4 0, hx4 1, hx4 2, hx4 3⟩)
                          ((refine step_app _ rfl (.tmp 86) (.tmp 88) _ rfl w.heap.size 36 iV _ 4 40 Tryd.underlying28 hiV hzV0 hzV1 hzV2 rfl (by decide) _ _ _ (Lp.vv L) rfl ?_ _ 1 1 (Lp.vv [(⟨2, 0, ⟨T.toArray⟩, false⟩ : Lp.V)]) rfl rfl ?_ ?_ ?_ ?_ ?_ ?_
                            · exact (own_below hown1 (by repeat (first | exact Below.refl _ _ | apply Below.drew | refine Below.alloc ?_ (by simp) _)))
                            · (first | exact rds_new _ (Lp.vv [(⟨2, 0, ⟨T.toArray⟩, false⟩ : Lp.V)]) _ | exact rds_drew (rds_new _ (Lp.vv [(⟨2, 0, ⟨T.toArray⟩, false⟩ : Lp.V)]) _))
                            · simp [Value.oneCell', Lp.vv, Lp.V.cells]
                            · simp only [maxLen]; omega
                            · omega
                            · simp; omega
                            intro A4 c4 w4 hown4 hb4 hg4 hk4
                            have hx4 := box_cells (hk4 wr.heap.size _ (box_below hx1 (by repeat (first | exact Below.refl _ _ | apply Below.drew | refine Below.alloc ?_ (by simp) _))) HNE.out).1))
                        all_goals
                          have hb14 : Below w.heap.size w1 w4 := Below.trans (by repeat (first | exact Below.refl _ _ | apply Below.drew | refine Below.alloc ?_ (by first | omega | (simp; omega)) _)) hb4
                          have hbw4 := hbw1.trans hb14
                          have hown5 : w4.ownsRow w.heap.size 36 4 (.slice A4 (L ++ [(⟨2, 0, ⟨T.toArray⟩, false⟩ : Lp.V)]).length c4) (L ++ [(⟨2, 0, ⟨T.toArray⟩, false⟩ : Lp.V)]).length (Lp.vv (L ++ [(⟨2, 0, ⟨T.toArray⟩, false⟩ : Lp.V)])) := by
                            rw [Lp.vv_append, List.length_append]; exact hown4
                          clear hown4 hb4 hg4 hk4 hown1 hbw1 hb14 hx4
                          go_wp2
                          go_roundg (((x :: p).drop (T.length + 2)).length + 1)
                          case measure => have := hrl.out; simp only [List.length_cons]; omega
                          case rel => exact ⟨((x :: p).drop (T.length + 2)), (some ⟨b, off + (T.length + 2), none⟩), cp - (T.length + 2), L ++ [(⟨2, 0, ⟨T.toArray⟩, false⟩ : Lp.V)], A4, c4, rfl, by simp, by (simp only [List.length_drop, List.length_cons]; omega), hrd, by simp, hown5, by have := hrl.out; simp only [List.length_append, List.length_cons, List.length_nil]; omega, HO, HN, hbw4⟩
                  · have HK : Hid (Lp.ktake (x :: p) = none) := Lib.hid (HKN.out ha)
                    have hTp : (T.length : Int) = (p.length : Int) := by omega
                    have HTP := Lib.hid hTp
                    clear hTp hown
                    go_wp2
                    go_ret2
                    exact ⟨HB.out _, .inr ⟨HNO.out HK.out, rfl⟩⟩
            · have HK : Hid (Lp.ktake (x :: p) = none) := by
                show _ = _
                have g1 : ¬ x = 1 := fun e => x1 (by rw [e]; rfl)
                have g2 : ¬ x = 2 := fun e => x2 (by rw [e]; rfl)
                have g3 : ¬ x = 3 := fun e => x3 (by rw [e]; rfl)
                have g4 : ¬ x = 4 := fun e => x4 (by rw [e]; rfl)
                simp [Lp.ktake, g1, g2, g3, g4]
              have e1 : ((x.toNat : Int) == 1) = false := by simpa using (by omega : ¬ (x.toNat : Int) = 1)
              have e2 : ((x.toNat : Int) == 2) = false := by simpa using (by omega : ¬ (x.toNat : Int) = 2)
              have e3 : ((x.toNat : Int) == 3) = false := by simpa using (by omega : ¬ (x.toNat : Int) = 3)
              have e4 : ((x.toNat : Int) == 4) = false := by simpa using (by omega : ¬ (x.toNat : Int) = 4)
              clear x1 x2 x3 x4
              go_wp2
              go_ret2
              exact ⟨HB.out _, .inr ⟨HNO.out HK.out, rfl⟩⟩
end Go.Proofs.YthdnphnipfpdkaaDoor
