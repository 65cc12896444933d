/-
  What stmt.Walk does with a closure of StmtWalks: counts the parts in order. Conditions: at most 10^6 parts.
-/
import Derived.Test.YtpkipleoodcplaaParts
namespace Go.Proofs.Ytpkipleoodcplaa
open Go.RowKit

theorem heap_set_ne {w : World} {p : Addr} {v : Value} {g : Nat} {o : Obj} (h : w.heap[g]? = some o) (hne : g ≠ p.block) : (w.setCell p v).heap[g]? = some o := by
  simp [World.setCell, Array.getElem?_modify, Ne.symm hne, h]
theorem heap_set_own {w : World} {v u : Value} {g : Nat} {t : TypeId} (h : w.heap[g]? = some (.cells #[u] t (0, 0))) : (w.setCell ⟨g, 0, none⟩ v).heap[g]? = some (.cells #[v] t (0, 0)) := by
  simp [World.setCell, Array.getElem?_modify, h]
theorem ne_dec (n m : Nat) : ((n : Int) + 1 != (m : Int)) = decide (n + 1 ≠ m) := by
  rw [bne, Bool.eq_iff_iff]
  simp
  omega
set_option maxRecDepth 100000 in
set_option maxHeartbeats 4000000 in
theorem step_any (v : Value) (n m : Nat) (ga gm : Nat) (w : World) (hn : w.heap[ga]? = some (.cells #[.int .i64 n] 3 (0, 0))) (hm : w.heap[gm]? = some (.cells #[.int .u8 m] 5 (0, 0))) (h1 : n < 1000000) (h2 : m < 256) :
    Calls Try.prog 9 #[v, .pointer (some ⟨ga, 0, none⟩), .pointer (some ⟨gm, 0, none⟩)] w fun en w' => en = .returned (.bool (decide (n + 1 ≠ m))) ∧ w' = w.setCell ⟨ga, 0, none⟩ (.int .i64 (n + 1 : Nat)) := by
  have hnc := box_cells hn 0
  have hmc := box_cells hm 0
  have hfz := frozen_of_row w ga 0 _ _ hn
  have hne : gm ≠ ga := by rintro rfl; rw [hn] at hm; cases hm
  have hmc2 := (box_cells (heap_set_ne (p := ⟨ga, 0, none⟩) (v := .int .i64 ((n : Int) + 1)) hm hne)) 0
  have hnc2 := (box_cells (heap_set_own (w := w) (v := .int .i64 ((n : Int) + 1)) hn)) 0
  go_enter Try.func9, Try.ntmps9
  go_wp2
  go_ret
  exact ⟨by rw [ne_dec]; rfl, rfl⟩
/-- All blocks but one stay. -/
def But (ga : Nat) (w w' : World) : Prop := ∀ (g : Nat) (o : Obj), w.heap[g]? = some o → g ≠ ga → w'.heap[g]? = some o
theorem But.trans {ga : Nat} {a b c : World} (h : But ga a b) (k : But ga b c) : But ga a c := fun g o hg hn => k g o (h g o hg hn) hn
theorem but_below {ga : Nat} {w w' : World} (h : Below w.heap.size w w') : But ga w w' := fun _ _ hg _ => box_below hg h
theorem But.stays {ga k : Nat} {w w' : World} (h : But ga w w') (hk : w.heap[ga]? = some (.cells #[.int .i64 k] 3 (0, 0))) : Stays w w' := fun g cs t hg _ ht => h g _ hg (fun e => by subst e; rw [hg] at hk; injection hk with hk; injection hk with _ hk _; exact ht hk)
theorem but_set {ga o : Nat} {w : World} {v : Value} : But ga w (w.setCell ⟨ga, o, none⟩ v) := fun _ _ hg hn => heap_set_ne hg hn
theorem but_cell {ga g j : Nat} {w w' : World} {v : Value} (h : But ga w w') (hne : g ≠ ga) (hc : w.cell? ⟨g, j, none⟩ = some v) : w'.cell? ⟨g, j, none⟩ = some v := by
  obtain ⟨o, ho⟩ : ∃ o, w.heap[g]? = some o := by
    rcases hg : w.heap[g]? with _ | o
    · simp [World.cell?, hg] at hc
    · exact ⟨o, rfl⟩
  have h2 := h g o ho hne
  simp only [World.cell?, ho] at hc
  simpa only [World.cell?, h2] using hc
def StepPost (ga : Nat) (w : World) (r : Bool × Nat) (en : Ending) (w' : World) : Prop :=
  en = .returned (.bool r.1) ∧ w'.heap[ga]? = some (.cells #[.int .i64 r.2] 3 (0, 0)) ∧ Below ga w w' ∧ But ga w w'
/-- The parts of a tree, gone through in order. -/
def run (st : Ex → Nat → Bool × Nat) : Ex → Nat → Bool × Nat
  | .leaf, k => st .leaf k
  | .one x, k => if (st (.one x) k).1 then run st x (st (.one x) k).2 else (false, (st (.one x) k).2)
  | .two a b, k => if (st (.two a b) k).1 then (if (run st a (st (.two a b) k).2).1 then run st b (run st a (st (.two a b) k).2).2 else (false, (run st a (st (.two a b) k).2).2)) else (false, (st (.two a b) k).2)
theorem below_ga {ga k : Nat} {w w' : World} (h : Below w.heap.size w w') (hk : w.heap[ga]? = some (.cells #[.int .i64 k] 3 (0, 0))) : Below ga w w' := h.mono (Nat.le_of_lt (heap_lt hk))
section
variable (fi : FuncId) (hfi : ∀ args w, Sem.run Try.prog (callFunc fi args) w = .ok (.enter fi args) w) (caps : Array Value) (ga : Nat) (I : World → Prop) (hI : ∀ w w', I w → Below ga w w' → I w') (st : Ex → Nat → Bool × Nat) (Q : Nat → Ex → Prop)
  (hstep : ∀ e v w k, Q k e → PT w e v → I w → w.heap[ga]? = some (.cells #[.int .i64 (k : Nat)] 3 (0, 0)) → Calls Try.prog fi (#[v] ++ caps) w (StepPost ga w (st e k)))
  (hQ1 : ∀ x k, Q k (.one x) → Q (st (.one x) k).2 x) (hQ2 : ∀ a b k, Q k (.two a b) → Q (st (.two a b) k).2 a) (hQ3 : ∀ a b k, Q k (.two a b) → Q (run st a (st (.two a b) k).2).2 b)
include hfi hI hstep hQ1 hQ2 hQ3
set_option maxRecDepth 100000 in
set_option maxHeartbeats 4000000 in
theorem walk_any : ∀ (e : Ex) (v : Value) (w : World) (k : Nat), Q k e → PT w e v → I w → w.heap[ga]? = some (.cells #[.int .i64 (k : Nat)] 3 (0, 0)) →
    Calls Try.prog 8 #[v, .func (.func fi) #[] caps] w (StepPost ga w (run st e k))
  | .leaf, v, w, k, hq, h, hi, hk => by
    obtain ⟨T, g, rfl⟩ := h.form
    have hS := hstep (.leaf) _ w k hq h hi hk
    obtain ⟨sb, sk, hsk⟩ : ∃ sb sk, st (.leaf) k = (sb, sk) := ⟨_, _, rfl⟩
    obtain ⟨R, hR⟩ : ∃ R, R = run st (.leaf) k := ⟨_, rfl⟩
    rw [← hR]
    have hR2 : R = (sb, sk) := by rw [hR, run, hsk]
    subst hR2
    clear hR
    rw [hsk] at hS
    cases sb
    · clear hsk
      have hS := Lib.hid hS
      clear hstep hQ1 hQ2 hQ3 hI hi hq h hk
      go_enter Try.func8, Try.ntmps8
      go_wp2_with fail
      refine hS.out.mono ?_
      rintro en w1 ⟨rfl, hk1, hb1, ht1⟩
      go_wp2
      go_ret
      exact ⟨rfl, hk1, hb1, ht1⟩
    · clear hsk
      have hS := Lib.hid hS
      have hpk := Lib.hid (fun w' => fun (hb : But ga w w') => PT.keep (hb.stays hk) h)
      have hik := Lib.hid (fun w' => fun hb => hI w w' hi hb)
      clear hstep hQ1 hQ2 hQ3 hI hi hq h hk
      go_enter Try.func8, Try.ntmps8
      go_wp2_with fail
      refine hS.out.mono ?_
      rintro en w1 ⟨rfl, hk1, hb1, ht1⟩
      have hP := Lib.hid (parts_leaf _ w1 (hpk.out w1 ht1))
      go_wp2_with fail
      refine hP.out.mono ?_
      rintro en w2 ⟨hb2, rfl⟩
      have hk2 := box_below hk1 hb2
      have hb3 := hb1.trans (below_ga hb2 hk1)
      have ht3 := ht1.trans (but_below hb2)
      clear hb1 hb2 ht1 hk1 hpk hik
      go_wp2_with fail
      go_loop [16] (fun s16 => s16 = .int .i64 0) (fun _ => 0)
      case atStart => exact rfl
      case round =>
        obtain rfl := hrel
        go_wp2
        go_ret
        exact ⟨rfl, hk2, hb3, ht3⟩
  | .one x, v, w, k, hq, h, hi, hk => by
    obtain ⟨T, g, rfl⟩ := h.form
    have hS := hstep (.one x) _ w k hq h hi hk
    obtain ⟨sb, sk, hsk⟩ : ∃ sb sk, st (.one x) k = (sb, sk) := ⟨_, _, rfl⟩
    obtain ⟨R, hR⟩ : ∃ R, R = run st (.one x) k := ⟨_, rfl⟩
    rw [← hR]
    have hqx := hQ1 x k hq
    rw [hsk] at hS hqx
    have hR2 : R = if sb then run st x sk else (false, sk) := by rw [hR, run, hsk]
    have ih := fun v w => walk_any x v w sk hqx
    cases sb
    · have hR3 : R = (false, sk) := hR2
      subst hR3
      clear hsk hqx hR hR2 ih
      have hS := Lib.hid hS
      clear hstep hQ1 hQ2 hQ3 hI hi hq h hk
      go_enter Try.func8, Try.ntmps8
      go_wp2_with fail
      refine hS.out.mono ?_
      rintro en w1 ⟨rfl, hk1, hb1, ht1⟩
      go_wp2
      go_ret
      exact ⟨rfl, hk1, hb1, ht1⟩
    · have hR3 : R = run st x sk := hR2
      have ih := Lib.hid ih
      clear hsk hqx hR hR2
      have hS := Lib.hid hS
      have hpk := Lib.hid (fun w' => fun (hb : But ga w w') => PT.keep (hb.stays hk) h)
      have hik := Lib.hid (fun w' => fun hb => hI w w' hi hb)
      clear hstep hQ1 hQ2 hQ3 hI hi hq h hk
      go_enter Try.func8, Try.ntmps8
      go_wp2_with fail
      refine hS.out.mono ?_
      rintro en w1 ⟨rfl, hk1, hb1, ht1⟩
      have hP := Lib.hid (parts_one x _ w1 (hpk.out w1 ht1))
      have hi1 := hik.out w1 hb1
      go_wp2_with fail
      refine hP.out.mono ?_
      rintro en w2 ⟨hb2, g1, p, rfl, hp, hpt⟩
      have hk2 := box_below hk1 hb2
      have hb3 := hb1.trans (below_ga hb2 hk1)
      have ht3 := ht1.trans (but_below hb2)
      have hi2 := hik.out w2 hb3
      have hC := Lib.hid (ih.out _ w2 hpt hi2 hk2)
      rw [← hR3] at hC
      clear hb1 hb2 ht1 hk1 hpk hik hR3 ih hpt hi1 hi2 hk2
      obtain ⟨rb, rk⟩ := R
      go_wp2_with fail
      go_loopw [6, 16] (fun _ s16 wr => (s16 = .int .i64 0 ∧ wr = w2) ∨ (rb = true ∧ s16 = .int .i64 1 ∧ StepPost ga w (true, rk) (.returned (.bool true)) wr)) (fun _ s16 _ => 2 - (intOf s16).toNat)
      case atStart => exact .inl ⟨rfl, rfl⟩
      case round =>
        rcases hrel with ⟨rfl, rfl⟩ | ⟨rfl, rfl, hw⟩
        · go_wp2_with fail
          refine hC.out.mono ?_
          rintro en w3 ⟨rfl, hk4, hb4, ht4⟩
          have hb5 := hb3.trans hb4
          have ht5 := ht3.trans ht4
          clear hb3 hb4 ht3 ht4 hC hp
          cases rb
          · go_wp2
            go_ret
            exact ⟨rfl, hk4, hb5, ht5⟩
          · go_wp2
            go_roundw
            case rel => exact .inr ⟨trivial, rfl, rfl, hk4, hb5, ht5⟩
            case measure => simp [intOf]
        · clear hC hp
          go_wp2
          go_ret
          exact ⟨rfl, hw.2⟩
  | .two a b, v, w, k, hq, h, hi, hk => by
    obtain ⟨T, g, rfl⟩ := h.form
    have hS := hstep (.two a b) _ w k hq h hi hk
    obtain ⟨sb, sk, hsk⟩ : ∃ sb sk, st (.two a b) k = (sb, sk) := ⟨_, _, rfl⟩
    obtain ⟨R, hR⟩ : ∃ R, R = run st (.two a b) k := ⟨_, rfl⟩
    rw [← hR]
    have hqa := hQ2 a b k hq
    have hqb := hQ3 a b k hq
    rw [hsk] at hS hqa hqb
    obtain ⟨ra, rka, hra⟩ : ∃ ra rka, run st a sk = (ra, rka) := ⟨_, _, rfl⟩
    have hR2 : R = if sb then (if ra then run st b rka else (false, rka)) else (false, sk) := by rw [hR, run, hsk]; simp only [hra]
    have iha := fun v w => walk_any a v w sk hqa
    have ihb := fun v w => walk_any b v w (run st a sk).2 hqb
    rw [hra] at iha ihb
    cases sb
    · have hR3 : R = (false, sk) := hR2
      subst hR3
      clear hsk hqa hqb hR hR2 iha ihb hra
      have hS := Lib.hid hS
      clear hstep hQ1 hQ2 hQ3 hI hi hq h hk
      go_enter Try.func8, Try.ntmps8
      go_wp2_with fail
      refine hS.out.mono ?_
      rintro en w1 ⟨rfl, hk1, hb1, ht1⟩
      go_wp2
      go_ret
      exact ⟨rfl, hk1, hb1, ht1⟩
    · have hR3 : R = if ra then run st b rka else (false, rka) := hR2
      have iha := Lib.hid iha
      have ihb := Lib.hid ihb
      clear hsk hqa hqb hR hR2 hra
      cases ra
      · have hR4 : R = (false, rka) := hR3
        subst hR4
        clear hR3
        have hS := Lib.hid hS
        have hpk := Lib.hid (fun w' => fun (hb : But ga w w') => PT.keep (hb.stays hk) h)
        have hik := Lib.hid (fun w' => fun hb => hI w w' hi hb)
        clear hstep hQ1 hQ2 hQ3 hI hi hq h hk
        go_enter Try.func8, Try.ntmps8
        go_wp2_with fail
        refine hS.out.mono ?_
        rintro en w1 ⟨rfl, hk1, hb1, ht1⟩
        have hP := Lib.hid (parts_two a b _ w1 (hpk.out w1 ht1))
        have hi1 := hik.out w1 hb1
        go_wp2_with fail
        refine hP.out.mono ?_
        rintro en w2 ⟨hb2, g1, p, q, rfl, hp, hq, hpt, hqt⟩
        have hk2 := box_below hk1 hb2
        have hb3 := hb1.trans (below_ga hb2 hk1)
        have ht3 := ht1.trans (but_below hb2)
        have hi2 := hik.out w2 hb3
        have hne : g1 ≠ ga := by intro e; subst e; rw [box_cells hk2 1] at hq; simp at hq
        have hCa := Lib.hid (iha.out _ w2 hpt hi2 hk2)
        have hCb := Lib.hid (fun w' (h1 : Below ga w w') (h2 : But ga w2 w') (h3 : w'.heap[ga]? = some (.cells #[.int .i64 (rka : Nat)] 3 (0, 0))) => ihb.out q w' (PT.keep (h2.stays hk2) hqt) (hik.out w' h1) h3)
        clear hb1 hb2 ht1 hk1 hpk hik iha ihb hpt hqt hi1 hi2 hk2
        go_wp2_with fail
        go_loopw [6, 16] (fun _ s16 wr => s16 = .int .i64 0 ∧ wr = w2) (fun _ _ _ => 0)
        case atStart => exact ⟨rfl, rfl⟩
        case round =>
          obtain ⟨rfl, rfl⟩ := hrel
          go_wp2_with fail
          refine hCa.out.mono ?_
          rintro en w3 ⟨rfl, hk4, hb4, ht4⟩
          have hb5 := hb3.trans hb4
          have ht5 := ht3.trans ht4
          clear hb3 hb4 ht3 ht4 hCa hp
          go_wp2
          go_ret
          exact ⟨rfl, hk4, hb5, ht5⟩
      · have hR4 := Lib.hid (show R = run st b rka from hR3)
        clear hR3
        have hS := Lib.hid hS
        have hpk := Lib.hid (fun w' => fun (hb : But ga w w') => PT.keep (hb.stays hk) h)
        have hik := Lib.hid (fun w' => fun hb => hI w w' hi hb)
        clear hstep hQ1 hQ2 hQ3 hI hi hq h hk
        go_enter Try.func8, Try.ntmps8
        go_wp2_with fail
        refine hS.out.mono ?_
        rintro en w1 ⟨rfl, hk1, hb1, ht1⟩
        have hP := Lib.hid (parts_two a b _ w1 (hpk.out w1 ht1))
        have hi1 := hik.out w1 hb1
        go_wp2_with fail
        refine hP.out.mono ?_
        rintro en w2 ⟨hb2, g1, p, q, rfl, hp, hq, hpt, hqt⟩
        have hk2 := box_below hk1 hb2
        have hb3 := hb1.trans (below_ga hb2 hk1)
        have ht3 := ht1.trans (but_below hb2)
        have hi2 := hik.out w2 hb3
        have hne : g1 ≠ ga := by intro e; subst e; rw [box_cells hk2 1] at hq; simp at hq
        have hCa := Lib.hid (iha.out _ w2 hpt hi2 hk2)
        have hCb := Lib.hid (fun w' (h1 : Below ga w w') (h2 : But ga w2 w') (h3 : w'.heap[ga]? = some (.cells #[.int .i64 (rka : Nat)] 3 (0, 0))) => ihb.out q w' (PT.keep (h2.stays hk2) hqt) (hik.out w' h1) h3)
        clear hb1 hb2 ht1 hk1 hpk hik iha ihb hpt hqt hi1 hi2 hk2
        rw [← hR4.out] at hCb
        clear hR4
        obtain ⟨rb, rk⟩ := R
        go_wp2_with fail
        go_loopw [6, 16] (fun _ s16 wr => (s16 = .int .i64 0 ∧ wr = w2) ∨ (s16 = .int .i64 1 ∧ wr.cell? ⟨g1, 1, none⟩ = some q ∧ Below ga w wr ∧ But ga w wr ∧ But ga w2 wr ∧ wr.heap[ga]? = some (.cells #[.int .i64 (rka : Nat)] 3 (0, 0))) ∨ (rb = true ∧ s16 = .int .i64 2 ∧ StepPost ga w (true, rk) (.returned (.bool true)) wr)) (fun _ s16 _ => 3 - (intOf s16).toNat)
        case atStart => exact .inl ⟨rfl, rfl⟩
        case round =>
          rcases hrel with ⟨rfl, rfl⟩ | ⟨rfl, hq2, hbw, htw, ht2, hkw⟩ | ⟨rfl, rfl, hw⟩
          · go_wp2_with fail
            refine hCa.out.mono ?_
            rintro en w3 ⟨rfl, hk4, hb4, ht4⟩
            have hb5 := hb3.trans hb4
            have ht5 := ht3.trans ht4
            have hq3 := but_cell ht4 hne hq
            clear hb3 hb4 ht3 hCa hCb hp hq
            go_wp2
            go_roundw
            case rel => exact .inr (.inl ⟨rfl, hq3, hb5, ht5, ht4, hk4⟩)
            case measure => simp [intOf]
          · have hC := Lib.hid (hCb.out _ hbw ht2 hkw)
            clear hCa hCb hp hq hkw ht2 hb3 ht3
            go_wp2_with fail
            refine hC.out.mono ?_
            rintro en w3 ⟨rfl, hk4, hb4, ht4⟩
            have hb5 := hbw.trans hb4
            have ht5 := htw.trans ht4
            clear hbw hb4 htw ht4 hC hq2
            cases rb
            · go_wp2
              go_ret
              exact ⟨rfl, hk4, hb5, ht5⟩
            · go_wp2
              go_roundw
              case rel => exact .inr (.inr ⟨trivial, rfl, rfl, hk4, hb5, ht5⟩)
              case measure => simp [intOf]
          · clear hCa hCb hp hq
            go_wp2
            go_ret
            exact ⟨rfl, hw.2⟩
end
end Go.Proofs.Ytpkipleoodcplaa
