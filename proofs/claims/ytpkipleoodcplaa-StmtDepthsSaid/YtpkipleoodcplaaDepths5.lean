/-
  StmtDepths: the walk. Conditions: the nodes as they came in.
-/
import Derived.Test.YtpkipleoodcplaaBuild5
import Derived.Test.YtpkipleoodcplaaAwake5
import Derived.Test.YtpkipleoodcplaaCount5
import Derived.Test.YtpkipleoodcplaaWalkD5
import Derived.Deep.QuietTactic
import Derived.BigQuiet
import Derived.Deep.RegionHeldLaw
import Derived.Deep.LoopGhost
namespace Go.Proofs.Ytpkipleoodcplaa
open Go.RowKit

theorem size_le_total2 {L : List Pr} {p : Pr} (h : p ∈ L) : p.e.size ≤ total L := by
  induction L with
  | nil => cases h
  | cons q L ih =>
    have e : total (q :: L) = q.e.size + total L := by simp [total]
    rcases List.mem_cons.1 h with rfl | h
    · omega
    · have := ih h
      omega
theorem cells2 {wB W : World} {ga gp : Nat} {D : Nat} {v : Value} {cs : Array Value} (h1 : wB.heap[ga]? = some (.cells #[.int .i64 D] 3 (0, 0))) (h2 : wB.heap[gp]? = some (.cells cs 35 (0, 0))) (hv : cs[0]? = some v) (hb : Below wB.heap.size wB W) :
    W.cell? ⟨ga, 0, none⟩ = some (.int .i64 D) ∧ W.cell? ⟨gp, 0, none⟩ = some v := ⟨box_cells (box_below h1 hb) 0, (box_cells (box_below h2 hb) 0).trans hv⟩
theorem up5 {wB : World} {e : Ex} {T : TypeId} {gx gU D : Nat} {s : ByteArray} (hD : e.deep = D) (hs : e.size ≤ 60) (hp : PT wB e (.iface T (.pointer (some ⟨gx, 0, none⟩)))) (hU : wB.heap[gU]? = some (.cells #[.string s, .iface T (.pointer (some ⟨gx, 0, none⟩))] 43 (0, 0))) :
    ∀ W, Below wB.heap.size wB W → Calls Try.prog 12 #[.iface 41 (.pointer (some ⟨gU, 0, none⟩))] W fun e w' => e = .returned (.int .i64 ((D : Int) + 1)) ∧ Below W.heap.size W w' := by
  intro W hb
  have h : PT W (.one e) (.iface 41 (.pointer (some ⟨gU, 0, none⟩))) := .inl ⟨gU, s, T, gx, rfl, box_below hU hb, PT.keep (stays_below hb) hp⟩
  exact (depth_any (.one e) _ W h (by unfold Ex.size; omega)).mono fun _ _ ⟨h1, h2⟩ => ⟨by rw [h1]; unfold Ex.deep; rw [hD]; rfl, h2⟩
theorem is5 {wB : World} {e : Ex} {T : TypeId} {gx gU D : Nat} {b : Bool} (hD : e.deep = D) (hs : e.size ≤ 60) (hp : PT wB e (.iface T (.pointer (some ⟨gx, 0, none⟩)))) (hU : wB.heap[gU]? = some (.cells #[.iface T (.pointer (some ⟨gx, 0, none⟩)), .bool b] 46 (0, 0))) :
    ∀ W, Below wB.heap.size wB W → Calls Try.prog 12 #[.iface 44 (.pointer (some ⟨gU, 0, none⟩))] W fun e w' => e = .returned (.int .i64 ((D : Int) + 1)) ∧ Below W.heap.size W w' := by
  intro W hb
  have h : PT W (.one e) (.iface 44 (.pointer (some ⟨gU, 0, none⟩))) := .inr (.inl ⟨gU, b, T, gx, rfl, box_below hU hb, PT.keep (stays_below hb) hp⟩)
  exact (depth_any (.one e) _ W h (by unfold Ex.size; omega)).mono fun _ _ ⟨h1, h2⟩ => ⟨by rw [h1]; unfold Ex.deep; rw [hD]; rfl, h2⟩
theorem bin5 {wB : World} {e : Ex} {T : TypeId} {gx D : Nat} (hD : e.deep = D) (hs : e.size ≤ 60) (hp : PT wB e (.iface T (.pointer (some ⟨gx, 0, none⟩)))) :
    ∀ W, Below wB.heap.size wB W → Calls Try.prog 12 #[.iface 47 (.pointer (some ⟨W.heap.size + 1, 0, none⟩))]
      ((W.alloc (.cells #[.int .u8 0, .int .i64 0, .string ⟨#[]⟩, .bool false] 50)).alloc (.cells #[.string ⟨#[43]⟩, .iface T (.pointer (some ⟨gx, 0, none⟩)), .iface 48 (.pointer (some ⟨W.heap.size, 0, none⟩))] 52))
      fun e w' => e = .returned (.int .i64 ((D : Int) + 1)) ∧ Below W.heap.size W w' := by
  intro W hb
  have hb2 := below_y W (.cells #[.int .u8 0, .int .i64 0, .string ⟨#[]⟩, .bool false] 50) (.cells #[.string ⟨#[43]⟩, .iface T (.pointer (some ⟨gx, 0, none⟩)), .iface 48 (.pointer (some ⟨W.heap.size, 0, none⟩))] 52)
  have hp2 := PT.keep (stays_below hb2) (PT.keep (stays_below hb) hp)
  have h : PT _ (.two e .leaf) (.iface 47 (.pointer (some ⟨W.heap.size + 1, 0, none⟩))) := ⟨_, _, _, _, _, _, rfl, heap_new2 W _ _, hp2, .inl ⟨_, _, _, _, _, rfl, box_alloc (heap_alloc_new W _) _⟩⟩
  refine (depth_any (.two e .leaf) _ _ h (by have : (Ex.two e .leaf).size = e.size + 1 + 1 := rfl; omega)).mono fun _ _ ⟨h1, h2⟩ => ⟨?_, hb2.trans (h2.mono hb2.size)⟩
  rw [h1]
  have hd := hD ▸ e.deep_pos
  unfold Ex.deep
  rw [hD]
  have e1 : max D (Ex.leaf).deep = D := Nat.max_eq_left hd
  rw [e1]
  rfl
set_option maxRecDepth 100000 in
set_option maxHeartbeats 20000000 in
theorem depths_any (A0 : Option Addr) (c0 : Nat) (l : List Nd) (w : World) (hl : RdsN w A0 l) (hlen : l.length ≤ 9223372036854775807) :
    Calls Try.prog 4 #[.slice A0 l.length c0] w fun e w' => e = .returned (.bool true) ∧ Below w.heap.size w w' := by
  have H0 := Lib.hid (And.intro hl hlen)
  clear hl hlen
  go_enter Try.func4, Try.ntmps4
  go_wp2_with fail
  refine (awake5_any _).mono ?_
  rintro e w1 ⟨rfl, hb1⟩
  have H1 := Lib.hid (And.intro hb1 (And.intro (H0.out.1.below hb1) H0.out.2))
  clear hb1 H0
  go_wp2_with fail
  refine (build_any A0 c0 l _ H1.out.2.1 H1.out.2.2).mono ?_
  rintro e w2 ⟨hb2, v, rfl, L, A, c, rfl, hown, hok, htot⟩
  have hLl := total_len L
  have hL60 : L.length ≤ 60 := by omega
  have hbw2 := H1.out.1.trans (hb2.mono H1.out.1.size)
  have H2 := Lib.hid (And.intro hbw2 (And.intro hown (And.intro hok htot)))
  have hlen0 : (0 : Int) ≤ (L.length : Int) := by omega
  have hlen1 : (L.length : Int) ≤ 60 := by omega
  clear hbw2 hown hok htot hb2 H1 hLl
  go_wp2_with fail
  go_loopg [4, 5, 6, 7, 13] (L.length) (fun gk _ _ _ _ s13 wr => ∃ i : Nat, i ≤ L.length ∧ gk = L.length - i ∧ s13 = .int .i64 i ∧ Below w2.heap.size w2 wr)
  case atStart => exact ⟨0, by omega, by omega, rfl, Below.refl _ _⟩
  case round =>
    obtain ⟨i, hi, rfl, rfl, hbr⟩ := hrel
    by_cases hlt : i < L.length
    · obtain ⟨p, hp⟩ : ∃ p, L[i]? = some p := ⟨_, List.getElem?_eq_getElem hlt⟩
      obtain ⟨gr, cap, hv, _⟩ := H2.out.2.1.form (by omega)
      injection hv with hA _ hc
      subst hA
      subst hc
      have hcp := pair_cells (own_under5 H2.out.2.1 hbr) rfl hp
      have hpo := prs_keep (stays_below hbr) H2.out.2.2.1 p (List.mem_of_getElem? hp)
      have hps : p.e.size ≤ 60 := by
        have := size_le_total2 (List.mem_of_getElem? hp)
        have := H2.out.2.2.2
        omega
      obtain ⟨T, gx, hpv⟩ := hpo.1.form
      have q0 : wr.cell? ⟨gr, i * 9, none⟩ = some (.iface T (.pointer (some ⟨gx, 0, none⟩))) := by have := hcp 0 (by omega); rw [Nat.add_zero] at this; rw [this, ← hpv]; rfl
      have q1 : wr.cell? ⟨gr, i * 9 + 1, none⟩ = some (.int .u8 p.r.k) := hcp 1 (by omega)
      have q2 : wr.cell? ⟨gr, i * 9 + 2, none⟩ = some (.int .u8 p.r.vk) := hcp 2 (by omega)
      have q3 : wr.cell? ⟨gr, i * 9 + 3, none⟩ = some (.int .i64 p.r.vi) := hcp 3 (by omega)
      have q4 : wr.cell? ⟨gr, i * 9 + 4, none⟩ = some (.string p.r.vs) := hcp 4 (by omega)
      have q5 : wr.cell? ⟨gr, i * 9 + 5, none⟩ = some (.bool p.r.vb) := hcp 5 (by omega)
      have q6 : wr.cell? ⟨gr, i * 9 + 6, none⟩ = some (.string p.r.t) := hcp 6 (by omega)
      have q7 : wr.cell? ⟨gr, i * 9 + 7, none⟩ = some (.string p.r.s) := hcp 7 (by omega)
      have q8 : wr.cell? ⟨gr, i * 9 + 8, none⟩ = some (.slice p.r.A p.r.n p.r.c) := hcp 8 (by omega)
      have hk0 : (0 : Int) ≤ (i : Int) := by omega
      have hk1 : (i : Int) < (L.length : Int) := by omega
      have hk2 : (i : Int) ≤ 60 := by omega
      obtain ⟨D, hD⟩ : ∃ D, p.e.deep = D := ⟨_, rfl⟩
      have hD60 : D ≤ 60 := by have := p.e.deep_le; omega
      have hDi : (D : Int) ≤ 60 := by omega
      have hDj : (0 : Int) ≤ (D : Int) := by omega
      have hwr : IntKind.i64.wrap ((D : Int) + 1) = (D : Int) + 1 := (IntWalk.i64_left _).trans (IntWalk.wrap64_in _ (by omega))
      have hwn : (((D : Int) + 1) != ((D : Int) + 1)) = false := by simp
      have HSR := Lib.hid hbr.size
      have hb12 := below_y wr (.cells #[.iface T (.pointer (some ⟨gx, 0, none⟩)), .int .u8 p.r.k, .int .u8 p.r.vk, .int .i64 p.r.vi, .string p.r.vs, .bool p.r.vb, .string p.r.t, .string p.r.s, .slice p.r.A p.r.n p.r.c] 35) (.cells #[.int .i64 0] 3)
      have hx2 := box_alloc (heap_alloc_new wr (.cells #[.iface T (.pointer (some ⟨gx, 0, none⟩)), .int .u8 p.r.k, .int .u8 p.r.vk, .int .i64 p.r.vi, .string p.r.vs, .bool p.r.vb, .string p.r.t, .string p.r.s, .slice p.r.A p.r.n p.r.c] 35)) (.cells #[.int .i64 0] 3)
      have hk4 := heap_new2 wr (.cells #[.iface T (.pointer (some ⟨gx, 0, none⟩)), .int .u8 p.r.k, .int .u8 p.r.vk, .int .i64 p.r.vi, .string p.r.vs, .bool p.r.vb, .string p.r.t, .string p.r.s, .slice p.r.A p.r.n p.r.c] 35) (.cells #[.int .i64 0] 3)
      have hpt := (Pr.keep (stays_below hb12) hpo).1
      rw [hpv] at hpt
      have hx4 : ((wr.alloc (.cells #[.iface T (.pointer (some ⟨gx, 0, none⟩)), .int .u8 p.r.k, .int .u8 p.r.vk, .int .i64 p.r.vi, .string p.r.vs, .bool p.r.vb, .string p.r.t, .string p.r.s, .slice p.r.A p.r.n p.r.c] 35)).alloc (.cells #[.int .i64 0] 3)).cell? ⟨wr.heap.size, 0, none⟩ = some (.iface T (.pointer (some ⟨gx, 0, none⟩))) := box_cells hx2 0
      have HP := Lib.hid (And.intro hpt (And.intro hps (And.intro (hbr.trans (hb12.mono hbr.size)) (And.intro hx2 (And.intro hk4 hD)))))
      clear hpo hpv hps hcp hp hbr hb12 hx2 hk4 hpt hD hi hD60
      go_wp2_with fail
      clear q0 q1 q2 q3 q4 q5 q6 q7 q8 hx4
      obtain ⟨W2, hW2⟩ : ∃ W2, (wr.alloc (.cells #[.iface T (.pointer (some ⟨gx, 0, none⟩)), .int .u8 p.r.k, .int .u8 p.r.vk, .int .i64 p.r.vi, .string p.r.vs, .bool p.r.vb, .string p.r.t, .string p.r.s, .slice p.r.A p.r.n p.r.c] 35)).alloc (.cells #[.int .i64 0] 3) = W2 := ⟨_, rfl⟩
      rw [hW2] at HP ⊢
      clear hW2
      have HC := walkD_any (wr.heap.size + 1) p.e _ W2 (by have := HP.out.2.1; omega) HP.out.1 HP.out.2.2.2.2.1
      rw [HP.out.2.2.2.2.2] at HC
      refine HC.mono ?_
      rintro e w5 ⟨rfl, hk5, hb5, ht5⟩
      have hgpa : wr.heap.size ≠ wr.heap.size + 1 := by omega
      have hx5 := ht5 _ _ HP.out.2.2.2.1 hgpa
      have hp5 : PT w5 p.e (.iface T (.pointer (some ⟨gx, 0, none⟩))) := PT.keep (ht5.stays (k := 0) HP.out.2.2.2.2.1) HP.out.1
      have hbs25 : w2.heap.size ≤ wr.heap.size := HSR.out
      have hb25 : Below w2.heap.size w2 w5 := HP.out.2.2.1.trans (hb5.mono (Nat.le_trans hbs25 (Nat.le_succ _)))
      have HD5 := Lib.hid (fun W (hb : Below w5.heap.size w5 W) => depth_any p.e _ W (PT.keep (stays_below hb) hp5) (by have := HP.out.2.1; omega))
      rw [HP.out.2.2.2.2.2] at HD5
      have hd1 := cells2 (D := D) (v := .iface T (.pointer (some ⟨gx, 0, none⟩))) hk5 hx5 rfl (Below.refl _ _)
      have hc5 := hd1.1
      have hc6 := hd1.2
      have H5 := Lib.hid (And.intro hk5 (And.intro hx5 (And.intro hp5 (And.intro hb25 (And.intro HP.out.2.1 HP.out.2.2.2.2.2)))))
      clear hk5 hb5 ht5 hx5 hp5 hb25 HC HP hd1 hgpa
      go_wp2_with fail
      first | go_region_held_law (fun w' => w'.cell? ⟨wr.heap.size + 1, 0, none⟩ = some (.int .i64 D) ∧ w'.cell? ⟨wr.heap.size, 0, none⟩ = some (.iface T (.pointer (some ⟨gx, 0, none⟩))))
        (first | (go_keep; done) | exact hd2)
        ((first
          | (go_simp; go_at_call 12; refine (HD5.out _ (Below.refl _ _).drew).mono ?_; rintro e w6 ⟨rfl, hb6⟩; have hd2 := cells2 (D := D) (v := .iface T (.pointer (some ⟨gx, 0, none⟩))) (wB := w5) H5.out.1 H5.out.2.1 rfl ((Below.refl _ _).drew.trans (hb6.mono (Nat.le_refl _))))
          | fail)) | fail
      have hb56 : Below w5.heap.size w5 w6 := (Below.refl _ _).drew.trans (hb6.mono (Nat.le_refl _))
      have hU := below_y w6 (.cells #[.string ⟨#[78, 79, 84]⟩, .iface T (.pointer (some ⟨gx, 0, none⟩))] 43) (.cells #[.iface T (.pointer (some ⟨gx, 0, none⟩)), .bool false] 46)
      have hu1 := box_alloc (heap_alloc_new w6 (.cells #[.string ⟨#[78, 79, 84]⟩, .iface T (.pointer (some ⟨gx, 0, none⟩))] 43)) (.cells #[.iface T (.pointer (some ⟨gx, 0, none⟩)), .bool false] 46)
      have hu2 := heap_new2 w6 (.cells #[.string ⟨#[78, 79, 84]⟩, .iface T (.pointer (some ⟨gx, 0, none⟩))] 43) (.cells #[.iface T (.pointer (some ⟨gx, 0, none⟩)), .bool false] 46)
      have hb57 := hb56.trans (hU.mono hb56.size)
      have hpB := PT.keep (stays_below hb57) H5.out.2.2.1
      have hc6a := (cells2 (D := D) (v := .iface T (.pointer (some ⟨gx, 0, none⟩))) (wB := w5) H5.out.1 H5.out.2.1 rfl hb56).2
      have hc6b := fun o => (cells2 (D := D) (v := .iface T (.pointer (some ⟨gx, 0, none⟩))) (wB := w5) (W := w6.alloc o) H5.out.1 H5.out.2.1 rfl (hb56.alloc hb56.size o)).2
      have H6 := Lib.hid (And.intro (up5 H5.out.2.2.2.2.2 H5.out.2.2.2.2.1 hpB hu1) (And.intro (is5 H5.out.2.2.2.2.2 H5.out.2.2.2.2.1 hpB hu2) (And.intro (bin5 H5.out.2.2.2.2.2 H5.out.2.2.2.2.1 hpB) (And.intro (box_below H5.out.1 hb57) (And.intro (box_below H5.out.2.1 hb57) (H5.out.2.2.2.1.trans (hb57.mono H5.out.2.2.2.1.size)))))))
      clear hb6 hb56 hU hu1 hu2 hb57 hpB H5 HD5 hc5 hc6
      go_wp2_with fail
      obtain ⟨W7, hW7⟩ : ∃ W7, (w6.alloc (.cells #[.string ⟨#[78, 79, 84]⟩, .iface T (.pointer (some ⟨gx, 0, none⟩))] 43)).alloc (.cells #[.iface T (.pointer (some ⟨gx, 0, none⟩)), .bool false] 46) = W7 := ⟨_, rfl⟩
      rw [hW7] at H6 ⊢
      clear hW7 hc6a hc6b
      have hd7 := cells2 (D := D) (v := .iface T (.pointer (some ⟨gx, 0, none⟩))) (wB := W7) H6.out.2.2.2.1 H6.out.2.2.2.2.1 rfl (Below.refl _ _)
      have hc7 := hd7.1
      have hc8 := hd7.2
      have hl7 := heap_lt H6.out.2.2.2.1
      have hl8 := heap_lt H6.out.2.2.2.2.1
      clear hd7
      first | go_region_held_law (fun w' => w'.cell? ⟨wr.heap.size + 1, 0, none⟩ = some (.int .i64 D) ∧ w'.cell? ⟨wr.heap.size, 0, none⟩ = some (.iface T (.pointer (some ⟨gx, 0, none⟩))))
        (first | (go_keep; done) | exact hd4 | exact hd3 | exact hd2 | (refine cells2 (D := D) (v := .iface T (.pointer (some ⟨gx, 0, none⟩))) (wB := W7) H6.out.2.2.2.1 H6.out.2.2.2.2.1 rfl ?_; first | exact hb9.alloc hb9.size _ | exact (hb9.alloc hb9.size _).alloc (Nat.le_trans hb9.size (by simp)) _))
        ((first
          | (go_simp; go_at_call 12; with_reducible refine (H6.out.1 _ (Below.refl _ _).drew).mono ?_; rintro e w8 ⟨rfl, hb⟩; have hb8 : Below W7.heap.size W7 w8 := (Below.refl _ _).drew.trans (hb.mono (Nat.le_refl _)); have hd2 := cells2 (D := D) (v := .iface T (.pointer (some ⟨gx, 0, none⟩))) (wB := W7) H6.out.2.2.2.1 H6.out.2.2.2.2.1 rfl hb8; clear hb)
          | (go_simp; go_at_call 12; with_reducible refine (H6.out.2.1 _ hb8).mono ?_; rintro e w9 ⟨rfl, hb⟩; have hb9 : Below W7.heap.size W7 w9 := hb8.trans (hb.mono hb8.size); have hd3 := cells2 (D := D) (v := .iface T (.pointer (some ⟨gx, 0, none⟩))) (wB := W7) H6.out.2.2.2.1 H6.out.2.2.2.2.1 rfl hb9; clear hb)
          | (go_simp; go_at_call 12; with_reducible refine (H6.out.2.2.1 _ hb9).mono ?_; rintro e w10 ⟨rfl, hb⟩; have hb10 : Below W7.heap.size W7 w10 := hb9.trans (hb.mono hb9.size); have hd4 := cells2 (D := D) (v := .iface T (.pointer (some ⟨gx, 0, none⟩))) (wB := W7) H6.out.2.2.2.1 H6.out.2.2.2.2.1 rfl hb10; clear hb)
          | fail)) | fail
      all_goals
        have HB := Lib.hid (H6.out.2.2.2.2.2.trans (hb10.mono H6.out.2.2.2.2.2.size))
        clear hb8 hb9 hb10 H6 hc7 hc8 hl7 hl8
        go_wp2
        go_roundg (L.length - (i + 1))
        case measure => omega
        case rel => exact ⟨i + 1, by omega, rfl, by go_num, HB.out⟩
    · obtain rfl : i = L.length := by omega
      have hk6 : ¬ (L.length : Int) < (L.length : Int) := by omega
      have HB := Lib.hid (H2.out.1.trans (hbr.mono H2.out.1.size))
      clear hbr H2
      go_wp2
      go_ret
      exact ⟨rfl, HB.out⟩
end Go.Proofs.Ytpkipleoodcplaa
