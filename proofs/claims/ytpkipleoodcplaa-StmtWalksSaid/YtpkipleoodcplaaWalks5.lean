/-
  StmtWalks: the walk. Conditions: the nodes as they came in.
-/
import Derived.Test.YtpkipleoodcplaaBuild5
import Derived.Test.YtpkipleoodcplaaAwake5
import Derived.Test.YtpkipleoodcplaaCount5
import Derived.Test.YtpkipleoodcplaaWalkC5
import Derived.Deep.QuietTactic
import Derived.BigQuiet
import Derived.Deep.LoopGhost
namespace Go.Proofs.Ytpkipleoodcplaa
open Go.RowKit

theorem size_le_total {L : List Pr} {p : Pr} (h : p ∈ L) : p.e.size ≤ total L := by
  induction L with
  | nil => cases h
  | cons q L ih =>
    have e : total (q :: L) = q.e.size + total L := by simp [total]
    rcases List.mem_cons.1 h with rfl | h
    · omega
    · have := ih h
      omega
set_option maxRecDepth 100000 in
set_option maxHeartbeats 20000000 in
theorem walks_any (A0 : Option Addr) (c0 m : Nat) (l : List Nd) (w : World) (hl : RdsN w A0 l) (hlen : l.length ≤ 9223372036854775807) (hm : m < 256) :
    Calls Try.prog 3 #[.slice A0 l.length c0, .int .u8 m] w fun e w' => e = .returned (.bool true) ∧ Below w.heap.size w w' := by
  have hb0 : Below w.heap.size w (w.alloc (.cells #[.int .u8 m] 5)) := (Below.refl _ _).alloc (Nat.le_refl _) _
  have hg0 := heap_alloc_new w (.cells #[.int .u8 m] 5)
  have H0 := Lib.hid (And.intro hb0 (And.intro hg0 (And.intro hl (And.intro hlen hm))))
  clear hb0 hg0 hl hlen
  go_enter Try.func3, Try.ntmps3
  go_wp2_with fail
  refine (awake5_any _).mono ?_
  rintro e w1 ⟨rfl, hb1⟩
  have hbw1 := H0.out.1.trans (hb1.mono H0.out.1.size)
  have H1 := Lib.hid (And.intro hbw1 (And.intro (box_below H0.out.2.1 hb1) (And.intro (H0.out.2.2.1.below hbw1) H0.out.2.2.2.1)))
  clear hb1 hbw1 H0
  go_wp2_with fail
  refine (build_any A0 c0 l _ H1.out.2.2.1 H1.out.2.2.2).mono ?_
  rintro e w2 ⟨hb2, v, rfl, L, A, c, rfl, hown, hok, htot⟩
  have hLl := total_len L
  have hL60 : L.length ≤ 60 := by omega
  have hgm := box_below H1.out.2.1 hb2
  have hbw2 := H1.out.1.trans (hb2.mono H1.out.1.size)
  have hgl := heap_lt hgm
  have H2 := Lib.hid (And.intro hbw2 (And.intro hgm (And.intro hown (And.intro hok (And.intro htot hgl)))))
  have hlen0 : (0 : Int) ≤ (L.length : Int) := by omega
  have hlen1 : (L.length : Int) ≤ 60 := by omega
  clear hbw2 hgm hown hok htot hgl hb2 H1 hLl
  go_wp2_with fail
  go_loopg [6, 7, 8, 9, 10, 16] (L.length) (fun gk _ _ _ _ _ s16 wr => ∃ i : Nat, i ≤ L.length ∧ gk = L.length - i ∧ s16 = .int .i64 i ∧ Below w2.heap.size w2 wr)
  case atStart => exact ⟨0, by omega, by omega, rfl, Below.refl _ _⟩
  case round =>
    obtain ⟨i, hi, rfl, rfl, hbr⟩ := hrel
    by_cases hlt : i < L.length
    · obtain ⟨p, hp⟩ : ∃ p, L[i]? = some p := ⟨_, List.getElem?_eq_getElem hlt⟩
      obtain ⟨gr, cap, hv, _⟩ := H2.out.2.2.1.form (by omega)
      injection hv with hA _ hc
      subst hA
      subst hc
      have hcp := pair_cells (own_under5 H2.out.2.2.1 hbr) rfl hp
      have hpo := prs_keep (stays_below hbr) H2.out.2.2.2.1 p (List.mem_of_getElem? hp)
      have hps : p.e.size ≤ 60 := by
        have := size_le_total (List.mem_of_getElem? hp)
        have := H2.out.2.2.2.2.1
        omega
      obtain ⟨T, gx, hpv⟩ := hpo.1.form
      have q0 : wr.cell? ⟨gr, i * 9, none⟩ = some (.iface T (.pointer (some ⟨gx, 0, none⟩))) := by have := hcp 0 (by omega); rw [Nat.add_zero] at this; rw [this, ← hpv]; rfl
      have q1 : wr.cell? ⟨gr, i * 9 + 1, none⟩ = some (.int .u8 p.r.k) := hcp 1 (by omega)
      have q2 : wr.cell? ⟨gr, i * 9 + 2, none⟩ = some (.int .u8 p.r.vk) := hcp 2 (by omega)
      have q3 : wr.cell? ⟨gr, i * 9 + 3, none⟩ = some (.int .i64 p.r.vi) := hcp 3 (by omega)
      have q4 : wr.cell? ⟨gr, i * 9 + 4, none⟩ = some (.string p.r.vs) := hcp 4 (by omega)
      have q5 : wr.cell? ⟨gr, i * 9 + 5, none⟩ = some (.bool p.r.vb) := hcp 5 (by omega)
      have q6 : wr.cell? ⟨gr, i * 9 + 6, none⟩ = some (.string p.r.t) := hcp 6 (by omega)
      have q7 : wr.cell? ⟨gr, i * 9 + 7, none⟩ = some (.string p.r.s) := hcp 7 (by omega)
      have q8 : wr.cell? ⟨gr, i * 9 + 8, none⟩ = some (.slice p.r.A p.r.n p.r.c) := hcp 8 (by omega)
      have hk0 : (0 : Int) ≤ (i : Int) := by omega
      have hk1 : (i : Int) < (L.length : Int) := by omega
      have hk2 : (i : Int) ≤ 60 := by omega
      have hW1 := heap_alloc_new wr (.cells #[.iface T (.pointer (some ⟨gx, 0, none⟩)), .int .u8 p.r.k, .int .u8 p.r.vk, .int .i64 p.r.vi, .string p.r.vs, .bool p.r.vb, .string p.r.t, .string p.r.s, .slice p.r.A p.r.n p.r.c] 35)
      have hbW1 : Below wr.heap.size wr (wr.alloc (.cells #[.iface T (.pointer (some ⟨gx, 0, none⟩)), .int .u8 p.r.k, .int .u8 p.r.vk, .int .i64 p.r.vi, .string p.r.vs, .bool p.r.vb, .string p.r.t, .string p.r.s, .slice p.r.A p.r.n p.r.c] 35)) := (Below.refl _ _).alloc (Nat.le_refl _) _
      have HP := Lib.hid (And.intro (Pr.keep (stays_below hbW1) hpo) (And.intro hpv (And.intro hps (And.intro hbr (And.intro hbW1 hW1)))))
      clear hpo hpv hps hcp hp hbr hbW1 hi
      have hcW := box_cells hW1
      have hlW := heap_lt hW1
      clear hW1
      go_wp2_with fail
      clear q0 q1 q2 q3 q4 q5 q6 q7 q8 hcW hlW
      obtain ⟨W1, hW1⟩ : ∃ W1, wr.alloc (.cells #[.iface T (.pointer (some ⟨gx, 0, none⟩)), .int .u8 p.r.k, .int .u8 p.r.vk, .int .i64 p.r.vi, .string p.r.vs, .bool p.r.vb, .string p.r.t, .string p.r.s, .slice p.r.A p.r.n p.r.c] 35) = W1 := ⟨_, rfl⟩
      rw [hW1] at HP ⊢
      clear hW1
      refine (count_any p.e p.r _ HP.out.1.2 (by have := HP.out.2.2.1; omega)).mono ?_
      rintro e w3 ⟨rfl, hb3⟩
      have hx3 := box_below HP.out.2.2.2.2.2 hb3
      have hg3 : w3.heap[w.heap.size]? = some (.cells #[.int .u8 m] 5 (0, 0)) := box_below (box_below (box_below H2.out.2.1 HP.out.2.2.2.1) HP.out.2.2.2.2.1) hb3
      have hb13 : Below w2.heap.size w2 w3 := (HP.out.2.2.2.1.trans (HP.out.2.2.2.2.1.mono HP.out.2.2.2.1.size)).trans (hb3.mono (Nat.le_trans HP.out.2.2.2.1.size HP.out.2.2.2.2.1.size))
      have hp3 := Pr.keep (stays_below hb3) HP.out.1
      have hb34 : Below w3.heap.size w3 (w3.alloc (.cells #[.int .i64 0] 3)) := (Below.refl _ _).alloc (Nat.le_refl _) _
      have hk4 := heap_alloc_new w3 (.cells #[.int .i64 0] 3)
      have hpt := (Pr.keep (stays_below hb34) hp3).1
      have hx4 : (w3.alloc (.cells #[.int .i64 0] 3)).cell? ⟨wr.heap.size, 0, none⟩ = some (.iface T (.pointer (some ⟨gx, 0, none⟩))) := box_cells (box_below hx3 hb34) 0
      have hg4 := box_below hg3 hb34
      have hlg := heap_lt hg3
      have hlx := heap_lt hx3
      rw [HP.out.2.1] at hpt
      have H4 := Lib.hid (And.intro hpt (And.intro hg4 (And.intro hk4 (And.intro hlg (And.intro hb13 (And.intro hb34 HP.out.2.2.1))))))
      obtain ⟨Z, hZ⟩ : ∃ Z, p.e.size = Z := ⟨_, rfl⟩
      clear hx3 hg3 hp3 hb34 hk4 hpt hg4 hb13 hb3 HP
      rw [hZ] at H4 ⊢
      go_wp2_with fail
      have HC := walkC_any w3.heap.size w.heap.size m hm H4.out.2.2.2.1 p.e _ _ (by have := H4.out.2.2.2.2.2.2; omega) H4.out.1 H4.out.2.1 H4.out.2.2.1
      rw [hZ] at HC
      clear hZ
      refine HC.mono ?_
      rintro e w5 ⟨rfl, hk5, hb5, ht5⟩
      have hg5 := ht5 _ _ H4.out.2.1 (by have := H4.out.2.2.2.1; omega)
      have hb25 : Below w2.heap.size w2 w5 := (H4.out.2.2.2.2.1.trans (H4.out.2.2.2.2.2.1.mono H4.out.2.2.2.2.1.size)).trans (hb5.mono H4.out.2.2.2.2.1.size)
      have hc5 := box_cells hk5
      have hd5 := box_cells hg5
      have hZ60 : Z ≤ 60 := H4.out.2.2.2.2.2.2
      have HB := Lib.hid hb25
      have hdn : w5.cell? ⟨w.heap.size, 0, none⟩ = some (.int .u8 m) := hd5 0
      have hcn := hc5 0
      clear hk5 hg5 hb5 ht5 hb25 H4 HC hx4 hlg hlx hd5 hc5
      by_cases hm0 : m = 0
      · subst hm0
        rw [if_neg (by omega)] at hcn ⊢
        have hcn2 : w5.cell? ⟨w3.heap.size, 0, none⟩ = some (.int .i64 Z) := hcn
        clear hcn
        go_wp2
        go_roundg (L.length - (i + 1))
        case measure => omega
        case rel => exact ⟨i + 1, by omega, rfl, by go_num, HB.out⟩
      · by_cases hmz : m ≤ Z
        · rw [if_pos (by omega)] at hcn ⊢
          have hcn2 : w5.cell? ⟨w3.heap.size, 0, none⟩ = some (.int .i64 m) := hcn
          clear hcn
          have e1 : (0 : Int) < (m : Int) := by omega
          have e2 : ¬ ((m : Int) = 0) := by omega
          have e3 : ((m : Int) == 0) = false := by rw [beq_eq_false_iff_ne]; omega
          have e4 : min (Z : Int) (m : Int) = (m : Int) := by omega
          have e5 : ¬ ((Z : Int) < (m : Int)) := by omega
          have e6 : decide ((Z : Int) < (m : Int)) = false := by simp; omega
          go_wp2
          go_roundg (L.length - (i + 1))
          case measure => omega
          case rel => exact ⟨i + 1, by omega, rfl, by go_num, HB.out⟩
        · rw [if_neg (by omega)] at hcn ⊢
          have hcn2 : w5.cell? ⟨w3.heap.size, 0, none⟩ = some (.int .i64 Z) := hcn
          clear hcn
          have e1 : (0 : Int) < (m : Int) := by omega
          have e2 : ¬ ((m : Int) = 0) := by omega
          have e3 : ((m : Int) == 0) = false := by rw [beq_eq_false_iff_ne]; omega
          have e4 : min (Z : Int) (m : Int) = (Z : Int) := by omega
          have e5 : ((Z : Int) < (m : Int)) := by omega
          have e6 : decide ((Z : Int) < (m : Int)) = true := by simp; omega
          go_wp2
          go_roundg (L.length - (i + 1))
          case measure => omega
          case rel => exact ⟨i + 1, by omega, rfl, by go_num, HB.out⟩
    · obtain rfl : i = L.length := by omega
      have hk6 : ¬ (L.length : Int) < (L.length : Int) := by omega
      have HB := Lib.hid (H2.out.1.trans (hbr.mono H2.out.1.size))
      clear hbr H2
      go_wp2_with fail
      refine (walk_nil _ _).mono ?_
      rintro e w5 ⟨rfl, rfl⟩
      go_wp2
      go_ret
      exact ⟨rfl, HB.out⟩
end Go.Proofs.Ytpkipleoodcplaa
