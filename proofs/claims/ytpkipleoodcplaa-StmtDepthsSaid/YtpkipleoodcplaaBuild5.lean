/-
  What lapidarylaw15.build makes: pairs of trees of one shape, at most 60 parts in all. Conditions: texts as long as a text can be.
-/
import Derived.Test.YtpkipleoodcplaaReg6
import Derived.Test.YtpkipleoodcplaaRef2Right
import Derived.Deep.RegionHeld3
import Derived.Deep.LoopGhost
import Derived.BigRegion
import Derived.Deep.DeepCutAuto
namespace Go.Proofs.Ytpkipleoodcplaa
open Go.RowKit

theorem pair_cells {w : World} {B c g n : Nat} {L : List Pr} {p : Pr} {i : Nat} (h : w.ownsRow B 35 9 (.slice (some ⟨g, 0, none⟩) n c) n (prv L)) (hn : n = L.length) (hi : L[i]? = some p) :
    ∀ j, j < 9 → w.cell? ⟨g, i * 9 + j, none⟩ = p.cells[j]? := by
  intro j hj
  have hlt : i < L.length := (List.getElem?_eq_some_iff.1 hi).1
  rw [h.cellAt _ (by rw [hn]; omega)]
  have e : L = L.take i ++ (p :: L.drop (i + 1)) := by
    have h2 := List.take_append_drop i L
    rw [List.drop_eq_getElem_cons hlt] at h2
    rw [← (List.getElem?_eq_some_iff.1 hi).2]; exact h2.symm
  rw [e, prv_append, List.getElem?_append_right (by rw [prv_length, List.length_take]; omega), prv_length, List.length_take, Nat.min_eq_left (by omega), Nat.add_sub_cancel_left]
  simp only [prv, List.flatMap_cons]
  rw [List.getElem?_append_left (by simp [Pr.cells, RC.cells]; omega)]
theorem signs_int (x : Int) (h0 : 0 ≤ x) (h1 : x < 1000000) (w : World) : Calls Try.prog 16 #[.int .i64 x] w fun en w' => ∃ t : ByteArray, en = .returned (.string t) ∧ w = w' := by
  obtain ⟨i, rfl⟩ := Int.eq_ofNat_of_zero_le h0
  exact signs_any i (by omega) w
/-- What the row's last pair gives, in every world behind. -/
theorem last_all {w wc w2 : World} {L0 : List Pr} {p : Pr} {g c : Nat} (hown : wc.ownsRow w.heap.size 35 9 (.slice (some ⟨g, 0, none⟩) (L0 ++ [p]).length c) (L0 ++ [p]).length (prv (L0 ++ [p])))
    (hok : ∀ q ∈ L0 ++ [p], q.ok wc) (hbd : Below wc.heap.size wc w2) :
    g < w2.heap.size ∧ (∀ j, w2.frozen? ⟨g, j, none⟩ = false) ∧ (∀ j, j < 9 → w2.cell? ⟨g, L0.length * 9 + j, none⟩ = p.cells[j]?) ∧ p.ok w2 ∧
      w2.ownsRow w.heap.size 35 9 (.slice (some ⟨g, 0, none⟩) (L0 ++ [p]).length c) (L0 ++ [p]).length (prv (L0 ++ [p])) ∧ (∀ q ∈ L0 ++ [p], q.ok w2) := by
  have h2 := own_under5 hown hbd
  have hok2 := prs_keep (stays_below hbd) hok
  obtain ⟨g', hg, _, hlt, hfz, hc⟩ := last_cells h2
  injection hg with hg
  injection hg with hg
  subst hg
  exact ⟨hlt, hfz, hc, hok2 p (by simp), h2, hok2⟩
theorem round_join {w wc w4 : World} {L0 : List Pr} {a b : Pr} {A4 : Option Addr} {gr c c4 k : Nat} (hbw : Below w.heap.size w wc)
    (hown : wc.ownsRow w.heap.size 35 9 (.slice (some ⟨gr, 0, none⟩) L0.length c) L0.length (prv L0)) (hok : ∀ q ∈ L0, q.ok wc) (htot : total L0 + (a.e.size + b.e.size) ≤ k)
    (hj : Joined wc w.heap.size gr c L0.length L0 a b A4 c4 w4) : Round w k (.slice A4 (L0.length + 1) c4) w4 := by
  obtain ⟨p, wd, hbd, hp, hps, hown4, hg4, hb4⟩ := hj
  have hs : Stays wd w4 := stays_grown (own_under5 hown hbd) hg4
  refine ⟨(hbw.trans (hbd.mono hbw.size)).trans hb4, L0 ++ [p], A4, c4, by simp, ?_, ?_, ?_⟩
  · rw [prv_append, List.length_append]; exact hown4
  · intro q hq
    rcases List.mem_append.1 hq with hq | hq
    · exact Pr.keep ((stays_below hbd).trans hs) (hok q hq)
    · rw [List.mem_singleton] at hq
      subst hq
      exact Pr.keep hs hp
  · rw [total_append, total_one, hps]; omega
theorem below_y (w : World) (x y : Obj) : Below w.heap.size w ((w.alloc x).alloc y) := ((Below.refl w.heap.size w).alloc (Nat.le_refl _) x).alloc (by simp) y
theorem own_cap {w : World} {B n c g size : Nat} {e : TypeId} {xs : List Value} (h : w.ownsRow B e size (.slice (some ⟨g, 0, none⟩) n c) n xs) : n ≤ c := by
  rcases h.2 with ⟨h0, _⟩ | ⟨g', cap, cur, hv, _, _, hn, _⟩
  · cases h0
  · injection hv with _ _ hc
    omega
theorem own_pop5 {w : World} {B g c : Nat} {L0 M : List Pr} (h : w.ownsRow B 35 9 (.slice (some ⟨g, 0, none⟩) (L0 ++ M).length c) (L0 ++ M).length (prv (L0 ++ M))) :
    w.ownsRow B 35 9 (.slice (some ⟨g, 0, none⟩) L0.length c) L0.length (prv L0) := by
  obtain ⟨_, h2⟩ := h
  rcases h2 with ⟨h0, _⟩ | ⟨g', cap, cur, hv, hg, hh, hn, hcap, hsz, htake⟩
  · cases h0
  · injection hv with h1 h2 h3
    injection h1 with h1
    injection h1 with h1
    subst h1; subst h3
    refine ⟨prv_length L0, .inr ⟨g, c, cur, rfl, hg, hh, by rw [List.length_append] at hn; omega, hcap, hsz, ?_⟩⟩
    have h3 : (cur.toList.take ((L0 ++ M).length * 9)).take (L0.length * 9) = (prv (L0 ++ M)).take (L0.length * 9) := by rw [htake]
    rw [List.take_take, Nat.min_eq_left (Nat.mul_le_mul_right _ (by simp)), prv_append, ← prv_length L0, List.take_left'] at h3
    · rw [← prv_length L0]; exact h3
    · rfl
theorem idx_two_0 (w : World) : Sem.run Try.prog (Instr.index 62 (.agg #[.string ⟨#[78, 79, 84]⟩, .string ⟨#[45]⟩]) (.int .u8 0)) w = .ok (.string ⟨#[78, 79, 84]⟩) w := by kernel_rfl
theorem idx_two_1 (w : World) : Sem.run Try.prog (Instr.index 62 (.agg #[.string ⟨#[78, 79, 84]⟩, .string ⟨#[45]⟩]) (.int .u8 1)) w = .ok (.string ⟨#[45]⟩) w := by kernel_rfl
attribute [local go_sem] idx_two_0 idx_two_1
set_option maxRecDepth 100000 in
set_option maxHeartbeats 200000000 in
theorem build_any (A0 : Option Addr) (c0 : Nat) (l : List Nd) (w : World) (hl : RdsN w A0 l) (hm : l.length ≤ 9223372036854775807) :
    Calls Try.prog 6 #[.slice A0 l.length c0] w (BuildPost w) := by
  obtain ⟨iM, hiM, hz0, hz1, hz2⟩ := info_parts pairInfo
  have hm' : (l.length : Int) ≤ 9223372036854775807 := by omega
  go_enter Try.func6, Try.ntmps6
  go_wp2_with fail
  go_loopg [3, 4, 5, 6, 7, 8, 9, 10, 11, 12, 13, 16] 61 (fun gk s3 _ _ _ _ _ _ _ _ _ _ s16 wr => ∃ k : Nat, k ≤ l.length ∧ k ≤ 60 ∧ gk = 61 - k ∧ s16 = .int .i64 k ∧ Below w.heap.size w wr ∧ BuildInv w.heap.size k s3 wr)
  case atStart => exact ⟨0, by omega, by omega, rfl, rfl, Below.refl _ _, [], none, 0, rfl, World.ownsRow_nil _ _ _ _, (fun _ h => by cases h), Nat.le_refl _⟩
  case round =>
    obtain ⟨k, hk, hk60, rfl, rfl, hbw, hinv⟩ := hrel
    by_cases hlt : k < l.length
    · obtain ⟨n, hn⟩ : ∃ n, l[k]? = some n := ⟨_, List.getElem?_eq_getElem hlt⟩
      obtain ⟨hok, b, off, rfl, c0_, c1, c2, c3, c4, c5, c6⟩ := RdsN.at_ (hl.below hbw) hn
      by_cases h60 : k < 60
      · have h60' : ¬ ((60 : Int) ≤ (k : Int)) := by omega
        obtain ⟨q1, q2, q3, q4⟩ := hok
        have HINV := Lib.hid hinv
        have HL := Lib.hid hl
        clear hinv hl hn hk60
        go_wp2_with fail
        go_upto_region 9 with fail
        go_cut [] (fun wx => ∃ (t1 t2 : ByteArray), t1.size ≤ 30 ∧ wx = (wr.alloc (.cells #[.int .u8 n.d, .int .u8 n.k, .int .i64 n.i, .string n.s, .bool n.b, .string t1, .string t2] 59)).drew)
        case first =>
          as_aux_lemma =>
            go_wp2_with fail
            go_region_with (go_at_call 14; refine (few_any _ _).mono ?_; rintro e2 w2 ⟨t1, rfl, ht1, rfl⟩)
            all_goals
              go_wp2_with fail
              go_meet
              exact ⟨_, _, by assumption, rfl⟩
        case rest =>
          clear c0_ c1 c2 c3 c4 c5 c6 q3 q4
          obtain ⟨t1, t2, ht1, rfl⟩ := hcut
          have hbn : Below wr.heap.size wr (wr.alloc (.cells #[.int .u8 n.d, .int .u8 n.k, .int .i64 n.i, .string n.s, .bool n.b, .string t1, .string t2] 59)).drew := ((Below.refl _ _).alloc (Nat.le_refl _) _).drew
          have hnx := box_drew (heap_alloc_new wr (.cells #[.int .u8 n.d, .int .u8 n.k, .int .i64 n.i, .string n.s, .bool n.b, .string t1, .string t2] 59))
          have hcx := box_cells hnx
          have HB1 := Lib.hid (fun (w3 : World) (h : Below _ _ w3) => hbn.trans (Below.mono h hbn.size))
          have HX1 := Lib.hid (fun (w3 : World) (h : Below _ _ w3) => box_below hnx h)
          clear hnx hbn
          go_upto_if 34 with (go_at_call 15; refine (right2_any _ _ _ _ _ q2).mono ?_; rintro e3 w3 ⟨rfl, hb3⟩)
          generalize Lp.rightB n.k n.i n.s n.b = rb
          have hb4 := HB1.out w3 hb3
          have hx4 := HX1.out w3 hb3
          clear hcx HB1 HX1 hb3
          go_cut [] (fun wx => ∃ (vk vi : Int) (vs : ByteArray) (vb : Bool), Below wr.heap.size wr wx ∧ wx.heap[wr.heap.size]? = some (.cells #[.int .u8 n.d, .int .u8 vk, .int .i64 vi, .string vs, .bool vb, .string t1, .string t2] 59 (0, 0)))
          case first =>
            as_aux_lemma =>
              have hcx := box_cells hx4
              have hfx := fun j => frozen_of_row w3 wr.heap.size j _ _ hx4
              go_wp2_with fail
              · go_meet
                refine ⟨0, 0, ⟨#[]⟩, false, (((hb4.setCell (p := ⟨wr.heap.size, 1, none⟩) (Nat.le_refl _) _).setCell (p := ⟨wr.heap.size, 2, none⟩) (Nat.le_refl _) _).setCell (p := ⟨wr.heap.size, 3, none⟩) (Nat.le_refl _) _).setCell (p := ⟨wr.heap.size, 4, none⟩) (Nat.le_refl _) _, ?_⟩
                have := heap_setCell_same _ _ 4 _ _ (.bool false) (heap_setCell_same _ _ 3 _ _ (.string ⟨#[]⟩) (heap_setCell_same _ _ 2 _ _ (.int .i64 0) (heap_setCell_same _ _ 1 _ _ (.int .u8 0) hx4)))
                simpa using this
              · go_meet
                exact ⟨_, _, _, _, hb4, hx4⟩
          case rest =>
            clear hx4 hb4
            obtain ⟨vk, vi, vs, vb, hb4, hx4⟩ := hcut
            obtain ⟨L, A, c, rfl, hown, hok, htot⟩ := HINV.out.below hb4
            have hLk := total_len L
            have hbw4 := hbw.trans (hb4.mono hbw.size)
            have hlw := heap_lt hx4
            have hcx := box_cells hx4
            have hB4 := hbw4.size
            clear HINV hb4 hbw
            obtain ⟨D, hD⟩ : ∃ D : Nat, n.d % 14 = D := ⟨_, rfl⟩
            have hD14 : D < 14 := by omega
            have hmod : ((n.d : Int) % 14) = (D : Int) := by omega
            have htmod : Int.tmod (n.d : Int) 14 = (D : Int) := by rw [Int.tmod_eq_emod_of_nonneg (by omega)]; exact hmod
            clear hD
            have hlen : (L.length : Int) ≤ 60 := by omega
            have hlen0 : (0 : Int) ≤ (L.length : Int) := by omega
            go_upto_region 12 with fail
            go_cut [50] (fun s50 wx => wx = wc ∧ s50 = .bool (isLit D L.length))
            case first =>
              as_aux_lemma =>
                by_cases d3 : D < 3
                · have f0 : decide ((D : Int) < 3) = true := by simp; omega
                  go_wp2_with fail
                  go_meet
                  exact ⟨rfl, congrArg Value.bool (by simp [isLit, -List.length_eq_zero_iff]; omega)⟩
                · by_cases d5 : 5 ≤ D
                  · by_cases k0 : L.length = 0
                    · by_cases d13 : D = 13
                      · have f0 : decide ((D : Int) < 3) = false := by simp; omega
                        have f1 : decide (5 ≤ (D : Int)) = true := by simp; omega
                        have f2 : ((L.length : Int) == 0) = true := by rw [beq_iff_eq]; omega
                        have f3 : ((D : Int) != 13) = false := by rw [bne_eq_false_iff_eq]; omega
                        have f4 : decide (7 ≤ (D : Int)) = true := by simp; omega
                        have f5 : decide ((D : Int) ≤ 9) = false := by simp; omega
                        go_wp2_with fail
                        go_meet
                        exact ⟨rfl, congrArg Value.bool (by simp [isLit, -List.length_eq_zero_iff]; omega)⟩
                      · have f0 : decide ((D : Int) < 3) = false := by simp; omega
                        have f1 : decide (5 ≤ (D : Int)) = true := by simp; omega
                        have f2 : ((L.length : Int) == 0) = true := by rw [beq_iff_eq]; omega
                        have f3 : ((D : Int) != 13) = true := by rw [bne_iff_ne]; omega
                        go_wp2_with fail
                        go_meet
                        exact ⟨rfl, congrArg Value.bool (by simp [isLit, -List.length_eq_zero_iff]; omega)⟩
                    · by_cases d7 : 7 ≤ D
                      · by_cases d9 : D ≤ 9
                        · by_cases k2 : L.length < 2
                          · have f0 : decide ((D : Int) < 3) = false := by simp; omega
                            have f1 : decide (5 ≤ (D : Int)) = true := by simp; omega
                            have f2 : ((L.length : Int) == 0) = false := by rw [beq_eq_false_iff_ne]; omega
                            have f3 : decide (7 ≤ (D : Int)) = true := by simp; omega
                            have f4 : decide ((D : Int) ≤ 9) = true := by simp; omega
                            have f5 : decide ((L.length : Int) < 2) = true := by simp; omega
                            go_wp2_with fail
                            go_meet
                            exact ⟨rfl, congrArg Value.bool (by simp [isLit, -List.length_eq_zero_iff]; omega)⟩
                          · have f0 : decide ((D : Int) < 3) = false := by simp; omega
                            have f1 : decide (5 ≤ (D : Int)) = true := by simp; omega
                            have f2 : ((L.length : Int) == 0) = false := by rw [beq_eq_false_iff_ne]; omega
                            have f3 : decide (7 ≤ (D : Int)) = true := by simp; omega
                            have f4 : decide ((D : Int) ≤ 9) = true := by simp; omega
                            have f5 : decide ((L.length : Int) < 2) = false := by simp; omega
                            go_wp2_with fail
                            go_meet
                            exact ⟨rfl, congrArg Value.bool (by simp [isLit, -List.length_eq_zero_iff]; omega)⟩
                        · have f0 : decide ((D : Int) < 3) = false := by simp; omega
                          have f1 : decide (5 ≤ (D : Int)) = true := by simp; omega
                          have f2 : ((L.length : Int) == 0) = false := by rw [beq_eq_false_iff_ne]; omega
                          have f3 : decide (7 ≤ (D : Int)) = true := by simp; omega
                          have f4 : decide ((D : Int) ≤ 9) = false := by simp; omega
                          go_wp2_with fail
                          go_meet
                          exact ⟨rfl, congrArg Value.bool (by simp [isLit, -List.length_eq_zero_iff]; omega)⟩
                      · have f0 : decide ((D : Int) < 3) = false := by simp; omega
                        have f1 : decide (5 ≤ (D : Int)) = true := by simp; omega
                        have f2 : ((L.length : Int) == 0) = false := by rw [beq_eq_false_iff_ne]; omega
                        have f3 : decide (7 ≤ (D : Int)) = false := by simp; omega
                        go_wp2_with fail
                        go_meet
                        exact ⟨rfl, congrArg Value.bool (by simp [isLit, -List.length_eq_zero_iff]; omega)⟩
                  · have f0 : decide ((D : Int) < 3) = false := by simp; omega
                    have f1 : decide (5 ≤ (D : Int)) = false := by simp; omega
                    have f2 : decide (7 ≤ (D : Int)) = false := by simp; omega
                    go_wp2_with fail
                    go_meet
                    exact ⟨rfl, congrArg Value.bool (by simp [isLit, -List.length_eq_zero_iff]; omega)⟩
            case rest =>
              obtain ⟨rfl, rfl⟩ := hcut
              cases hlit : isLit D L.length
              · have hlit2 := isLit_no hlit
                clear hlit
                by_cases d5 : D < 5
                · obtain ⟨g3, g5, g7⟩ := hlit2
                  as_aux_lemma =>
                    have f1 : decide ((D : Int) < 5) = true := by simp; omega

                    have HO := Lib.hid (And.intro hown (And.intro hok (And.intro htot (And.intro hbw4 hB4))))
                    have hL59 : L.length ≤ 59 := by omega
                    clear hown hok htot hbw4 hB4 hcx hlw
                    go_upto_region 15 with fail
                    refine reg_col (B := w.heap.size) (A := A) (n := L.length) (L := L) (gn := wr.heap.size) (hown := HO.out.1) (hB := HO.out.2.2.2.2) (hn := hL59) (hgn := hx4) (h := ?_) _ _ _ _ _ _ _ _ _ _ _ _ _ _ _ _ _ _ _ _ _ _ _ _ _ _ _ _ _ _ _ _ _ _ _ _ _ _ _ _ _ _ _ _ _ _ _ _ _ _ _ _ _ _ _ _ _ _ _ _ _ _ _ _ _ _ _ _ _ _ _ _ _ _ _ _ _ _ _ _ _ _ _ _ _ _ _ _ _ _ _ _ _ _ _ _ _ _ _ _ _ _ _ _ _ _ _ _ _ _ _ _ _ _ _ _ _ _ _ _ _ _ _ _ _ _ _ _ _ _ _ _ _ _ _ _ _ _ _ _ _ _ _ _ _ _ _ _ _ _ _ _ _ _ _ _ _ _ _ _ _ _ _ _ _ _ _ _ _ _ _ _ _ _ _ _ _ _ _ _ _ _ _ _ _ _ _ _ _ _ _ _ _ _ _ _ _ _ _ _ _ _ _ _ _ _ _ _ _ _ _ _ _ _ _ _ _ _ _ _ _ _ _ _ _ _ _ _ _ _ _ _ _ _ _ _ _ _ _ _ _ _ _ _ _ _ _ _ _ _ _ _ _ _
                    intro _ _ _ _ _ _ _ _ _ _ _ _ _ _ _ _ A4 c4 w5 hj
                    obtain ⟨p', wd, hbd, hp, hps, hown4, hg4, hb4⟩ := hj
                    have HR := round_app p' HO.out.2.2.2.1 HO.out.1 HO.out.2.1 HO.out.2.2.1 hbd hp hps hown4 hg4 hb4
                    obtain ⟨hbw5, hinv5⟩ := HR
                    clear hbd hp hps hown4 hg4 hb4 HO
                    go_wp2
                    go_roundg (61 - (k + 1))
                    case measure => omega
                    case rel => exact ⟨k + 1, by omega, by omega, rfl, by go_num, hbw5, hinv5⟩
                by_cases d7 : D < 7
                · obtain ⟨g3, g5, g7⟩ := hlit2
                  as_aux_lemma =>
                    have hlits : True := trivial
                    obtain rfl | rfl : D = 5 ∨ D = 6 := by omega
                    · obtain ⟨L0, p, rfl⟩ : ∃ L0 p, L = L0 ++ [p] := ⟨L.dropLast, L.getLast (by intro h; simp [h] at g5), (List.dropLast_concat_getLast _).symm⟩
                      obtain ⟨gr, rfl, hgB, hgz, hfz, hcp⟩ := last_cells hown
                      have hpo := hok p (by simp)
                      have hn60 : L0.length ≤ 59 := by rw [List.length_append, List.length_singleton] at hLk; omega
  
                      have HPUT := Lib.hid (fun (w5 : World) (h : Putt wc gr (L0.length * 9) p w5) => (show Round w k (.slice (some ⟨gr, 0, none⟩) (L0 ++ [p]).length c) w5 from by
                        obtain ⟨p', wd, hbd, hpo', hps, rfl⟩ := h
                        exact round_put hbw4 hown hok htot hbd hpo' hps hgB))
                      have HF := Lib.hid (And.intro hgz (And.intro hfz (And.intro hcp hpo)))
                      clear hown hok htot hpo hcp hfz hgz hbw4 hgB hB4 g3 g5 g7 hmod htmod hD14 hLk
                      generalize hnn : (L0 ++ [p]).length = nn at *
                      have HN := Lib.hid (show nn = L0.length + 1 by rw [← hnn]; simp)
                      clear hnn
                      go_wp2_with fail
                      refine reg_un (gr := gr) (n0 := L0.length) (p := p) (hgz := HF.out.1) (hfz := HF.out.2.1) (hcp := HF.out.2.2.1) (hpo := HF.out.2.2.2) (hnn := HN.out) (hn60 := hn60) (h := ?_) _ _ _ _ _ _ _ _ _ _ _ _ _ _ _ _ _ _ _ _ _ _ _ _ _ _ _ _ _ _ _ _ _ _ _ _ _ _ _ _ _ _ _ _ _ _ _ _ _ _ _ _ _ _ _ _ _ _ _ _ _ _ _ _ _ _ _ _ _ _ _ _ _ _ _ _ _ _ _ _ _ _ _ _ _ _ _ _ _ _ _ _ _ _ _ _ _ _ _ _ _ _ _ _ _ _ _ _ _ _ _ _ _ _ _ _ _ _ _ _ _ _ _ _ _ _ _ _ _ _ _ _ _ _ _ _ _ _ _ _ _ _ _ _ _ _ _ _ _ _ _ _ _ _ _ _ _ _ _ _ _ _ _ _ _ _ _ _ _ _ _ _ _ _ _ _ _ _ _ _ _ _ _ _ _ _ _ _ _ _ _ _ _ _ _ _ _ _ _ _ _ _ _ _ _ _ _ _ _ _ _ _ _ _ _ _ _ _ _ _ _ _ _ _ _ _ _ _ _ _ _ _ _ _ _ _ _ _ _ _ _ _ _ _ _ _ _ _
                      intro _ _ _ _ _ _ _ _ _ _ _ _ _ _ _ _ _ _ _ _ _ _ _ _ w5 hput
                      have HR := HPUT.out w5 hput
                      obtain ⟨hbw5, hinv5⟩ := HR
                      clear hput HPUT HF
                      go_wp2
                      go_roundg (61 - (k + 1))
                      case measure => omega
                      case rel => exact ⟨k + 1, by omega, by omega, rfl, by go_num, hbw5, hinv5⟩
                    · obtain ⟨L0, p, rfl⟩ : ∃ L0 p, L = L0 ++ [p] := ⟨L.dropLast, L.getLast (by intro h; simp [h] at g5), (List.dropLast_concat_getLast _).symm⟩
                      obtain ⟨gr, rfl, hgB, hgz, hfz, hcp⟩ := last_cells hown
                      have hpo := hok p (by simp)
                      have hn60 : L0.length ≤ 59 := by rw [List.length_append, List.length_singleton] at hLk; omega
  
                      have HPUT := Lib.hid (fun (w5 : World) (h : Putt wc gr (L0.length * 9) p w5) => (show Round w k (.slice (some ⟨gr, 0, none⟩) (L0 ++ [p]).length c) w5 from by
                        obtain ⟨p', wd, hbd, hpo', hps, rfl⟩ := h
                        exact round_put hbw4 hown hok htot hbd hpo' hps hgB))
                      have HF := Lib.hid (And.intro hgz (And.intro hfz (And.intro hcp hpo)))
                      clear hown hok htot hpo hcp hfz hgz hbw4 hgB hB4 g3 g5 g7 hmod htmod hD14 hLk
                      generalize hnn : (L0 ++ [p]).length = nn at *
                      have HN := Lib.hid (show nn = L0.length + 1 by rw [← hnn]; simp)
                      clear hnn
                      go_wp2_with fail
                      refine reg_un (gr := gr) (n0 := L0.length) (p := p) (hgz := HF.out.1) (hfz := HF.out.2.1) (hcp := HF.out.2.2.1) (hpo := HF.out.2.2.2) (hnn := HN.out) (hn60 := hn60) (h := ?_) _ _ _ _ _ _ _ _ _ _ _ _ _ _ _ _ _ _ _ _ _ _ _ _ _ _ _ _ _ _ _ _ _ _ _ _ _ _ _ _ _ _ _ _ _ _ _ _ _ _ _ _ _ _ _ _ _ _ _ _ _ _ _ _ _ _ _ _ _ _ _ _ _ _ _ _ _ _ _ _ _ _ _ _ _ _ _ _ _ _ _ _ _ _ _ _ _ _ _ _ _ _ _ _ _ _ _ _ _ _ _ _ _ _ _ _ _ _ _ _ _ _ _ _ _ _ _ _ _ _ _ _ _ _ _ _ _ _ _ _ _ _ _ _ _ _ _ _ _ _ _ _ _ _ _ _ _ _ _ _ _ _ _ _ _ _ _ _ _ _ _ _ _ _ _ _ _ _ _ _ _ _ _ _ _ _ _ _ _ _ _ _ _ _ _ _ _ _ _ _ _ _ _ _ _ _ _ _ _ _ _ _ _ _ _ _ _ _ _ _ _ _ _ _ _ _ _ _ _ _ _ _ _ _ _ _ _ _ _ _ _ _ _ _ _ _ _ _
                      intro _ _ _ _ _ _ _ _ _ _ _ _ _ _ _ _ _ _ _ _ _ _ _ _ w5 hput
                      have HR := HPUT.out w5 hput
                      obtain ⟨hbw5, hinv5⟩ := HR
                      clear hput HPUT HF
                      go_wp2
                      go_roundg (61 - (k + 1))
                      case measure => omega
                      case rel => exact ⟨k + 1, by omega, by omega, rfl, by go_num, hbw5, hinv5⟩
                by_cases d10 : D < 10
                · obtain ⟨g3, g5, g7⟩ := hlit2
                  as_aux_lemma =>
                    have f1 : decide ((D : Int) < 5) = false := by simp; omega
                    have f2 : decide ((D : Int) < 7) = false := by simp; omega
                    have f3 : decide ((D : Int) < 10) = true := by simp; omega

                    obtain ⟨L0, pa, pb, rfl⟩ : ∃ L0 pa pb, L = L0 ++ [pa, pb] := by
                      have h2 : 2 ≤ L.length := g7 (by omega) (by omega)
                      refine ⟨L.take (L.length - 2), L[L.length - 2], L[L.length - 1], ?_⟩
                      have e := (List.take_append_drop (L.length - 2) L).symm
                      rw [List.drop_eq_getElem_cons (by omega), List.drop_eq_getElem_cons (by omega), List.drop_eq_nil_of_le (by omega)] at e
                      simpa [show L.length - 2 + 1 = L.length - 1 by omega] using e
                    have HN := Lib.hid (show (L0 ++ [pa, pb]).length = L0.length + 2 by simp)
                    obtain ⟨gr, cap, hv, _⟩ := hown.form (by rw [HN.out]; omega)
                    injection hv with hA _ hc
                    subst hA
                    subst hc
                    have hlt := hown.lt gr rfl
                    have hcap := own_cap hown
                    have hn60 : L0.length ≤ 58 := by rw [HN.out] at hLk; omega
                    have hca := pair_cells hown rfl (i := L0.length) (p := pa) (by simp)
                    have hcb := pair_cells hown rfl (i := L0.length + 1) (p := pb) (by rw [List.getElem?_append_right (by omega)]; simp)
                    have hpa := hok pa (by simp)
                    have hpb := hok pb (by simp)
                    have hown0 := own_pop5 hown
                    have hok0 : ∀ q ∈ L0, q.ok wc := fun q hq => hok q (List.mem_append_left _ hq)
                    have htot0 : total L0 + (pa.e.size + pb.e.size) ≤ k := by
                      have e : total (L0 ++ [pa, pb]) = total L0 + (pa.e.size + pb.e.size) := by simp [total]
                      omega
                    have HF := Lib.hid (And.intro hlt.1 (And.intro hlt.2 (And.intro hca (And.intro hcb (And.intro hpa (And.intro hpb (And.intro hown0 (And.intro hok0 (And.intro htot0 (And.intro hbw4 hcap))))))))))
                    clear hlt hca hcb hpa hpb hown0 hok0 htot0 hbw4 hcap hown hok htot hB4 g3 g5 g7 hmod htmod hD14 hLk
                    generalize hnn : (L0 ++ [pa, pb]).length = nn at *
                    clear hnn

                    go_wp2_with (go_at_call 16; refine (signs_int _ (by omega) (by omega) _).mono ?_; rintro e5 w6 ⟨sg, rfl, rfl⟩)
                    refine reg_two (gr := gr) (n0 := L0.length) (n1 := L0.length + 1) (a := pa) (b := pb) (hgz := HF.out.2.1) (hca := HF.out.2.2.1) (hcb := HF.out.2.2.2.1) (hao := HF.out.2.2.2.2.1) (hbo := HF.out.2.2.2.2.2.1) (hn1 := rfl) (hnn := HN.out) (hn60 := hn60) (h := ?_) _ _ _ _ _ _ _ _ _ _ _ _ _ _ _ _ _ _ _ _ _ _ _ _ _ _ _ _ _ _ _ _ _ _ _ _ _ _ _ _ _ _ _ _ _ _ _ _ _ _ _ _ _ _ _ _ _ _ _ _ _ _ _ _ _ _ _ _ _ _ _ _ _ _ _ _ _ _ _ _ _ _ _ _ _ _ _ _ _ _ _ _ _ _ _ _ _ _ _ _ _ _ _ _ _ _ _ _ _ _ _ _ _ _ _ _ _ _ _ _ _ _ _ _ _ _ _ _ _ _ _ _ _ _ _ _ _ _ _ _ _ _ _ _ _ _ _ _ _ _ _ _ _ _ _ _ _ _ _ _ _ _ _ _ _ _ _ _ _ _ _ _ _ _ _ _ _ _ _ _ _ _ _ _ _ _ _ _ _ _ _ _ _ _ _ _ _ _ _ _ _ _ _ _ _ _ _ _ _ _ _ _ _ _ _ _ _ _ _ _ _ _ _ _ _ _ _ _ _ _ _ _ _ _ _ _ _ _ _ _ _ _ _ _ _ _ _ _
                    intro _ _ _ _ _ _ _ _ _ _ ga gb w7 htwo
                    obtain ⟨hga, hgb, hb7, hca7, hcb7⟩ := htwo
                    have HG := Lib.hid (And.intro hca7 (And.intro hcb7 (And.intro hb7 (And.intro hga hgb))))
                    clear hga hgb hb7 hca7 hcb7
                    go_wp2_with fail
                    refine reg_bin (B := w.heap.size) (gr := gr) (ga := ga) (gb := gb) (n0 := L0.length) (L := L0) (a := pa) (b := pb) (hga := HG.out.1) (hgb := HG.out.2.1) (hao := Pr.keep (stays_below HG.out.2.2.1) HF.out.2.2.2.2.1) (hbo := Pr.keep (stays_below HG.out.2.2.1) HF.out.2.2.2.2.2.1) (hown := own_under5 HF.out.2.2.2.2.2.2.1 HG.out.2.2.1) (hB := ?b1) (hna := ?b2) (hnb := ?b3) (hcap := HF.out.2.2.2.2.2.2.2.2.2.2) (hnn := HN.out) (hn60 := hn60) (h := ?b4) _ _ _ _ _ _ _ _ _ _ _ _ _ _ _ _ _ _ _ _ _ _ _ _ _ _ _ _ _ _ _ _ _ _ _ _ _ _ _ _ _ _ _ _ _ _ _ _ _ _ _ _ _ _ _ _ _ _ _ _ _ _ _ _ _ _ _ _ _ _ _ _ _ _ _ _ _ _ _ _ _ _ _ _ _ _ _ _ _ _ _ _ _ _ _ _ _ _ _ _ _ _ _ _ _ _ _ _ _ _ _ _ _ _ _ _ _ _ _ _ _ _ _ _ _ _ _ _ _ _ _ _ _ _ _ _ _ _ _ _ _ _ _ _ _ _ _ _ _ _ _ _ _ _ _ _ _ _ _ _ _ _ _ _ _ _ _ _ _ _ _ _ _ _ _ _ _ _ _ _ _ _ _ _ _ _ _ _ _ _ _ _ _ _ _ _ _ _ _ _ _ _ _ _ _ _ _ _ _ _ _ _ _ _ _ _ _ _ _ _ _ _ _ _ _ _ _ _ _ _ _ _ _ _ _ _ _ _ _ _ _ _ _ _ _ _
                    case b1 => exact Nat.le_trans HF.out.2.2.2.2.2.2.2.2.2.1.size HG.out.2.2.1.size
                    case b2 => have := HF.out.2.1; have := HG.out.2.2.2.1; omega
                    case b3 => have := HF.out.2.1; have := HG.out.2.2.2.2; omega
                    case b4 =>
                      intro _ _ _ _ _ _ _ _ _ _ _ _ _ _ _ _ _ _ _ _ _ _ A4 c4 w5 hj
                      have hr := round_join (HF.out.2.2.2.2.2.2.2.2.2.1.trans (HG.out.2.2.1.mono HF.out.2.2.2.2.2.2.2.2.2.1.size)) (own_under5 HF.out.2.2.2.2.2.2.1 HG.out.2.2.1) (prs_keep (stays_below HG.out.2.2.1) HF.out.2.2.2.2.2.2.2.1) HF.out.2.2.2.2.2.2.2.2.1 hj
                      obtain ⟨hbw5, hinv5⟩ := hr
                      clear hj HG HF
                      go_wp2
                      go_roundg (61 - (k + 1))
                      case measure => omega
                      case rel => exact ⟨k + 1, by omega, by omega, rfl, by go_num, hbw5, hinv5⟩
                by_cases d12 : D < 12
                · obtain ⟨g3, g5, g7⟩ := hlit2
                  as_aux_lemma =>
                    obtain rfl | rfl : D = 10 ∨ D = 11 := by omega
                    · obtain ⟨L0, p, rfl⟩ : ∃ L0 p, L = L0 ++ [p] := ⟨L.dropLast, L.getLast (by intro h; simp [h] at g5), (List.dropLast_concat_getLast _).symm⟩
                      obtain ⟨gr, rfl, hgB, hgz, hfz, hcp⟩ := last_cells hown
                      have hpo := hok p (by simp)
                      have hn60 : L0.length ≤ 59 := by rw [List.length_append, List.length_singleton] at hLk; omega
  
                      have HPUT := Lib.hid (fun (w2 : World) (hb2 : Below wc.heap.size wc w2) (w5 : World) (h : Putt w2 gr (L0.length * 9) p w5) => (show Round w k (.slice (some ⟨gr, 0, none⟩) (L0 ++ [p]).length c) w5 from by
                        have ha := last_all hown hok hb2
                        obtain ⟨p', wd, hbd, hpo', hps, rfl⟩ := h
                        exact round_put (hbw4.trans (hb2.mono hbw4.size)) ha.2.2.2.2.1 ha.2.2.2.2.2 htot hbd hpo' hps hgB))
                      have HF := Lib.hid (fun (w2 : World) (hb2 : Below wc.heap.size wc w2) => last_all hown hok hb2)
                      have HF0 := Lib.hid (And.intro hcp hpo)
                      clear hown hok htot hpo hcp hgz hfz hbw4 hgB hB4 g3 g5 g7 hmod htmod hD14 hLk hx4 hcx hlw
                      generalize hnn : (L0 ++ [p]).length = nn at *
                      have HN := Lib.hid (show nn = L0.length + 1 by rw [← hnn]; simp)
                      clear hnn
                      go_upto_region 24 with fail
                      refine reg_y (gr := gr) (n0 := L0.length) (p := p) (hcp := HF0.out.1) (hpo := HF0.out.2) (hnn := HN.out) (hn60 := hn60) (h := ?_) _ _ _ _ _ _ _ _ _ _ _ _ _ _ _ _ _ _ _ _ _ _ _ _ _ _ _ _ _ _ _ _ _ _ _ _ _ _ _ _ _ _ _ _ _ _ _ _ _ _ _ _ _ _ _ _ _ _ _ _ _ _ _ _ _ _ _ _ _ _ _ _ _ _ _ _ _ _ _ _ _ _ _ _ _ _ _ _ _ _ _ _ _ _ _ _ _ _ _ _ _ _ _ _ _ _ _ _ _ _ _ _ _ _ _ _ _ _ _ _ _ _ _ _ _ _ _ _ _ _ _ _ _ _ _ _ _ _ _ _ _ _ _ _ _ _ _ _ _ _ _ _ _ _ _ _ _ _ _ _ _ _ _ _ _ _ _ _ _ _ _ _ _ _ _ _ _ _ _ _ _ _ _ _ _ _ _ _ _ _ _ _ _ _ _ _ _ _ _ _ _ _ _ _ _ _ _ _ _ _ _ _ _ _ _ _ _ _ _ _ _ _ _ _ _ _ _ _ _ _ _ _ _ _ _ _ _ _ _ _ _ _ _ _ _ _ _ _
                      intro _ _ _ _ _ _ _ _ gy gE WY hym
                      obtain ⟨hy1, hy2, hby, hy5, hy6⟩ := hym
                      clear HF0
                      have hf := HF.out WY hby
                      have hp := HPUT.out WY hby
                      have HY := Lib.hid (And.intro hy5 hy6)
                      clear HF HPUT hy1 hy2 hby hy5 hy6
                      go_wp2_with fail
                      refine reg_is10 (gr := gr) (n0 := L0.length) (p := p) (sg := ⟨#[]⟩) (gE := gE) (gy := gy) (hgz := hf.1) (hfz := hf.2.1) (hcp := hf.2.2.1) (hpo := hf.2.2.2.1) (hnn := HN.out) (hn60 := hn60) (hy := HY.out.1) (hE := HY.out.2) (h := ?_) _ _ _ _ _ _ _ _ _ _ _ _ _ _ _ _ _ _ _ _ _ _ _ _ _ _ _ _ _ _ _ _ _ _ _ _ _ _ _ _ _ _ _ _ _ _ _ _ _ _ _ _ _ _ _ _ _ _ _ _ _ _ _ _ _ _ _ _ _ _ _ _ _ _ _ _ _ _ _ _ _ _ _ _ _ _ _ _ _ _ _ _ _ _ _ _ _ _ _ _ _ _ _ _ _ _ _ _ _ _ _ _ _ _ _ _ _ _ _ _ _ _ _ _ _ _ _ _ _ _ _ _ _ _ _ _ _ _ _ _ _ _ _ _ _ _ _ _ _ _ _ _ _ _ _ _ _ _ _ _ _ _ _ _ _ _ _ _ _ _ _ _ _ _ _ _ _ _ _ _ _ _ _ _ _ _ _ _ _ _ _ _ _ _ _ _ _ _ _ _ _ _ _ _ _ _ _ _ _ _ _ _ _ _ _ _ _ _ _ _ _ _ _ _ _ _ _ _ _ _ _ _ _ _ _ _ _ _ _ _ _ _ _ _ _ _
                      intro _ _ _ _ _ _ _ _ _ _ _ _ _ _ _ _ _ w5 hput
                      have HR := hp w5 hput
                      obtain ⟨hbw5, hinv5⟩ := HR
                      clear hput hf hp HY
                      go_wp2
                      go_roundg (61 - (k + 1))
                      case measure => omega
                      case rel => exact ⟨k + 1, by omega, by omega, rfl, by go_num, hbw5, hinv5⟩
                    · obtain ⟨L0, p, rfl⟩ : ∃ L0 p, L = L0 ++ [p] := ⟨L.dropLast, L.getLast (by intro h; simp [h] at g5), (List.dropLast_concat_getLast _).symm⟩
                      obtain ⟨gr, rfl, hgB, hgz, hfz, hcp⟩ := last_cells hown
                      have hpo := hok p (by simp)
                      have hn60 : L0.length ≤ 59 := by rw [List.length_append, List.length_singleton] at hLk; omega
  
                      have HPUT := Lib.hid (fun (w2 : World) (hb2 : Below wc.heap.size wc w2) (w5 : World) (h : Putt w2 gr (L0.length * 9) p w5) => (show Round w k (.slice (some ⟨gr, 0, none⟩) (L0 ++ [p]).length c) w5 from by
                        have ha := last_all hown hok hb2
                        obtain ⟨p', wd, hbd, hpo', hps, rfl⟩ := h
                        exact round_put (hbw4.trans (hb2.mono hbw4.size)) ha.2.2.2.2.1 ha.2.2.2.2.2 htot hbd hpo' hps hgB))
                      have HF := Lib.hid (fun (w2 : World) (hb2 : Below wc.heap.size wc w2) => last_all hown hok hb2)
                      have HF0 := Lib.hid (And.intro hcp hpo)
                      clear hown hok htot hpo hcp hgz hfz hbw4 hgB hB4 g3 g5 g7 hmod htmod hD14 hLk hx4 hcx hlw
                      generalize hnn : (L0 ++ [p]).length = nn at *
                      have HN := Lib.hid (show nn = L0.length + 1 by rw [← hnn]; simp)
                      clear hnn
                      go_upto_region 24 with fail
                      refine reg_y (gr := gr) (n0 := L0.length) (p := p) (hcp := HF0.out.1) (hpo := HF0.out.2) (hnn := HN.out) (hn60 := hn60) (h := ?_) _ _ _ _ _ _ _ _ _ _ _ _ _ _ _ _ _ _ _ _ _ _ _ _ _ _ _ _ _ _ _ _ _ _ _ _ _ _ _ _ _ _ _ _ _ _ _ _ _ _ _ _ _ _ _ _ _ _ _ _ _ _ _ _ _ _ _ _ _ _ _ _ _ _ _ _ _ _ _ _ _ _ _ _ _ _ _ _ _ _ _ _ _ _ _ _ _ _ _ _ _ _ _ _ _ _ _ _ _ _ _ _ _ _ _ _ _ _ _ _ _ _ _ _ _ _ _ _ _ _ _ _ _ _ _ _ _ _ _ _ _ _ _ _ _ _ _ _ _ _ _ _ _ _ _ _ _ _ _ _ _ _ _ _ _ _ _ _ _ _ _ _ _ _ _ _ _ _ _ _ _ _ _ _ _ _ _ _ _ _ _ _ _ _ _ _ _ _ _ _ _ _ _ _ _ _ _ _ _ _ _ _ _ _ _ _ _ _ _ _ _ _ _ _ _ _ _ _ _ _ _ _ _ _ _ _ _ _ _ _ _ _ _ _ _ _ _ _
                      intro _ _ _ _ _ _ _ _ gy gE WY hym
                      obtain ⟨hy1, hy2, hby, hy5, hy6⟩ := hym
                      clear HF0
                      have hyc : WY.cell? ⟨gy, 6, none⟩ = some (.string ⟨#[]⟩) := box_cells hy5 6
                      have hyf : WY.frozen? ⟨gy, 6, none⟩ = false := frozen_of_row WY gy 6 _ _ hy5
                      have hy7 := heap_setCell_same WY gy 6 _ _ (.string ⟨#[78, 79, 84]⟩) hy5
                      rw [show (#[.int .u8 5, .int .u8 0, .int .i64 0, .string ⟨#[]⟩, .bool false, .string ⟨#[]⟩, .string ⟨#[]⟩, .slice (some ⟨gE, 0, none⟩) 1 1] : Array Value).setIfInBounds 6 (.string ⟨#[78, 79, 84]⟩) = #[.int .u8 5, .int .u8 0, .int .i64 0, .string ⟨#[]⟩, .bool false, .string ⟨#[]⟩, .string ⟨#[78, 79, 84]⟩, .slice (some ⟨gE, 0, none⟩) 1 1] by simp] at hy7
                      have hy8 : (WY.setCell ⟨gy, 6, none⟩ (.string ⟨#[78, 79, 84]⟩)).heap[gE]? = some (.cells p.r.cells.toArray 33 (0, 0)) := (heap_set_other hy2).trans hy6
                      have hbz := hby.setCell (p := ⟨gy, 6, none⟩) hy1 (.string ⟨#[78, 79, 84]⟩)
                      have hf := HF.out _ hbz
                      have hp := HPUT.out _ hbz
                      have HY := Lib.hid (And.intro hy7 hy8)
                      clear HF HPUT hy1 hy2 hby hy5 hy6 hy7 hy8 hbz
                      go_wp2_with fail
                      refine reg_is11 (gr := gr) (n0 := L0.length) (p := p) (sg := ⟨#[78, 79, 84]⟩) (gE := gE) (gy := gy) (hgz := hf.1) (hfz := hf.2.1) (hcp := hf.2.2.1) (hpo := hf.2.2.2.1) (hnn := HN.out) (hn60 := hn60) (hy := HY.out.1) (hE := HY.out.2) (h := ?_) _ _ _ _ _ _ _ _ _ _ _ _ _ _ _ _ _ _ _ _ _ _ _ _ _ _ _ _ _ _ _ _ _ _ _ _ _ _ _ _ _ _ _ _ _ _ _ _ _ _ _ _ _ _ _ _ _ _ _ _ _ _ _ _ _ _ _ _ _ _ _ _ _ _ _ _ _ _ _ _ _ _ _ _ _ _ _ _ _ _ _ _ _ _ _ _ _ _ _ _ _ _ _ _ _ _ _ _ _ _ _ _ _ _ _ _ _ _ _ _ _ _ _ _ _ _ _ _ _ _ _ _ _ _ _ _ _ _ _ _ _ _ _ _ _ _ _ _ _ _ _ _ _ _ _ _ _ _ _ _ _ _ _ _ _ _ _ _ _ _ _ _ _ _ _ _ _ _ _ _ _ _ _ _ _ _ _ _ _ _ _ _ _ _ _ _ _ _ _ _ _ _ _ _ _ _ _ _ _ _ _ _ _ _ _ _ _ _ _ _ _ _ _ _ _ _ _ _ _ _ _ _ _ _ _ _ _ _ _ _ _ _ _ _ _ _
                      intro _ _ _ _ _ _ _ _ _ _ _ _ _ _ _ _ _ w5 hput
                      have HR := hp w5 hput
                      obtain ⟨hbw5, hinv5⟩ := HR
                      clear hput hf hp HY
                      go_wp2
                      go_roundg (61 - (k + 1))
                      case measure => omega
                      case rel => exact ⟨k + 1, by omega, by omega, rfl, by go_num, hbw5, hinv5⟩
                by_cases d13 : D = 12
                · obtain ⟨g3, g5, g7⟩ := hlit2
                  as_aux_lemma =>
                    subst d13

                    obtain ⟨L0, p, rfl⟩ : ∃ L0 p, L = L0 ++ [p] := ⟨L.dropLast, L.getLast (by intro h; simp [h] at g5), (List.dropLast_concat_getLast _).symm⟩
                    obtain ⟨gr, rfl, hgB, hgz, hfz, hcp⟩ := last_cells hown
                    have hpo := hok p (by simp)
                    have hn60 : L0.length ≤ 59 := by rw [List.length_append, List.length_singleton] at hLk; omega

                    have HPUT := Lib.hid (fun (w5 : World) (h : Putt wc gr (L0.length * 9) p w5) => (show Round w k (.slice (some ⟨gr, 0, none⟩) (L0 ++ [p]).length c) w5 from by
                      obtain ⟨p', wd, hbd, hpo', hps, rfl⟩ := h
                      exact round_put hbw4 hown hok htot hbd hpo' hps hgB))
                    have HF := Lib.hid (And.intro hgz (And.intro hfz (And.intro hcp hpo)))
                    clear hown hok htot hpo hcp hfz hgz hbw4 hgB hB4 g3 g5 g7 hmod htmod hD14 hLk
                    generalize hnn : (L0 ++ [p]).length = nn at *
                    have HN := Lib.hid (show nn = L0.length + 1 by rw [← hnn]; simp)
                    clear hnn
                    go_wp2_with (go_at_call 17; refine (groups_any _ (by omega) _).mono ?_; rintro e5 w6 ⟨sg, rfl, rfl⟩)
                    refine reg_agg (gr := gr) (n0 := L0.length) (p := p) (hgz := HF.out.1) (hfz := HF.out.2.1) (hcp := HF.out.2.2.1) (hpo := HF.out.2.2.2) (hnn := HN.out) (hn60 := hn60) (h := ?_) _ _ _ _ _ _ _ _ _ _ _ _ _ _ _ _ _ _ _ _ _ _ _ _ _ _ _ _ _ _ _ _ _ _ _ _ _ _ _ _ _ _ _ _ _ _ _ _ _ _ _ _ _ _ _ _ _ _ _ _ _ _ _ _ _ _ _ _ _ _ _ _ _ _ _ _ _ _ _ _ _ _ _ _ _ _ _ _ _ _ _ _ _ _ _ _ _ _ _ _ _ _ _ _ _ _ _ _ _ _ _ _ _ _ _ _ _ _ _ _ _ _ _ _ _ _ _ _ _ _ _ _ _ _ _ _ _ _ _ _ _ _ _ _ _ _ _ _ _ _ _ _ _ _ _ _ _ _ _ _ _ _ _ _ _ _ _ _ _ _ _ _ _ _ _ _ _ _ _ _ _ _ _ _ _ _ _ _ _ _ _ _ _ _ _ _ _ _ _ _ _ _ _ _ _ _ _ _ _ _ _ _ _ _ _ _ _ _ _ _ _ _ _ _ _ _ _ _ _ _ _ _ _ _ _ _ _ _ _ _ _ _ _ _ _ _ _ _
                    intro _ _ _ _ _ _ _ _ _ _ _ _ _ _ _ _ _ _ _ _ _ _ _ _ w5 hput
                    have HR := HPUT.out w5 hput
                    obtain ⟨hbw5, hinv5⟩ := HR
                    clear hput HPUT HF
                    go_wp2
                    go_roundg (61 - (k + 1))
                    case measure => omega
                    case rel => exact ⟨k + 1, by omega, by omega, rfl, by go_num, hbw5, hinv5⟩
                · obtain ⟨g3, g5, g7⟩ := hlit2
                  as_aux_lemma =>
                    obtain rfl : D = 13 := by omega

                    have HO := Lib.hid (And.intro hown (And.intro hok (And.intro htot (And.intro hbw4 hB4))))
                    have hL59 : L.length ≤ 59 := by omega
                    clear hown hok htot hbw4 hB4 hcx hlw
                    go_upto_region 11 with fail
                    refine reg_cnt (B := w.heap.size) (A := A) (n := L.length) (L := L) (hown := HO.out.1) (hB := HO.out.2.2.2.2) (hn := hL59) (h := ?_) _ _ _ _ _ _ _ _ _ _ _ _ _ _ _ _ _ _ _ _ _ _ _ _ _ _ _ _ _ _ _ _ _ _ _ _ _ _ _ _ _ _ _ _ _ _ _ _ _ _ _ _ _ _ _ _ _ _ _ _ _ _ _ _ _ _ _ _ _ _ _ _ _ _ _ _ _ _ _ _ _ _ _ _ _ _ _ _ _ _ _ _ _ _ _ _ _ _ _ _ _ _ _ _ _ _ _ _ _ _ _ _ _ _ _ _ _ _ _ _ _ _ _ _ _ _ _ _ _ _ _ _ _ _ _ _ _ _ _ _ _ _ _ _ _ _ _ _ _ _ _ _ _ _ _ _ _ _ _ _ _ _ _ _ _ _ _ _ _ _ _ _ _ _ _ _ _ _ _ _ _ _ _ _ _ _ _ _ _ _ _ _ _ _ _ _ _ _ _ _ _ _ _ _ _ _ _ _ _ _ _ _ _ _ _ _ _ _ _ _ _ _ _ _ _ _ _ _ _ _ _ _ _ _ _ _ _ _ _ _ _ _ _ _ _ _ _ _
                    intro _ _ _ _ _ _ _ _ A4 c4 w5 hj
                    obtain ⟨p', wd, hbd, hp, hps, hown4, hg4, hb4⟩ := hj
                    have HR := round_app p' HO.out.2.2.2.1 HO.out.1 HO.out.2.1 HO.out.2.2.1 hbd hp hps hown4 hg4 hb4
                    obtain ⟨hbw5, hinv5⟩ := HR
                    clear hbd hp hps hown4 hg4 hb4 HO
                    go_wp2
                    go_roundg (61 - (k + 1))
                    case measure => omega
                    case rel => exact ⟨k + 1, by omega, by omega, rfl, by go_num, hbw5, hinv5⟩
              · have hlit2 := Lib.hid hlit
                clear hlit
                as_aux_lemma =>
                  have HO := Lib.hid (And.intro hown (And.intro hok (And.intro htot (And.intro hbw4 hB4))))
                  have hL59 : L.length ≤ 59 := by omega
                  clear hown hok htot hbw4 hB4 hcx hlw
                  go_upto_region 13 with fail
                  refine reg_lit (B := w.heap.size) (A := A) (n := L.length) (L := L) (gn := wr.heap.size) (hown := HO.out.1) (hB := HO.out.2.2.2.2) (hn := hL59) (hgn := hx4) (h := ?_) _ _ _ _ _ _ _ _ _ _ _ _ _ _ _ _ _ _ _ _ _ _ _ _ _ _ _ _ _ _ _ _ _ _ _ _ _ _ _ _ _ _ _ _ _ _ _ _ _ _ _ _ _ _ _ _ _ _ _ _ _ _ _ _ _ _ _ _ _ _ _ _ _ _ _ _ _ _ _ _ _ _ _ _ _ _ _ _ _ _ _ _ _ _ _ _ _ _ _ _ _ _ _ _ _ _ _ _ _ _ _ _ _ _ _ _ _ _ _ _ _ _ _ _ _ _ _ _ _ _ _ _ _ _ _ _ _ _ _ _ _ _ _ _ _ _ _ _ _ _ _ _ _ _ _ _ _ _ _ _ _ _ _ _ _ _ _ _ _ _ _ _ _ _ _ _ _ _ _ _ _ _ _ _ _ _ _ _ _ _ _ _ _ _ _ _ _ _ _ _ _ _ _ _ _ _ _ _ _ _ _ _ _ _ _ _ _ _ _ _ _ _ _ _ _ _ _ _ _ _ _ _ _ _ _ _ _ _ _ _ _ _ _ _ _ _ _ _ _ _ _ _ _ _
                  intro _ _ _ _ _ _ _ _ _ _ _ _ A4 c4 w5 hj
                  obtain ⟨p', wd, hbd, hp, hps, hown4, hg4, hb4⟩ := hj
                  have HR := round_app p' HO.out.2.2.2.1 HO.out.1 HO.out.2.1 HO.out.2.2.1 hbd hp hps hown4 hg4 hb4
                  obtain ⟨hbw5, hinv5⟩ := HR
                  clear hbd hp hps hown4 hg4 hb4 HO
                  go_wp2
                  go_roundg (61 - (k + 1))
                  case measure => omega
                  case rel => exact ⟨k + 1, by omega, by omega, rfl, by go_num, hbw5, hinv5⟩
      ·
        as_aux_lemma =>
          have hk6 : (60 : Int) ≤ (k : Int) := by omega
          have HINV := Lib.hid (And.intro hinv hbw)
          have HL := Lib.hid hl
          clear hinv hbw hl hn hok
          go_wp2
          go_ret
          exact ⟨HINV.out.2.trans (((Below.refl _ _).alloc (Nat.le_refl _) _).mono HINV.out.2.size), _, rfl, (HINV.out.1.below ((Below.refl _ _).alloc (Nat.le_refl _) _)).mono hk60⟩
    ·
      as_aux_lemma =>
        have hk6 : ¬ (k : Int) < (l.length : Int) := by omega
        have HINV := Lib.hid (And.intro hinv hbw)
        clear hinv hbw hl
        go_wp2
        go_ret
        exact ⟨HINV.out.2, _, rfl, HINV.out.1.mono hk60⟩
end Go.Proofs.Ytpkipleoodcplaa
