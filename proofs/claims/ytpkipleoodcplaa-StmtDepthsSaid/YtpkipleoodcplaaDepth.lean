/-
  What stmt.Depth gives of a tree, and lapidaryref15.Count of the document's. Conditions: at most 10^6 parts.
-/
import Derived.Test.YtpkipleoodcplaaParts
namespace Go.Proofs.Ytpkipleoodcplaa
open Go.RowKit

theorem ret_i {a b : Int} (h : a = b) : Ending.returned (.int .i64 a) = .returned (.int .i64 b) := by rw [h]
set_option maxRecDepth 100000 in
set_option maxHeartbeats 4000000 in
theorem depth_any : ∀ (e : Ex) (v : Value) (w : World), PT w e v → e.size ≤ 1000000 →
    Calls Try.prog 12 #[v] w fun en w' => en = .returned (.int .i64 (e.deep : Nat)) ∧ Below w.heap.size w w'
  | .leaf, v, w, h, _ => by
    obtain ⟨T, g, rfl⟩ := h.form
    have hP := Lib.hid (parts_leaf _ w h)
    clear h
    go_enter Try.func12, Try.ntmps12
    go_wp2_with fail
    refine hP.out.mono ?_
    rintro en w1 ⟨hb1, rfl⟩
    go_wp2_with fail
    go_loop [3, 5, 11] (fun s3 _ s11 => s3 = .int .i64 0 ∧ s11 = .int .i64 0) (fun _ _ _ => 0)
    case atStart => exact ⟨rfl, rfl⟩
    case round =>
      obtain ⟨rfl, rfl⟩ := hrel
      go_wp2
      go_ret
      exact ⟨rfl, hb1⟩
  | .one x, v, w, h, hs => by
    obtain ⟨T, g, rfl⟩ := h.form
    have hP := Lib.hid (parts_one x _ w h)
    have hsx : x.size ≤ 1000000 := by unfold Ex.size at hs; omega
    have ih := Lib.hid (fun v w h => depth_any x v w h hsx)
    have hdl := x.deep_le
    have hd : Hid ((((Ex.one x).deep : Nat) : Int) = (x.deep : Int) + 1) := by show _ = _; rw [show (Ex.one x).deep = x.deep + 1 from rfl]; omega
    have hdp := x.deep_pos
    have hdp0 : 0 < x.deep := hdp
    clear h hs
    go_enter Try.func12, Try.ntmps12
    go_wp2_with fail
    refine hP.out.mono ?_
    rintro en w1 ⟨hb1, g1, p, rfl, hp, hpt⟩
    go_wp2_with fail
    go_loopw [3, 5, 11] (fun s3 _ s11 wr => (s3 = .int .i64 0 ∧ s11 = .int .i64 0 ∧ wr = w1) ∨ (s3 = .int .i64 x.deep ∧ s11 = .int .i64 1 ∧ Below w.heap.size w wr)) (fun _ _ s11 _ => 2 - (intOf s11).toNat)
    case atStart => exact .inl ⟨rfl, rfl, rfl⟩
    case round =>
      rcases hrel with ⟨rfl, rfl, rfl⟩ | ⟨rfl, rfl, hbw⟩
      · go_wp2_with fail
        refine (ih.out _ _ hpt).mono ?_
        rintro en w2 ⟨rfl, hb2⟩
        have hb3 := hb1.trans (hb2.mono hb1.size)
        go_wp2
        go_roundw
        case rel => exact .inr ⟨rfl, rfl, hb3⟩
        case measure => simp [intOf]
      · go_wp2
        go_ret
        exact ⟨ret_i hd.out.symm, hbw⟩
  | .two a b, v, w, h, hs => by
    obtain ⟨T, g, rfl⟩ := h.form
    have hP := Lib.hid (parts_two a b _ w h)
    have hsa : a.size ≤ 1000000 := by unfold Ex.size at hs; omega
    have hsb : b.size ≤ 1000000 := by unfold Ex.size at hs; omega
    have iha := Lib.hid (fun v w h => depth_any a v w h hsa)
    have ihb := Lib.hid (fun v w h => depth_any b v w h hsb)
    have hda := a.deep_le
    have hdb := b.deep_le
    have hpa : 0 < a.deep := a.deep_pos
    have hpb : 0 < b.deep := b.deep_pos
    have hd : Hid ((((Ex.two a b).deep : Nat) : Int) = ((max a.deep b.deep : Nat) : Int) + 1) := by show _ = _; rw [show (Ex.two a b).deep = max a.deep b.deep + 1 from rfl]; omega
    clear h hs
    go_enter Try.func12, Try.ntmps12
    go_wp2_with fail
    refine hP.out.mono ?_
    rintro en w1 ⟨hb1, g1, p, q, rfl, hp, hq, hpt, hqt⟩
    obtain ⟨M, hM⟩ : ∃ M : Nat, max a.deep b.deep = M := ⟨_, rfl⟩
    have hM1 : a.deep ≤ M := by omega
    have hM2 : b.deep ≤ M := by omega
    have hM3 : M ≤ 1000000 := by omega
    have hM4 : M ≤ a.deep ∨ M ≤ b.deep := by omega
    rw [hM] at hd
    clear hM
    go_wp2_with fail
    go_loopw [3, 5, 11] (fun s3 _ s11 wr => (s3 = .int .i64 0 ∧ s11 = .int .i64 0 ∧ wr = w1) ∨ (s3 = .int .i64 a.deep ∧ s11 = .int .i64 1 ∧ Below w.heap.size w wr ∧ wr.cell? ⟨g1, 1, none⟩ = some q ∧ PT wr b q) ∨ (s3 = .int .i64 M ∧ s11 = .int .i64 2 ∧ Below w.heap.size w wr)) (fun _ _ s11 _ => 3 - (intOf s11).toNat)
    case atStart => exact .inl ⟨rfl, rfl, rfl⟩
    case round =>
      rcases hrel with ⟨rfl, rfl, rfl⟩ | ⟨rfl, rfl, hbw, hq2, hqt2⟩ | ⟨rfl, rfl, hbw⟩
      · go_wp2_with fail
        refine (iha.out _ _ hpt).mono ?_
        rintro en w2 ⟨rfl, hb2⟩
        have hb3 := hb1.trans (hb2.mono hb1.size)
        have hq3 := (hb2.cell (p := ⟨g1, 1, none⟩) (World.block_lt_of_cell? _ _ hq)).trans hq
        have hqt3 := PT.keep (stays_below hb2) hqt
        clear hp hq hpt hqt hb1 hb2
        go_wp2
        go_roundw
        case rel => exact .inr (.inl ⟨rfl, rfl, hb3, hq3, hqt3⟩)
        case measure => simp [intOf]
      · clear hp hq hpt hqt
        go_wp2_with fail
        refine (ihb.out _ _ hqt2).mono ?_
        rintro en w2 ⟨rfl, hb2⟩
        have hb3 := hbw.trans (hb2.mono hbw.size)
        clear hq2 hqt2 hbw hb2
        by_cases hab : a.deep < b.deep
        · have hMb : M = b.deep := by omega
          have HM := Lib.hid hMb
          clear hMb
          go_wp2
          go_roundw
          case rel => exact .inr (.inr ⟨by rw [HM.out], rfl, hb3⟩)
          case measure => simp [intOf]
        · have hMa : M = a.deep := by omega
          have HM := Lib.hid hMa
          clear hMa
          go_wp2
          go_roundw
          case rel => exact .inr (.inr ⟨by rw [HM.out], rfl, hb3⟩)
          case measure => simp [intOf]
      · clear hp hq hpt hqt
        go_wp2
        go_ret
        exact ⟨ret_i hd.out.symm, hbw⟩
end Go.Proofs.Ytpkipleoodcplaa
