/-
  The document's Right of columns: it tells one thing or the other. Conditions: at most 10 columns.
-/
import Derived.Test.YtkfjmgmjbljnbaaGreatDoorScope1
namespace Go.Proofs.YtkfjmgmjbljnbaaGreatDoor
open Go.RowKit

theorem colv_cells {w : World} {A : Option Addr} {cs : List Lp.Col} (h : Rds w A (colv cs)) {i : Nat} (hi : i < cs.length) : ∃ b off, A = some ⟨b, off, none⟩ ∧ w.cell? ⟨b, off + i * 2, none⟩ = some (.string ⟨(cs[i]).n.toArray⟩) ∧ w.cell? ⟨b, off + i * 2 + 1, none⟩ = some (.int .u8 (cs[i]).k) := by
  obtain ⟨h0, h1⟩ := colv_at hi
  rcases h with hn | ⟨b, off, rfl, hc⟩
  · rw [hn] at h0; simp at h0
  · exact ⟨b, off, rfl, hc _ _ h0, by rw [Nat.add_assoc]; exact hc _ _ h1⟩
set_option maxRecDepth 100000 in
set_option maxHeartbeats 8000000 in
theorem right11_any (A : Option Addr) (c : Nat) (cs : List Lp.Col) (w : World) (h : Rds w A (colv cs)) (hc : cs.length ≤ c) (hn : cs.length ≤ 10) (hok : ∀ u ∈ cs, ColOk u) :
    Calls Tryz.prog 40 #[.slice A cs.length c] w fun e w' => SomeB e ∧ Below w.heap.size w w' := by
  have HR := Lib.hid h
  have HO := Lib.hid hok
  have hcI : (cs.length : Int) ≤ (c : Int) := by omega
  have hnI : (cs.length : Int) ≤ 10 := by omega
  clear h hok
  go_enter Tryz.func40, Tryz.ntmps40
  go_wp2_with fail
  go_loopw [3, 4, 9] (fun _ _ s9 wr => ∃ i : Nat, i ≤ cs.length ∧ s9 = .int .i64 i ∧ Below w.heap.size w wr) (fun _ _ s9 _ => cs.length - (intOf s9).toNat)
  case atStart => exact ⟨0, Nat.zero_le _, rfl, Below.refl _ _⟩
  case round =>
    obtain ⟨i, hi, rfl, hb⟩ := hrel
    by_cases hlt : i < cs.length
    · obtain ⟨b, off, rfl, q0, q1⟩ := colv_cells (HR.out.below hb) hlt
      have hlen := (HO.out _ (List.getElem_mem hlt)).1
      obtain ⟨s, hs⟩ : ∃ s : ByteArray, s = ⟨(cs[i]).n.toArray⟩ := ⟨_, rfl⟩
      obtain ⟨k, hk⟩ : ∃ k, k = (cs[i]).k := ⟨_, rfl⟩
      have hsz : s.size ≤ 9223372036854775807 := by
        rw [hs]
        show (cs[i]).n.toArray.size ≤ _
        rw [List.size_toArray]
        unfold maxLen at hlen
        omega
      rw [← hs] at q0
      rw [← hk] at q1
      clear hs hk hlen
      go_wp2_with fail
      refine (name11_any s _ hsz).mono ?_
      rintro e w' ⟨⟨r, rfl⟩, rfl⟩
      have hbX : Below w.heap.size w (wr.alloc (.cells #[.string s, .int .u8 k] 55)) := hb.alloc hb.size _
      have hzX := heap_alloc_new wr (.cells #[.string s, .int .u8 k] 55)
      have HB := Lib.hid (And.intro hbX (And.intro hzX hb))
      clear hbX hzX q0 q1 hb
      generalize hW4 : wr.alloc (.cells #[.string s, .int .u8 k] 55) = W4 at *
      have HW4 := Lib.hid hW4
      have cx := box_cells HB.out.2.1
      clear hW4
      cases r
      · go_wp2
        go_ret
        exact ⟨SomeB.mk _, HB.out.1⟩
      · go_wp2_with fail
        all_goals first
          | (go_ret; exact ⟨SomeB.mk _, HB.out.1⟩)
          | skip
        all_goals
          clear cx
          go_loopw [6, 32] (fun _ s32 w5 => ∃ j : Nat, j ≤ i ∧ s32 = .int .i64 j ∧ Below W4.heap.size W4 w5) (fun _ s32 _ => i - (intOf s32).toNat)
          case atStart => exact ⟨0, Nat.zero_le _, rfl, Below.refl _ _⟩
          case round =>
            rename_i w5
            obtain ⟨j, hj, rfl, hb5⟩ := hrel
            have hbT := HB.out.1.trans (hb5.mono HB.out.1.size)
            have HBT := Lib.hid (And.intro hbT hb5)
            by_cases hjlt : j < i
            · obtain ⟨b', off', hA, p0, p1⟩ := colv_cells (HR.out.below hbT) (show j < cs.length by omega)
              simp only [Option.some.injEq, Addr.mk.injEq, and_true] at hA
              obtain ⟨rfl, rfl⟩ := hA
              have cx := box_cells (box_alloc (box_below HB.out.2.1 hb5) (.cells #[.string ⟨(cs[j]).n.toArray⟩, .int .u8 (cs[j]).k] 55))
              generalize (⟨(cs[j]).n.toArray⟩ : ByteArray) = s2 at *
              generalize (cs[j]).k = k2 at *
              clear hbT hb5
              go_wp2
              all_goals first
                | (go_ret; exact ⟨SomeB.mk _, HBT.out.1.alloc HBT.out.1.size _⟩)
                | skip
              all_goals
                go_roundw
                case rel => exact ⟨j + 1, by omega, by go_num, HBT.out.2.alloc HBT.out.2.size _⟩
                case measure => simp [intOf]; omega
            · clear hbT hb5
              go_wp2
              go_roundw
              case rel => exact ⟨i + 1, by omega, by go_num, HBT.out.1⟩
              case measure => simp [intOf]; omega
    · go_wp2
      all_goals (go_ret; exact ⟨SomeB.mk _, hb⟩)
end Go.Proofs.YtkfjmgmjbljnbaaGreatDoor
