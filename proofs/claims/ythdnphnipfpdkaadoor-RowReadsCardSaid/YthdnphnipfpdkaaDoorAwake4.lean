/-
  lapidarylaw04's awake returns true. Condition: unicode/utf8's tables as laid.
-/
import Derived.Test.YthdnphnipfpdkaaDoorRow3
import Derived.Laws.MakeOwn
namespace Go.Proofs.YthdnphnipfpdkaaDoor
open Go.RowKit

/-- row.Bytes of a row that fits. -/
theorem rowBytes_right (AK : Option Addr) (n cK : Nat) (ks : List UInt8) (AL : Option Addr) (m cL : Nat) (l : List Lp.V) (bs : List UInt8) (hnk : n = ks.length) (hml : m = l.length) (hbs : Lp.rowB l = bs) (w : World) (hK : Rds w AK (bv ks)) (hkn : ks.length ≤ 70368744177664)
    (hL : RdsV w AL l) (hln : l.length ≤ 1073741824) (hs : ∀ v ∈ l, v.ok) (hT : Tabs w) (hz : Lp.rfits ks l = 0) :
    Calls Tryd.prog 28 #[.slice AK n cK, .slice AL m cL] w fun e w' => (∃ A' c', e = .returned (.tuple #[.slice A' bs.length c', .int .i64 0]) ∧ OwnB w' w.heap.size A' c' bs) ∧ Below w.heap.size w w' := by
  subst hbs
  refine (rowBytes_any AK n cK ks AL m cL l hnk hml w hK hkn hL hln hs hT).mono ?_
  rintro e w' ⟨hb, ⟨_, A', c', he, ho⟩ | ⟨hf, _⟩⟩
  · exact ⟨⟨A', c', he, ho⟩, hb⟩
  · exact absurd hz hf
theorem rowBytes_wrong (AK : Option Addr) (n cK : Nat) (ks : List UInt8) (AL : Option Addr) (m cL : Nat) (l : List Lp.V) (E : Int) (hnk : n = ks.length) (hml : m = l.length) (w : World) (hK : Rds w AK (bv ks)) (hkn : ks.length ≤ 70368744177664)
    (hL : RdsV w AL l) (hln : l.length ≤ 1073741824) (hs : ∀ v ∈ l, v.ok) (hT : Tabs w) (hz : Lp.rfits ks l = E) (hE : E ≠ 0) :
    Calls Tryd.prog 28 #[.slice AK n cK, .slice AL m cL] w fun e w' => e = .returned (.tuple #[.slice none 0 0, .int .i64 E]) ∧ Below w.heap.size w w' := by
  subst hz
  refine (rowBytes_any AK n cK ks AL m cL l hnk hml w hK hkn hL hln hs hT).mono ?_
  rintro e w' ⟨hb, ⟨hf, _⟩ | ⟨_, he⟩⟩
  · exact absurd hf hE
  · exact ⟨he, hb⟩

def v4a : List Lp.V := [⟨1, 1, ⟨#[]⟩, false⟩, ⟨2, 0, ⟨#[97]⟩, false⟩]
def v4b : List Lp.V := [⟨0, 0, ⟨#[]⟩, false⟩, ⟨0, 0, ⟨#[]⟩, false⟩]
theorem v4a_fits : Lp.rfits [1, 2] v4a = 0 := by decide +kernel
theorem v4b_fits : Lp.rfits [1, 2] v4b = 0 := by decide +kernel
theorem v4a_row : Lp.rowB v4a = [0, 1, 0, 0, 0, 0, 0, 0, 0, 1, 97] := by decide +kernel
theorem v4b_row : Lp.rowB v4b = [3] := by decide +kernel
theorem v4a_ok : ∀ v ∈ v4a, v.ok := by
  intro v hv
  simp only [v4a, List.mem_cons, List.not_mem_nil, or_false] at hv
  rcases hv with rfl | rfl <;> exact ⟨by simp [ByteArray.size], by decide, by decide, by decide⟩
theorem v4b_ok : ∀ v ∈ v4b, v.ok := by
  intro v hv
  simp only [v4b, List.mem_cons, List.not_mem_nil, or_false] at hv
  rcases hv with rfl | rfl <;> exact ⟨by simp [ByteArray.size], by decide, by decide, by decide⟩

theorem make2 (w : World) : (Instr.makeSlice 28 (.int .i64 2) (.int .i64 2)).run Tryd.prog w = .ok (.slice (some ⟨w.heap.size, 0, none⟩) 2 2) (w.alloc (.cells (Lp.vv v4b).toArray 36)) := by
  obtain ⟨iV, hiV, hzV0, hzV1, hzV2⟩ := info_parts valInfo
  have h := run_makeSlice (P := Tryd.prog) w 28 36 iV _ Tryd.underlying28 hiV hzV0 .i64 .i64 2 2 (by omega) (by omega) (by rw [hzV1]; decide) (by rw [hzV2]; decide) (by omega)
  rw [hzV1] at h
  have e : madeCells (Value.agg #[.int .u8 0, .int .i64 0, .string ⟨#[]⟩, .bool false]).cells (Int.toNat 2 * 4) = (Lp.vv v4b).toArray := by kernel_rfl
  rw [e] at h
  exact h
set_option maxHeartbeats 1000000 in
theorem awake4_any (w : World) (hT : Tabs w) : Calls Tryd.prog 27 #[] w fun e w' => e = .returned (.bool true) ∧ Below w.heap.size w w' := by
  go_enter Tryd.func27, Tryd.ntmps27
  go_wp2_with fail
  refine (rowBytes_right _ _ _ [1, 2] _ _ _ v4a _ rfl rfl v4a_row _ (rds_blk (bv [1, 2]) (box_alloc (heap_alloc_new w _) _)) (by decide) (rds_blk (Lp.vv v4a) (heap_new2 w _ _)) (by decide) v4a_ok (tabs_alloc (tabs_alloc hT _) _) v4a_fits).mono ?_
  rintro e w1 ⟨⟨A1, c1, rfl, hown1⟩, hb1⟩
  have hx1 := box_below (box_alloc (heap_alloc_new w (.cells #[.int .u8 1, .int .u8 2] 34)) _) hb1
  have hT1 := tabs_below (tabs_alloc (tabs_alloc hT _) _) hb1
  have r1 := hown1.rds
  have hm := make2 w1
  have hx2 := box_alloc hx1 (.cells (Lp.vv v4b).toArray 36)
  have r2 := r1.below ((Below.refl _ _).alloc (Nat.le_refl _) (.cells (Lp.vv v4b).toArray 36))
  go_wp2_with fail
  refine (rowBytes_right _ _ _ [1, 2] _ _ _ v4b _ rfl rfl v4b_row _ (rds_blk (bv [1, 2]) hx2) (by decide) (rds_blk (Lp.vv v4b) (heap_alloc_new w1 _)) (by decide) v4b_ok (tabs_alloc hT1 _) v4b_fits).mono ?_
  rintro e w2 ⟨⟨A2, c2, rfl, hown2⟩, hb2⟩
  have r3 := r2.below hb2
  have r4 := hown2.rds
  clear hm hx2 hx1 r1 r2 hown1 hown2
  go_wp2_with fail
  have hbA := Below.alloc (Below.refl w2.heap.size w2) (Nat.le_refl _) (.cells #[.int .u8 0, .int .u8 1, .int .u8 0, .int .u8 0, .int .u8 0, .int .u8 0, .int .u8 0, .int .u8 0, .int .u8 0, .int .u8 1, .int .u8 97] 5)
  refine (same3_any _ _ _ _ [0, 1, 0, 0, 0, 0, 0, 0, 0, 1, 97] [0, 1, 0, 0, 0, 0, 0, 0, 0, 1, 97] _ _ rfl rfl _ (r3.below hbA) (rds_blk (bv [0, 1, 0, 0, 0, 0, 0, 0, 0, 1, 97]) (heap_alloc_new w2 _))).mono ?_
  rintro e w' ⟨rfl, rfl⟩
  go_wp2_with fail
  have hbB := Below.alloc hbA (by simp) (.cells #[.int .u8 3] 5)
  refine (same3_any _ _ _ _ [3] [3] _ _ rfl rfl _ (r4.below hbB) (rds_blk (bv [3]) (heap_new2 w2 _ _))).mono ?_
  rintro e w' ⟨rfl, rfl⟩
  go_wp2
  go_ret
  have s1 := hb1.size
  have s2 := hb2.size
  simp at s1 s2
  refine ⟨rfl, ?_⟩
  have k1 : Below w.heap.size w w1 := (((Below.refl _ _).alloc (Nat.le_refl _) _).alloc (by simp) _).trans (hb1.mono (by simp; omega))
  have k2 : Below w.heap.size w w2 := k1.trans (((Below.refl _ _).alloc (by omega) _).trans (hb2.mono (by simp; omega)))
  exact k2.trans (hbB.mono (by omega))
end Go.Proofs.YthdnphnipfpdkaaDoor
