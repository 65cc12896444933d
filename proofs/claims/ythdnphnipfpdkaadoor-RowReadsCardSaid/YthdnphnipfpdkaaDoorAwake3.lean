/-
  lapidarylaw03's awake returns true. Condition: unicode/utf8's tables as laid.
-/
import Derived.Test.YthdnphnipfpdkaaDoorKeyBytes
namespace Go.Proofs.YthdnphnipfpdkaaDoor
open Go.RowKit

def v3a : List Lp.V := [⟨2, 0, ⟨#[97]⟩, false⟩, ⟨0, 0, ⟨#[]⟩, false⟩]
def v3b : List Lp.V := [⟨1, -1, ⟨#[]⟩, false⟩]
theorem v3a_right : v3a.all Lp.V.right = true := by decide +kernel
theorem v3b_right : v3b.all Lp.V.right = true := by decide +kernel
theorem v3a_kbs : Lp.kbs v3a = [4, 97, 0, 1] := by decide +kernel
theorem v3b_kbs : Lp.kbs v3b = [3, 127, 255, 255, 255, 255, 255, 255, 255] := by decide +kernel
theorem v3a_ok : ∀ v ∈ v3a, v.ok := by
  intro v hv
  simp only [v3a, List.mem_cons, List.not_mem_nil, or_false] at hv
  rcases hv with rfl | rfl <;> exact ⟨by simp [ByteArray.size], by decide, by decide, by decide⟩
theorem v3b_ok : ∀ v ∈ v3b, v.ok := by
  intro v hv
  simp only [v3b, List.mem_cons, List.not_mem_nil, or_false] at hv
  rcases hv with rfl
  exact ⟨by simp [ByteArray.size], by decide, by decide, by decide⟩

/-- key.Bytes of a row of right values. -/
theorem keyBytes_right (A : Option Addr) (n c : Nat) (l : List Lp.V) (bs : List UInt8) (hn0 : n = l.length) (hbs : Lp.kbs l = bs) (w : World) (h : RdsV w A l) (hT : Tabs w) (hn : l.length ≤ 1073741824) (hs : ∀ v ∈ l, v.ok) (hr : l.all Lp.V.right = true) :
    Calls Tryd.prog 22 #[.slice A n c] w fun e w' => (∃ A' c', e = .returned (.tuple #[.slice A' bs.length c', .int .i64 0]) ∧ OwnB w' w.heap.size A' c' bs) ∧ Below w.heap.size w w' := by
  subst hn0 hbs
  refine (keyBytes_any A c l w h hT hn hs).mono ?_
  rintro e w' ⟨hb, ⟨_, A', c', he, ho⟩ | ⟨hf, _⟩⟩
  · exact ⟨⟨A', c', he, ho⟩, hb⟩
  · rw [hr] at hf; cases hf

theorem behind_12 {r : List UInt8} (h : BehindOf [1, 255] r) : r = [2] := by
  rcases h with ⟨h, _⟩ | ⟨m, hm, h1, h2, h3⟩
  · exact absurd (h 1 (by simp)) (by decide)
  · match m, hm with
    | 0, _ => exact h3
    | 1, _ => exact absurd rfl h2

set_option maxHeartbeats 1000000 in
theorem awake3_any (w : World) (hT : Tabs w) : Calls Tryd.prog 15 #[] w fun e w' => e = .returned (.bool true) ∧ Below w.heap.size w w' := by
  go_enter Tryd.func15, Tryd.ntmps15
  go_wp2_with fail
  refine (keyBytes_right _ _ _ v3a _ rfl v3a_kbs _ (rds_blk (Lp.vv v3a) (heap_alloc_new w _)) (tabs_alloc hT _) (by decide) v3a_ok v3a_right).mono ?_
  rintro e w1 ⟨⟨A1, c1, rfl, hown1⟩, hb1⟩
  have hT1 := tabs_below (tabs_alloc hT _) hb1
  go_wp2_with fail
  refine (keyBytes_right _ _ _ v3b _ rfl v3b_kbs _ (rds_blk (Lp.vv v3b) (heap_alloc_new w1 _)) (tabs_alloc hT1 _) (by decide) v3b_ok v3b_right).mono ?_
  rintro e w2 ⟨⟨A2, c2, rfl, hown2⟩, hb2⟩
  go_wp2_with fail
  have hbA := Below.alloc (Below.refl w2.heap.size w2) (Nat.le_refl _) (.cells #[.int .u8 4, .int .u8 97, .int .u8 0, .int .u8 1] 5)
  have hr1 : Rds (w2.alloc (.cells #[.int .u8 4, .int .u8 97, .int .u8 0, .int .u8 1] 5)) A1 (bv [4, 97, 0, 1]) := ((hown1.rds.below ((Below.refl _ _).alloc (Nat.le_refl _) _)).below hb2).below hbA
  have hr2 : Rds (w2.alloc (.cells #[.int .u8 4, .int .u8 97, .int .u8 0, .int .u8 1] 5)) A2 (bv [3, 127, 255, 255, 255, 255, 255, 255, 255]) := hown2.rds.below hbA
  obtain ⟨b, off, rfl, hc⟩ := hr2.at_ (k := 1) (u := .int .u8 127) rfl
  refine (same3_any _ _ _ _ [4, 97, 0, 1] [4, 97, 0, 1] _ _ rfl rfl _ hr1 (rds_blk (bv [4, 97, 0, 1]) (heap_alloc_new w2 _))).mono ?_
  rintro e w' ⟨rfl, rfl⟩
  clear hr1 hr2
  go_wp2_with fail
  have hw3 := Below.alloc hbA (by simp) (.cells #[.int .u8 1, .int .u8 255] 5)
  refine (behind_any _ _ [1, 255] _ (rds_blk (bv [1, 255]) (heap_new2 w2 _ _)) (by decide)).mono ?_
  rintro e w3 ⟨A3, c3, r, hr, rfl, _, hrd, hb3⟩
  obtain rfl := behind_12 hr
  clear hr
  go_wp2_with fail
  refine (same3_any _ _ _ _ [2] [2] _ _ rfl rfl _ (hrd.below ((Below.refl _ _).alloc (Nat.le_refl _) _)) (rds_blk (bv [2]) (heap_alloc_new w3 _))).mono ?_
  rintro e w' ⟨rfl, rfl⟩
  go_wp2
  go_ret
  have s1 := hb1.size
  have s2 := hb2.size
  have s3 := hb3.size
  simp at s1 s2 s3
  refine ⟨rfl, ?_⟩
  have k1 : Below w.heap.size w w1 := ((Below.refl _ _).alloc (Nat.le_refl _) _).trans (hb1.mono (by simp))
  have k2 : Below w.heap.size w w2 := k1.trans (((Below.refl _ _).alloc (by omega) _).trans (hb2.mono (by simp; omega)))
  have k3 : Below w.heap.size w w3 := (k2.trans (hw3.mono (by omega))).trans (hb3.mono (by simp; omega))
  exact k3.alloc (by omega) _
end Go.Proofs.YthdnphnipfpdkaaDoor
