/-
  lapidarylaw15.awake: the document's example has its text, and its depth. No conditions.
-/
import Derived.Test.YtpkipleoodcplaaDepth
import Derived.Test.YtpkipleoodcplaaAssert
import Derived.Test.YtpkipleoodcplaaShelf
import Derived.Lib.Hide
import Derived.Deep.RegionHeldLaw
import Derived.BigQuiet
namespace Go.Proofs.Ytpkipleoodcplaa
open Go.RowKit
attribute [local go_sem] ta_i_i ta_i_s ta_i_b ta1_i

theorem open5 (i : Int) (w : World) : Calls Try.prog 39 #[.agg #[.int .u8 1, .int .i64 i, .string ⟨#[]⟩, .bool false]] w fun e w' => e = .returned (.iface 2 (.int .i64 i)) ∧ Below w.heap.size w w' := by
  have hb : Below w.heap.size w (w.alloc (.cells #[.int .u8 1, .int .i64 i, .string ⟨#[]⟩, .bool false] 30)) := (Below.refl _ _).alloc (Nat.le_refl _) _
  go_enter Try.func39, Try.ntmps39
  go_wp2
  go_ret
  exact ⟨rfl, hb⟩
theorem dec5 (i : Nat) (hi : i < 100) (w : World) : Calls Try.prog 40 #[.int .i64 i] w fun e w' => e = .returned (.string ⟨(Lib.decDigits i).toArray⟩) ∧ w = w' := by
  go_enter Try.func40, Try.ntmps40
  go_wp2_with fail
  refine (Try.strconv_FormatInt_10_small i hi _).mono ?_
  rintro e w' ⟨rfl, rfl⟩
  go_wp2
  go_ret
  exact ⟨rfl, rfl⟩
set_option maxHeartbeats 4000000 in
theorem literal5 (i : Nat) (hi : i < 100) (w : World) : Calls Try.prog 38 #[.agg #[.int .u8 1, .int .i64 i, .string ⟨#[]⟩, .bool false]] w fun e w' => e = .returned (.string ⟨(Lib.decDigits i).toArray⟩) ∧ Below w.heap.size w w' := by
  have hb0 : Below w.heap.size w (w.alloc (.cells #[.int .u8 1, .int .i64 i, .string ⟨#[]⟩, .bool false] 30)) := (Below.refl _ _).alloc (Nat.le_refl _) _
  have HB := Lib.hid hb0
  have HI := Lib.hid hi
  clear hb0 hi
  go_enter Try.func38, Try.ntmps38
  go_wp2_with fail
  refine (open5 _ _).mono ?_
  rintro e w1 ⟨rfl, hb1⟩
  have k1 := HB.out.trans (hb1.mono (by simp))
  clear hb1
  go_wp2_with fail
  refine (dec5 i HI.out _).mono ?_
  rintro e w2 ⟨rfl, rfl⟩
  go_wp2
  go_ret
  exact ⟨rfl, k1⟩
set_option maxHeartbeats 4000000 in
theorem lit_text5 (i : Nat) (hi : i < 100) (g : Nat) (w : World) (hg : w.heap[g]? = some (.cells #[.int .u8 1, .int .i64 i, .string ⟨#[]⟩, .bool false] 50 (0, 0))) :
    Calls Try.prog 37 #[.pointer (some ⟨g, 0, none⟩)] w fun e w' => e = .returned (.string ⟨(Lib.decDigits i).toArray⟩) ∧ Below w.heap.size w w' := by
  have hc := box_cells hg
  have hn : ¬ ((i : Int) < 0) := by omega
  have HI := Lib.hid hi
  clear hg hi
  go_enter Try.func37, Try.ntmps37
  go_wp2_with fail
  refine (literal5 i HI.out _).mono ?_
  rintro e w2 ⟨rfl, hb⟩
  go_wp2
  go_ret
  exact ⟨rfl, hb⟩
theorem col_text5 (g : Nat) (w : World) (s : ByteArray) (hg : w.heap[g]? = some (.cells #[.string ⟨#[]⟩, .string s] 56 (0, 0))) :
    Calls Try.prog 76 #[.pointer (some ⟨g, 0, none⟩)] w fun e w' => e = .returned (.string s) ∧ Below w.heap.size w w' := by
  have hc := box_cells hg
  go_enter Try.func76, Try.ntmps76
  go_wp2
  go_ret
  exact ⟨rfl, Below.refl _ _⟩
theorem cells3 {w : World} {g : Nat} {t : TypeId} {a b c : Value} (h : w.heap[g]? = some (.cells #[a, b, c] t (0, 0))) : w.cell? ⟨g, 0, none⟩ = some a ∧ w.cell? ⟨g, 1, none⟩ = some b ∧ w.cell? ⟨g, 2, none⟩ = some c := ⟨box_cells h 0, box_cells h 1, box_cells h 2⟩
theorem nil_lit (a : Addr) (w : World) : (nilAhead 232 48 (.pointer (some a)) "Text").run Try.prog w = .ok (some false) w := by kernel_rfl
theorem meth_lit (a : Addr) (w : World) : (method 232 48 (.pointer (some a)) "Text").run Try.prog w = .ok (37, .pointer (some a)) w := by kernel_rfl
theorem nil_col (a : Addr) (w : World) : (nilAhead 232 54 (.pointer (some a)) "Text").run Try.prog w = .ok (some false) w := by kernel_rfl
theorem meth_col (a : Addr) (w : World) : (method 232 54 (.pointer (some a)) "Text").run Try.prog w = .ok (76, .pointer (some a)) w := by kernel_rfl
theorem nil_bin (a : Addr) (w : World) : (nilAhead 232 47 (.pointer (some a)) "Text").run Try.prog w = .ok (some false) w := by kernel_rfl
theorem meth_bin (a : Addr) (w : World) : (method 232 47 (.pointer (some a)) "Text").run Try.prog w = .ok (13, .pointer (some a)) w := by kernel_rfl
attribute [local go_sem] nil_lit meth_lit nil_col meth_col nil_bin meth_bin
set_option maxRecDepth 100000 in
set_option maxHeartbeats 4000000 in
theorem bin_text1 (g ga gb : Nat) (s tA tB : ByteArray) (w : World) (hs : s.size ≤ 100) (hsA : tA.size ≤ 100) (hsB : tB.size ≤ 100) (hg : w.heap[g]? = some (.cells #[.string s, .iface 54 (.pointer (some ⟨ga, 0, none⟩)), .iface 48 (.pointer (some ⟨gb, 0, none⟩))] 52 (0, 0)))
    (hA : ∀ W, Below w.heap.size w W → Calls Try.prog 76 #[.pointer (some ⟨ga, 0, none⟩)] W fun e w' => e = .returned (.string tA) ∧ Below W.heap.size W w')
    (hB : ∀ W, Below w.heap.size w W → Calls Try.prog 37 #[.pointer (some ⟨gb, 0, none⟩)] W fun e w' => e = .returned (.string tB) ∧ Below W.heap.size W w') :
    Calls Try.prog 13 #[.pointer (some ⟨g, 0, none⟩)] w fun e w' => e = .returned (.string (⟨#[40]⟩ ++ tA ++ ⟨#[32]⟩ ++ s ++ ⟨#[32]⟩ ++ tB ++ ⟨#[41]⟩)) ∧ Below w.heap.size w w' := by
  have hc := box_cells hg
  have c0 : w.cell? ⟨g, 0, none⟩ = some (.string s) := hc 0
  have c1 : w.cell? ⟨g, 1, none⟩ = some (.iface 54 (.pointer (some ⟨ga, 0, none⟩))) := hc 1
  have c2 : w.cell? ⟨g, 2, none⟩ = some (.iface 48 (.pointer (some ⟨gb, 0, none⟩))) := hc 2
  have HA := Lib.hid (And.intro hA (And.intro hB hg))
  clear hA hB hc hg
  go_enter Try.func13, Try.ntmps13
  go_wp2_with fail
  first | go_region_held_law (fun w' => w'.cell? ⟨g, 0, none⟩ = some (.string s) ∧ w'.cell? ⟨g, 1, none⟩ = some (.iface 54 (.pointer (some ⟨ga, 0, none⟩))) ∧ w'.cell? ⟨g, 2, none⟩ = some (.iface 48 (.pointer (some ⟨gb, 0, none⟩))))
    (first | (go_keep; done) | exact hd3 | exact hd2)
    ((first
      | (go_simp; go_at_call 76; refine (HA.out.1 _ (by first | exact (Below.refl _ _).drew | exact hbB)).mono ?_; rintro e w2 ⟨rfl, hb2⟩; have hbA : Below w.heap.size w w2 := (by first | exact (Below.refl _ _).drew.trans (hb2.mono (Nat.le_refl _)) | exact hbB.trans (hb2.mono hbB.size)); have hd2 := cells3 (box_below HA.out.2.2 hbA))
      | (go_simp; go_at_call 37; refine (HA.out.2.1 _ (by first | exact (Below.refl _ _).drew | exact hbA)).mono ?_; rintro e w3 ⟨rfl, hb3⟩; have hbB : Below w.heap.size w w3 := (by first | exact (Below.refl _ _).drew.trans (hb3.mono (Nat.le_refl _)) | exact hbA.trans (hb3.mono hbA.size)); have hd3 := cells3 (box_below HA.out.2.2 hbB))
      | fail)) | fail
  all_goals
    go_wp2
    go_ret
    exact ⟨rfl, by first | exact hbB | exact hbA⟩
set_option maxRecDepth 100000 in
set_option maxHeartbeats 4000000 in
theorem bin_text2 (g ga gb : Nat) (s tA tB : ByteArray) (w : World) (hs : s.size ≤ 100) (hsA : tA.size ≤ 100) (hsB : tB.size ≤ 100) (hg : w.heap[g]? = some (.cells #[.string s, .iface 47 (.pointer (some ⟨ga, 0, none⟩)), .iface 48 (.pointer (some ⟨gb, 0, none⟩))] 52 (0, 0)))
    (hA : ∀ W, Below w.heap.size w W → Calls Try.prog 13 #[.pointer (some ⟨ga, 0, none⟩)] W fun e w' => e = .returned (.string tA) ∧ Below W.heap.size W w')
    (hB : ∀ W, Below w.heap.size w W → Calls Try.prog 37 #[.pointer (some ⟨gb, 0, none⟩)] W fun e w' => e = .returned (.string tB) ∧ Below W.heap.size W w') :
    Calls Try.prog 13 #[.pointer (some ⟨g, 0, none⟩)] w fun e w' => e = .returned (.string (⟨#[40]⟩ ++ tA ++ ⟨#[32]⟩ ++ s ++ ⟨#[32]⟩ ++ tB ++ ⟨#[41]⟩)) ∧ Below w.heap.size w w' := by
  have hc := box_cells hg
  have c0 : w.cell? ⟨g, 0, none⟩ = some (.string s) := hc 0
  have c1 : w.cell? ⟨g, 1, none⟩ = some (.iface 47 (.pointer (some ⟨ga, 0, none⟩))) := hc 1
  have c2 : w.cell? ⟨g, 2, none⟩ = some (.iface 48 (.pointer (some ⟨gb, 0, none⟩))) := hc 2
  have HA := Lib.hid (And.intro hA (And.intro hB hg))
  clear hA hB hc hg
  go_enter Try.func13, Try.ntmps13
  go_wp2_with fail
  first | go_region_held_law (fun w' => w'.cell? ⟨g, 0, none⟩ = some (.string s) ∧ w'.cell? ⟨g, 1, none⟩ = some (.iface 47 (.pointer (some ⟨ga, 0, none⟩))) ∧ w'.cell? ⟨g, 2, none⟩ = some (.iface 48 (.pointer (some ⟨gb, 0, none⟩))))
    (first | (go_keep; done) | exact hd3 | exact hd2)
    ((first
      | (go_simp; go_at_call 13; refine (HA.out.1 _ (by first | exact (Below.refl _ _).drew | exact hbB)).mono ?_; rintro e w2 ⟨rfl, hb2⟩; have hbA : Below w.heap.size w w2 := (by first | exact (Below.refl _ _).drew.trans (hb2.mono (Nat.le_refl _)) | exact hbB.trans (hb2.mono hbB.size)); have hd2 := cells3 (box_below HA.out.2.2 hbA))
      | (go_simp; go_at_call 37; refine (HA.out.2.1 _ (by first | exact (Below.refl _ _).drew | exact hbA)).mono ?_; rintro e w3 ⟨rfl, hb3⟩; have hbB : Below w.heap.size w w3 := (by first | exact (Below.refl _ _).drew.trans (hb3.mono (Nat.le_refl _)) | exact hbA.trans (hb3.mono hbA.size)); have hd3 := cells3 (box_below HA.out.2.2 hbB))
      | fail)) | fail
  all_goals
    go_wp2
    go_ret
    exact ⟨rfl, by first | exact hbB | exact hbA⟩
theorem heap_at5 (W : World) (o : Obj) (n : Nat) (h : n = W.heap.size) : (W.alloc o).heap[n]? = some o := by subst h; exact heap_alloc_new W o
def LitO (i : Int) : Obj := .cells #[.int .u8 1, .int .i64 i, .string ⟨#[]⟩, .bool false] 50 (0, 0)
/-- The example's five blocks. -/
def Five (n : Nat) (W : World) : Prop :=
  W.heap[n]? = some (.cells #[.string ⟨#[]⟩, .string ⟨#[97]⟩] 56 (0, 0)) ∧ W.heap[n + 1]? = some (.cells #[.int .u8 1, .int .i64 (1 : Nat), .string ⟨#[]⟩, .bool false] 50 (0, 0)) ∧
  W.heap[n + 1 + 1]? = some (.cells #[.string ⟨#[43]⟩, .iface 54 (.pointer (some ⟨n, 0, none⟩)), .iface 48 (.pointer (some ⟨n + 1, 0, none⟩))] 52 (0, 0)) ∧
  W.heap[n + 1 + 1 + 1]? = some (.cells #[.int .u8 1, .int .i64 (3 : Nat), .string ⟨#[]⟩, .bool false] 50 (0, 0)) ∧
  W.heap[n + 1 + 1 + 1 + 1]? = some (.cells #[.string ⟨#[60]⟩, .iface 47 (.pointer (some ⟨n + 1 + 1, 0, none⟩)), .iface 48 (.pointer (some ⟨n + 1 + 1 + 1, 0, none⟩))] 52 (0, 0))
theorem Five.below {n : Nat} {W W2 : World} (h : Five n W) (hb : Below W.heap.size W W2) : Five n W2 :=
  ⟨box_below h.1 hb, box_below h.2.1 hb, box_below h.2.2.1 hb, box_below h.2.2.2.1 hb, box_below h.2.2.2.2 hb⟩
theorem dec1 : (⟨(Lib.decDigits 1).toArray⟩ : ByteArray) = ⟨#[49]⟩ := by kernel_rfl
theorem dec3 : (⟨(Lib.decDigits 3).toArray⟩ : ByteArray) = ⟨#[51]⟩ := by kernel_rfl
theorem inner5 (n : Nat) (W : World) (h : Five n W) : Calls Try.prog 13 #[.pointer (some ⟨n + 1 + 1, 0, none⟩)] W fun e w' => e = .returned (.string ⟨#[40, 97, 32, 43, 32, 49, 41]⟩) ∧ Below W.heap.size W w' := by
  have H := bin_text1 (n + 1 + 1) n (n + 1) ⟨#[43]⟩ ⟨#[97]⟩ ⟨#[49]⟩ W (by decide) (by decide) (by decide) h.2.2.1 (fun W2 hb => col_text5 n W2 _ (h.below hb).1)
    (fun W2 hb => (lit_text5 1 (by omega) (n + 1) W2 (h.below hb).2.1).mono fun e w' ⟨h1, h2⟩ => ⟨by rw [h1, dec1], h2⟩)
  exact H.mono fun e w' ⟨h1, h2⟩ => ⟨h1.trans (by congr 2), h2⟩
theorem outer5 (n : Nat) (W : World) (h : Five n W) : Calls Try.prog 13 #[.pointer (some ⟨n + 1 + 1 + 1 + 1, 0, none⟩)] W fun e w' => e = .returned (.string ⟨#[40, 40, 97, 32, 43, 32, 49, 41, 32, 60, 32, 51, 41]⟩) ∧ Below W.heap.size W w' := by
  have H := bin_text2 (n + 1 + 1 + 1 + 1) (n + 1 + 1) (n + 1 + 1 + 1) ⟨#[60]⟩ ⟨#[40, 97, 32, 43, 32, 49, 41]⟩ ⟨#[51]⟩ W (by decide) (by decide) (by decide) h.2.2.2.2 (fun W2 hb => inner5 n W2 (h.below hb))
    (fun W2 hb => (lit_text5 3 (by omega) (n + 1 + 1 + 1) W2 (h.below hb).2.2.2.1).mono fun e w' ⟨h1, h2⟩ => ⟨by rw [h1, dec3], h2⟩)
  exact H.mono fun e w' ⟨h1, h2⟩ => ⟨h1.trans (by congr 2), h2⟩
theorem depth5 (n : Nat) (W : World) (h : Five n W) : Calls Try.prog 12 #[.iface 47 (.pointer (some ⟨n + 1 + 1 + 1 + 1, 0, none⟩))] W fun e w' => e = .returned (.int .i64 3) ∧ Below W.heap.size W w' := by
  have hp : PT W (.two (.two .leaf .leaf) .leaf) (.iface 47 (.pointer (some ⟨n + 1 + 1 + 1 + 1, 0, none⟩))) :=
    ⟨_, _, _, _, _, _, rfl, h.2.2.2.2, ⟨_, _, _, _, _, _, rfl, h.2.2.1, .inr (.inl ⟨_, _, _, rfl, h.1⟩), .inl ⟨_, _, _, _, _, rfl, h.2.1⟩⟩, .inl ⟨_, _, _, _, _, rfl, h.2.2.2.1⟩⟩
  exact depth_any _ _ W hp (by decide)
set_option maxRecDepth 100000 in
set_option maxHeartbeats 4000000 in
theorem awake5_any (w : World) : Calls Try.prog 5 #[] w fun e w' => e = .returned (.bool true) ∧ Below w.heap.size w w' := by
  go_enter Try.func5, Try.ntmps5
  go_wp2_with fail
  obtain ⟨W, hW⟩ : ∃ W, (((((w.alloc (.cells #[.string ⟨#[]⟩, .string ⟨#[97]⟩] 56)).alloc (.cells #[.int .u8 1, .int .i64 1, .string ⟨#[]⟩, .bool false] 50)).alloc (.cells #[.string ⟨#[43]⟩, .iface 54 (.pointer (some ⟨w.heap.size, 0, none⟩)), .iface 48 (.pointer (some ⟨w.heap.size + 1, 0, none⟩))] 52)).alloc (.cells #[.int .u8 1, .int .i64 3, .string ⟨#[]⟩, .bool false] 50)).alloc (.cells #[.string ⟨#[60]⟩, .iface 47 (.pointer (some ⟨w.heap.size + 1 + 1, 0, none⟩)), .iface 48 (.pointer (some ⟨w.heap.size + 1 + 1 + 1, 0, none⟩))] 52)) = W := ⟨_, rfl⟩
  rw [hW]
  have hb : Below w.heap.size w W := by
    rw [← hW]
    exact (((((Below.refl _ _).alloc (Nat.le_refl _) _).alloc (by simp) _).alloc (by simp; omega) _).alloc (by simp; omega) _).alloc (by simp; omega) _
  have h5 : Five w.heap.size W := by
    rw [← hW]
    refine ⟨box_alloc (box_alloc (box_alloc (box_alloc (heap_alloc_new w _) _) _) _) _, box_alloc (box_alloc (box_alloc (heap_at5 _ _ _ (by simp)) _) _) _, box_alloc (box_alloc (heap_at5 _ _ _ (by simp)) _) _, box_alloc (heap_at5 _ _ _ (by simp)) _, heap_at5 _ _ _ (by simp)⟩
  clear hW
  have HB := Lib.hid hb
  have H5 := Lib.hid h5
  clear hb h5
  refine (outer5 _ _ H5.out).mono ?_
  rintro e w2 ⟨rfl, hb2⟩
  have HB2 := Lib.hid (HB.out.trans (hb2.mono HB.out.size))
  have H52 := Lib.hid (H5.out.below hb2)
  clear hb2 HB H5
  go_wp2_with fail
  refine (depth5 _ _ H52.out).mono ?_
  rintro e w3 ⟨rfl, hb3⟩
  have HB3 := Lib.hid (HB2.out.trans (hb3.mono HB2.out.size))
  clear hb3 HB2 H52
  go_wp2
  go_ret
  exact ⟨rfl, HB3.out⟩
end Go.Proofs.Ytpkipleoodcplaa
