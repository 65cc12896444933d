/-
  What lapidaryref15.Count gives of a document's tree: its parts, counted. Conditions: at most 10^6 parts.
-/
import Derived.Test.YtpkipleoodcplaaDepth
namespace Go.Proofs.Ytpkipleoodcplaa
open Go.RowKit

/-- The document's expression, as a value. -/
def RC.val (r : RC) : Value := .agg #[.int .u8 r.k, .int .u8 r.vk, .int .i64 r.vi, .string r.vs, .bool r.vb, .string r.t, .string r.s, .slice r.A r.n r.c]
theorem rt_alloc {w : World} {e : Ex} {r : RC} (h : RT w e r) (o : Obj) : RT (w.alloc o) e r := RT.keep (stays_below ((Below.refl _ _).alloc (Nat.le_refl _) o)) h
theorem new_of {w wr : World} {B : Nat} (_ : Below B w wr) (cs : Array Value) (t : TypeId) : ∀ j, (wr.alloc (.cells cs t)).cell? ⟨wr.heap.size, j, none⟩ = cs[j]? := box_cells (heap_alloc_new wr (.cells cs t))
set_option maxRecDepth 100000 in
set_option maxHeartbeats 4000000 in
theorem count_any : ∀ (e : Ex) (r : RC) (w : World), RT w e r → e.size ≤ 1000000 →
    Calls Try.prog 7 #[r.val] w fun en w' => en = .returned (.int .i64 (e.size : Nat)) ∧ Below w.heap.size w w'
  | .leaf, r, w, h, _ => by
    obtain ⟨k, vk, vi, vs, vb, t, s, A, n, c⟩ := r
    have hn : n = 0 := h
    subst hn
    clear h
    show Calls Try.prog 7 #[.agg #[.int .u8 k, .int .u8 vk, .int .i64 vi, .string vs, .bool vb, .string t, .string s, .slice A 0 c]] w _
    have hb1 := (Below.refl w.heap.size w).alloc (Nat.le_refl _) (.cells #[.int .u8 k, .int .u8 vk, .int .i64 vi, .string vs, .bool vb, .string t, .string s, .slice A (0 : Nat) c] 33)
    have hc := box_cells (heap_alloc_new w (.cells #[.int .u8 k, .int .u8 vk, .int .i64 vi, .string vs, .bool vb, .string t, .string s, .slice A (0 : Nat) c] 33)) 7
    go_enter Try.func7, Try.ntmps7
    go_wp2
    go_loop [3, 9] (fun s3 s9 => s3 = .int .i64 1 ∧ s9 = .int .i64 0) (fun _ _ => 0)
    case atStart => exact ⟨rfl, rfl⟩
    case round =>
      obtain ⟨rfl, rfl⟩ := hrel
      go_wp2
      go_ret
      exact ⟨rfl, hb1⟩
  | .one x, r, w, h, hs => by
    obtain ⟨k, vk, vi, vs, vb, t, s, A, n, c⟩ := r
    obtain ⟨hn, g, ⟨k1, vk1, vi1, vs1, vb1, t1, s1, A1, n1, c1⟩, hA, hcell, hrt⟩ := h
    have hn' : n = 1 := hn
    have hA' : A = some ⟨g, 0, none⟩ := hA
    subst hn' hA'
    clear hn hA
    have hcell0 : w.heap[g]? = some (.cells #[.int .u8 k1, .int .u8 vk1, .int .i64 vi1, .string vs1, .bool vb1, .string t1, .string s1, .slice A1 n1 c1] 33 (0, 0)) := hcell
    have hsx : x.size ≤ 1000000 := by unfold Ex.size at hs; omega
    have ih := Lib.hid (fun r w h => count_any x r w h hsx)
    have hsz : Hid ((((Ex.one x).size : Nat) : Int) = (x.size : Int) + 1) := by show _ = _; rw [show (Ex.one x).size = x.size + 1 from rfl]; omega
    have hxs : x.size < 1000000 := by unfold Ex.size at hs; omega
    show Calls Try.prog 7 #[.agg #[.int .u8 k, .int .u8 vk, .int .i64 vi, .string vs, .bool vb, .string t, .string s, .slice (some ⟨g, 0, none⟩) 1 c]] w _
    have hb1 := (Below.refl w.heap.size w).alloc (Nat.le_refl _) (.cells #[.int .u8 k, .int .u8 vk, .int .i64 vi, .string vs, .bool vb, .string t, .string s, .slice (some ⟨g, 0, none⟩) (1 : Nat) c] 33)
    have hc := box_cells (heap_alloc_new w (.cells #[.int .u8 k, .int .u8 vk, .int .i64 vi, .string vs, .bool vb, .string t, .string s, .slice (some ⟨g, 0, none⟩) (1 : Nat) c] 33)) 7
    have hcell1 := box_cells (box_below hcell0 hb1)
    have hrt1 := RT.keep (stays_below hb1) hrt
    clear hrt hcell hcell0 hs
    go_enter Try.func7, Try.ntmps7
    go_wp2_with fail
    go_loopw [3, 9] (fun s3 s9 wr => (s3 = .int .i64 1 ∧ s9 = .int .i64 0 ∧ wr = (w.alloc (.cells #[.int .u8 k, .int .u8 vk, .int .i64 vi, .string vs, .bool vb, .string t, .string s, .slice (some ⟨g, 0, none⟩) (1 : Nat) c] 33))) ∨ (s3 = .int .i64 (1 + x.size) ∧ s9 = .int .i64 1 ∧ Below w.heap.size w wr)) (fun _ s9 _ => 2 - (intOf s9).toNat)
    case atStart => exact .inl ⟨rfl, rfl, rfl⟩
    case round =>
      rcases hrel with ⟨rfl, rfl, rfl⟩ | ⟨rfl, rfl, hbw⟩
      · have hb2 := hb1.alloc hb1.size (.cells #[.int .u8 k1, .int .u8 vk1, .int .i64 vi1, .string vs1, .bool vb1, .string t1, .string s1, .slice A1 n1 c1] 33)
        have hrt2 := RT.keep (stays_below ((Below.refl _ _).alloc (Nat.le_refl _) (.cells #[.int .u8 k1, .int .u8 vk1, .int .i64 vi1, .string vs1, .bool vb1, .string t1, .string s1, .slice A1 n1 c1] 33))) hrt1
        have hn2 := box_cells (heap_alloc_new (w.alloc (.cells #[.int .u8 k, .int .u8 vk, .int .i64 vi, .string vs, .bool vb, .string t, .string s, .slice (some ⟨g, 0, none⟩) (1 : Nat) c] 33)) (.cells #[.int .u8 k1, .int .u8 vk1, .int .i64 vi1, .string vs1, .bool vb1, .string t1, .string s1, .slice A1 n1 c1] 33))
        go_wp2_with fail
        refine (ih.out ⟨k1, vk1, vi1, vs1, vb1, t1, s1, A1, n1, c1⟩ _ hrt2).mono ?_
        rintro en w2 ⟨rfl, hb3⟩
        have hb4 := hb2.trans (hb3.mono hb2.size)
        clear hb2 hb3 hn2 hrt2 hrt1 hc hcell1
        go_wp2
        go_roundw
        case rel => exact .inr ⟨rfl, rfl, hb4⟩
        case measure => simp [intOf]
      · go_wp2
        go_ret
        exact ⟨ret_i (by rw [hsz.out]; omega), hbw⟩
  | .two a b, r, w, h, hs => by
    obtain ⟨k, vk, vi, vs, vb, t, s, A, n, c⟩ := r
    obtain ⟨hn, g, ⟨k1, vk1, vi1, vs1, vb1, t1, s1, A1, n1, c1⟩, ⟨k2, vk2, vi2, vs2, vb2, t2, s2, A2, n2, c2⟩, hA, hcell, hra, hrb⟩ := h
    have hn' : n = 2 := hn
    have hA' : A = some ⟨g, 0, none⟩ := hA
    subst hn' hA'
    clear hn hA
    have hcell0 : w.heap[g]? = some (.cells #[.int .u8 k1, .int .u8 vk1, .int .i64 vi1, .string vs1, .bool vb1, .string t1, .string s1, .slice A1 n1 c1, .int .u8 k2, .int .u8 vk2, .int .i64 vi2, .string vs2, .bool vb2, .string t2, .string s2, .slice A2 n2 c2] 33 (0, 0)) := hcell
    have hsa : a.size ≤ 1000000 := by unfold Ex.size at hs; omega
    have hsb : b.size ≤ 1000000 := by unfold Ex.size at hs; omega
    have iha := Lib.hid (fun r w h => count_any a r w h hsa)
    have ihb := Lib.hid (fun r w h => count_any b r w h hsb)
    have hsz : Hid ((((Ex.two a b).size : Nat) : Int) = (a.size : Int) + b.size + 1) := by show _ = _; rw [show (Ex.two a b).size = a.size + b.size + 1 from rfl]; omega
    have hxs : a.size + b.size < 1000000 := by unfold Ex.size at hs; omega
    show Calls Try.prog 7 #[.agg #[.int .u8 k, .int .u8 vk, .int .i64 vi, .string vs, .bool vb, .string t, .string s, .slice (some ⟨g, 0, none⟩) 2 c]] w _
    have hb1 := (Below.refl w.heap.size w).alloc (Nat.le_refl _) (.cells #[.int .u8 k, .int .u8 vk, .int .i64 vi, .string vs, .bool vb, .string t, .string s, .slice (some ⟨g, 0, none⟩) (2 : Nat) c] 33)
    have hc := box_cells (heap_alloc_new w (.cells #[.int .u8 k, .int .u8 vk, .int .i64 vi, .string vs, .bool vb, .string t, .string s, .slice (some ⟨g, 0, none⟩) (2 : Nat) c] 33)) 7
    have hcell1 := box_below hcell0 hb1
    have hra1 := RT.keep (stays_below hb1) hra
    have hrb1 := RT.keep (stays_below hb1) hrb
    clear hra hrb hcell hcell0 hs
    go_enter Try.func7, Try.ntmps7
    go_wp2_with fail
    go_loopw [3, 9] (fun s3 s9 wr => (s3 = .int .i64 1 ∧ s9 = .int .i64 0 ∧ wr = (w.alloc (.cells #[.int .u8 k, .int .u8 vk, .int .i64 vi, .string vs, .bool vb, .string t, .string s, .slice (some ⟨g, 0, none⟩) (2 : Nat) c] 33))) ∨ (s3 = .int .i64 (1 + a.size) ∧ s9 = .int .i64 1 ∧ Below w.heap.size w wr ∧ wr.heap[g]? = some (.cells #[.int .u8 k1, .int .u8 vk1, .int .i64 vi1, .string vs1, .bool vb1, .string t1, .string s1, .slice A1 n1 c1, .int .u8 k2, .int .u8 vk2, .int .i64 vi2, .string vs2, .bool vb2, .string t2, .string s2, .slice A2 n2 c2] 33 (0, 0)) ∧ RT wr b ⟨k2, vk2, vi2, vs2, vb2, t2, s2, A2, n2, c2⟩) ∨ (s3 = .int .i64 (1 + a.size + b.size) ∧ s9 = .int .i64 2 ∧ Below w.heap.size w wr)) (fun _ s9 _ => 3 - (intOf s9).toNat)
    case atStart => exact .inl ⟨rfl, rfl, rfl⟩
    case round =>
      rcases hrel with ⟨rfl, rfl, rfl⟩ | ⟨rfl, rfl, hbw, hgw, hrb2⟩ | ⟨rfl, rfl, hbw⟩
      · have hb2 := hb1.alloc hb1.size (.cells #[.int .u8 k1, .int .u8 vk1, .int .i64 vi1, .string vs1, .bool vb1, .string t1, .string s1, .slice A1 n1 c1] 33)
        have hbo : Below (w.alloc (.cells #[.int .u8 k, .int .u8 vk, .int .i64 vi, .string vs, .bool vb, .string t, .string s, .slice (some ⟨g, 0, none⟩) (2 : Nat) c] 33)).heap.size (w.alloc (.cells #[.int .u8 k, .int .u8 vk, .int .i64 vi, .string vs, .bool vb, .string t, .string s, .slice (some ⟨g, 0, none⟩) (2 : Nat) c] 33)) ((w.alloc (.cells #[.int .u8 k, .int .u8 vk, .int .i64 vi, .string vs, .bool vb, .string t, .string s, .slice (some ⟨g, 0, none⟩) (2 : Nat) c] 33)).alloc (.cells #[.int .u8 k1, .int .u8 vk1, .int .i64 vi1, .string vs1, .bool vb1, .string t1, .string s1, .slice A1 n1 c1] 33)) := (Below.refl _ _).alloc (Nat.le_refl _) _
        have hra2 := RT.keep (stays_below hbo) hra1
        have hrb2 := RT.keep (stays_below hbo) hrb1
        have hg2 := box_below hcell1 hbo
        have hcells := box_cells hcell1
        have hn2 := box_cells (heap_alloc_new (w.alloc (.cells #[.int .u8 k, .int .u8 vk, .int .i64 vi, .string vs, .bool vb, .string t, .string s, .slice (some ⟨g, 0, none⟩) (2 : Nat) c] 33)) (.cells #[.int .u8 k1, .int .u8 vk1, .int .i64 vi1, .string vs1, .bool vb1, .string t1, .string s1, .slice A1 n1 c1] 33))
        clear hra1 hrb1 hbo
        go_wp2_with fail
        refine (iha.out ⟨k1, vk1, vi1, vs1, vb1, t1, s1, A1, n1, c1⟩ _ hra2).mono ?_
        rintro en w2 ⟨rfl, hb3⟩
        have hb4 := hb2.trans (hb3.mono hb2.size)
        have hg3 := box_below hg2 hb3
        have hrb3 := RT.keep (stays_below hb3) hrb2
        clear hb2 hb3 hn2 hra2 hrb2 hc hcell1 hg2 hcells
        go_wp2
        go_roundw
        case rel => exact .inr (.inl ⟨rfl, rfl, hb4, hg3, hrb3⟩)
        case measure => simp [intOf]
      · clear hra1 hrb1 hcell1 hc
        have hb2 := hbw.alloc hbw.size (.cells #[.int .u8 k2, .int .u8 vk2, .int .i64 vi2, .string vs2, .bool vb2, .string t2, .string s2, .slice A2 n2 c2] 33)
        have hrb3 := rt_alloc hrb2 (.cells #[.int .u8 k2, .int .u8 vk2, .int .i64 vi2, .string vs2, .bool vb2, .string t2, .string s2, .slice A2 n2 c2] 33)
        have hcells := box_cells hgw
        have hn2 := new_of hbw #[.int .u8 k2, .int .u8 vk2, .int .i64 vi2, .string vs2, .bool vb2, .string t2, .string s2, .slice A2 n2 c2] 33
        clear hrb2
        go_wp2_with fail
        refine (ihb.out ⟨k2, vk2, vi2, vs2, vb2, t2, s2, A2, n2, c2⟩ _ hrb3).mono ?_
        rintro en w2 ⟨rfl, hb3⟩
        have hb4 := hb2.trans (hb3.mono hb2.size)
        clear hb2 hb3 hn2 hrb3 hcells
        go_wp2
        go_roundw
        case rel => exact .inr (.inr ⟨rfl, rfl, hb4⟩)
        case measure => simp [intOf]
      · clear hra1 hrb1 hcell1 hc
        go_wp2
        go_ret
        exact ⟨ret_i (by rw [hsz.out]; omega), hbw⟩
end Go.Proofs.Ytpkipleoodcplaa
