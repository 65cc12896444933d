/-
  What key.Less, slices.Clone at bytes and key.Behind give. Conditions: lengths below 2^46.
-/
import Derived.Test.YthdnphnipfpdkaaDoorRef3
import Derived.Lib.Bytealg
import Derived.Lib.BytesEntry
import Derived.Laws.Externs
import Derived.Deep.LoopGhost
namespace Go.Proofs.YthdnphnipfpdkaaDoor
open Go.RowKit

theorem bytesOf_rds {P : Program} {w : World} {A : Option Addr} {l : List UInt8} (n c : Nat) (hn : n = l.length) (h : Rds w A (bv l)) :
    (Extern.Bytes.bytesOf (.slice A n c)).run P w = .ok ⟨l.toArray⟩ w := by
  subst hn
  rcases h with h | ⟨b, off, rfl, hc⟩
  · have hl : l = [] := by simpa [bv] using h
    subst hl
    rcases A with _ | a <;> rfl
  · have := Lib.run_loadBytesX (P := P) w (l.map fun x => (x.toNat : Int)) ⟨b, off, none⟩ ByteArray.empty (fun j x hj => by
      have e : (⟨b, off, none⟩ : Addr).add j = ⟨b, off + j, none⟩ := by unfold Addr.add; split <;> simp_all
      rw [e]
      simp only [List.getElem?_map, Option.map_eq_some_iff] at hj
      obtain ⟨y, hy, rfl⟩ := hj
      exact hc j _ (by simp [bv, hy]))
    simp only [List.length_map] at this
    simp only [Extern.Bytes.bytesOf]
    rw [this]
    congr 1
    apply ByteArray.ext
    simp [Lib.bytesOf, Function.comp_def, ByteArray.empty, ByteArray.emptyWithCapacity]
    rfl

theorem compare_less (a b : List UInt8) : (decide (Lib.compareBytes a b < 0)) = Op.bytesLess a b := by
  induction a generalizing b with
  | nil => cases b <;> simp [Lib.compareBytes, Op.bytesLess]
  | cons x a ih =>
    cases b with
    | nil => simp [Lib.compareBytes, Op.bytesLess]
    | cons y b =>
      simp only [Lib.compareBytes, Op.bytesLess]
      by_cases h1 : x < y
      · simp [h1]
      · by_cases h2 : y < x
        · have : ¬ x = y := by rintro rfl; exact h1 h2
          simp [h1, h2, this]
        · have : x = y := UInt8.le_antisymm (UInt8.not_lt.1 h2) (UInt8.not_lt.1 h1)
          subst this
          simp [h1, ih]

theorem run_compare {w : World} {A1 A2 : Option Addr} {l1 l2 : List UInt8} (n1 n2 c1 c2 : Nat) (hn1 : n1 = l1.length) (hn2 : n2 = l2.length) (h1 : Rds w A1 (bv l1)) (h2 : Rds w A2 (bv l2)) :
    (callFunc 51 #[.slice A1 n1 c1, .slice A2 n2 c2]).run Tryd.prog w = .ok (.value (.int .i64 (Lib.compareBytes l1 l2))) w := by
  rw [run_callFunc_extern Tryd.func51 (by kernel_rfl) (by kernel_rfl) (by kernel_rfl) (e := Extern.BytealgCompare.compare) (by kernel_rfl)]
  have : (Extern.BytealgCompare.compare #[.slice A1 n1 c1, .slice A2 n2 c2]).run Tryd.prog w = .ok (.int .i64 (Lib.compareBytes l1 l2)) w := by
    change Sem.run Tryd.prog (do pure (goInt (Extern.BytealgCompare.cmp (← Extern.Bytes.bytesOf (.slice A1 n1 c1)) (← Extern.Bytes.bytesOf (.slice A2 n2 c2))))) w = _
    simp only [Sem.run_bind, bytesOf_rds n1 c1 hn1 h1, bytesOf_rds n2 c2 hn2 h2, Result.andThen, Sem.run_pure]
    rw [Lib.cmp_eq]
    rfl
  rw [this]
  rfl

theorem less_any (A1 A2 : Option Addr) (c1 c2 : Nat) (l1 l2 : List UInt8) (n1 n2 : Nat) (hn1 : n1 = l1.length) (hn2 : n2 = l2.length) (w : World) (h1 : Rds w A1 (bv l1)) (h2 : Rds w A2 (bv l2)) :
    Calls Tryd.prog 25 #[.slice A1 n1 c1, .slice A2 n2 c2] w fun e w' => e = .returned (.bool (Op.bytesLess l1 l2)) ∧ w = w' := by
  have e1 := run_compare n1 n2 c1 c2 hn1 hn2 h1 h2
  rw [← compare_less]
  clear hn1 hn2
  go_enter Tryd.func25, Tryd.ntmps25
  go_wp2
  go_ret
  exact ⟨rfl, rfl⟩

theorem clone_any (A : Option Addr) (c : Nat) (l : List UInt8) (w : World) (h : Rds w A (bv l)) (hn : l.length ≤ 70368744177664) :
    Calls Tryd.prog 38 #[.slice A l.length c] w (GaveB w l) := by
  have eqn := Lib.run_eql_slice_nil (P := Tryd.prog) w 22 5 A l.length c 0 0 Tryd.underlying22
  rcases A with _ | a
  · have hl : l = [] := by
      rcases h with h0 | ⟨b, off, h0, _⟩
      · simpa [bv] using h0
      · cases h0
    subst hl
    simp only [Option.isNone_none, List.length_nil] at eqn ⊢
    go_enter Tryd.func38, Tryd.ntmps38
    go_wp2
    go_ret
    exact ⟨none, 0, rfl, World.ownsRow_nil _ _ _ _, Below.refl _ _⟩
  · simp only [Option.isNone_some] at eqn
    obtain ⟨i0, hi0, hz0, hz1, hz2⟩ := info_parts byteInfo
    have hown0 := World.ownsRow_made (e := 5) (size := 1) w #[] 0 (Nat.le_refl _) (by simp [maxLen]) rfl
    have hr0 := h.below ((Below.refl _ _).alloc (Nat.le_refl _) (.cells #[] 5))
    go_enter Tryd.func38, Tryd.ntmps38
    go_wp2_with (at_builtin; refine wpList_app _ rfl (.tmp 5) (.tmp 6) _ rfl w.heap.size 5 i0 _ 1 1 Tryd.underlying22 hi0 hz0 hz1 hz2 rfl (by omega) _ 0 0 [] rfl hown0 (some a) l.length c (bv l) rfl (by simp [bv_length]) hr0 (bv_one l) (by simp only [maxLen]; omega) (by omega) (by simp) ?_; intro A1 c1 w1 hown1 hb1 hg1 _)
    go_ret
    simp only [Nat.zero_add, List.nil_append] at hown1
    exact ⟨A1, c1, rfl, hown1, ((Below.refl _ _).alloc (Nat.le_refl _) _).trans hb1⟩

/-- What is behind a beginning: r is l without the bytes 255 at its end, its last byte raised by one; nothing, where there is no other byte. -/
def BehindOf (l r : List UInt8) : Prop :=
  ((∀ x ∈ l, x = 255) ∧ r = []) ∨ ∃ (m : Nat) (h : m < l.length), (∀ x ∈ l.drop (m + 1), x = 255) ∧ l[m] ≠ 255 ∧ r = l.take m ++ [l[m] + 1]

def GaveBehind (w : World) (l : List UInt8) (e : Ending) (w' : World) : Prop :=
  ∃ A c r, BehindOf l r ∧ e = .returned (.slice A r.length c) ∧ r.length ≤ c ∧ Rds w' A (bv r) ∧ Below w.heap.size w w'

theorem shrink {w : World} {B n c m : Nat} {e : TypeId} {size : Nat} {A : Option Addr} {xs : List Value} (h : w.ownsRow B e size (.slice A n c) n xs) (hm : m ≤ n) :
    w.ownsRow B e size (.slice A m c) m (xs.take (m * size)) := by
  obtain ⟨hl, h2⟩ := h
  have hms : m * size ≤ n * size := Nat.mul_le_mul_right _ hm
  refine ⟨by rw [List.length_take, hl]; omega, ?_⟩
  rcases h2 with ⟨h3, rfl⟩ | ⟨g, cap, cur, h3, hb, hg, hnc, hcm, hcs, htake⟩
  · left; injection h3 with h4 _ h5; subst h4 h5; exact ⟨by rw [show m = 0 by omega], by omega⟩
  · right; injection h3 with h4 _ h5; subst h4 h5
    exact ⟨g, c, cur, rfl, hb, hg, by omega, hcm, hcs, by rw [← htake, List.take_take, Nat.min_eq_left hms]⟩

theorem own_le {w : World} {B n c : Nat} {e : TypeId} {size : Nat} {A : Option Addr} {xs : List Value} (h : w.ownsRow B e size (.slice A n c) n xs) : n ≤ c := by
  obtain ⟨A', c', hv, h1⟩ := own_form h
  injection hv with _ _ hc
  omega

theorem behind_close {w w' : World} {l r : List UInt8} {e : Ending} (hb : Below w.heap.size w w') (hr : BehindOf l r) : ∀ w2, GaveB w' r e w2 → GaveBehind w l e w2 := by
  rintro w2 ⟨A, c, he, ho, hbe⟩
  exact ⟨A, c, r, hr, he, own_le ho, ho.rds, hb.trans (hbe.mono hb.size)⟩

theorem clone_at (A : Option Addr) (n c : Nat) (l : List UInt8) (w : World) (hln : n = l.length) {B : Nat} (h : w.ownsRow B 5 1 (.slice A n c) n (bv l)) (hn : l.length ≤ 70368744177664) :
    Calls Tryd.prog 38 #[.slice A n c] w (GaveB w l) := by
  subst hln
  exact clone_any A c l w (Rds.own h) hn

theorem bv_set_last (l : List UInt8) (k : Nat) (hk : k < l.length) (hne : l[k].toNat ≠ 255) :
    ((bv l).take ((k + 1) * 1)).set k (.int .u8 ((l[k].toNat : Int) + 1)) = bv (l.take k ++ [l[k] + 1]) := by
  have hx := l[k].toNat_lt
  have e1 : (((l[k] + 1).toNat : Nat) : Int) = (l[k].toNat : Int) + 1 := by
    have : (l[k] + 1).toNat = l[k].toNat + 1 := by rw [UInt8.toNat_add]; simp; omega
    rw [this]; rfl
  have e2 : k = (bv (l.take k)).length := by rw [bv_length, List.length_take]; omega
  rw [← e1, Nat.mul_one, bv_take, List.take_succ_eq_append_getElem hk, bv_append, bv_append, List.set_append_right _ _ (by omega), show k - (bv (l.take k)).length = 0 by omega]
  rfl

set_option maxHeartbeats 1000000 in
theorem behind_any (A : Option Addr) (c : Nat) (l : List UInt8) (w : World) (h : Rds w A (bv l)) (hn : l.length ≤ 70368744177664) :
    Calls Tryd.prog 18 #[.slice A l.length c] w (GaveBehind w l) := by
  go_enter Tryd.func18, Tryd.ntmps18
  go_wp2_with (go_at_call 38; refine (clone_any _ _ _ _ h hn).mono ?_; rintro e w1 ⟨A1, c1, rfl, hown1, hb1⟩)
  go_loopg [0] (l.length + 1) (fun gk s0 wx => wx = w1 ∧ gk ≤ l.length + 1 ∧ 0 < gk ∧ s0 = .slice A1 (gk - 1) c1 ∧ Hid (∀ x ∈ l.drop (gk - 1), x = 255))
  case atStart => exact ⟨rfl, by omega, by omega, by simp, by simp [Hid]⟩
  case round =>
    obtain ⟨rfl, hle, hpos, rfl, HD⟩ := hrel
    obtain ⟨m, rfl⟩ : ∃ m, gk = m + 1 := ⟨gk - 1, by omega⟩
    simp only [Nat.add_sub_cancel] at HD ⊢
    rcases m with _ | k
    · have hall : ∀ x ∈ l, x = 255 := by simpa using HD.out
      have H := Lib.hid hall
      clear hall HD
      go_wp2
      go_ret
      exact ⟨none, 0, [], .inl ⟨H.out, rfl⟩, rfl, Nat.le_refl _, Rds.nil_, hb1⟩
    · have hk : k < l.length := by omega
      obtain ⟨g, cap, hv, hg, hlt⟩ := World.ownsRow.form hown1 (by omega)
      injection hv with hA _ hC
      subst hA hC
      have hcell := (World.ownsRow.cellAt hown1 k (by omega)).trans (bv_at hk)
      have hfz := World.ownsRow.frozenAt hown1 k
      have hcap := own_le hown1
      have hx1 := (l[k]).toNat_lt
      by_cases h255 : l[k] = 255
      · have e255 : ((l[k].toNat : Int) == 255) = true := by rw [h255]; rfl
        have HD2 : Hid (∀ x ∈ l.drop k, x = 255) := by
          show ∀ x ∈ l.drop k, x = 255
          rw [List.drop_eq_getElem_cons hk]
          intro x hx
          rcases List.mem_cons.1 hx with rfl | hx
          · exact h255
          · exact HD.out x hx
        clear h255 HD
        generalize l[k].toNat = y at *
        go_wp2
        go_roundg (k + 1)
        case measure => omega
        case rel => exact ⟨rfl, by omega, by omega, by simp, by simpa using HD2⟩
      · have hne : l[k].toNat ≠ 255 := fun h => h255 (by rw [← UInt8.toNat_inj]; exact h)
        have e255 : ((l[k].toNat : Int) == 255) = false := by simpa using (by omega : ¬ (l[k].toNat : Int) = 255)
        have hst := (World.ownsRow.stored (shrink hown1 (show k + 1 ≤ l.length by omega)) k (.int .u8 ((l[k].toNat : Int) + 1))).1
        have hgb := hb1.setCell (p := ⟨g, k, none⟩) hg (.int .u8 ((l[k].toNat : Int) + 1))
        have hset := bv_set_last l k hk hne
        rw [hset] at hst
        have hlen : k + 1 = (l.take k ++ [l[k] + 1]).length := by simp; omega
        have hbeh : BehindOf l (l.take k ++ [l[k] + 1]) := .inr ⟨k, hk, HD.out, h255, rfl⟩
        have hlr : (l.take k ++ [l[k] + 1]).length ≤ 70368744177664 := by omega
        generalize hr : l.take k ++ [l[k] + 1] = r at *
        have HC := Lib.hid (fun w2 e => behind_close (e := e) hgb hbeh w2)
        have HL := Lib.hid hlen
        clear hr hbeh hset h255 hlen hgb HD
        generalize l[k].toNat = y at *
        have hy : y + 1 < 256 := by omega
        go_wp2_with fail
        refine (clone_at _ _ _ _ _ HL.out hst hlr).mono ?_
        rintro e w2 he
        obtain ⟨A3, c3, r3, he3⟩ := HC.out w2 e he
        obtain ⟨hr3, rfl, hrest⟩ := he3
        have H3 := Lib.hid hrest
        have H4 := Lib.hid hr3
        clear hrest hr3 HC he
        go_wp2
        go_ret
        exact ⟨A3, c3, r3, H4.out, rfl, H3.out⟩
end Go.Proofs.YthdnphnipfpdkaaDoor
