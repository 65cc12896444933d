/-
  What cell.Literal and the document's Literal give. Conditions: the listed tables as laid; a text of at most 10^6 bytes.
-/
import Derived.Test.YtmdmcfobdbccmaaDoorCellO
import Derived.Test.YtmdmcfobdbccmaaDoorCalcDec
import Derived.Test.YtmdmcfobdbccmaaDoorRef1Dec
import Derived.Test.YtmdmcfobdbccmaaDoorPlainLit
import Derived.Shelf.Vars
import Derived.Deep.LoopGhost
namespace Go.Proofs.YtmdmcfobdbccmaaDoor
open Go.RowKit
attribute [local go_sem] ta_i_i ta_i_s ta_i_b ta1_i ta_s_i ta_s_s ta_s_b ta1_s ta_b_i ta_b_s ta_b_b ta1_b ta_n_i ta_n_s ta_n_b

/-- internal/bytealg.MaxLen holds some number. -/
def Ml (w : World) : Prop := ∃ m, w.cell? ⟨2, 0, none⟩ = some (.int .i64 m)
theorem ml_below {w w' : World} (h : Ml w) (hb : Below w.heap.size w w') : Ml w' := by
  obtain ⟨m, hm⟩ := h
  exact ⟨m, (hb.cell (p := ⟨2, 0, none⟩) (World.block_lt_of_cell? w _ hm)).trans hm⟩
theorem ml_shaped {w : World} (h : w.ShapedOpen Tryd.prog) : Ml w :=
  cell_of_shapedOpen_int (t := 3) (zero := #[.int .i64 0]) h (of_decide_eq_true (by kernel_rfl)) (by kernel_rfl) rfl (by kernel_rfl) (by kernel_rfl) Tryd.underlying3
theorem repl_any (s : ByteArray) (w : World) (hs : s.size ≤ 1000000) (hm : Ml w) :
    Calls Tryd.prog 47 #[.string s, .string ⟨#[39]⟩, .string ⟨#[39, 39]⟩] w fun e w' => e = .returned (.string ⟨(Lp.quo s.data.toList).toArray⟩) ∧ Below w.heap.size w w' := by
  obtain ⟨m, hm⟩ := hm
  have hc : Lib.countB s ⟨#[39]⟩ ≤ 1000001 := by
    have := Lib.countB_le ⟨#[39]⟩ (by decide) s.size s (Nat.le_refl _)
    omega
  have := Tryd.strings_ReplaceAll s ⟨#[39]⟩ ⟨#[39, 39]⟩ m w (by omega) hm (by decide) (by
    have e2 : (⟨#[39, 39]⟩ : ByteArray).size = 2 := rfl
    rw [e2]; omega)
  rw [show (⟨#[39]⟩ : ByteArray).data.toList = [39] from rfl, show (⟨#[39, 39]⟩ : ByteArray).data.toList = [39, 39] from rfl, Lp.replace_quo] at this
  exact this
theorem cat_list (x y : List UInt8) : (⟨x.toArray⟩ : ByteArray) ++ (⟨y.toArray⟩ : ByteArray) = ⟨(x ++ y).toArray⟩ := by
  apply ByteArray.ext
  simp
theorem cat_at (T : List UInt8) (s : ByteArray) (k : Nat) (h : k < s.size) : (⟨T.toArray⟩ : ByteArray) ++ s.extract k (k + 1) = ⟨(T ++ [s[k]'h]).toArray⟩ := by
  have e : s.extract k (k + 1) = ⟨#[s[k]'h]⟩ := by
    apply ByteArray.ext
    apply Array.ext'
    rw [Lib.extract_data, Lp.drop_cons s k h]
    simp
  rw [e]; exact cat_list T [s[k]'h]
theorem lit_cat (Q : List UInt8) : (⟨#[39]⟩ : ByteArray) ++ (⟨Q.toArray⟩ : ByteArray) ++ (⟨#[39]⟩ : ByteArray) = ⟨([39] ++ Q ++ [39]).toArray⟩ := by
  apply ByteArray.ext
  simp
theorem lit_n {k i : Int} {s : ByteArray} {b : Bool} (h : NoK k) : Lp.lit ⟨k, i, s, b⟩ = [78, 85, 76, 76] := by
  have h1 := beq_eq_false_iff_ne.1 h.1
  have h2 := beq_eq_false_iff_ne.1 h.2.1
  have h3 := beq_eq_false_iff_ne.1 h.2.2
  simp [Lp.lit, h1, h2, h3]
set_option maxRecDepth 100000 in
set_option maxHeartbeats 4000000 in
theorem clit_any (k i : Int) (s : ByteArray) (b : Bool) (w : World) (hi : Lp.inR i) (hs : s.size ≤ 1000000) (hP : Pow w) (hM : Ml w) :
    Calls Tryd.prog 28 #[.agg #[.int .u8 k, .int .i64 i, .string s, .bool b]] w fun e w' => e = .returned (.string ⟨(Lp.lit ⟨k, i, s, b⟩).toArray⟩) ∧ Below w.heap.size w w' := by
  have hb0 : Below w.heap.size w (w.alloc (.cells #[.int .u8 k, .int .i64 i, .string s, .bool b] 53)) := (Below.refl _ _).alloc (Nat.le_refl _) _
  rcases kcases k with rfl | rfl | rfl | hk
  · have e : Lp.lit ⟨1, i, s, b⟩ = Lib.itoa i := rfl
    rw [e]; clear e
    have HI := Lib.hid hi
    have hP0 := pow_below hP hb0
    clear hi hP hM
    go_enter Tryd.func28, Tryd.ntmps28
    go_wp2_with fail
    refine (openb_1 _ _ _ _).mono ?_
    rintro e w1 ⟨rfl, hb1⟩
    have k1 := hb0.trans (hb1.mono (by simp))
    have hP1 := pow_below hP0 hb1
    clear hb0 hb1 hP0
    go_wp2_with fail
    refine (cdec_any _ _ HI.out hP1).mono ?_
    rintro e w2 ⟨rfl, hb2⟩
    go_wp2
    go_ret
    exact ⟨rfl, k1.trans (hb2.mono k1.size)⟩
  · have e : (⟨(Lp.lit ⟨2, i, s, b⟩).toArray⟩ : ByteArray) = ⟨([39] ++ Lp.quo s.data.toList ++ [39]).toArray⟩ := rfl
    rw [e]; clear e
    have hM0 := ml_below hM hb0
    have hq : (Lp.quo s.data.toList).length ≤ 2000000 := by
      rw [Lp.quo_len, Array.length_toList]
      have := List.count_le_length (a := (39 : UInt8)) (l := s.data.toList)
      rw [Array.length_toList] at this
      have e : s.data.size = s.size := rfl
      omega
    have hrp := fun W hm => repl_any s W hs hm
    obtain ⟨Q, hQ⟩ : ∃ Q, Lp.quo s.data.toList = Q := ⟨_, rfl⟩
    rw [hQ] at hq hrp ⊢
    have HRP := Lib.hid hrp
    clear hQ hrp
    clear hs hP hM
    go_enter Tryd.func28, Tryd.ntmps28
    go_wp2_with fail
    refine (openb_2 _ _ _ _).mono ?_
    rintro e w1 ⟨rfl, hb1⟩
    have k1 := hb0.trans (hb1.mono (by simp))
    have hM1 := ml_below hM0 hb1
    clear hb0 hb1 hM0
    go_wp2_with fail
    refine (HRP.out _ hM1).mono ?_
    rintro e w2 ⟨rfl, hb2⟩
    clear HRP
    go_wp2
    go_ret
    exact ⟨congrArg (fun x => Ending.returned (.string x)) (lit_cat Q), k1.trans (hb2.mono k1.size)⟩
  · cases b
    · go_enter Tryd.func28, Tryd.ntmps28
      go_wp2_with fail
      refine (openb_3 _ _ _ _).mono ?_
      rintro e w1 ⟨rfl, hb1⟩
      have k1 := hb0.trans (hb1.mono (by simp))
      go_wp2
      go_ret
      exact ⟨rfl, k1⟩
    · go_enter Tryd.func28, Tryd.ntmps28
      go_wp2_with fail
      refine (openb_3 _ _ _ _).mono ?_
      rintro e w1 ⟨rfl, hb1⟩
      have k1 := hb0.trans (hb1.mono (by simp))
      go_wp2
      go_ret
      exact ⟨rfl, k1⟩
  · rw [lit_n hk]
    go_enter Tryd.func28, Tryd.ntmps28
    go_wp2_with fail
    refine (openb_n _ _ _ _ hk _).mono ?_
    rintro e w1 ⟨rfl, hb1⟩
    have k1 := hb0.trans (hb1.mono (by simp))
    go_wp2
    go_ret
    exact ⟨rfl, k1⟩
end Go.Proofs.YtmdmcfobdbccmaaDoor
