/-
  What lex.next gives, of any text that isn't empty. Conditions: unicode/utf8's tables as laid; at most 10^9 bytes.
-/
import Derived.Test.YtmdmcfobdbccmaaDoorLexN
import Derived.Test.YtmdmcfobdbccmaaDoorReadA
import Derived.Lib.MapLaws
namespace Go.Proofs.YtmdmcfobdbccmaaDoor
open Go.RowKit

theorem low_one (c : UInt8) (h : c.toNat < 128) : (if 0 ≤ lowR (c.toNat : Int) then Lib.encodeRune (lowR (c.toNat : Int)) else []) = [Lp.lowB c] := by
  have h0 : 0 ≤ lowR (c.toNat : Int) := by unfold lowR; split <;> omega
  have h1 : lowR (c.toNat : Int) ≤ 127 := by unfold lowR; split <;> omega
  rw [if_pos h0]
  unfold Lib.encodeRune
  rw [Lib.encodeRuneZ_one h0 h1]
  simp only [List.map_cons, List.map_nil, List.cons.injEq, and_true]
  apply UInt8.toNat_inj.1
  unfold lowR Lp.lowB
  by_cases g : 65 ≤ c.toNat ∧ c.toNat ≤ 90
  · rw [if_pos (by omega), if_pos g]
    have e : ((c.toNat : Int) + 32).toNat = c.toNat + 32 := by omega
    rw [e]
    simp [Nat.toUInt8, UInt8.toNat_add]
  · rw [if_neg (by omega), if_neg g]
    simp [Nat.toUInt8]
theorem mapD_low : ∀ (l : List UInt8), (∀ c ∈ l, c.toNat < 128) → Lib.mapD lowR l = l.map Lp.lowB
  | [], _ => rfl
  | c :: l, h => by
    have hc := h c (by simp)
    rw [Lib.mapD_step _ _ (by simp), Lib.decodeL_ascii c l hc]
    show (if 0 ≤ lowR (c.toNat : Int) then Lib.encodeRune (lowR (c.toNat : Int)) else []) ++ Lib.mapD lowR ((c :: l).drop 1) = _
    rw [low_one c hc]
    have := mapD_low l (fun d hd => h d (by simp [hd]))
    rw [show (c :: l).drop 1 = l from rfl, this]; rfl
theorem takeWhile_mem {p : UInt8 → Bool} {l : List UInt8} {c : UInt8} (h : c ∈ l.takeWhile p) : p c = true := by
  induction l with
  | nil => cases h
  | cons d l ih =>
    rw [List.takeWhile_cons] at h
    cases hd : p d
    · rw [hd] at h; cases h
    · rw [hd, if_pos rfl] at h
      rcases List.mem_cons.1 h with rfl | h
      · exact hd
      · exact ih h
theorem takeWhile_take {p : UInt8 → Bool} (l : List UInt8) : l.take (l.takeWhile p).length = l.takeWhile p := by
  induction l with
  | nil => rfl
  | cons d l ih =>
    rw [List.takeWhile_cons]
    cases hd : p d
    · rfl
    · simp [ih]
theorem map_any (s : ByteArray) (w : World) (hs : s.size ≤ 1000000000) (hl : ∀ c ∈ s.data.toList, c.toNat < 128) (hT : Tabs w) :
    Calls Tryd.prog 36 #[.func (.func 37) #[] #[], .string s] w fun e w' => e = .returned (.string ⟨(s.data.toList.map Lp.lowB).toArray⟩) ∧ Below w.heap.size w w' := by
  rw [← mapD_low _ hl]
  refine Tryd.strings_Map_grows 37 #[] (enters_of Tryd.func37 (by kernel_rfl) rfl) lowR s w (by omega) ?_ ?_ hT
  · intro W x hx _
    refine (small_any (x : Int) W (by omega) (by omega)).mono ?_
    rintro e w' ⟨rfl, rfl⟩
    exact ⟨rfl, Below.refl _ _⟩
  · intro x hx
    unfold lowR; split <;> omega
theorem decode0 {s : ByteArray} {c : UInt8} {r : List UInt8} (hl : s.data.toList = c :: r) : ∃ k, Lib.decodeGo s = ((Utf8.decode s 0).1, k) ∧ (c.toNat < 128 → (Utf8.decode s 0).1 = c.toNat) ∧ (128 ≤ c.toNat → 128 ≤ (Utf8.decode s 0).1) := by
  have hz : 0 < s.size := by
    have := congrArg List.length hl
    rw [Array.length_toList] at this
    show 0 < s.data.size
    rw [this]; simp
  have hc : s[0]'hz = c := by
    have := Lp.get_data s 0 hz
    rw [hl] at this
    simpa using this.symm
  refine ⟨(Utf8.decode s 0).2, ?_, ?_, ?_⟩
  · unfold Lib.decodeGo; rw [if_neg (by omega)]
  · intro h; rw [decode_ascii s 0 hz (by rw [hc]; exact h), hc]
  · intro h; exact (decode_high s 0 hz (by rw [hc]; exact h)).1
def NextPost (l : List UInt8) (w : World) (e : Ending) (w' : World) : Prop :=
  e = .returned (.tuple #[.agg #[.int .u8 (Lp.nextT l).1.k, .string ⟨(Lp.nextT l).1.s.toArray⟩, .int .i64 (Lp.nextT l).1.n], .int .i64 ((Lp.nextT l).2.1 : Nat), .int .i64 (Lp.nextT l).2.2]) ∧ Below w.heap.size w w'
theorem nextPost {l : List UInt8} {w w' : World} {k n E : Int} {s : List UInt8} {m : Nat} (h : Lp.nextT l = (⟨k, s, n⟩, m, E)) (hb : Below w.heap.size w w') :
    NextPost l w (.returned (.tuple #[.agg #[.int .u8 k, .string ⟨s.toArray⟩, .int .i64 n], .int .i64 (m : Int), .int .i64 E])) w' := by
  unfold NextPost; rw [h]; exact ⟨rfl, hb⟩
theorem letR_fact {c : UInt8} {r : Nat} (h1 : c.toNat < 128 → r = c.toNat) (h2 : 128 ≤ c.toNat → 128 ≤ r) : letR (r : Int) = Lp.letB c ∧ digR (r : Int) = Lp.isDig c ∧ (((r : Int) == 39) = decide (c = 39)) := by
  by_cases h : c.toNat < 128
  · rw [h1 h]
    refine ⟨letR_byte c, digR_byte c, ?_⟩
    rw [Bool.eq_iff_iff, beq_iff_eq, decide_eq_true_iff, ← UInt8.toNat_inj]
    show _ ↔ c.toNat = 39
    omega
  · have h3 := h2 (by omega)
    have e1 : letR (c.toNat : Int) = false := letR_no (by omega)
    have e2 : digR (c.toNat : Int) = false := digR_no (by omega)
    refine ⟨?_, ?_, ?_⟩
    · rw [letR_no (by omega), ← letR_byte, e1]
    · rw [digR_no (by omega), ← digR_byte, e2]
    · rw [Bool.eq_iff_iff, beq_iff_eq, decide_eq_true_iff, ← UInt8.toNat_inj]
      show _ ↔ c.toNat = 39
      omega
set_option maxRecDepth 100000 in
set_option maxHeartbeats 4000000 in
theorem next_word (s : ByteArray) (c : UInt8) (r : List UInt8) (hl : s.data.toList = c :: r) (w : World) (hs : s.size ≤ 1000000000) (hc : Lp.letB c = true) (hT : Tabs w) :
    Calls Tryd.prog 17 #[.string s] w (NextPost (c :: r) w) := by
  have HN := Lib.hid (Lp.nextT_word r hc)
  have hb0 : Below w.heap.size w (w.alloc (.cells #[.int .u8 0, .string ⟨#[]⟩, .int .i64 0] 41)) := (Below.refl _ _).alloc (Nat.le_refl _) _
  have hx0 := heap_alloc_new w (.cells #[.int .u8 0, .string ⟨#[]⟩, .int .i64 0] 41)
  have hT0 := tabs_below hT hb0
  obtain ⟨kd, hd, hd1, hd2⟩ := decode0 hl
  obtain ⟨f1, _, _⟩ := letR_fact hd1 hd2
  generalize (Utf8.decode s 0).1 = rn at *
  have cD := fun W h => decode_any s W h
  rw [hd] at cD
  have CD := Lib.hid cD
  have cL := fun W => lletter_any (rn : Int) W
  rw [f1, hc] at cL
  unfold BoolPost at cL
  have CL := Lib.hid cL
  have cW := fun W => while_word s W
  have hle : (s.data.toList.takeWhile Lp.wordB).length ≤ s.size := by
    have := Lp.takeWhile_le Lp.wordB s.data.toList
    rw [Array.length_toList] at this; exact this
  have htk : (s.extract 0 (s.data.toList.takeWhile Lp.wordB).length).data.toList = s.data.toList.takeWhile Lp.wordB := by
    rw [Lib.extract_data, List.drop_zero]; simp only [Nat.sub_zero]; exact takeWhile_take _
  have hsm : ∀ d ∈ (s.extract 0 (s.data.toList.takeWhile Lp.wordB).length).data.toList, d.toNat < 128 := by
    rw [htk]; intro d hd; exact word_small (takeWhile_mem hd)
  have hxz : (s.extract 0 (s.data.toList.takeWhile Lp.wordB).length).size ≤ 1000000000 := by
    have e : (s.extract 0 (s.data.toList.takeWhile Lp.wordB).length).size = (s.extract 0 (s.data.toList.takeWhile Lp.wordB).length).data.toList.length := by rw [Array.length_toList]; rfl
    rw [e, htk]; omega
  have cM := fun W hW => map_any (s.extract 0 (s.data.toList.takeWhile Lp.wordB).length) W hxz hsm hW
  rw [htk, hl] at cM
  rw [hl] at cW hle
  have CW := Lib.hid cW
  have CM := Lib.hid cM
  clear hd hd1 hd2 f1 hc hl cD cL cW cM htk hsm hT hxz
  generalize ((c :: r).takeWhile Lp.wordB).length = m at *
  go_enter Tryd.func17, Tryd.ntmps17
  go_wp2_with fail
  refine (CD.out _ hT0).mono ?_
  rintro e w1 ⟨rfl, b1⟩
  have x1 := box_below hx0 b1
  have k1 := hb0.trans (b1.mono hb0.size)
  have hT1 := tabs_below hT0 b1
  clear hx0 hb0 b1 hT0
  go_wp2_with fail
  refine (CL.out _).mono ?_
  rintro e w' ⟨rfl, rfl⟩
  go_wp2_with fail
  refine (CW.out _).mono ?_
  rintro e w2 ⟨rfl, b2⟩
  have x2 := box_below x1 b2
  have k2 := k1.trans (b2.mono k1.size)
  have hT2 := tabs_below hT1 b2
  clear x1 k1 b2 hT1
  go_wp2_with fail
  refine (CM.out _ hT2).mono ?_
  rintro e w3 ⟨rfl, b3⟩
  have x3 := box_below x2 b3
  have k3 := k2.trans (b3.mono k2.size)
  have c3 := box_cells x3
  have f3 := fun j => frozen_of_row w3 w.heap.size j _ _ x3
  clear x2 k2 b3 hT2
  go_wp2
  have hbE := ((k3.setCell (p := ⟨w.heap.size, 0, none⟩) (Nat.le_refl _) (.int .u8 1)).setCell (p := ⟨w.heap.size, 1, none⟩) (Nat.le_refl _) (.string ⟨(((c :: r).takeWhile Lp.wordB).map Lp.lowB).toArray⟩)).setCell (p := ⟨w.heap.size, 2, none⟩) (Nat.le_refl _) (.int .i64 0)
  exact bodyPost_ret (v := .tuple #[.agg #[.int .u8 1, .string ⟨(((c :: r).takeWhile Lp.wordB).map Lp.lowB).toArray⟩, .int .i64 0], .int .i64 (m : Int), .int .i64 0]) (by simp [results, Tryd.results17, go_sem, c3]) rfl (nextPost HN.out hbE)
end Go.Proofs.YtmdmcfobdbccmaaDoor
