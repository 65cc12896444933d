/-
  The walk of LexCases: it returns true, of any text. Conditions: unicode/utf8's tables as laid.
-/
import Derived.Test.YtmdmcfobdbccmaaDoorWalkLexParts
import Derived.Test.YtmdmcfobdbccmaaDoorPlainCases
import Derived.Lib.ConvBytes
namespace Go.Proofs.YtmdmcfobdbccmaaDoor
open Go.RowKit

theorem bytes_under {B : Nat} {w w1 : World} (h : Below B w w1) (hB : B ≤ w1.heap.size) (e : TypeId) (s : ByteArray) : Below B w (Lib.bytesWorld w1 e s) :=
  h.trans ((show Below w1.heap.size w1 (Lib.bytesWorld w1 e s) from ⟨rfl, rfl, rfl, by rw [Lib.bytesWorld_size]; omega, fun j hj => Lib.bytesWorld_at_old w1 e s j hj⟩).mono hB)
theorem bytes_cells (w : World) (e : TypeId) (s : ByteArray) : ∀ j u, (bv s.data.toList)[j]? = some u → (Lib.bytesWorld w e s).cell? ⟨w.heap.size, j, none⟩ = some u := by
  intro j u hu
  have hl : s.data.toList.length = s.size := by rw [Array.length_toList]; rfl
  have hj : j < s.size := by
    have := (List.getElem?_eq_some_iff.1 hu).1
    rw [bv_length, hl] at this; exact this
  rw [Lib.bytesWorld_cell w e s j hj]
  have := bv_at (l := s.data.toList) (k := j) (by rw [hl]; exact hj)
  rw [this] at hu
  injection hu with hu
  rw [← hu, List.getD_eq_getElem?_getD, List.getElem?_eq_getElem (by rw [hl]; exact hj)]
  rfl
theorem bytes_free (w : World) (e : TypeId) (s : ByteArray) : ∀ j, j < s.size → (Lib.bytesWorld w e s).frozen? ⟨w.heap.size, j, none⟩ = false := by
  intro j hj
  have hz : s.size ≤ (Lib.bytesCells w e s).size := by
    unfold Lib.bytesCells
    rw [Array.size_append, Array.size_map]
    show s.data.size ≤ _
    omega
  simp only [World.frozen?, Lib.bytesWorld_at_new]
  simp
  omega
theorem store_cells {w : World} {g k : Nat} {X : List UInt8} (v : UInt8) (HC : ∀ j u, (bv X)[j]? = some u → w.cell? ⟨g, j, none⟩ = some u) (hk : k < X.length) :
    ∀ j u, (bv (X.set k v))[j]? = some u → (w.setCell ⟨g, k, none⟩ (.int .u8 v.toNat)).cell? ⟨g, j, none⟩ = some u := by
  intro j u hu
  by_cases h : j = k
  · subst h
    rw [World.cell?_setCell_same _ _ _ (HC j _ (bv_at hk))]
    rw [bv_at (by rw [List.length_set]; exact hk)] at hu
    simpa using hu
  · rw [World.cell?_setCell_other _ _ _ _ (by intro e; injection e with _ e; exact h e.symm)]
    refine HC j u ?_
    unfold bv at hu ⊢
    rw [List.getElem?_map, List.getElem?_set_ne (fun e => h e.symm)] at hu
    rw [List.getElem?_map]; exact hu
theorem set_low {X : List UInt8} {k : Nat} (hk : k < X.length) {v : UInt8} (h : Lp.lowB v = Lp.lowB X[k]) : (X.set k v).map Lp.lowB = X.map Lp.lowB := by
  rw [List.map_set, h]
  apply List.ext_getElem (by simp)
  intro i h1 h2
  rw [List.getElem_set]
  split
  · rename_i e; subst e; simp
  · rfl
theorem set_39 {X : List UInt8} {k : Nat} {v : UInt8} (hx : (39 : UInt8) ∉ X) (hv : v ≠ 39) : (39 : UInt8) ∉ X.set k v := by
  intro h
  rcases List.mem_or_eq_of_mem_set h with h | h
  · exact hx h
  · exact hv h.symm
def bov (l : List Bool) : List Value := l.map Value.bool
set_option maxRecDepth 100000 in
set_option maxHeartbeats 8000000 in
theorem lexCases_walk (s : ByteArray) (A0 : Option Addr) (c0 : Nat) (gr : List Bool) (w : World) (hs : s.size ≤ 9223372036854775807) (hA : Rds w A0 (bov gr)) (hgl : gr.length ≤ 9223372036854775807) (hT : Tabs w) :
    Calls Tryd.prog 6 #[.string s, .slice A0 gr.length c0] w fun e w' => e = .returned (.bool true) ∧ Below w.heap.size w w' := by
  go_enter Tryd.func6, Tryd.ntmps6
  go_wp2_with fail
  refine (awake14_any _ hT).mono ?_
  rintro e w1 ⟨rfl, hb1⟩
  have hT1 := tabs_below hT hb1
  have hA0 := hA
  clear hT hA
  go_wp2_with fail
  have hz : (s.extract 0 (min (s.size : Int) 500).toNat).size ≤ 500 := by simp; omega
  have hm : (s.extract 0 (min (s.size : Int) 500).toNat).size = min (min (s.size : Int) 500).toNat s.size := by simp
  rw [← hm]
  clear hm
  generalize s.extract 0 (min (s.size : Int) 500).toNat = S at *
  clear hs
  have HSZ : Hid (S.data.toList.length = S.size) := by show _ = _; rw [Array.length_toList]; rfl
  go_loop [5, 23] (fun _ s23 => ∃ k : Nat, k ≤ S.size ∧ s23 = .int .i64 k ∧ Hid ((39 : UInt8) ∉ S.data.toList.take k)) (fun _ s23 => S.size - (intOf s23).toNat)
  case atStart => exact ⟨0, Nat.zero_le _, rfl, by show ¬ _; simp⟩
  case round =>
    obtain ⟨k, hk, rfl, HN⟩ := hrel
    have hk0 : (0 : Int) ≤ (k : Int) := by omega
    by_cases hlt : k < S.size
    · have hlt' : (k : Int) < (S.size : Int) := by omega
      obtain ⟨y, hy⟩ : ∃ y, S[k]'hlt = y := ⟨_, rfl⟩
      by_cases h39 : y = 39
      · have e0 : ((y.toNat : Int) == 39) = true := by rw [h39]; rfl
        clear h39 HN
        go_wp2
        go_ret
        exact ⟨rfl, hb1⟩
      · have e0 : ((y.toNat : Int) == 39) = false := by rw [beq_eq_false_iff_ne]; intro e; exact h39 (UInt8.toNat_inj.1 (by show _ = 39; omega))
        have HN2 : Hid ((39 : UInt8) ∉ S.data.toList.take (k + 1)) := by
          show ¬ _
          rw [Lp.take_snoc S k hlt, hy, List.mem_append, List.mem_singleton]
          rintro (h | h)
          · exact HN.out h
          · exact h39 h.symm
        clear h39 HN
        go_wp2
        go_round
        case rel => exact ⟨k + 1, by omega, by go_num, HN2⟩
        case measure => simp [intOf]; omega
    · obtain rfl : k = S.size := by omega
      have HN2 : Hid ((39 : UInt8) ∉ S.data.toList) := by have := HN.out; rw [Lp.take_all] at this; exact this
      clear HN
      have hcv := Lib.run_convert_string_bytes (P := Tryd.prog) w1 9 34 5 S Tryd.underlying9 Tryd.underlying34 Tryd.underlying5
      have hbE := bytes_under hb1 hb1.size 5 S
      have hbE1 := bytes_under (Below.refl w1.heap.size w1) (Nat.le_refl _) 5 S
      have HC0 : Hid (∀ j u, (bv S.data.toList)[j]? = some u → (Lib.bytesWorld w1 5 S).cell? ⟨w1.heap.size, j, none⟩ = some u) := bytes_cells w1 5 S
      have HF0 : Hid (∀ j, j < S.size → (Lib.bytesWorld w1 5 S).frozen? ⟨w1.heap.size, j, none⟩ = false) := bytes_free w1 5 S
      generalize grownCap w1 S.size 0 5 = cp at *
      have hw1 := hb1.size
      go_wp2_with fail
      generalize Lib.bytesWorld w1 5 S = wb at *
      go_loopg [7, 8, 9, 35] (S.size + 1) (fun gk _ _ _ s35 wr => ∃ (k : Nat) (X : List UInt8), k ≤ S.size ∧ gk = S.size + 1 - k ∧ s35 = .int .i64 k ∧ Hid (∀ j u, (bv X)[j]? = some u → wr.cell? ⟨w1.heap.size, j, none⟩ = some u) ∧ Hid (∀ j, j < S.size → wr.frozen? ⟨w1.heap.size, j, none⟩ = false) ∧ Hid (X.map Lp.lowB = S.data.toList.map Lp.lowB) ∧ Hid ((39 : UInt8) ∉ X) ∧ Hid (X.length = S.size) ∧ Below w.heap.size w wr ∧ Below w1.heap.size w1 wr)
      case atStart => exact ⟨0, S.data.toList, by omega, rfl, rfl, HC0, HF0, Lib.hid rfl, HN2, HSZ, hbE, hbE1⟩
      case round =>
        clear HC0 HF0 hbE hbE1 hcv
        obtain ⟨k, X, hk, rfl, rfl, HC, HFr, HL, H39, HXl, hbw, hbR⟩ := hrel
        have hsz := hbw.size
        have hk0 : (0 : Int) ≤ (k : Int) := by omega
        by_cases hlt : k < S.size
        · have hkX : k < X.length := by rw [HXl.out]; exact hlt
          have hlt' : (k : Int) < (S.size : Int) := by omega
          obtain ⟨y, hy⟩ : ∃ y, X[k]'hkX = y := ⟨_, rfl⟩
          have q0 : wr.cell? ⟨w1.heap.size, k, none⟩ = some (.int .u8 y.toNat) := by rw [← hy]; exact HC.out k _ (bv_at hkX)
          have f0 := HFr.out k hlt
          have hyl := y.toNat_lt
          have hup : ∃ up : Bool, (¬ (k : Int) < (gr.length : Int) ∧ up = false) ∨ ((k : Int) < (gr.length : Int) ∧ ∃ b off, A0 = some ⟨b, off, none⟩ ∧ wr.cell? ⟨b, off + k, none⟩ = some (.bool up)) := by
            by_cases hg : k < gr.length
            · have hr := hA0.below hbw
              have hu : (bov gr)[k]? = some (.bool gr[k]) := by simp [bov, List.getElem?_eq_getElem hg]
              obtain ⟨b, off, e1, e2⟩ := Rds.at_ hr hu
              exact ⟨gr[k], .inr ⟨by omega, b, off, e1, e2⟩⟩
            · exact ⟨false, .inl ⟨by omega, rfl⟩⟩
          obtain ⟨up, hup⟩ := hup
          have hcase : (97 ≤ y.toNat ∧ y.toNat ≤ 122) ∨ (65 ≤ y.toNat ∧ y.toNat ≤ 90) ∨ (y.toNat < 65 ∨ (90 < y.toNat ∧ y.toNat < 97) ∨ 122 < y.toNat) := by omega
          rcases hup with ⟨hg, rfl⟩ | ⟨hg, b, off, rfl, qb⟩
          · rcases hcase with ⟨g1, g2⟩ | ⟨g1, g2⟩ | g1 | ⟨g1, g2⟩ | g1
            · as_aux_lemma =>
                clear hy
                go_wp2
                go_roundg (S.size + 1 - (k + 1))
                case measure => omega
                case rel => exact ⟨k + 1, X, by omega, rfl, by go_num, HC, HFr, HL, H39, HXl, hbw, hbR⟩
            · as_aux_lemma =>
                obtain ⟨t1, t2, t3⟩ := Lp.turn_down g1 g2
                have HC2 := Lib.hid (store_cells (y + 32) HC.out hkX)
                have HL2 : Hid ((X.set k (y + 32)).map Lp.lowB = S.data.toList.map Lp.lowB) := by show _ = _; rw [set_low hkX (by rw [t1, hy]), HL.out]
                have H392 : Hid ((39 : UInt8) ∉ X.set k (y + 32)) := set_39 H39.out t2
                have hbw2 := hbw.setCell (p := ⟨w1.heap.size, k, none⟩) hw1 (.int .u8 (y + 32).toNat)
                have hbR2 := hbR.setCell (p := ⟨w1.heap.size, k, none⟩) (Nat.le_refl _) (.int .u8 (y + 32).toNat)
                have HF2 : Hid (∀ j, j < S.size → (wr.setCell ⟨w1.heap.size, k, none⟩ (.int .u8 (y + 32).toNat)).frozen? ⟨w1.heap.size, j, none⟩ = false) := by
                  intro j hj
                  rw [World.frozen?_setCell]; exact HFr.out j hj
                have HX2 : Hid ((X.set k (y + 32)).length = S.size) := by show _ = _; rw [List.length_set]; exact HXl.out
                have t3' : (((y + 32).toNat : Nat) : Int) = (y.toNat : Int) + 32 := by rw [t3]; omega
                rw [t3'] at hbw2 hbR2 HC2 HF2
                have HY := Lib.hid hy
                clear t1 t2 t3 t3' hy HC HL H39 HFr HXl
                go_wp2
                go_roundg (S.size + 1 - (k + 1))
                case measure => omega
                case rel => exact ⟨k + 1, X.set k (y + 32), by omega, rfl, by go_num, HC2, HF2, HL2, H392, HX2, hbw2, hbR2⟩
            · as_aux_lemma =>
                clear hy
                go_wp2
                go_roundg (S.size + 1 - (k + 1))
                case measure => omega
                case rel => exact ⟨k + 1, X, by omega, rfl, by go_num, HC, HFr, HL, H39, HXl, hbw, hbR⟩
            · as_aux_lemma =>
                clear hy
                go_wp2
                go_roundg (S.size + 1 - (k + 1))
                case measure => omega
                case rel => exact ⟨k + 1, X, by omega, rfl, by go_num, HC, HFr, HL, H39, HXl, hbw, hbR⟩
            · as_aux_lemma =>
                clear hy
                go_wp2
                go_roundg (S.size + 1 - (k + 1))
                case measure => omega
                case rel => exact ⟨k + 1, X, by omega, rfl, by go_num, HC, HFr, HL, H39, HXl, hbw, hbR⟩
          · have hlt3 : (0 : Int) ≤ (k : Int) := hk0
            cases up
            · rcases hcase with ⟨g1, g2⟩ | ⟨g1, g2⟩ | g1 | ⟨g1, g2⟩ | g1
              · as_aux_lemma =>
                  clear hy
                  go_wp2
                  go_roundg (S.size + 1 - (k + 1))
                  case measure => omega
                  case rel => exact ⟨k + 1, X, by omega, rfl, by go_num, HC, HFr, HL, H39, HXl, hbw, hbR⟩
              · as_aux_lemma =>
                  obtain ⟨t1, t2, t3⟩ := Lp.turn_down g1 g2
                  have HC2 := Lib.hid (store_cells (y + 32) HC.out hkX)
                  have HL2 : Hid ((X.set k (y + 32)).map Lp.lowB = S.data.toList.map Lp.lowB) := by show _ = _; rw [set_low hkX (by rw [t1, hy]), HL.out]
                  have H392 : Hid ((39 : UInt8) ∉ X.set k (y + 32)) := set_39 H39.out t2
                  have hbw2 := hbw.setCell (p := ⟨w1.heap.size, k, none⟩) hw1 (.int .u8 (y + 32).toNat)
                  have hbR2 := hbR.setCell (p := ⟨w1.heap.size, k, none⟩) (Nat.le_refl _) (.int .u8 (y + 32).toNat)
                  have HF2 : Hid (∀ j, j < S.size → (wr.setCell ⟨w1.heap.size, k, none⟩ (.int .u8 (y + 32).toNat)).frozen? ⟨w1.heap.size, j, none⟩ = false) := by
                    intro j hj
                    rw [World.frozen?_setCell]; exact HFr.out j hj
                  have HX2 : Hid ((X.set k (y + 32)).length = S.size) := by show _ = _; rw [List.length_set]; exact HXl.out
                  have t3' : (((y + 32).toNat : Nat) : Int) = (y.toNat : Int) + 32 := by rw [t3]; omega
                  rw [t3'] at hbw2 hbR2 HC2 HF2
                  have HY := Lib.hid hy
                  clear t1 t2 t3 t3' hy HC HL H39 HFr HXl
                  go_wp2
                  go_roundg (S.size + 1 - (k + 1))
                  case measure => omega
                  case rel => exact ⟨k + 1, X.set k (y + 32), by omega, rfl, by go_num, HC2, HF2, HL2, H392, HX2, hbw2, hbR2⟩
              · as_aux_lemma =>
                  clear hy
                  go_wp2
                  go_roundg (S.size + 1 - (k + 1))
                  case measure => omega
                  case rel => exact ⟨k + 1, X, by omega, rfl, by go_num, HC, HFr, HL, H39, HXl, hbw, hbR⟩
              · as_aux_lemma =>
                  clear hy
                  go_wp2
                  go_roundg (S.size + 1 - (k + 1))
                  case measure => omega
                  case rel => exact ⟨k + 1, X, by omega, rfl, by go_num, HC, HFr, HL, H39, HXl, hbw, hbR⟩
              · as_aux_lemma =>
                  clear hy
                  go_wp2
                  go_roundg (S.size + 1 - (k + 1))
                  case measure => omega
                  case rel => exact ⟨k + 1, X, by omega, rfl, by go_num, HC, HFr, HL, H39, HXl, hbw, hbR⟩
            · rcases hcase with ⟨g1, g2⟩ | ⟨g1, g2⟩ | g1 | ⟨g1, g2⟩ | g1
              · as_aux_lemma =>
                  obtain ⟨t1, t2, t3⟩ := Lp.turn_up g1 g2
                  have HC2 := Lib.hid (store_cells (y - 32) HC.out hkX)
                  have HL2 : Hid ((X.set k (y - 32)).map Lp.lowB = S.data.toList.map Lp.lowB) := by show _ = _; rw [set_low hkX (by rw [t1, hy]), HL.out]
                  have H392 : Hid ((39 : UInt8) ∉ X.set k (y - 32)) := set_39 H39.out t2
                  have hbw2 := hbw.setCell (p := ⟨w1.heap.size, k, none⟩) hw1 (.int .u8 (y - 32).toNat)
                  have hbR2 := hbR.setCell (p := ⟨w1.heap.size, k, none⟩) (Nat.le_refl _) (.int .u8 (y - 32).toNat)
                  have HF2 : Hid (∀ j, j < S.size → (wr.setCell ⟨w1.heap.size, k, none⟩ (.int .u8 (y - 32).toNat)).frozen? ⟨w1.heap.size, j, none⟩ = false) := by
                    intro j hj
                    rw [World.frozen?_setCell]; exact HFr.out j hj
                  have HX2 : Hid ((X.set k (y - 32)).length = S.size) := by show _ = _; rw [List.length_set]; exact HXl.out
                  have t3' : (((y - 32).toNat : Nat) : Int) = (y.toNat : Int) - 32 := by rw [t3]; omega
                  rw [t3'] at hbw2 hbR2 HC2 HF2
                  have HY := Lib.hid hy
                  clear t1 t2 t3 t3' hy HC HL H39 HFr HXl
                  go_wp2
                  go_roundg (S.size + 1 - (k + 1))
                  case measure => omega
                  case rel => exact ⟨k + 1, X.set k (y - 32), by omega, rfl, by go_num, HC2, HF2, HL2, H392, HX2, hbw2, hbR2⟩
              · as_aux_lemma =>
                  clear hy
                  go_wp2
                  go_roundg (S.size + 1 - (k + 1))
                  case measure => omega
                  case rel => exact ⟨k + 1, X, by omega, rfl, by go_num, HC, HFr, HL, H39, HXl, hbw, hbR⟩
              · as_aux_lemma =>
                  clear hy
                  go_wp2
                  go_roundg (S.size + 1 - (k + 1))
                  case measure => omega
                  case rel => exact ⟨k + 1, X, by omega, rfl, by go_num, HC, HFr, HL, H39, HXl, hbw, hbR⟩
              · as_aux_lemma =>
                  clear hy
                  go_wp2
                  go_roundg (S.size + 1 - (k + 1))
                  case measure => omega
                  case rel => exact ⟨k + 1, X, by omega, rfl, by go_num, HC, HFr, HL, H39, HXl, hbw, hbR⟩
              · as_aux_lemma =>
                  clear hy
                  go_wp2
                  go_roundg (S.size + 1 - (k + 1))
                  case measure => omega
                  case rel => exact ⟨k + 1, X, by omega, rfl, by go_num, HC, HFr, HL, H39, HXl, hbw, hbR⟩
        · as_aux_lemma =>
            obtain rfl : k = S.size := by omega
            have hge : ¬ (S.size : Int) < (S.size : Int) := by omega
            have hTr := tabs_below hT1 (show Below w1.heap.size w1 wr from hbR)
            have hrX : Rds wr (some ⟨w1.heap.size, 0, none⟩) (bv X) := .inr ⟨_, 0, rfl, fun j u hu => by rw [Nat.zero_add]; exact HC.out j u hu⟩
            have hTX := Lp.low_toks H39.out HN2.out HL.out
            obtain ⟨L, E, hL⟩ : ∃ L E, Lp.toks S.data.toList = (L, E) := pair_of _
            have hlL := toks_few S.data.toList
            rw [hL] at hlL hTX
            simp only at hlL
            have HLs := Lib.hid (fun W h => lsplit_is S L E hL W h (by omega))
            have HXs := Lib.hid (fun W h => lsplit_is (⟨X.toArray⟩ : ByteArray) L E (by simpa using hTX) W h (by have := HXl.out; show X.toArray.size ≤ _; simp; omega))
            have HXL := Lib.hid HXl.out.symm
            clear hTX hL HC HFr HL H39 HN2
            go_wp2_with fail
            refine (HLs.out _ hTr).mono ?_
            rintro e w3 ⟨hb3, A, c, rfl, hc, hown⟩
            have k3 := hbw.trans (hb3.mono hsz)
            have hT3 := tabs_below hTr hb3
            have r3 : RdsT w3 A L := Rds.own hown
            have hcv2 := conv_rds (A := some ⟨w1.heap.size, 0, none⟩) (l := X) S.size cp HXL.out (hrX.below hb3)
            clear hb3 hbw hTr hown hrX
            go_wp2_with fail
            refine (HXs.out _ hT3).mono ?_
            rintro e w4 ⟨hb4, A2, c2, rfl, hc2, hown2⟩
            have k4 := k3.trans (hb4.mono k3.size)
            have r4 : RdsT w4 A2 L := Rds.own hown2
            have r3' := Rds.below r3 hb4
            clear k3 hb4 hT3 hown2 r3 hcv2
            go_wp2_with fail
            refine (back_any A _ c L rfl _ r3' (by omega)).mono ?_
            rintro e w5 ⟨⟨A5, c5, rfl, hown5⟩, hb5⟩
            have r5 : RdsT w5 A5 L := Rds.own hown5
            have r4' := Rds.below r4 hb5
            have k5 := k4.trans (hb5.mono k4.size)
            clear hown5 hb5 k4 r4 r3'
            go_wp2_with fail
            refine (back_any A2 _ c2 L rfl _ r4' (by omega)).mono ?_
            rintro e w6 ⟨⟨A6, c6, rfl, hown6⟩, hb6⟩
            have r6 : RdsT w6 A6 L := Rds.own hown6
            have r5' := Rds.below r5 hb6
            have k6 := k5.trans (hb6.mono k5.size)
            clear hown6 hb6 k5 r5 r4'
            go_wp2_with fail
            refine (tsame_any A5 A6 _ _ c5 c6 L rfl rfl _ r5' r6 (by omega)).mono ?_
            rintro e w7 ⟨rfl, hb7⟩
            go_wp2
            go_ret
            exact ⟨by simp, k6.trans (hb7.mono k6.size)⟩
end Go.Proofs.YtmdmcfobdbccmaaDoor
