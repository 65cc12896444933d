/-
  What lex.text gives, of a text's first quote and whatever is behind it. Conditions: unicode/utf8's tables as laid; at most 10^9 bytes.
-/
import Derived.Test.YtmdmcfobdbccmaaDoorLexW
import Derived.Test.YtmdmcfobdbccmaaDoorPlainText
import Derived.Test.YtmdmcfobdbccmaaDoorRight
import Derived.Test.YtmdmcfobdbccmaaDoorMem
import Derived.BigCall
namespace Go.Proofs.YtmdmcfobdbccmaaDoor
open Go.RowKit

theorem bstart (w : World) : Lib.IsBuilderF 77 5 w.heap.size w.heap.size (Lib.byteCells []) (w.alloc (.cells #[.pointer none, .slice none 0 0] 77)) := Lib.IsBuilderF.of (Lib.fresh_isBuilder 77 5 w)
theorem bbyte (B b : Nat) (bs : List Value) (c : Int) (w : World) (h : Lib.IsBuilderF 77 5 B b bs w) (hlen : bs.length + 1 ≤ 140737488355328) (hBw : B ≤ w.heap.size) :
    Calls Tryd.prog 56 #[.pointer (some ⟨b, 0, none⟩), .int .u8 c] w fun e w' => e = .returned .nilIface ∧ (Lib.IsBuilderF 77 5 B b (bs ++ [.int .u8 c]) w' ∧ Below B w w' ∧ Lib.OthersKept 5 (some b) w w') :=
  (Any.Builder_WriteByte_k (ρ := Tryd.lays230_ren) { Tryd.lays230 with } Tryd.Builder_Extra_230 B b bs c w h hlen hBw).mono fun _ _ h => ⟨h.1, Or.inr h.2.1, h.2.2⟩
theorem bstring (B b : Nat) (bs : List Value) (s : ByteArray) (w : World) (h : Lib.IsBuilderF 77 5 B b bs w) (hlen : bs.length + s.size ≤ 140737488355328) (hBw : B ≤ w.heap.size) :
    Calls Tryd.prog 49 #[.pointer (some ⟨b, 0, none⟩), .string s] w fun e w' => e = .returned (.tuple #[.int .i64 s.size, .nilIface]) ∧ (Lib.IsBuilderF 77 5 B b (bs ++ Lib.strCells s) w' ∧ Below B w w' ∧ Lib.OthersKept 5 (some b) w w') :=
  (Any.Builder_WriteString_k (ρ := Tryd.lays230_ren) { Tryd.lays230 with } Tryd.Builder_Extra_230 B b bs s w h hlen hBw).mono fun _ _ h => ⟨h.1, Or.inr h.2.1, h.2.2⟩
theorem decode_any (s : ByteArray) (w : World) (hT : Tabs w) :
    Calls Tryd.prog 31 #[.string s] w fun e w' => e = .returned (.tuple #[.int .i32 (Lib.decodeGo s).1, .int .i64 (Lib.decodeGo s).2]) ∧ Below w.heap.size w w' := Tryd.utf8_DecodeRuneInString s w hT

def TextPost (l : List UInt8) (w : World) (e : Ending) (w' : World) : Prop :=
  e = .returned (.tuple #[.string ⟨(Lp.txtS (Lp.txt l)).toArray⟩, .int .i64 (Lp.txtN (Lp.txt l) : Nat)]) ∧ Below w.heap.size w w'
theorem textPost_none {l : List UInt8} {w w' : World} (h : Lp.txt l = none) (hb : Below w.heap.size w w') : TextPost l w (.returned (.tuple #[.string ⟨#[]⟩, .int .i64 0])) w' := by
  unfold TextPost; rw [h]; exact ⟨rfl, hb⟩
theorem textPost_some {l acc : List UInt8} {n : Nat} {w w' : World} (h : Lp.txt l = some (acc, n)) (hb : Below w.heap.size w w') : TextPost l w (.returned (.tuple #[.string ⟨acc.toArray⟩, .int .i64 ((n : Int) + 1)])) w' := by
  unfold TextPost; rw [h]; exact ⟨rfl, hb⟩

set_option maxRecDepth 100000 in
set_option maxHeartbeats 4000000 in
theorem text_any (s : ByteArray) (w : World) (hs : s.size ≤ 1000000000) (h1 : 1 ≤ s.size) (hT : Tabs w) :
    Calls Tryd.prog 39 #[.string s] w (TextPost (s.data.toList.drop 1) w) := by
  have HSD : Hid ((s.extract 1 s.size).data.toList = s.data.toList.drop 1) := by show _ = _; rw [Lib.extract_data, List.take_of_length_le (by simp)]
  have HSS : Hid ((s.extract 1 s.size).size = s.size - 1) := by show _ = _; simp
  rw [← HSD.out]
  have hss1 : (s.extract 1 s.size).size ≤ 1000000000 := by rw [HSS.out]; omega
  have hss2 : (s.extract 1 s.size).size + 1 ≤ s.size := by rw [HSS.out]; omega
  have hss3 : s.size ≤ (s.extract 1 s.size).size + 1 := by rw [HSS.out]; omega
  have hb0 := ((Below.refl w.heap.size w).alloc (Nat.le_refl _) (.cells #[.pointer none, .slice none 0 0] 77)).alloc (by simp) (.stringIter (s.extract 1 s.size) 0)
  have hI0 := (bstart w).alloc (.stringIter (s.extract 1 s.size) 0)
  have hit0 : ((w.alloc (.cells #[.pointer none, .slice none 0 0] 77)).alloc (.stringIter (s.extract 1 s.size) 0)).heap[w.heap.size + 1]? = some (.stringIter (s.extract 1 s.size) 0) := heap_new2 w _ _
  go_enter Tryd.func39, Tryd.ntmps39
  go_wp2
  go_loopw [5, 6, 7, 8, 9] (fun q _ _ _ _ wr => ∃ (pos : Nat) (acc : List UInt8) (qq : Bool), q = .bool qq ∧ Lib.IsBuilderF 77 5 w.heap.size w.heap.size (Lib.byteCells acc) wr ∧ wr.heap[w.heap.size + 1]? = some (.stringIter (s.extract 1 s.size) pos) ∧ Below w.heap.size w wr ∧ pos ≤ (s.extract 1 s.size).size ∧ acc.length ≤ pos ∧ Hid (Lp.TextAt (s.extract 1 s.size).data.toList acc pos qq)) (fun _ _ _ _ _ wr => s.size - wr.iterPos (w.heap.size + 1))
  case atStart => exact ⟨0, [], false, rfl, hI0, hit0, hb0, Nat.zero_le _, Nat.le_refl _, Lp.textAt_start _⟩
  case round =>
    clear hI0 hit0 hb0
    obtain ⟨pos, acc, qq, rfl, hI, hit, hbw, hle, hal, HA⟩ := hrel
    have hpos0 := iterPos_at hit
    have hsz : w.heap.size + 1 < wr.heap.size := (Array.getElem?_eq_some_iff.1 hit).1
    have hsz0 := hbw.size
    by_cases hp : pos < (s.extract 1 s.size).size
    · have hnx0 : ∀ ty, (Instr.next (.pointer (some ⟨w.heap.size + 1, 0, none⟩)) true ty).run Tryd.prog wr = _ := fun ty => Lib.run_next_any_at wr (w.heap.size + 1) (s.extract 1 s.size) pos ty hit hp
      have hgt : (s.extract 1 s.size).data.toList[pos]? = some ((s.extract 1 s.size)[pos]'hp) := Lp.get_data _ _ hp
      have hI2 := hI.iterAt hit (pos + (Utf8.decode (s.extract 1 s.size) pos).2)
      have hit2 := Lib.iterAt_heap wr (w.heap.size + 1) (s.extract 1 s.size) pos (pos + (Utf8.decode (s.extract 1 s.size) pos).2) hit
      have hbw2 := Lib.below_iterAt hbw (k := w.heap.size + 1) (by omega) (s.extract 1 s.size) (pos + (Utf8.decode (s.extract 1 s.size) pos).2)
      have hsz2 : w.heap.size ≤ (wr.iterAt (w.heap.size + 1) (s.extract 1 s.size) (pos + (Utf8.decode (s.extract 1 s.size) pos).2)).heap.size := by rw [Lib.iterAt_size]; omega
      by_cases hr : (Utf8.decode (s.extract 1 s.size) pos).1 = 39
      · obtain ⟨hc, hk⟩ := Lp.rune_quote _ _ hp hr
        rw [hc] at hgt
        have hnx := hnx0
        rw [hr, hk] at hnx
        rw [hk] at hI2 hit2 hbw2 hsz2
        have hp2 := iterPos_at hit2
        cases qq
        · have HA2 := Lib.hid (Lp.textAt_quote HA.out hgt)
          clear hnx0 hr hk hgt hc HA
          go_wp2
          go_roundw
          case rel => exact ⟨pos + 1, acc, true, rfl, hI2, hit2, hbw2, by omega, by omega, HA2⟩
          case measure => rw [hp2, hpos0]; omega
        · have HA2 := Lib.hid (Lp.textAt_two HA.out hgt)
          clear hnx0 hr hk hgt hc HA
          go_wp2_with fail
          refine (bbyte w.heap.size w.heap.size _ 39 _ hI2 (by rw [Lib.byteCells_length]; omega) hsz2).mono ?_
          rintro e W1 ⟨rfl, g1, b1, k1⟩
          have hit3 := k1.iter hit2 (by omega)
          have hp3 := iterPos_at hit3
          have hbw3 := hbw2.trans b1
          go_wp2
          go_roundw
          case rel => exact ⟨pos + 1, acc ++ [39], false, rfl, by rw [Lib.byteCells_append]; exact g1, hit3, hbw3, by omega, by simp; omega, HA2⟩
          case measure => rw [hp3, hpos0]; omega
      · obtain ⟨hk1, hk2, hk3⟩ := Lp.rune_free _ _ hp hr
        have hc := Lp.rune_other _ _ hp hr
        have hce : (((Utf8.decode (s.extract 1 s.size) pos).1 : Int) == 39) = false := by rw [beq_eq_false_iff_ne]; omega
        cases qq
        · have HA2 := Lib.hid (Lp.textAt_rune HA.out (by simpa using hk1) hk3)
          have hdg : Lib.decodeGo (s.extract (1 + pos) s.size) = Utf8.decode (s.extract 1 s.size) pos := by
            rw [Lp.rune_tail, Lib.decodeGo_extract s (1 + pos) (by omega)]
          have hst : Hid (Lib.strCells (s.extract (1 + pos) (1 + pos + (Utf8.decode (s.extract 1 s.size) pos).2)) = Lib.byteCells (((s.extract 1 s.size).data.toList.drop pos).take (Utf8.decode (s.extract 1 s.size) pos).2)) := by
            show _ = _
            rw [Lib.strCells_eq, Lib.extract_data, HSD.out, List.drop_drop]
            congr 2
            omega
          have hlt : (((s.extract 1 s.size).data.toList.drop pos).take (Utf8.decode (s.extract 1 s.size) pos).2).length ≤ (Utf8.decode (s.extract 1 s.size) pos).2 := List.length_take_le _ _
          have HDG := Lib.hid hdg
          generalize ((s.extract 1 s.size).data.toList.drop pos).take (Utf8.decode (s.extract 1 s.size) pos).2 = T at *
          generalize (Utf8.decode (s.extract 1 s.size) pos) = ck at *
          obtain ⟨c, k⟩ := ck
          simp only at hk1 hk2 hlt hce hnx0 hI2 hit2 hbw2 hsz2
          have hp2 := iterPos_at hit2
          have hT2 := tabs_below hT hbw2
          clear hdg hgt hc HA hk3 hr hI
          have hD := fun W h => decode_any (s.extract (1 + pos) s.size) W h
          rw [HDG.out] at hD
          have HDC := Lib.hid hD
          have hxs : (s.extract (1 + pos) (1 + pos + k)).size = k := by simp; simp at hk1; omega
          have HXS := Lib.hid hxs
          clear hD hxs
          go_wp2_with fail
          refine (HDC.out _ hT2).mono ?_
          rintro e W1 ⟨rfl, b1⟩
          have hI3 := hI2.below b1
          have hit3 := box_below hit2 b1
          have hbw3 := hbw2.trans (b1.mono hsz2)
          have hsz3 := hbw3.size
          clear hI2 b1
          go_wp2_with fail
          refine (bstring w.heap.size w.heap.size _ _ _ hI3 (by rw [Lib.byteCells_length, HXS.out]; omega) hsz3).mono ?_
          rintro e W2 ⟨rfl, g2, b2, k2⟩
          rw [hst.out, ← Lib.byteCells_append] at g2
          have hit4 := k2.iter hit3 (by omega)
          have hp4 := iterPos_at hit4
          have hbw4 := hbw3.trans b2
          have hal2 : (acc ++ T).length ≤ pos + k := by rw [List.length_append]; omega
          clear hI3 hit3 hbw3 hit2 hbw2 hbw hit
          go_wp2
          go_roundw
          case rel => exact ⟨pos + k, acc ++ T, false, rfl, g2, hit4, hbw4, hk1, hal2, HA2⟩
          case measure => rw [hp4, hpos0]; omega
        · have HA2 := Lib.hid (Lp.textAt_end HA.out hgt hc)
          generalize (Utf8.decode (s.extract 1 s.size) pos).1 = c at *
          generalize (Utf8.decode (s.extract 1 s.size) pos).2 = k at *
          clear hgt hc HA hk3 hr hI
          go_wp2_with fail
          refine (Tryd.Builder_String_any_k w.heap.size w.heap.size acc _ hI2 hsz2).mono ?_
          rintro e W1 ⟨rfl, _, b1, _⟩
          go_wp2
          go_ret2
          exact textPost_some HA2.out (hbw2.trans b1)
    · have hnx : ∀ ty, (Instr.next (.pointer (some ⟨w.heap.size + 1, 0, none⟩)) true ty).run Tryd.prog wr = _ := fun ty => Lib.run_next_end_at wr (w.heap.size + 1) (s.extract 1 s.size) pos ty hit hp
      cases qq
      · have HA2 := Lib.hid (Lp.textAt_none HA.out (by simp; simp at hp; omega))
        clear HA
        go_wp2
        go_ret2
        exact textPost_none HA2.out hbw
      · have HA2 := Lib.hid (Lp.textAt_last HA.out (by simp; simp at hp; omega))
        have hps : Hid ((s.size : Int) = (pos : Int) + 1) := by show _ = _; omega
        clear HA
        go_wp2_with fail
        refine (Tryd.Builder_String_any_k w.heap.size w.heap.size acc _ hI hsz0).mono ?_
        rintro e W1 ⟨rfl, _, b1, _⟩
        go_wp2
        go_ret2
        rw [hps.out]
        exact textPost_some HA2.out (hbw.trans b1)
end Go.Proofs.YtmdmcfobdbccmaaDoor
