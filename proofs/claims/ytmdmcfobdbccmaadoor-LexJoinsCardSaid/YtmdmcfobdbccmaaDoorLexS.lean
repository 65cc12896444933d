/-
  What lex.Split gives, of any text. Conditions: unicode/utf8's tables as laid.
-/
import Derived.Test.YtmdmcfobdbccmaaDoorLexY
import Derived.Deep.RegionHeld3
import Derived.Deep.LoopGhost
namespace Go.Proofs.YtmdmcfobdbccmaaDoor
open Go.RowKit

theorem next_any (s : ByteArray) (c : UInt8) (r : List UInt8) (hl : s.data.toList = c :: r) (w : World) (hs : s.size ≤ 1000000000) (hT : Tabs w) :
    Calls Tryd.prog 17 #[.string s] w (NextPost (c :: r) w) := by
  cases hc : Lp.letB c
  · cases hi : Lp.isDig c
    · by_cases h39 : c = 39
      · subst h39
        cases ht : Lp.txt r with
        | none => exact next_text_none s r hl w hs ht hT
        | some p =>
          obtain ⟨t, n⟩ := p
          cases hv : Lib.validD t
          · exact next_text_bad s r hl w hs t n ht hv hT
          · cases hz : t.contains 0
            · by_cases h60 : t.length ≤ 60
              · exact next_text_good s r hl w hs t n ht hv hz h60 hT
              · exact next_text_long s r hl w hs t n ht hv hz h60 hT
            · exact next_text_zero s r hl w hs t n ht hv hz hT
      · by_cases hg : Lp.signN (c :: r) = 0
        · exact next_nosign s c r hl w hs hc hi h39 hg hT
        · exact next_sign s c r hl w hs hc hi h39 hg hT
    · exact next_num s c r hl w hs hc hi hT
  · exact next_word s c r hl w hs hc hT
theorem own_under {w w' : World} {B n size : Nat} {e : TypeId} {v : Value} {xs : List Value} (h : w.ownsRow B e size v n xs) (hb : Below w.heap.size w w') : w'.ownsRow B e size v n xs := by
  have hg : w.grownBy w' none := ⟨hb.os, hb.tape, hb.output, hb.size, fun i hi _ => hb.block i hi⟩
  refine h.kept hg ?_
  cases hv : v.ownBlock
  · exact .inl rfl
  · exact .inr (by simp)
theorem own_cap {w : World} {B n c : Nat} {e : TypeId} {size : Nat} {A : Option Addr} {xs : List Value} (h : w.ownsRow B e size (.slice A n c) n xs) : n ≤ c := by
  obtain ⟨A', c', hv, h1⟩ := own_form h
  injection hv with _ _ hc
  omega
/-- A row of tokens. -/
def RdsT (w : World) (A : Option Addr) (l : List Lp.Tok) : Prop := Rds w A (Lp.tkv l)
theorem tkv_length (l : List Lp.Tok) : (Lp.tkv l).length = l.length * 3 := by
  induction l with
  | nil => rfl
  | cons v l ih => rw [show Lp.tkv (v :: l) = v.cells ++ Lp.tkv l from rfl, List.length_append, ih, List.length_cons]; simp [Lp.Tok.cells]; omega
theorem tkv_append (l m : List Lp.Tok) : Lp.tkv (l ++ m) = Lp.tkv l ++ Lp.tkv m := by simp [Lp.tkv]
theorem tkv_one (l : List Lp.Tok) : ∀ u ∈ Lp.tkv l, u.oneCell' = true := by
  intro u hu
  simp only [Lp.tkv, List.mem_flatMap] at hu
  obtain ⟨v, _, hv⟩ := hu
  simp only [Lp.Tok.cells, List.mem_cons, List.not_mem_nil, or_false] at hv
  rcases hv with rfl | rfl | rfl <;> rfl
theorem tokInfo : (Tryd.prog.info? 41).map (fun i => (i.zero, i.size, i.bytes)) = some (some (.agg #[.int .u8 0, .string ⟨#[]⟩, .int .i64 0]), 3, 32) := by kernel_rfl
theorem rtokInfo : (Tryd.prog.info? 36).map (fun i => (i.zero, i.size, i.bytes)) = some (some (.agg #[.int .u8 0, .string ⟨#[]⟩, .int .i64 0]), 3, 32) := by kernel_rfl
theorem blank_idx (c : UInt8) : Lp.blankB c = decide (0 ≤ Lib.indexByte [32, 9, 10, 13] c) := by
  rw [← Lib.contains_iff_indexByte, Bool.eq_iff_iff, List.contains_iff_mem]
  unfold Lp.blankB
  simp [← UInt8.toNat_inj]
  omega
/-- Tokens behind a call, or none and the error: the tokens are the call's own. -/
def SplPost (t : TypeId) (w : World) (p : List Lp.Tok × Int) (e : Ending) (w' : World) : Prop :=
  Below w.heap.size w w' ∧ ∃ A c, e = .returned (.tuple #[.slice A p.1.length c, .int .i64 p.2]) ∧ p.1.length ≤ c ∧ w'.ownsRow w.heap.size t 3 (.slice A p.1.length c) p.1.length (Lp.tkv p.1)
theorem splPost_err {t : TypeId} {w w' : World} {p : List Lp.Tok × Int} {E : Int} (hp : p = ([], E)) (hb : Below w.heap.size w w') : SplPost t w p (.returned (.tuple #[.slice none 0 0, .int .i64 E])) w' := by
  subst hp; exact ⟨hb, none, 0, rfl, Nat.le_refl _, World.ownsRow_nil _ _ _ _⟩
set_option maxRecDepth 100000 in
set_option maxHeartbeats 4000000 in
theorem lsplit_any (s : ByteArray) (w : World) (hT : Tabs w) (hs0 : s.size ≤ 9223372036854775807) :
    Calls Tryd.prog 10 #[.string s] w (SplPost 41 w (Lp.toks s.data.toList)) := by
  have hsz : s.data.toList.length = s.size := by rw [Array.length_toList]; rfl
  by_cases hlong : 2000 < s.size
  · have HF := Lib.hid (Lp.toks_long (l := s.data.toList) (by rw [hsz]; exact hlong))
    have h2 : (2000 : Int) < (s.size : Int) := by omega
    clear hsz
    go_enter Tryd.func10, Tryd.ntmps10
    go_wp2
    go_ret2
    exact splPost_err HF.out (Below.refl _ _)
  · have HF := Lib.hid (Lp.toks_short (l := s.data.toList) (by rw [hsz]; omega))
    have h2 : ¬ (2000 : Int) < (s.size : Int) := by omega
    obtain ⟨iT, hiT, hz0, hz1, hz2⟩ := info_parts tokInfo
    clear hsz
    go_enter Tryd.func10, Tryd.ntmps10
    go_wp2_with fail
    go_loopg [0, 4, 5, 6, 7] (s.size + 1) (fun gk s0 s4 _ _ _ wr => ∃ (B : ByteArray) (L : List Lp.Tok) (A : Option Addr) (c : Nat), s0 = .string B ∧ gk = B.size + 1 ∧ B.size ≤ 2000 ∧ s4 = .slice A L.length c ∧ wr.ownsRow w.heap.size 41 3 (.slice A L.length c) L.length (Lp.tkv L) ∧ L.length + B.size ≤ 2000 ∧ Hid (Lp.toks s.data.toList = Lp.splA L B.data.toList) ∧ Below w.heap.size w wr)
    case atStart => exact ⟨s, [], none, 0, rfl, rfl, by omega, rfl, World.ownsRow_nil _ _ _ _, by simp; omega, HF.out, Below.refl _ _⟩
    case round =>
      clear HF
      obtain ⟨B, L, A, c, rfl, rfl, hB, rfl, hown, hLB, HR, hbw⟩ := hrel
      have hsz := hbw.size
      have hTr := tabs_below hT hbw
      rcases hl : B.data.toList with _ | ⟨x, r⟩
      · have hB0 : B.size = 0 := size_of hl
        have h0e : B.toList.isEmpty = true := by rw [ByteArray.toList_eq, hl]; rfl
        have HF : Hid (Lp.toks s.data.toList = (L, 0)) := by show _ = _; rw [HR.out, hl, Lp.splA_nil]
        clear HR hl hB0
        go_wp2
        go_ret2
        show SplPost _ _ _ _ _
        rw [HF.out]
        exact ⟨hbw, A, c, rfl, own_cap hown, hown⟩
      · have hB1 : B.size = r.length + 1 := size_of hl
        have h0e : B.toList.isEmpty = false := by rw [ByteArray.toList_eq, hl]; rfl
        have hb1 : 1 ≤ B.size := by omega
        have hx : B[0]'hb1 = x := by
          have := Lp.get_data B 0 hb1
          rw [hl] at this
          simpa using this.symm
        have hbi := blank_idx x
        cases hbl : Lp.blankB x
        · rw [hbl] at hbi
          have hi : Lib.indexByte [32, 9, 10, 13] x < 0 := by have := of_decide_eq_false hbi.symm; omega
          have hN := fun W h => next_any B x r hl W (by omega) h
          have HE : Hid (∀ n, (B.extract n B.size).data.toList = (x :: r).drop n) := by
            intro n; rw [Lib.extract_data, List.take_of_length_le (by simp), hl]
          have HEZ : Hid (∀ n, (B.extract n B.size).size = (r.length + 1) - n) := fun n => by
            have := size_of (HE.out n); rw [this, List.length_drop, List.length_cons]
          by_cases h0 : (Lp.nextT (x :: r)).2.2 = 0
          · have HR2 : Hid (Lp.toks s.data.toList = Lp.splA (L ++ [(Lp.nextT (x :: r)).1]) ((x :: r).drop (Lp.nextT (x :: r)).2.1)) := by show _ = _; rw [HR.out, hl, Lp.splA_tok _ hbl h0]
            have hn := Lp.nextT_n h0
            have e0 : ((Lp.nextT (x :: r)).2.2 == 0) = true := by rw [h0]; rfl
            unfold NextPost at hN
            generalize Lp.nextT (x :: r) = T at *
            obtain ⟨⟨tk, ts, tn⟩, n, E⟩ := T
            simp only at hN h0 hn HR2 e0
            obtain ⟨hn1, hn2⟩ := hn
            have HN := Lib.hid hN
            have HB1 := Lib.hid hB1
            have HBS : Hid (r.length + 1 = B.size) := hB1.symm
            have hnB : (n : Int) ≤ (B.size : Int) := by omega
            have hn0 : (0 : Int) ≤ (n : Int) := by omega
            clear hl hbi hbl HR hB1 hN h0
            go_wp2_with fail
            refine (Tryd.strings_IndexByte _ _ _).mono ?_
            rintro e w' ⟨rfl, rfl⟩
            go_wp2_with fail
            refine (HN.out _ hTr).mono ?_
            rintro e w1 ⟨rfl, b1⟩
            have hrel_own := own_under hown b1
            have hown1 := own_under hrel_own ((Below.refl _ _).alloc (Nat.le_refl _) (.cells #[.int .u8 tk, .string ⟨ts.toArray⟩, .int .i64 tn] 41))
            have hbw1 := (hbw.trans (b1.mono hsz)).alloc (Nat.le_trans hsz b1.size) (.cells #[.int .u8 tk, .string ⟨ts.toArray⟩, .int .i64 tn] 41)
            have hx1 := heap_alloc_new w1 (.cells #[.int .u8 tk, .string ⟨ts.toArray⟩, .int .i64 tn] 41)
            have hcx := box_cells hx1
            have hZ1 := hbw1.size
            have HZ : Hid (w.heap.size ≤ w1.heap.size) := Nat.le_trans hsz b1.size
            clear hown hbw b1
            have HNE : Hid (some w1.heap.size ≠ Value.ownBlock (.slice A L.length c)) := Lib.hid (own_old (w := w1) (by
              refine own_under (hrel_own) ?_
              exact Below.refl _ _) (Nat.le_refl _))
            go_wp2_with fail
            go_region_held3 (fun w' => w'.cell? ⟨w1.heap.size, 0, none⟩ = some (.int .u8 tk) ∧ w'.cell? ⟨w1.heap.size, 1, none⟩ = some (.string ⟨ts.toArray⟩) ∧ w'.cell? ⟨w1.heap.size, 2, none⟩ = some (.int .i64 tn))
              (first | go_keep | exact ⟨hx4 0, hx4 1, hx4 2⟩)
              ((refine step_app _ rfl (.tmp 28) (.tmp 30) _ rfl w.heap.size 41 iT _ 3 32 Tryd.underlying23 hiT hz0 hz1 hz2 rfl (by decide) _ _ _ (Lp.tkv L) rfl ?_ _ 1 1 (Lp.tkv [(⟨tk, ts, tn⟩ : Lp.Tok)]) rfl rfl ?_ ?_ ?_ ?_ ?_ ?_
                · exact (own_under hown1 (by repeat (first | exact Below.refl _ _ | apply Below.drew | refine Below.alloc ?_ (by simp) _)))
                · (first | exact rds_blk (Lp.tkv [(⟨tk, ts, tn⟩ : Lp.Tok)]) (heap_new2 w1 _ _) | exact rds_drew (rds_blk (Lp.tkv [(⟨tk, ts, tn⟩ : Lp.Tok)]) (heap_new2 w1 _ _)))
                · simp [Value.oneCell', Lp.tkv, Lp.Tok.cells]
                · simp only [maxLen]; omega
                · omega
                · have := HZ.out; simp; omega
                intro A4 c4 w4 hown4 hb4 hg4 hk4
                have hx4 := box_cells (hk4 w1.heap.size _ (box_below hx1 (by repeat (first | exact Below.refl _ _ | apply Below.drew | refine Below.alloc ?_ (by simp) _))) HNE.out).1))
            all_goals
              have hb14 : Below w.heap.size (w1.alloc (.cells #[.int .u8 tk, .string ⟨ts.toArray⟩, .int .i64 tn] 41)) w4 := Below.trans (by repeat (first | exact Below.refl _ _ | apply Below.drew | refine Below.alloc ?_ (by have := HZ.out; simp; omega) _)) hb4
              have hbw4 := hbw1.trans hb14
              have hown5 : w4.ownsRow w.heap.size 41 3 (.slice A4 (L ++ [(⟨tk, ts, tn⟩ : Lp.Tok)]).length c4) (L ++ [(⟨tk, ts, tn⟩ : Lp.Tok)]).length (Lp.tkv (L ++ [(⟨tk, ts, tn⟩ : Lp.Tok)])) := by
                rw [tkv_append, List.length_append]; exact hown4
              clear hown4 hb4 hg4 hk4 hown1 hbw1 hb14 hx4
              go_wp2
              go_roundg ((B.extract n B.size).size + 1)
              case measure => rw [HEZ.out, HB1.out]; omega
              case rel => exact ⟨B.extract n B.size, L ++ [(⟨tk, ts, tn⟩ : Lp.Tok)], A4, c4, rfl, rfl, by rw [HEZ.out]; have := HB1.out; omega, by simp, hown5, by rw [HEZ.out]; have := HB1.out; simp; omega, by rw [HE.out]; exact HR2, hbw4⟩
          · have HF : Hid (Lp.toks s.data.toList = ([], (Lp.nextT (x :: r)).2.2)) := by show _ = _; rw [HR.out, hl, Lp.splA_err _ hbl h0]
            have e0 : ((Lp.nextT (x :: r)).2.2 == 0) = false := beq_eq_false_iff_ne.2 h0
            unfold NextPost at hN
            generalize Lp.nextT (x :: r) = T at *
            obtain ⟨⟨tk, ts, tn⟩, n, E⟩ := T
            simp only at hN h0 HF e0
            have HN := Lib.hid hN
            clear hl hbi hbl HR hB1 hN h0
            go_wp2_with fail
            refine (Tryd.strings_IndexByte _ _ _).mono ?_
            rintro e w' ⟨rfl, rfl⟩
            go_wp2_with fail
            refine (HN.out _ hTr).mono ?_
            rintro e w1 ⟨rfl, b1⟩
            go_wp2
            go_ret2
            exact splPost_err HF.out ((hbw.trans (b1.mono hsz)).alloc (Nat.le_trans hsz b1.size) _)
        · rw [hbl] at hbi
          have hi : 0 ≤ Lib.indexByte [32, 9, 10, 13] x := of_decide_eq_true hbi.symm
          have HE : Hid ((B.extract 1 B.size).data.toList = r) := by show _ = _; rw [Lib.extract_data, List.take_of_length_le (by simp), hl]; rfl
          have hez : (B.extract 1 B.size).size = r.length := size_of HE.out
          have HR2 : Hid (Lp.toks s.data.toList = Lp.splA L (B.extract 1 B.size).data.toList) := by show _ = _; rw [HR.out, HE.out, hl, Lp.splA_blank _ _ hbl]
          have HEZ := Lib.hid hez
          have HB1 := Lib.hid hB1
          clear hl hbi hbl HR hez hB1
          go_wp2_with fail
          refine (Tryd.strings_IndexByte _ _ _).mono ?_
          rintro e w' ⟨rfl, rfl⟩
          go_wp2
          go_roundg (r.length + 1)
          case measure => rw [HB1.out]; omega
          case rel => exact ⟨B.extract 1 B.size, L, A, c, rfl, by rw [HEZ.out], by rw [HEZ.out, ← Nat.add_sub_cancel (n := r.length) (m := 1), ← HB1.out]; omega, rfl, hown, by rw [HEZ.out]; have := HB1.out; omega, HR2, hbw⟩
end Go.Proofs.YtmdmcfobdbccmaaDoor
