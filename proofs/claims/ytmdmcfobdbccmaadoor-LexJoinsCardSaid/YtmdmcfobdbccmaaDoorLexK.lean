/-
  What lex.Join gives: the tokens with blanks between. Conditions: the listed tables as laid; at most 10^5 tokens, none of more than 3000 bytes.
-/
import Derived.Test.YtmdmcfobdbccmaaDoorLexJ
import Derived.Test.YtmdmcfobdbccmaaDoorPlainJoins
namespace Go.Proofs.YtmdmcfobdbccmaaDoor
open Go.RowKit

def AwJ (w : World) : Prop := Tabs w ∧ Pow w ∧ Ml w
theorem awj_below {w w' : World} (h : AwJ w) (hb : Below w.heap.size w w') : AwJ w' := ⟨tabs_below h.1 hb, pow_below h.2.1 hb, ml_below h.2.2 hb⟩
def sv (l : List (List UInt8)) : List Value := l.map fun x => .string ⟨x.toArray⟩
theorem sv_length (l : List (List UInt8)) : (sv l).length = l.length := by simp [sv]
theorem sv_more (l : List (List UInt8)) (x : List UInt8) : sv (l ++ [x]) = sv l ++ [.string ⟨x.toArray⟩] := by simp [sv]
theorem strInfo : (Tryd.prog.info? 9).map (fun i => (i.zero, i.size, i.bytes)) = some (some (.string ⟨#[]⟩), 1, 16) := by kernel_rfl
theorem joins_any (A : Option Addr) (n c : Nat) (l : List (List UInt8)) (hn : n = l.length) (hc : n ≤ c) (w : World) (h : Rds w A (sv l)) (hl : (Lib.join l [32]).length ≤ 140737488355328) (hl2 : l.length ≤ 1000000) :
    Calls Tryd.prog 29 #[.slice A n c, .string ⟨#[32]⟩] w fun e w' => e = .returned (.string ⟨(Lib.join l [32]).toArray⟩) ∧ Below w.heap.size w w' := by
  subst hn
  by_cases h0 : l = []
  · subst h0
    refine (Tryd.strings_Join_none A c ⟨#[32]⟩ w).mono ?_
    rintro e w' ⟨rfl, rfl⟩
    exact ⟨rfl, Below.refl _ _⟩
  · have hne : sv l ≠ [] := by intro e; apply h0; simpa [sv] using e
    obtain ⟨b, off, rfl, hcell⟩ := h.resolve_left hne
    have hb : b < w.heap.size := by
      cases l with
      | nil => exact absurd rfl h0
      | cons x l => exact World.block_lt_of_cell? w _ (hcell 0 _ rfl)
    have := Tryd.strings_Join b off c (l.map fun x => (⟨x.toArray⟩ : ByteArray)) ⟨#[32]⟩ w (by
      intro j x hx
      rw [List.getElem?_map, Option.map_eq_some_iff] at hx
      obtain ⟨y, hy, rfl⟩ := hx
      refine hcell j _ ?_
      simp [sv, hy]) hb (by simp; omega) (by simpa using hc) (by
        rw [List.map_map]
        have e : l.map ((fun x => x.data.toList) ∘ fun x => (⟨x.toArray⟩ : ByteArray)) = l := by
          conv => rhs; rw [← List.map_id l]
          apply List.map_congr_left; intro a _; rfl
        rw [e]; exact hl)
    rw [List.map_map] at this
    have e : l.map ((fun x => x.data.toList) ∘ fun x => (⟨x.toArray⟩ : ByteArray)) = l := by
      conv => rhs; rw [← List.map_id l]
      apply List.map_congr_left; intro a _; rfl
    rw [e, List.length_map] at this
    exact this
set_option maxRecDepth 100000 in
set_option maxHeartbeats 8000000 in
theorem ljoin_any (A : Option Addr) (n c : Nat) (l : List Lp.Tok) (hn : n = l.length) (w : World) (h : RdsT w A l) (hl : l.length ≤ 10000) (hf : ∀ t ∈ l, t.fit) (hA : AwJ w) :
    Calls Tryd.prog 15 #[.slice A n c] w fun e w' => e = .returned (.string ⟨(Lp.joinL l).toArray⟩) ∧ Below w.heap.size w w' := by
  subst hn
  have HF := Lib.hid hf
  obtain ⟨iS, hiS, hz0, hz1, hz2⟩ := info_parts strInfo
  have hjl := Lp.joinL_len l hf
  have HJI := Lib.hid (Lp.join_is l)
  have HAW := Lib.hid hA
  clear hf hA
  go_enter Tryd.func15, Tryd.ntmps15
  go_wp2_with fail
  go_loopg [3, 5, 8] (l.length + 1) (fun gk s3 _ s8 wr => ∃ (i : Nat) (A1 : Option Addr) (c1 : Nat), i ≤ l.length ∧ gk = l.length + 1 - i ∧ s8 = .int .i64 i ∧ s3 = .slice A1 i c1 ∧ wr.ownsRow w.heap.size 9 1 (.slice A1 i c1) i (sv ((l.take i).map Lp.jt)) ∧ Below w.heap.size w wr)
  case atStart => exact ⟨0, none, 0, by omega, by omega, rfl, rfl, World.ownsRow_nil _ _ _ _, Below.refl _ _⟩
  case round =>
    obtain ⟨i, A1, c1, hi, rfl, rfl, rfl, hown, hbw⟩ := hrel
    have hsz := hbw.size
    by_cases hlt : i < l.length
    · obtain ⟨b1, o1, rfl, q0, q1, q2⟩ := RdsT.cells (Rds.below h hbw) hlt
      have hft := HF.out l[i] (List.getElem_mem hlt)
      have hsm := sv_more ((l.take i).map Lp.jt) (Lp.jt l[i])
      have htk : (l.take (i + 1)).map Lp.jt = (l.take i).map Lp.jt ++ [Lp.jt l[i]] := by rw [List.take_succ_eq_append_getElem hlt, List.map_append]; rfl
      rw [← htk] at hsm
      generalize l[i] = v at *
      obtain ⟨tk, ts, tn⟩ := v
      simp only at q0 q1 q2
      have hin := hft.1
      have hsl := hft.2.1
      simp only at hin hsl
      have i1 : (i : Int) < (l.length : Int) := by omega
      have i0 : (0 : Int) ≤ (i : Int) := by omega
      obtain ⟨J, hJ⟩ : ∃ J, Lp.jt ⟨tk, ts, tn⟩ = J := ⟨_, rfl⟩
      rw [hJ] at hsm
      have HSM := Lib.hid hsm
      have hb1 := hbw.alloc hsz (.cells #[.int .u8 tk, .string ⟨ts.toArray⟩, .int .i64 tn] 41)
      have hx1 := heap_alloc_new wr (.cells #[.int .u8 tk, .string ⟨ts.toArray⟩, .int .i64 tn] 41)
      have hown1 := hown.alloc (.cells #[.int .u8 tk, .string ⟨ts.toArray⟩, .int .i64 tn] 41)
      have hz1' := hb1.size
      have haw := awj_below HAW.out hb1
      clear hft hsm htk hbw hown
      by_cases hk2 : tk = 2
      · subst hk2
        as_aux_lemma =>
          have hJ2 : Lib.itoa tn = J := by rw [← hJ]; simp [Lp.jt]
          have C : Hid (∀ W, Pow W → Calls Tryd.prog 27 #[.int .i64 tn] W fun e w' => e = .returned (.string ⟨J.toArray⟩) ∧ Below W.heap.size W w') := fun W hP => by
            have := cdec_any tn W hin hP
            rw [hJ2] at this
            exact this
          have hcx := box_cells hx1
          clear hJ hJ2 hin
          go_wp2_with fail
          refine (C.out _ haw.2.1).mono ?_
          rintro e w2 ⟨rfl, hb2⟩
          have hb3 := hb1.trans (hb2.mono hz1')
          have hown2 := own_under hown1 hb2
          have hz3 := hb3.size
          clear hb1 hb2 hown1 hx1 hcx haw
          go_wp2_with (at_builtin; refine wpList_app _ rfl (.tmp 21) (.tmp 25) _ rfl w.heap.size 9 iS _ 1 16 Tryd.underlying57 hiS hz0 hz1 hz2 rfl (by omega) _ _ _ _ rfl (hown2.alloc _) _ 1 1 [.string ⟨J.toArray⟩] rfl rfl (rds_new _ _ _) (by simp [Value.oneCell']) (by simp only [maxLen]; omega) (by omega) (by simp; omega) ?_; intro A2 c2 w4 hown4 hb4 _ _)
          rw [← HSM.out] at hown4
          have hb5 := (hb3.alloc hz3 _).trans hb4
          clear hb3 hb4 hown2
          go_wp2
          go_roundg (l.length + 1 - (i + 1))
          case measure => omega
          case rel => exact ⟨i + 1, A2, c2, by omega, rfl, by go_num, rfl, hown4, hb5⟩
      · have e2 : (tk == 2) = false := beq_eq_false_iff_ne.2 hk2
        by_cases hk3 : tk = 3
        · subst hk3
          as_aux_lemma =>
            have hJ2 : Lp.litT ts = J := by rw [← hJ]; simp [Lp.jt]
            have C : Hid (∀ W, Pow W → Ml W → Calls Tryd.prog 28 #[.agg #[.int .u8 2, .int .i64 0, .string ⟨ts.toArray⟩, .bool false]] W fun e w' => e = .returned (.string ⟨J.toArray⟩) ∧ Below W.heap.size W w') := fun W hP hM => by
              have := clit_any 2 0 ⟨ts.toArray⟩ false W (by decide) (by show ts.toArray.size ≤ _; simpa using hsl) hP hM
              rw [show Lp.lit ⟨2, 0, ⟨ts.toArray⟩, false⟩ = Lp.litT ts from rfl, hJ2] at this
              exact this
            have hcx := box_cells hx1
            clear hJ hJ2 hin
            go_wp2_with fail
            refine (C.out _ haw.2.1 haw.2.2).mono ?_
            rintro e w2 ⟨rfl, hb2⟩
            have hb3 := hb1.trans (hb2.mono hz1')
            have hown2 := own_under hown1 hb2
            have hz3 := hb3.size
            clear hb1 hb2 hown1 hx1 hcx haw
            go_wp2_with (at_builtin; refine wpList_app _ rfl (.tmp 29) (.tmp 34) _ rfl w.heap.size 9 iS _ 1 16 Tryd.underlying57 hiS hz0 hz1 hz2 rfl (by omega) _ _ _ _ rfl (hown2.alloc _) _ 1 1 [.string ⟨J.toArray⟩] rfl rfl (rds_new _ _ _) (by simp [Value.oneCell']) (by simp only [maxLen]; omega) (by omega) (by simp; omega) ?_; intro A2 c2 w4 hown4 hb4 _ _)
            rw [← HSM.out] at hown4
            have hb5 := (hb3.alloc hz3 _).trans hb4
            clear hb3 hb4 hown2
            go_wp2
            go_roundg (l.length + 1 - (i + 1))
            case measure => omega
            case rel => exact ⟨i + 1, A2, c2, by omega, rfl, by go_num, rfl, hown4, hb5⟩
        · as_aux_lemma =>
            have e3 : (tk == 3) = false := beq_eq_false_iff_ne.2 hk3
            have hJ2 : ts = J := by rw [← hJ]; simp [Lp.jt, hk2, hk3]
            have HK2 := Lib.hid hk2
            have HK3 := Lib.hid hk3
            clear hJ hk2 hk3 hin haw
            obtain rfl : J = ts := hJ2.symm
            have hz3 := hz1'
            go_wp2_with (at_builtin; refine wpList_app _ rfl (.tmp 14) (.tmp 17) _ rfl w.heap.size 9 iS _ 1 16 Tryd.underlying57 hiS hz0 hz1 hz2 rfl (by omega) _ _ _ _ rfl (hown1.alloc _) _ 1 1 [.string ⟨J.toArray⟩] rfl rfl (rds_blk [.string ⟨J.toArray⟩] (heap_new2 wr _ _)) (by simp [Value.oneCell']) (by simp only [maxLen]; omega) (by omega) (by simp; omega) ?_; intro A2 c2 w4 hown4 hb4 _ _)
            rw [← HSM.out] at hown4
            have hb5 := (hb1.alloc hz3 _).trans hb4
            clear hb1 hb4 hown1
            go_wp2
            go_roundg (l.length + 1 - (i + 1))
            case measure => omega
            case rel => exact ⟨i + 1, A2, c2, by omega, rfl, by go_num, rfl, hown4, hb5⟩
    · obtain rfl : i = l.length := by omega
      have hge : ¬ (l.length : Int) < (l.length : Int) := by omega
      rw [List.take_length] at hown
      have hr : Rds wr A1 (sv (l.map Lp.jt)) := Rds.own hown
      have hcap := own_cap hown
      have HC := Lib.hid (joins_any A1 l.length c1 (l.map Lp.jt) (by simp) hcap wr hr (by rw [HJI.out]; omega) (by simp; omega))
      clear hown hr
      go_wp2_with fail
      refine HC.out.mono ?_
      rintro e w2 ⟨rfl, hb2⟩
      go_wp2
      go_ret
      exact ⟨ret_str HJI.out, hbw.trans (hb2.mono hsz)⟩
end Go.Proofs.YtmdmcfobdbccmaaDoor
