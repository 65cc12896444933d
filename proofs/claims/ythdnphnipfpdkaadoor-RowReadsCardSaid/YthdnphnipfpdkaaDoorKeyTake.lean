/-
  What key.take gives, of any bytes: the value in front and what is behind, or that there is none. Conditions: unicode/utf8's tables as laid; lengths as a slice can have.
-/
import Derived.Test.YthdnphnipfpdkaaDoorKeyBytes
import Derived.Test.YthdnphnipfpdkaaDoorPlainAhead
import Derived.Test.YthdnphnipfpdkaaDoorRowBytes
import Derived.Deep.DeepCutAuto
namespace Go.Proofs.YthdnphnipfpdkaaDoor
open Go.RowKit

theorem xor_sign (n : Nat) (h : n < 18446744073709551616) : IntKind.i64.wrap (bits .xor .u64 (n : Int) 9223372036854775808) = (n : Int) - 9223372036854775808 := by
  have e := u64_xor_nat n 9223372036854775808 h (by decide)
  have e1 : ((9223372036854775808 : Nat) : Int) = 9223372036854775808 := rfl
  rw [e1] at e
  rw [e, IntKind.wrap_i64]
  by_cases hn : n < 2 ^ 63
  · have := Lp.xor_small n hn
    have e2 : n ^^^ 9223372036854775808 = 9223372036854775808 + n := this
    rw [e2]; omega
  · have h2 : n - 2 ^ 63 < 2 ^ 63 := by omega
    have := Lp.xor_small (n - 2 ^ 63) h2
    have e3 : n = (n - 2 ^ 63) ^^^ 2 ^ 63 := by rw [this]; omega
    have e2 : n ^^^ 9223372036854775808 = n - 2 ^ 63 := by
      conv => lhs; rw [e3]
      show (n - 2 ^ 63) ^^^ 2 ^ 63 ^^^ 2 ^ 63 = _
      rw [Nat.xor_assoc, Nat.xor_self, Nat.xor_zero]
    rw [e2]; omega
theorem or_byte (n b : Nat) (hn : n < 72057594037927936) (hb : b < 256) : bits .or .u64 ((n * 256 : Nat) : Int) (b : Int) = ((n * 256 + b : Nat) : Int) := by
  rw [u64_or_nat (n * 256) b (by omega) (by omega)]
  have := Nat.two_pow_add_eq_or_of_lt (i := 8) (show b < 2 ^ 8 by omega) n
  rw [show (2 : Nat) ^ 8 = 256 from rfl, Nat.mul_comm] at this
  rw [← this]

/-- Two addresses in one block. -/
def Blk (A0 A : Option Addr) : Prop := ∃ b o o', A0 = some ⟨b, o, none⟩ ∧ A = some ⟨b, o', none⟩
theorem rds_back {w wr : World} {A0 A : Option Addr} {xs ys : List Value} (hbw : Below w.heap.size w wr) (h0 : Rds w A0 xs) (hne : xs ≠ []) (hB : Blk A0 A) (hr : Rds wr A ys) : Rds w A ys := by
  obtain ⟨b, o, o', rfl, rfl⟩ := hB
  rcases h0 with h0 | ⟨b1, o1, he, hc⟩
  · exact absurd h0 hne
  · injection he with he
    injection he with e1 e2
    subst e1 e2
    obtain ⟨x, xs', rfl⟩ := List.exists_cons_of_ne_nil hne
    have hlt := World.block_lt_of_cell? w _ (hc 0 x rfl)
    rcases hr with hr | ⟨b2, o2, he, hc2⟩
    · exact .inl hr
    · injection he with he
      injection he with e1 e2
      subst e1 e2
      exact .inr ⟨b, o', rfl, fun j u hu => (hbw.cell (p := ⟨b, o' + j, none⟩) hlt).symm.trans (hc2 j u hu)⟩
/-- A value in front, or none. -/
def TakePost (w : World) (A0 : Option Addr) (o : Option (Lp.V × List UInt8)) (e : Ending) (w' : World) : Prop :=
  Below w.heap.size w w' ∧ ((∃ v r A c, o = some (v, r) ∧ e = .returned (.tuple #[.agg #[.int .u8 v.k, .int .i64 v.i, .string v.s, .bool v.b], .slice A r.length c, .bool true]) ∧ r.length ≤ c ∧ Rds w' A (bv r) ∧ v.ok ∧ Blk A0 A) ∨
    (o = none ∧ ∃ v : Lp.V, ∃ y, e = .returned (.tuple #[.agg #[.int .u8 v.k, .int .i64 v.i, .string v.s, .bool v.b], y, .bool false])))
theorem take_yes {w w' : World} {A0 : Option Addr} {o : Option (Lp.V × List UInt8)} {v : Lp.V} {r : List UInt8} {A : Option Addr} {n c : Nat} (hb : Below w.heap.size w w') (ho : o = some (v, r)) (hn : n = r.length) (hc : n ≤ c) (hr : Rds w' A (bv r)) (hv : v.ok) (hB : Blk A0 A) :
    TakePost w A0 o (.returned (.tuple #[.agg #[.int .u8 v.k, .int .i64 v.i, .string v.s, .bool v.b], .slice A n c, .bool true])) w' := by
  subst hn; exact ⟨hb, .inl ⟨v, r, A, c, ho, rfl, hc, hr, hv, hB⟩⟩
theorem take_no {w w' : World} {A0 : Option Addr} {o : Option (Lp.V × List UInt8)} (v : Lp.V) {y : Value} (hb : Below w.heap.size w w') (ho : o = none) :
    TakePost w A0 o (.returned (.tuple #[.agg #[.int .u8 v.k, .int .i64 v.i, .string v.s, .bool v.b], y, .bool false])) w' :=
  ⟨hb, .inr ⟨ho, v, y, rfl⟩⟩

theorem idxb_rds (b o n c : Nat) (l : List UInt8) (hn : n = l.length) (w : World) (h : Rds w (some ⟨b, o, none⟩) (bv l)) :
    Calls Tryd.prog 54 #[.slice (some ⟨b, o, none⟩) n c, .int .u8 0] w fun e w' => e = .returned (.int .i64 (Lib.indexByte l 0)) ∧ w = w' := by
  subst hn
  refine (Tryd.bytes_IndexByte b o l.length c (l.map fun x => (x.toNat : Int)) 0 w (by simp) (fun i hi => ?_)).mono ?_
  · obtain ⟨b', o', he, hc⟩ := h.at_ (bv_at hi)
    injection he with he
    injection he with h1 h2
    subst h1 h2
    rw [hc]; simp [List.getD, List.getElem?_eq_getElem hi]
  · rintro e w' ⟨rfl, rfl⟩
    refine ⟨?_, rfl⟩
    have e0 : (Int.toNat 0).toUInt8 = 0 := rfl
    rw [e0]
    congr 2
    simp [Lib.bytesOf, Function.comp_def]
theorem addr_plus (b o k : Nat) : (⟨b, o, none⟩ : Addr).add k = ⟨b, o + k, none⟩ := by unfold Addr.add; split <;> simp_all
theorem vnull_ok : Lp.vNull.ok := ⟨by simp [Lp.vNull, ByteArray.size], (by decide : Lp.inR 0), (by decide : (0 : Int) ≤ 0), (by decide : (0 : Int) ≤ 255)⟩
theorem vbool_ok (b : Bool) : (Lp.vBool b).ok := ⟨by simp [Lp.vBool, ByteArray.size], (by decide : Lp.inR 0), (by decide : (0 : Int) ≤ 3), (by decide : (3 : Int) ≤ 255)⟩
theorem vint_ok {i : Int} (h : Lp.inR i) : (Lp.vInt i).ok := ⟨by simp [Lp.vInt, ByteArray.size], h, (by decide : (0 : Int) ≤ 1), (by decide : (1 : Int) ≤ 255)⟩
theorem vtext_ok {l : List UInt8} (h : l.length ≤ 9223372036854775807) : (Lp.vText l).ok := ⟨by simpa [Lp.vText, ByteArray.size] using h, (by decide : Lp.inR 0), (by decide : (0 : Int) ≤ 2), (by decide : (2 : Int) ≤ 255)⟩

set_option maxRecDepth 100000 in
set_option maxHeartbeats 4000000 in
theorem take_any (A : Option Addr) (n c : Nat) (x : UInt8) (l : List UInt8) (hnl : n = l.length + 1) (w : World) (h : Rds w A (bv (x :: l))) (hc : n ≤ c) (hcm : n ≤ 9223372036854775807) (hT : Tabs w) :
    Calls Tryd.prog 45 #[.slice A n c] w (TakePost w A (Lp.ktake (x :: l))) := by
  subst hnl
  obtain ⟨b, off, rfl, p0⟩ := h.at_ (k := 0) (u := .int .u8 x.toNat) rfl
  have hd := h.drop 1 (cap := c) (by rw [bv_length]; simpa using hc)
  have hdl : Hid ((bv (x :: l)).drop 1 = bv l) := by rfl
  rw [hdl.out] at hd
  have hlt := World.block_lt_of_cell? w _ p0
  simp only [Nat.add_zero] at p0
  have hb2 : ∀ o1 o2, Below w.heap.size w ((w.alloc o1).alloc o2) := fun o1 o2 => ((Below.refl w.heap.size w).alloc (Nat.le_refl _) o1).alloc (by simp) o2
  have HX := Lib.hid hb2
  have hxlt := x.toNat_lt
  clear hb2 hdl h
  go_enter Tryd.func45, Tryd.ntmps45
  go_upto_region 2 with fail
  go_cut [6] (fun s6 wx => ∃ (b2 o2 cR : Nat), b2 = b ∧ s6 = .slice (some ⟨b2, o2, none⟩) l.length cR ∧ l.length ≤ cR ∧ Rds w (some ⟨b2, o2, none⟩) (bv l) ∧ b2 < w.heap.size ∧ wx = (w.alloc (.cells #[.int .u8 0, .int .i64 0, .string ⟨#[]⟩, .bool false] 36)).alloc (.cells #[.int .u8 0, .int .i64 0, .string ⟨#[]⟩, .bool false] 36))
  case first =>
    by_cases h1 : c = 1
    · subst h1
      have hl : l = [] := List.eq_nil_of_length_eq_zero (by omega)
      subst hl
      go_wp2
      go_meet
      exact ⟨b, off, _, rfl, rfl, by simp, Rds.nil_, hlt, rfl⟩
    · rw [if_neg h1] at hd
      have hd2 : Rds w (some ⟨b, off + 1, none⟩) (bv l) := hd
      have hc1 : (c == 1) = false := by simpa using h1
      clear hd
      go_wp2
      go_meet
      exact ⟨b, off + 1, c - 1, rfl, by simp, by omega, hd2, hlt, rfl⟩
  case rest =>
    obtain ⟨b2, o2, cR, hbb, rfl, hcR, rR, hlt2, rfl⟩ := hcut
    subst hbb
    clear hd
    have hTx : Tabs ((w.alloc (.cells #[.int .u8 0, .int .i64 0, .string ⟨#[]⟩, .bool false] 36)).alloc (.cells #[.int .u8 0, .int .i64 0, .string ⟨#[]⟩, .bool false] 36)) := tabs_alloc (tabs_alloc hT _) _
    by_cases x1 : x.toNat = 1
    · have hk : Lp.ktake (x :: l) = some (Lp.vNull, l) := by
        rw [show x = 1 from UInt8.toNat_inj.1 x1]; rfl
      have HK := Lib.hid hk
      rw [x1] at p0
      clear hk x1 hxlt
      go_wp2
      exact bodyPost_ret (v := .tuple #[.agg #[.int .u8 0, .int .i64 0, .string ⟨#[]⟩, .bool false], .slice (some ⟨b2, o2, none⟩) l.length cR, .bool true]) (by simp [results, Tryd.results45, go_sem]) rfl (take_yes (hB := ⟨_, _, _, rfl, rfl⟩) (v := Lp.vNull) (HX.out _ _) HK.out rfl hcR (rR.below (HX.out _ _)) vnull_ok)
    · by_cases x2 : x.toNat = 2
      · have hx : x = 2 := UInt8.toNat_inj.1 x2
        rw [x2] at p0
        clear x1 x2 hxlt
        rcases l with _ | ⟨y, r⟩
        · have HK : Hid (Lp.ktake [x] = none) := by show _ = _; rw [hx]; rfl
          clear hx
          go_wp2
          exact bodyPost_ret (v := .tuple #[.agg #[.int .u8 0, .int .i64 0, .string ⟨#[]⟩, .bool false], .slice none 0 0, .bool false]) (by simp [results, Tryd.results45, go_sem]) rfl (take_no Lp.vNull (HX.out _ _) HK.out)
        · obtain ⟨b3, o3, he, p1⟩ := rR.at_ (k := 0) (u := .int .u8 y.toNat) rfl
          injection he with he
          injection he with he1 he2
          subst he1 he2
          simp only [Nat.add_zero] at p1
          have hy := y.toNat_lt
          by_cases hy1 : y.toNat ≤ 1
          · have HK : Hid (Lp.ktake (x :: y :: r) = some (Lp.vBool (y == 1), r)) := by show _ = _; rw [hx]; simp [Lp.ktake, hy1]
            have hd3 := rR.drop 1 (cap := cR) (by rw [bv_length]; exact hcR)
            have hyb : ((y.toNat : Int) == 1) = (y == 1) := by
              rw [Bool.eq_iff_iff]; simp [← UInt8.toNat_inj]; omega
            clear hx
            by_cases h1 : cR = 1
            · subst h1
              have hr : r = [] := List.eq_nil_of_length_eq_zero (by simp only [List.length_cons] at hcR; omega)
              subst hr
              go_wp2_with fail
              go_region
              go_wp2
              exact bodyPost_ret (v := .tuple #[.agg #[.int .u8 3, .int .i64 0, .string ⟨#[]⟩, .bool (y == 1)], .slice (some ⟨b2, o2, none⟩) 0 0, .bool true]) (by simp [results, Tryd.results45, go_sem]) rfl (take_yes (hB := ⟨_, _, _, rfl, rfl⟩) (v := Lp.vBool (y == 1)) (HX.out _ _).drew HK.out rfl (Nat.le_refl _) Rds.nil_ (vbool_ok _))
            · rw [if_neg h1] at hd3
              have hd4 : Rds w (some ⟨b2, o2 + 1, none⟩) (bv r) := hd3
              clear hd3
              have el : ((r.length : Int) + 1 == 0) = false := by simp; omega
              go_wp2_with fail
              go_region
              go_wp2
              exact bodyPost_ret (v := .tuple #[.agg #[.int .u8 3, .int .i64 0, .string ⟨#[]⟩, .bool (y == 1)], .slice (some ⟨b2, o2 + 1, none⟩) r.length (cR - 1), .bool true]) (by simp [results, Tryd.results45, go_sem]) rfl (take_yes (hB := ⟨_, _, _, rfl, rfl⟩) (v := Lp.vBool (y == 1)) (HX.out _ _).drew HK.out rfl (by simp only [List.length_cons] at hcR; omega) (hd4.below (HX.out _ _).drew) (vbool_ok _))
          · have HK : Hid (Lp.ktake (x :: y :: r) = none) := by show _ = _; rw [hx]; simp [Lp.ktake, hy1]
            clear hx
            have hy2 : (1 : Int) < (y.toNat : Int) := by omega
            go_wp2
            exact bodyPost_ret (v := .tuple #[.agg #[.int .u8 0, .int .i64 0, .string ⟨#[]⟩, .bool false], .slice none 0 0, .bool false]) (by simp [results, Tryd.results45, go_sem]) rfl (take_no Lp.vNull (HX.out _ _) HK.out)
      · by_cases x3 : x.toNat = 3
        · have hx : x = 3 := UInt8.toNat_inj.1 x3
          rw [x3] at p0
          clear x1 x2 x3 hxlt
          by_cases h8 : l.length < 8
          · have HK : Hid (Lp.ktake (x :: l) = none) := by show _ = _; rw [hx]; simp [Lp.ktake, h8]
            clear hx
            go_wp2
            exact bodyPost_ret (v := .tuple #[.agg #[.int .u8 0, .int .i64 0, .string ⟨#[]⟩, .bool false], .slice none 0 0, .bool false]) (by simp [results, Tryd.results45, go_sem]) rfl (take_no Lp.vNull (HX.out _ _) HK.out)
          · have HK : Hid (Lp.ktake (x :: l) = some (Lp.vInt ((Lp.unbe (l.take 8) : Int) - 9223372036854775808), l.drop 8)) := by show _ = _; rw [hx]; simp [Lp.ktake, h8]
            clear hx
            have h8' : 8 ≤ l.length := by omega
            go_wp2_with fail
            go_loop [7, 9, 50] (fun s7 _ s50 => ∃ k : Nat, k ≤ 8 ∧ s50 = .int .i64 k ∧ s7 = .int .u64 (Lp.unbe (l.take k) : Nat)) (fun _ _ s50 => 8 - (intOf s50).toNat)
            case atStart => exact ⟨0, by omega, rfl, rfl⟩
            case round =>
              obtain ⟨k, hk8, rfl, rfl⟩ := hrel
              by_cases hlt8 : k < 8
              · have hkl : k < l.length := by omega
                obtain ⟨b3, o3, he, p1⟩ := rR.at_ (bv_at hkl)
                injection he with he
                injection he with he1 he2
                subst he1 he2
                have hN : Hid (Lp.unbe (l.take (k + 1)) = Lp.unbe (l.take k) * 256 + l[k].toNat) := by show _ = _; rw [List.take_succ_eq_append_getElem hkl, Lp.unbe_snoc]
                have hlt7 : Lp.unbe (l.take k) < 72057594037927936 := by
                  have h1 := Lp.unbe_lt (l.take k)
                  have h2 : (l.take k).length ≤ 7 := by simp; omega
                  have h3 : 256 ^ (l.take k).length ≤ 256 ^ 7 := Nat.pow_le_pow_right (by omega) h2
                  omega
                have hbl := l[k].toNat_lt
                have hor := Lib.hid (or_byte (Lp.unbe (l.take k)) l[k].toNat hlt7 hbl)
                generalize Lp.unbe (l.take k) = M at *
                generalize l[k].toNat = B at *
                go_wp2
                go_round
                case rel =>
                  refine ⟨k + 1, by omega, by go_num, ?_⟩
                  rw [hN.out, ← hor.out, Int.natCast_mul]
                  rfl
                case measure => simp [intOf]; omega
              · obtain rfl : k = 8 := by omega
                have hlt64 : Lp.unbe (l.take 8) < 18446744073709551616 := by
                  have h1 := Lp.unbe_lt (l.take 8)
                  rw [List.length_take, Nat.min_eq_left h8'] at h1
                  exact h1
                have hxs : Hid (wrap64 (bits .xor .u64 ((Lp.unbe (l.take 8) : Nat) : Int) 9223372036854775808) = ((Lp.unbe (l.take 8) : Nat) : Int) - 9223372036854775808) := Lib.hid ((IntWalk.i64_left _).symm.trans (xor_sign _ hlt64))
                have hok : Hid (Lp.inR ((Lp.unbe (l.take 8) : Int) - 9223372036854775808)) := by show Lp.inR _; unfold Lp.inR; omega
                generalize Lp.unbe (l.take 8) = M at *
                have hd3 := rR.drop 8 (cap := cR) (by rw [bv_length]; exact hcR)
                rw [bv_drop] at hd3
                by_cases h1 : cR = 8
                · subst h1
                  rw [if_pos rfl] at hd3
                  go_wp2_with fail
                  go_region
                  go_wp2
                  rw [hxs.out]
                  exact bodyPost_ret (v := .tuple #[.agg #[.int .u8 1, .int .i64 ((M : Int) - 9223372036854775808), .string ⟨#[]⟩, .bool false], .slice (some ⟨b2, o2, none⟩) 0 0, .bool true]) (by simp [results, Tryd.results45, go_sem]) rfl (take_yes (hB := ⟨_, _, _, rfl, rfl⟩) (v := Lp.vInt ((M : Int) - 9223372036854775808)) (HX.out _ _).drew HK.out (by simp; omega) (Nat.le_refl _) (.inl (List.eq_nil_of_length_eq_zero (by rw [bv_length, List.length_drop]; omega))) (vint_ok hok.out))
                · rw [if_neg h1] at hd3
                  have hd4 : Rds w (some ⟨b2, o2 + 8, none⟩) (bv (l.drop 8)) := hd3
                  clear hd3
                  go_wp2_with fail
                  go_region
                  go_wp2
                  rw [hxs.out]
                  exact bodyPost_ret (v := .tuple #[.agg #[.int .u8 1, .int .i64 ((M : Int) - 9223372036854775808), .string ⟨#[]⟩, .bool false], .slice (some ⟨b2, o2 + 8, none⟩) (l.length - 8) (cR - 8), .bool true]) (by simp [results, Tryd.results45, go_sem]) rfl (take_yes (hB := ⟨_, _, _, rfl, rfl⟩) (v := Lp.vInt ((M : Int) - 9223372036854775808)) (HX.out _ _).drew HK.out (by simp) (by omega) (hd4.below (HX.out _ _).drew) (vint_ok hok.out))
        · by_cases x4 : x.toNat = 4
          · have hx : x = 4 := UInt8.toNat_inj.1 x4
            rw [x4] at p0
            clear x1 x2 x3 x4 hxlt
            by_cases ha : (Lp.ahead l).length < l.length
            · have HI := Lib.hid (Lp.index_ahead ha)
              have HT := Lib.hid (Lp.take_ahead l)
              have hcv := fun (w' : World) (hb : Below w.heap.size w w') => conv_rds (w := w') (A := some ⟨b2, o2, none⟩) (l := Lp.ahead l) (Lp.ahead l).length cR rfl (by have := (rR.take (Lp.ahead l).length).below hb; rw [bv_take, HT.out] at this; exact this)
              have hcv2 := hcv _ (HX.out (.cells #[.int .u8 0, .int .i64 0, .string ⟨#[]⟩, .bool false] 36) (.cells #[.int .u8 0, .int .i64 0, .string ⟨#[]⟩, .bool false] 36))
              have hTl : (Lp.ahead l).length ≤ 9223372036854775807 := by omega
              have hd3 := rR.drop ((Lp.ahead l).length + 1) (cap := cR) (by rw [bv_length]; exact hcR)
              rw [bv_drop] at hd3
              have hrb : Lp.rightB 2 0 ⟨(Lp.ahead l).toArray⟩ false = (decide ((Lp.ahead l).length ≤ 60) && Lp.textOk (Lp.ahead l)) := by
                unfold Lp.rightB
                simp [ByteArray.size]
              clear hcv
              generalize hAH : Lp.ahead l = T at *
              have HAH := Lib.hid hAH
              have hc3 : ∀ o, (((w.alloc (.cells #[.int .u8 0, .int .i64 0, .string ⟨#[]⟩, .bool false] 36)).alloc (.cells #[.int .u8 0, .int .i64 0, .string ⟨#[]⟩, .bool false] 36)).alloc o).heap.size = w.heap.size + 3 := fun o => by simp
              clear hAH
              by_cases hok : T.length ≤ 60 ∧ Lp.textOk T = true
              · have HR : Hid (Lp.rightB 2 0 ⟨T.toArray⟩ false = true) := by show _ = _; rw [hrb]; simp [hok]
                have HK : Hid (Lp.ktake (x :: l) = some (Lp.vText T, l.drop (T.length + 1))) := by
                  show _ = _
                  rw [hx]; simp [Lp.ktake, HAH.out, ha, hok]
                clear hrb hx hok
                go_wp2_with fail
                refine (idxb_rds b2 o2 _ _ l rfl _ (rR.below (HX.out _ _))).mono ?_
                rintro e w' ⟨rfl, rfl⟩
                rw [HI.out]
                have hres := box_alloc (box_alloc (heap_alloc_new w (.cells #[.int .u8 0, .int .i64 0, .string ⟨#[]⟩, .bool false] 36)) (.cells #[.int .u8 0, .int .i64 0, .string ⟨#[]⟩, .bool false] 36)) (.cells #[.int .u8 2, .int .i64 0, .string ⟨T.toArray⟩, .bool false] 36)
                have hxv := heap_alloc_new ((w.alloc (.cells #[.int .u8 0, .int .i64 0, .string ⟨#[]⟩, .bool false] 36)).alloc (.cells #[.int .u8 0, .int .i64 0, .string ⟨#[]⟩, .bool false] 36)) (.cells #[.int .u8 2, .int .i64 0, .string ⟨T.toArray⟩, .bool false] 36)
                have hsv : ((w.alloc (.cells #[.int .u8 0, .int .i64 0, .string ⟨#[]⟩, .bool false] 36)).alloc (.cells #[.int .u8 0, .int .i64 0, .string ⟨#[]⟩, .bool false] 36)).heap.size = w.heap.size + 2 := by simp
                rw [hsv] at hxv
                have hT3 := tabs_alloc hTx (.cells #[.int .u8 2, .int .i64 0, .string ⟨T.toArray⟩, .bool false] 36)
                have hbw3 := (HX.out (.cells #[.int .u8 0, .int .i64 0, .string ⟨#[]⟩, .bool false] 36) (.cells #[.int .u8 0, .int .i64 0, .string ⟨#[]⟩, .bool false] 36)).alloc (by simp; omega) (.cells #[.int .u8 2, .int .i64 0, .string ⟨T.toArray⟩, .bool false] 36)
                clear hsv hc3
                by_cases h1 : cR = T.length + 1
                · have hl : l.length = T.length + 1 := by omega
                  have HL := Lib.hid hl
                  clear hl
                  subst h1
                  go_wp2_with fail
                  clear hcv2
                  generalize (((w.alloc (.cells #[.int .u8 0, .int .i64 0, .string ⟨#[]⟩, .bool false] 36)).alloc (.cells #[.int .u8 0, .int .i64 0, .string ⟨#[]⟩, .bool false] 36)).alloc (.cells #[.int .u8 2, .int .i64 0, .string ⟨T.toArray⟩, .bool false] 36)) = w3 at *
                  have hcx := box_cells hxv
                  have hcr := box_cells hres
                  have hz3 := hbw3.size
                  have hw1 : IntKind.i64.wrap ((T.length : Int) + 1) = (T.length : Int) + 1 := IntWalk.i64_in _ (by omega)
                  have hw2 : (0 : Int) ≤ (T.length : Int) + 1 := by omega
                  have hw3 : ((T.length : Int) + 1).toNat = T.length + 1 := by omega
                  have hw4 : (T.length : Int) + 1 ≤ (l.length : Int) := by omega
                  go_region_held3 (fun w' => w'.cell? ⟨w.heap.size + 2, 0, none⟩ = some (.int .u8 2) ∧ w'.cell? ⟨w.heap.size + 2, 1, none⟩ = some (.int .i64 0) ∧ w'.cell? ⟨w.heap.size + 2, 2, none⟩ = some (.string ⟨T.toArray⟩) ∧ w'.cell? ⟨w.heap.size + 2, 3, none⟩ = some (.bool false))
                    (first | go_keep | exact ⟨hx4 0, hx4 1, hx4 2, hx4 3⟩)
                    ((go_at_call 39; refine (right_at _ _ _ _ _ HR.out _ ?_ ?_).mono ?_
                      · simpa [ByteArray.size] using hTl
                      · exact tabs_below hT3 (by repeat (first | exact Below.refl _ _ | apply Below.drew))
                      rintro e w4 ⟨rfl, hb4⟩
                      have hb4' := Below.trans (a := w3) (by repeat (first | exact Below.refl _ _ | apply Below.drew)) hb4
                      have hx4 := box_cells (box_below hxv hb4')
                      have hr4 := box_cells (box_below hres hb4')
                      have hf4 := fun j => frozen_of_row w4 w.heap.size j _ _ (box_below hres hb4')))
                  go_wp2
                  have hbE := ((((hbw3.trans (hb4'.mono hz3)).setCell (p := ⟨w.heap.size, 0, none⟩) (Nat.le_refl _) (.int .u8 2)).setCell (p := ⟨w.heap.size, 1, none⟩) (Nat.le_refl _) (.int .i64 0)).setCell (p := ⟨w.heap.size, 2, none⟩) (Nat.le_refl _) (.string ⟨T.toArray⟩)).setCell (p := ⟨w.heap.size, 3, none⟩) (Nat.le_refl _) (.bool false)
                  exact bodyPost_ret (v := .tuple #[.agg #[.int .u8 2, .int .i64 0, .string ⟨T.toArray⟩, .bool false], (.slice (some ⟨b2, o2, none⟩) 0 0), .bool true]) (by simp [results, Tryd.results45, go_sem, hr4]) rfl (take_yes (hB := ⟨_, _, _, rfl, rfl⟩) (v := Lp.vText T) hbE HK.out (by rw [List.length_drop, HL.out]; omega) (Nat.le_refl _) (.inl (List.eq_nil_of_length_eq_zero (by rw [bv_length, List.length_drop, HL.out]; omega))) (vtext_ok hTl))
                · rw [if_neg h1] at hd3
                  have hd4 : Rds w (some ⟨b2, o2 + (T.length + 1), none⟩) (bv (l.drop (T.length + 1))) := by
                    have := hd3
                    simp only [Option.map_some, Nat.mul_one, addr_plus] at this
                    exact this
                  clear hd3
                  go_wp2_with fail
                  clear hcv2
                  generalize (((w.alloc (.cells #[.int .u8 0, .int .i64 0, .string ⟨#[]⟩, .bool false] 36)).alloc (.cells #[.int .u8 0, .int .i64 0, .string ⟨#[]⟩, .bool false] 36)).alloc (.cells #[.int .u8 2, .int .i64 0, .string ⟨T.toArray⟩, .bool false] 36)) = w3 at *
                  have hcx := box_cells hxv
                  have hcr := box_cells hres
                  have hz3 := hbw3.size
                  have hw1 : IntKind.i64.wrap ((T.length : Int) + 1) = (T.length : Int) + 1 := IntWalk.i64_in _ (by omega)
                  have hw2 : (0 : Int) ≤ (T.length : Int) + 1 := by omega
                  have hw3 : ((T.length : Int) + 1).toNat = T.length + 1 := by omega
                  have hw4 : (T.length : Int) + 1 ≤ (l.length : Int) := by omega
                  go_region_held3 (fun w' => w'.cell? ⟨w.heap.size + 2, 0, none⟩ = some (.int .u8 2) ∧ w'.cell? ⟨w.heap.size + 2, 1, none⟩ = some (.int .i64 0) ∧ w'.cell? ⟨w.heap.size + 2, 2, none⟩ = some (.string ⟨T.toArray⟩) ∧ w'.cell? ⟨w.heap.size + 2, 3, none⟩ = some (.bool false))
                    (first | go_keep | exact ⟨hx4 0, hx4 1, hx4 2, hx4 3⟩)
                    ((go_at_call 39; refine (right_at _ _ _ _ _ HR.out _ ?_ ?_).mono ?_
                      · simpa [ByteArray.size] using hTl
                      · exact tabs_below hT3 (by repeat (first | exact Below.refl _ _ | apply Below.drew))
                      rintro e w4 ⟨rfl, hb4⟩
                      have hb4' := Below.trans (a := w3) (by repeat (first | exact Below.refl _ _ | apply Below.drew)) hb4
                      have hx4 := box_cells (box_below hxv hb4')
                      have hr4 := box_cells (box_below hres hb4')
                      have hf4 := fun j => frozen_of_row w4 w.heap.size j _ _ (box_below hres hb4')))
                  go_wp2
                  have hbE := ((((hbw3.trans (hb4'.mono hz3)).setCell (p := ⟨w.heap.size, 0, none⟩) (Nat.le_refl _) (.int .u8 2)).setCell (p := ⟨w.heap.size, 1, none⟩) (Nat.le_refl _) (.int .i64 0)).setCell (p := ⟨w.heap.size, 2, none⟩) (Nat.le_refl _) (.string ⟨T.toArray⟩)).setCell (p := ⟨w.heap.size, 3, none⟩) (Nat.le_refl _) (.bool false)
                  exact bodyPost_ret (v := .tuple #[.agg #[.int .u8 2, .int .i64 0, .string ⟨T.toArray⟩, .bool false], (.slice (some ⟨b2, o2 + (T.length + 1), none⟩) (l.length - (T.length + 1)) (cR - (T.length + 1))), .bool true]) (by simp [results, Tryd.results45, go_sem, hr4]) rfl (take_yes (hB := ⟨_, _, _, rfl, rfl⟩) (v := Lp.vText T) hbE HK.out (by simp) (by omega) (hd4.below hbE) (vtext_ok hTl))
              · have HR : Hid (Lp.rightB 2 0 ⟨T.toArray⟩ false = false) := by
                  show _ = _
                  rw [hrb, Bool.eq_false_iff]; intro g; simp only [Bool.and_eq_true, decide_eq_true_eq] at g; exact hok g
                have HK : Hid (Lp.ktake (x :: l) = none) := by
                  show _ = _
                  rw [hx]; simp only [Lp.ktake, HAH.out]
                  rw [if_neg (by decide), if_neg (by decide), if_neg (by decide), if_pos trivial, if_neg (fun g => hok ⟨g.2.2, g.2.1⟩)]
                clear hrb hx hok
                go_wp2_with fail
                refine (idxb_rds b2 o2 _ _ l rfl _ (rR.below (HX.out _ _))).mono ?_
                rintro e w' ⟨rfl, rfl⟩
                rw [HI.out]
                have hres := box_alloc (box_alloc (heap_alloc_new w (.cells #[.int .u8 0, .int .i64 0, .string ⟨#[]⟩, .bool false] 36)) (.cells #[.int .u8 0, .int .i64 0, .string ⟨#[]⟩, .bool false] 36)) (.cells #[.int .u8 2, .int .i64 0, .string ⟨T.toArray⟩, .bool false] 36)
                have hxv := heap_alloc_new ((w.alloc (.cells #[.int .u8 0, .int .i64 0, .string ⟨#[]⟩, .bool false] 36)).alloc (.cells #[.int .u8 0, .int .i64 0, .string ⟨#[]⟩, .bool false] 36)) (.cells #[.int .u8 2, .int .i64 0, .string ⟨T.toArray⟩, .bool false] 36)
                have hsv : ((w.alloc (.cells #[.int .u8 0, .int .i64 0, .string ⟨#[]⟩, .bool false] 36)).alloc (.cells #[.int .u8 0, .int .i64 0, .string ⟨#[]⟩, .bool false] 36)).heap.size = w.heap.size + 2 := by simp
                rw [hsv] at hxv
                have hT3 := tabs_alloc hTx (.cells #[.int .u8 2, .int .i64 0, .string ⟨T.toArray⟩, .bool false] 36)
                have hbw3 := (HX.out (.cells #[.int .u8 0, .int .i64 0, .string ⟨#[]⟩, .bool false] 36) (.cells #[.int .u8 0, .int .i64 0, .string ⟨#[]⟩, .bool false] 36)).alloc (by simp; omega) (.cells #[.int .u8 2, .int .i64 0, .string ⟨T.toArray⟩, .bool false] 36)
                clear hsv hc3
                by_cases h1 : cR = T.length + 1
                · have hl : l.length = T.length + 1 := by omega
                  have HL := Lib.hid hl
                  clear hl
                  subst h1
                  go_wp2_with fail
                  clear hcv2
                  generalize (((w.alloc (.cells #[.int .u8 0, .int .i64 0, .string ⟨#[]⟩, .bool false] 36)).alloc (.cells #[.int .u8 0, .int .i64 0, .string ⟨#[]⟩, .bool false] 36)).alloc (.cells #[.int .u8 2, .int .i64 0, .string ⟨T.toArray⟩, .bool false] 36)) = w3 at *
                  have hcx := box_cells hxv
                  have hcr := box_cells hres
                  have hz3 := hbw3.size
                  have hw1 : IntKind.i64.wrap ((T.length : Int) + 1) = (T.length : Int) + 1 := IntWalk.i64_in _ (by omega)
                  have hw2 : (0 : Int) ≤ (T.length : Int) + 1 := by omega
                  have hw3 : ((T.length : Int) + 1).toNat = T.length + 1 := by omega
                  have hw4 : (T.length : Int) + 1 ≤ (l.length : Int) := by omega
                  go_region_held3 (fun w' => w'.cell? ⟨w.heap.size + 2, 0, none⟩ = some (.int .u8 2) ∧ w'.cell? ⟨w.heap.size + 2, 1, none⟩ = some (.int .i64 0) ∧ w'.cell? ⟨w.heap.size + 2, 2, none⟩ = some (.string ⟨T.toArray⟩) ∧ w'.cell? ⟨w.heap.size + 2, 3, none⟩ = some (.bool false))
                    (first | go_keep | exact ⟨hx4 0, hx4 1, hx4 2, hx4 3⟩)
                    ((go_at_call 39; refine (right_at _ _ _ _ _ HR.out _ ?_ ?_).mono ?_
                      · simpa [ByteArray.size] using hTl
                      · exact tabs_below hT3 (by repeat (first | exact Below.refl _ _ | apply Below.drew))
                      rintro e w4 ⟨rfl, hb4⟩
                      have hb4' := Below.trans (a := w3) (by repeat (first | exact Below.refl _ _ | apply Below.drew)) hb4
                      have hx4 := box_cells (box_below hxv hb4')
                      have hr4 := box_cells (box_below hres hb4')
                      have hf4 := fun j => frozen_of_row w4 w.heap.size j _ _ (box_below hres hb4')))
                  go_wp2
                  have hbE := ((((hbw3.trans (hb4'.mono hz3)).setCell (p := ⟨w.heap.size, 0, none⟩) (Nat.le_refl _) (.int .u8 2)).setCell (p := ⟨w.heap.size, 1, none⟩) (Nat.le_refl _) (.int .i64 0)).setCell (p := ⟨w.heap.size, 2, none⟩) (Nat.le_refl _) (.string ⟨T.toArray⟩)).setCell (p := ⟨w.heap.size, 3, none⟩) (Nat.le_refl _) (.bool false)
                  exact bodyPost_ret (v := .tuple #[.agg #[.int .u8 2, .int .i64 0, .string ⟨T.toArray⟩, .bool false], (.slice (some ⟨b2, o2, none⟩) 0 0), .bool false]) (by simp [results, Tryd.results45, go_sem, hr4]) rfl (take_no (Lp.vText T) hbE HK.out)
                · rw [if_neg h1] at hd3
                  have hd4 : Rds w (some ⟨b2, o2 + (T.length + 1), none⟩) (bv (l.drop (T.length + 1))) := by
                    have := hd3
                    simp only [Option.map_some, Nat.mul_one, addr_plus] at this
                    exact this
                  clear hd3
                  go_wp2_with fail
                  clear hcv2
                  generalize (((w.alloc (.cells #[.int .u8 0, .int .i64 0, .string ⟨#[]⟩, .bool false] 36)).alloc (.cells #[.int .u8 0, .int .i64 0, .string ⟨#[]⟩, .bool false] 36)).alloc (.cells #[.int .u8 2, .int .i64 0, .string ⟨T.toArray⟩, .bool false] 36)) = w3 at *
                  have hcx := box_cells hxv
                  have hcr := box_cells hres
                  have hz3 := hbw3.size
                  have hw1 : IntKind.i64.wrap ((T.length : Int) + 1) = (T.length : Int) + 1 := IntWalk.i64_in _ (by omega)
                  have hw2 : (0 : Int) ≤ (T.length : Int) + 1 := by omega
                  have hw3 : ((T.length : Int) + 1).toNat = T.length + 1 := by omega
                  have hw4 : (T.length : Int) + 1 ≤ (l.length : Int) := by omega
                  go_region_held3 (fun w' => w'.cell? ⟨w.heap.size + 2, 0, none⟩ = some (.int .u8 2) ∧ w'.cell? ⟨w.heap.size + 2, 1, none⟩ = some (.int .i64 0) ∧ w'.cell? ⟨w.heap.size + 2, 2, none⟩ = some (.string ⟨T.toArray⟩) ∧ w'.cell? ⟨w.heap.size + 2, 3, none⟩ = some (.bool false))
                    (first | go_keep | exact ⟨hx4 0, hx4 1, hx4 2, hx4 3⟩)
                    ((go_at_call 39; refine (right_at _ _ _ _ _ HR.out _ ?_ ?_).mono ?_
                      · simpa [ByteArray.size] using hTl
                      · exact tabs_below hT3 (by repeat (first | exact Below.refl _ _ | apply Below.drew))
                      rintro e w4 ⟨rfl, hb4⟩
                      have hb4' := Below.trans (a := w3) (by repeat (first | exact Below.refl _ _ | apply Below.drew)) hb4
                      have hx4 := box_cells (box_below hxv hb4')
                      have hr4 := box_cells (box_below hres hb4')
                      have hf4 := fun j => frozen_of_row w4 w.heap.size j _ _ (box_below hres hb4')))
                  go_wp2
                  have hbE := ((((hbw3.trans (hb4'.mono hz3)).setCell (p := ⟨w.heap.size, 0, none⟩) (Nat.le_refl _) (.int .u8 2)).setCell (p := ⟨w.heap.size, 1, none⟩) (Nat.le_refl _) (.int .i64 0)).setCell (p := ⟨w.heap.size, 2, none⟩) (Nat.le_refl _) (.string ⟨T.toArray⟩)).setCell (p := ⟨w.heap.size, 3, none⟩) (Nat.le_refl _) (.bool false)
                  exact bodyPost_ret (v := .tuple #[.agg #[.int .u8 2, .int .i64 0, .string ⟨T.toArray⟩, .bool false], (.slice (some ⟨b2, o2 + (T.length + 1), none⟩) (l.length - (T.length + 1)) (cR - (T.length + 1))), .bool false]) (by simp [results, Tryd.results45, go_sem, hr4]) rfl (take_no (Lp.vText T) hbE HK.out)
            · have HI := Lib.hid (Lp.index_none ha)
              have HK : Hid (Lp.ktake (x :: l) = none) := by
                show _ = _
                rw [hx]; simp [Lp.ktake, ha]
              clear hx ha
              go_wp2_with fail
              refine (idxb_rds b2 o2 _ _ l rfl _ (rR.below (HX.out _ _))).mono ?_
              rintro e w' ⟨rfl, rfl⟩
              rw [HI.out]
              go_wp2
              exact bodyPost_ret (v := .tuple #[.agg #[.int .u8 0, .int .i64 0, .string ⟨#[]⟩, .bool false], .slice none 0 0, .bool false]) (by simp [results, Tryd.results45, go_sem]) rfl (take_no Lp.vNull (HX.out _ _) HK.out)
          · have HK : Hid (Lp.ktake (x :: l) = none) := by
              show _ = _
              have g1 : ¬ x = 1 := fun e => x1 (by rw [e]; rfl)
              have g2 : ¬ x = 2 := fun e => x2 (by rw [e]; rfl)
              have g3 : ¬ x = 3 := fun e => x3 (by rw [e]; rfl)
              have g4 : ¬ x = 4 := fun e => x4 (by rw [e]; rfl)
              simp [Lp.ktake, g1, g2, g3, g4]
            have e1 : ((x.toNat : Int) == 1) = false := by simpa using (by omega : ¬ (x.toNat : Int) = 1)
            have e2 : ((x.toNat : Int) == 2) = false := by simpa using (by omega : ¬ (x.toNat : Int) = 2)
            have e3 : ((x.toNat : Int) == 3) = false := by simpa using (by omega : ¬ (x.toNat : Int) = 3)
            have e4 : ((x.toNat : Int) == 4) = false := by simpa using (by omega : ¬ (x.toNat : Int) = 4)
            clear x1 x2 x3 x4
            go_wp2
            exact bodyPost_ret (v := .tuple #[.agg #[.int .u8 0, .int .i64 0, .string ⟨#[]⟩, .bool false], .slice none 0 0, .bool false]) (by simp [results, Tryd.results45, go_sem]) rfl (take_no Lp.vNull (HX.out _ _) HK.out)
end Go.Proofs.YthdnphnipfpdkaaDoor
