/-
  The walk of LexSplits: it returns true, of any text. Conditions: unicode/utf8's tables as laid.
-/
import Derived.Test.YtmdmcfobdbccmaaDoorLexQ
import Derived.Test.YtmdmcfobdbccmaaDoorLexL
namespace Go.Proofs.YtmdmcfobdbccmaaDoor
open Go.RowKit

theorem toks_le (l : List UInt8) : (Lp.toks l).1.length ≤ 2000 := by
  by_cases h : 2000 < l.length
  · rw [Lp.toks_long h]; simp
  · rw [Lp.toks_short (by omega)]
    have := Lp.splA_len l.length [] l (Nat.le_refl _)
    simp at this; omega
set_option maxRecDepth 100000 in
set_option maxHeartbeats 4000000 in
theorem lexSplits_walk (s : ByteArray) (w : World) (hs : s.size ≤ 9223372036854775807) (hT : Tabs w) :
    Calls Tryd.prog 3 #[.string s] w fun e w' => e = .returned (.bool true) ∧ Below w.heap.size w w' := by
  go_enter Tryd.func3, Tryd.ntmps3
  go_wp2_with fail
  refine (awake14_any _ hT).mono ?_
  rintro e w1 ⟨rfl, hb1⟩
  have hT1 := tabs_below hT hb1
  go_wp2_with fail
  have hz : (s.extract 0 (min (s.size : Int) 2100).toNat).size ≤ 2100 := by simp; omega
  generalize s.extract 0 (min (s.size : Int) 2100).toNat = S at *
  have hL := lsplit_any S w1 hT1 (by omega)
  have hR := fun W => rsplit_any S W (by omega)
  have hle := toks_le S.data.toList
  generalize Lp.toks S.data.toList = p at *
  obtain ⟨L, E⟩ := p
  have HR := Lib.hid hR
  simp only at hle
  clear hR
  refine hL.mono ?_
  rintro e w2 ⟨hb2, A, c, rfl, hc, hown⟩
  have r2 : RdsT w2 A L := Rds.own hown
  have k2 := hb1.trans (hb2.mono hb1.size)
  clear hb1 hb2 hown hL hT1
  go_wp2_with fail
  refine (HR.out _).mono ?_
  rintro e w3 ⟨hb3, A3, c3, rfl, hc3, hown3⟩
  have r3 : RdsT w3 A3 L := Rds.own hown3
  have r2' := Rds.below r2 hb3
  have k3 := k2.trans (hb3.mono k2.size)
  clear hown3 r2 hb3 k2
  go_wp2_with fail
  refine (back_any A _ c L rfl _ r2' (by omega)).mono ?_
  rintro e w4 ⟨⟨A4, c4, rfl, hown4⟩, hb4⟩
  have r4 : RdsT w4 A4 L := Rds.own hown4
  have r3' := Rds.below r3 hb4
  have k4 := k3.trans (hb4.mono k3.size)
  clear hown4 r3 hb4 k3 r2'
  go_wp2_with fail
  refine (tsame_any A4 A3 _ _ c4 c3 L rfl rfl _ r4 r3' (by omega)).mono ?_
  rintro e w5 ⟨rfl, hb5⟩
  go_wp2
  go_ret
  exact ⟨by simp, k4.trans (hb5.mono k4.size)⟩
end Go.Proofs.YtmdmcfobdbccmaaDoor
