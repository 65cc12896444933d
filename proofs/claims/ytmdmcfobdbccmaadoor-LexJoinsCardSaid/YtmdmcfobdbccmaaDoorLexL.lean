/-
  lapidarylaw14's awake returns true: the document's example holds of the program. Conditions: unicode/utf8's tables as laid.
-/
import Derived.Test.YtmdmcfobdbccmaaDoorLexB
namespace Go.Proofs.YtmdmcfobdbccmaaDoor
open Go.RowKit

def exT : List Lp.Tok := [⟨1, [115, 101, 108, 101, 99, 116], 0⟩, ⟨1, [97], 0⟩, ⟨4, [60, 61], 0⟩, ⟨2, [], 7⟩]
theorem ex_toks : Lp.toks (⟨#[83, 69, 76, 69, 67, 84, 32, 97, 60, 61, 55]⟩ : ByteArray).data.toList = (exT, 0) := by kernel_rfl
set_option maxRecDepth 100000 in
set_option maxHeartbeats 4000000 in
theorem awake14_any (w : World) (hT : Tabs w) : Calls Tryd.prog 9 #[] w fun e w' => e = .returned (.bool true) ∧ Below w.heap.size w w' := by
  have hS := lsplit_any ⟨#[83, 69, 76, 69, 67, 84, 32, 97, 60, 61, 55]⟩ w hT (by decide)
  rw [ex_toks] at hS
  have HS := Lib.hid hS
  clear hS
  go_enter Tryd.func9, Tryd.ntmps9
  go_wp2_with fail
  refine HS.out.mono ?_
  rintro e w1 ⟨hb1, A, c, rfl, hc, hown⟩
  simp only [show exT.length = 4 from rfl] at hown hc ⊢
  have hr : RdsT w1 A exT := Rds.own hown
  obtain ⟨b, off, rfl, _, q1, _⟩ := RdsT.cells hr (i := 0) (by decide)
  obtain ⟨b2, off2, e2, p0, p1, _⟩ := RdsT.cells hr (i := 2) (by decide)
  obtain ⟨b3, off3, e3, _, _, r2⟩ := RdsT.cells hr (i := 3) (by decide)
  injection e2 with e2; injection e2 with e2 e2'; subst e2 e2'
  injection e3 with e3; injection e3 with e3 e3'; subst e3 e3'
  simp only [exT, List.getElem_cons_zero, List.getElem_cons_succ] at q1 p0 p1 r2
  clear hown hr hc
  go_wp2
  go_ret
  exact ⟨rfl, hb1⟩
end Go.Proofs.YtmdmcfobdbccmaaDoor
