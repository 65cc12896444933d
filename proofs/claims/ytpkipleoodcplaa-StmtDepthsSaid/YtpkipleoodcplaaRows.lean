/-
  No cell of these rows narrows 'for every input' (looked for: loops, veiled, ifaces, maps, wideKeys, modest, calm, conditions, laid).
  DERIVED. THE GIVEN ROWS OF THIS SEAT. 2 by the template 'for every input the law returns true; each argument reads behind the call as it read before'; 0 by the template 'total and deterministic' (their statements: YtpkipleoodcplaaTotals.lean).
  GIVEN WITH THE SEED: the statements are not yours to turn. If you find one false, say at which input.
  Laid BY PROGRAM, IN A SANDBOX (cutbox-rows.mjs): the forced cells as the released guide's own fill.sh prints them over the translation fc0b3143ff95991a… (all of the seat's roots in one cut). By AI agents, Wed Nov 11 2026. No macro, syntax, notation, axiom, sorry.
-/
import Derived.Test.YtpkipleoodcplaaChecked
import GoSem.Claim
import GoSem.ClaimJoined
import GoSem.ClaimMapViews
import Derived.JoinedTies
import Derived.KernelRfl
namespace Go.Proofs.Ytpkipleoodcplaa
/- THE CELL 'sum', in the pinned program and in every row, IS THE sha256 OF THE DUMP (.gsa) THAT YtpkipleoodcplaaProg.lean LOADS. Nothing in Lean hashes anything: it is a label: what it is worth is what the hold of that sum in a sandbox is worth. -/
noncomputable def Try.pinned : Pinned := { name := "ytpkipleoodcplaa", sum := "fc0b3143ff95991aa381b6b9827a405fdcdc8e8a9f45119f94a0f6e53710cd2f", checked := Try.checked }
namespace Rows
def none {H : Type} : Left H := { results := [], args := [] }

/-- 'lapidarylaw15.StmtWalks': WHATEVER THE INPUT: true; the input reads as it did. -/
def stmtWalksSpec : ChangeSpec := { name := "stmtWalks", fn := fun _ => fun
  | [d1, d2] => { results := [.lit (.bool true)], args := [d1, d2] }
  | _ => none }
def stmtWalksRow : OpenClaim := { program := "ytpkipleoodcplaa", sum := "fc0b3143ff95991aa381b6b9827a405fdcdc8e8a9f45119f94a0f6e53710cd2f", func := "lapidary/lapidarylaw15.StmtWalks", spec := "stmtWalks", unfollowed := true, recurses := true, apart := false }
def StmtWalksSaid : Prop := stmtWalksRow.holds Try.pinned (OpenSpec.ofChange stmtWalksSpec)

/-- ITS FALSE NEIGHBOUR: 'it returns false'. Refute it at one input. -/
def stmtWalksWrong : ChangeSpec := { name := "stmtWalks", fn := fun _ => fun
  | [d1, d2] => { results := [.lit (.bool false)], args := [d1, d2] }
  | _ => none }
def StmtWalksWrongFalsely : Prop := stmtWalksRow.holds Try.pinned (OpenSpec.ofChange stmtWalksWrong)

/-- 'lapidarylaw15.StmtDepths': WHATEVER THE INPUT: true; the input reads as it did. -/
def stmtDepthsSpec : ChangeSpec := { name := "stmtDepths", fn := fun _ => fun
  | [d] => { results := [.lit (.bool true)], args := [d] }
  | _ => none }
def stmtDepthsRow : OpenClaim := { program := "ytpkipleoodcplaa", sum := "fc0b3143ff95991aa381b6b9827a405fdcdc8e8a9f45119f94a0f6e53710cd2f", func := "lapidary/lapidarylaw15.StmtDepths", spec := "stmtDepths", unfollowed := true, recurses := true, apart := false }
def StmtDepthsSaid : Prop := stmtDepthsRow.holds Try.pinned (OpenSpec.ofChange stmtDepthsSpec)

/-- ITS FALSE NEIGHBOUR: 'it returns false'. Refute it at one input. -/
def stmtDepthsWrong : ChangeSpec := { name := "stmtDepths", fn := fun _ => fun
  | [d] => { results := [.lit (.bool false)], args := [d] }
  | _ => none }
def StmtDepthsWrongFalsely : Prop := stmtDepthsRow.holds Try.pinned (OpenSpec.ofChange stmtDepthsWrong)

/- THE SECOND FORM. 'bulk': how many values and letters a reading holds, each counted each time it is reached (what is shared counts as often as it is met; a slice's spare places count too). A statement '..UptoSaid' is the law's where the arguments, and the package variables that the reading takes, are together of bulk at most 1048576: NARROWER than '..Said'. Prove '..Said' where nothing that the law and all that it calls make is longer than what came in: it says more and counts as full. Else prove '..UptoSaid'. A law counts once. -/
mutual
def uptoBulk {H : Type} : DataW H → Nat
  | .lit (.string bytes) => bytes.length + 1
  | .lit _ => 1
  | .nil => 1
  | .ptr d => uptoBulk d + 1
  | .slice elems spare => uptoBulkAll elems + uptoBulkAll spare + 1
  | .agg parts => uptoBulkAll parts + 1
  | .iface _ d => uptoBulk d + 1
  | .map entries => uptoBulkEntries entries + 1
  | .held _ => 1
def uptoBulkAll {H : Type} : List (DataW H) → Nat
  | [] => 0
  | d :: r => uptoBulk d + uptoBulkAll r
def uptoBulkEntries {H : Type} : List (Lit × DataW H) → Nat
  | [] => 0
  | x :: r => uptoBulkEntry x + uptoBulkEntries r
def uptoBulkEntry {H : Type} : Lit × DataW H → Nat
  | (.string bytes, d) => bytes.length + uptoBulk d + 1
  | (_, d) => uptoBulk d + 1
 end
def uptoSmall : (H : Type) → List (DataW H) → Bool := fun _ ds => decide (uptoBulkAll ds ≤ 1048576)
def OpenSpec.upto (s : _root_.Go.ChangeSpec) : _root_.Go.OpenSpec := { _root_.Go.OpenSpec.ofChange s with cond := some uptoSmall }

/-- 'lapidarylaw15.StmtWalks', WHERE WHAT IT READS IS OF BULK AT MOST 1048576: true; the input reads as it did. -/
def stmtWalksUptoRow : OpenClaim := { program := "ytpkipleoodcplaa", sum := "fc0b3143ff95991aa381b6b9827a405fdcdc8e8a9f45119f94a0f6e53710cd2f", func := "lapidary/lapidarylaw15.StmtWalks", spec := "stmtWalks", unfollowed := true, recurses := true, apart := false, narrowed := true }
def StmtWalksUptoSaid : Prop := stmtWalksUptoRow.holds Try.pinned (OpenSpec.upto stmtWalksSpec)

/-- 'lapidarylaw15.StmtDepths', WHERE WHAT IT READS IS OF BULK AT MOST 1048576: true; the input reads as it did. -/
def stmtDepthsUptoRow : OpenClaim := { program := "ytpkipleoodcplaa", sum := "fc0b3143ff95991aa381b6b9827a405fdcdc8e8a9f45119f94a0f6e53710cd2f", func := "lapidary/lapidarylaw15.StmtDepths", spec := "stmtDepths", unfollowed := true, recurses := true, apart := false, narrowed := true }
def StmtDepthsUptoSaid : Prop := stmtDepthsUptoRow.holds Try.pinned (OpenSpec.upto stmtDepthsSpec)

end Rows
end Go.Proofs.Ytpkipleoodcplaa
