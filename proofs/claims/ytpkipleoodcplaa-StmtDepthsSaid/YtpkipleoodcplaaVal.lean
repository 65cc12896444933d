/-
  Values, plain: which are right. No program in sight. No conditions.
-/
import Derived.Lib.ValidU
import Derived.RowKit
namespace Go.Proofs.Ytpkipleoodcplaa.Lp
open Go.RowKit

/-- A text of whole runes, none of them 0. -/
def textOk (l : List UInt8) : Bool := Lib.validD l && !l.contains 0
def rightB (k i : Int) (s : ByteArray) (b : Bool) : Bool :=
  if k = 0 then i == 0 && s.data.toList.isEmpty && !b
  else if k = 1 then s.data.toList.isEmpty && !b
  else if k = 2 then i == 0 && !b && decide (s.size ≤ 60) && textOk s.data.toList
  else if k = 3 then i == 0 && s.data.toList.isEmpty
  else false

end Go.Proofs.Ytpkipleoodcplaa.Lp
