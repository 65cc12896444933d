/-
  Tokens joined, plain. No program in sight. No conditions.
-/
import Derived.Test.YtmdmcfobdbccmaaDoorPlainLex
import Derived.Test.YtmdmcfobdbccmaaDoorPlainLit
namespace Go.Proofs.YtmdmcfobdbccmaaDoor.Lp
open Go.RowKit

def jt (t : Tok) : List UInt8 := if t.k = 2 then Lib.itoa t.n else if t.k = 3 then litT t.s else t.s
def joinL : List Tok → List UInt8
  | [] => []
  | t :: l => jt t ++ l.flatMap fun u => 32 :: jt u
theorem joinL_snoc (l : List Tok) (t : Tok) : joinL (l ++ [t]) = if l = [] then jt t else joinL l ++ 32 :: jt t := by
  cases l with
  | nil => simp [joinL]
  | cons a l => simp [joinL]
/-- What Join asks of a token: a number within its bounds, a text that isn't too long. -/
def Tok.fit (t : Tok) : Prop := inR t.n ∧ t.s.length ≤ 1000000 ∧ (jt t).length ≤ 3000
end Go.Proofs.YtmdmcfobdbccmaaDoor.Lp
