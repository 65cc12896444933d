/-
 What expressions are of a row, or of the rows of a group. No program in sight. No conditions.
-/
import Derived.Test.YtkfjmgmjbljnbaaGreatDoorYGB
import Derived.Test.YtkfjmgmjbljnbaaGreatDoorYGW
import Derived.Test.YtkfjmgmjbljnbaaGreatDoorYGX
namespace Go.Proofs.YtkfjmgmjbljnbaaGreatDoor.Lp
def nullV : V := ⟨0, 0, ⟨#[]⟩, false⟩
def numV (n : Int) : V := ⟨1, n, ⟨#[]⟩, false⟩
def truV (b : Bool) : V := ⟨3, 0, ⟨#[]⟩, b⟩
def numE (n e : Int) : V × Int := if e = 0 then (numV n, 0) else (nullV, e)
def triV (bad : Bool) (n : Int) : V × Int := if bad then (nullV, 8) else (⟨bkK n, 0, ⟨#[]⟩, bkB n⟩, 0)
def reckV (op : List UInt8) (a b : Int) : Int :=
 if op = [43] then val (a + b) else if op = [45] then val (a - b) else if op = [42] then val (a * b) else if op = [47] then divV a b else modV a b
def reckE (op : List UInt8) (a b : Int) : Int :=
 if op = [43] then err (a + b) else if op = [45] then err (a - b) else if op = [42] then err (a * b) else if op = [47] then divE a b else zerE b
def twoX (op : List UInt8) (a b : V) : V × Int := if a.k = 0 ∨ b.k = 0 then (nullV, 0) else numE (reckV op a.i b.i) (reckE op a.i b.i)
def standsX (op : List UInt8) (c : Int) : Bool :=
 if op = [61] then decide (c = 0) else if op = [60, 62] then decide (c ≠ 0) else if op = [60] then decide (c < 0) else if op = [60, 61] then decide (c ≤ 0) else if op = [62] then decide (0 < c) else decide (0 ≤ c)
def cmpX (op : List UInt8) (a b : V) : V × Int := if cmpE a b = 0 ∧ cmpB a b = true then (truV (standsX op (cmpV a b)), 0) else (nullV, cmpE a b)
def binX (op : List UInt8) (a b : V) : V × Int :=
 if op = uAnd then triV (badT a b) (joinN a b false) else if op = uOr then triV (badT a b) (joinN a b true)
 else if op ∈ arith then twoX op a b else cmpX op a b
def unX (op : List UInt8) (a : V) : V × Int :=
 if op = uNot then triV (decide (tw a.k a.b < 0)) (2 - tw a.k a.b) else twoX [45] (numV 0) a
def isX (n : Bool) (a : V) : V × Int := (truV (n != (a.k == 0)), 0)
def thenV (p : V × Int) (f : V → V × Int) : V × Int := if p.2 = 0 then f p.1 else (nullV, p.2)
def stepA (op : List UInt8) (st : Int × V) (v : V) : (Int × V) × Int :=
 if v.k = 0 then (st, 0)
 else if st.1 = 0 ∨ (op = uMin ∧ vless v st.2 = true) ∨ (op = uMax ∧ vless st.2 v = true) then ((st.1 + 1, v), 0)
 else if op = uSum then ((st.1 + 1, (twoX [43] st.2 v).1), (twoX [43] st.2 v).2)
 else ((st.1 + 1, st.2), 0)
def foldA (op : List UInt8) (f : List V → V × Int) : Int × V → List (List V) → V × Int
 | st, [] => (if op = uCount then numV st.1 else st.2, 0)
 | st, r :: l => if (f r).2 = 0 then (if (stepA op st (f r).1).2 = 0 then foldA op f (stepA op st (f r).1).1 l else (nullV, (stepA op st (f r).1).2)) else (nullV, (f r).2)
def evalX (sc : List Tb) : X → List V → List (List V) → V × Int
 | .lit k i s b, _, _ => (⟨k, i, ⟨s.toArray⟩, b⟩, 0)
 | .col t s, row, _ => match findX sc t s with
   | none => (nullV, 0)
   | some p => ((row[p.1]?).getD nullV, 0)
 | .un op x, row, rows => thenV (evalX sc x row rows) (unX op)
 | .bin op a b, row, rows => thenV (evalX sc a row rows) fun u => thenV (evalX sc b row rows) (binX op u)
 | .isn n x, row, rows => thenV (evalX sc x row rows) (isX n)
 | .agg op x, _, rows => foldA op (fun r => evalX sc x r []) (0, nullV) rows
 | .cnt, _, rows => (numV rows.length, 0)
end Go.Proofs.YtkfjmgmjbljnbaaGreatDoor.Lp
