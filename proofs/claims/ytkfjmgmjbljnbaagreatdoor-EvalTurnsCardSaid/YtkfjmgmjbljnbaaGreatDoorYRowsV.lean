/-
 Rows of values in memory; a frame of eval's. No conditions.
-/
import Derived.Test.YtkfjmgmjbljnbaaGreatDoorYGX
namespace Go.Proofs.YtkfjmgmjbljnbaaGreatDoor
open Go.RowKit
theorem cell_belo {w w' : World} {a : Addr} {u : Value} (h : w.cell? a = some u) (hb : Below w.heap.size w w') : w'.cell? a = some u := (hb.cell (p := a) (World.block_lt_of_cell? w a h)).trans h
abbrev RowV := Option Addr × Nat × List Lp.V
def RowV.val (x : RowV) : Value := .slice x.1 x.2.2.length x.2.1
def RowsM (w : World) (A : Option Addr) (R : List RowV) : Prop := Rds w A (R.map RowV.val) ∧ ∀ x ∈ R, RdsV w x.1 x.2.2
theorem RowsM.below {w w' : World} {A : Option Addr} {R : List RowV} (h : RowsM w A R) (hb : Below w.heap.size w w') : RowsM w' A R :=
 ⟨h.1.below hb, fun x hx => (h.2 x hx).below hb⟩
def vv4 (v : Lp.V) : Value := .agg #[.int .u8 v.k, .int .i64 v.i, .string v.s, .bool v.b]
structure Fr where
 r : RowV
 A : Option Addr
 c : Nat
 R : List RowV
 g : Bool
def Fr.val (f : Fr) : Value := .agg #[f.r.val, .slice f.A f.R.length f.c, .bool f.g]
def Fr.rows (f : Fr) : List (List Lp.V) := f.R.map (·.2.2)
def Fr.row (f : Fr) : List Lp.V := match f.g, f.R with
 | true, x :: _ => x.2.2
 | _, _ => f.r.2.2
def Fr.At (w : World) (f : Fr) : Prop := RdsV w f.r.1 f.r.2.2 ∧ RowsM w f.A f.R
theorem Fr.At.below {w w' : World} {f : Fr} (h : f.At w) (hb : Below w.heap.size w w') : f.At w' := ⟨h.1.below hb, h.2.below hb⟩
end Go.Proofs.YtkfjmgmjbljnbaaGreatDoor
