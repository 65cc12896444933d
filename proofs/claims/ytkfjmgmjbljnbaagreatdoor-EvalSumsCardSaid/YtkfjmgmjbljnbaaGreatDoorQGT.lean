/-
 Contracts and laws, joined: PlainLess, Assert, TabPow, CalcDec, Ref1Size, Ref1Dec. Conditions: those of each.
-/
import Derived.Test.YtkfjmgmjbljnbaaGreatDoorQGB
import Derived.Lib.Strings
import Derived.Test.YtkfjmgmjbljnbaaGreatDoorRows
import Derived.KernelRfl
import Derived.WalkKit
import Derived.Below
import Derived.WalkSmall
import Derived.Lib.LaidU8
import Derived.Lib.LaidTab
import Derived.Lib.ItoaNum
import Derived.Test.YtkfjmgmjbljnbaaGreatDoorQShelf
import Derived.Test.YtkfjmgmjbljnbaaGreatDoorQGA
import Derived.WalkSpells
import Derived.WalkLawsBesides
import Derived.Lib.Hide
import Derived.Lib.AppendIntMem
import Derived.Deep.LoopGhost
namespace Go.Proofs.YtkfjmgmjbljnbaaGreatDoor.Lp
open Go.RowKit
theorem less_cons (x y:UInt8) (a b:List UInt8):Op.bytesLess (x::a) (y::b)=(decide (x<y)||(x==y&&Op.bytesLess a b)):=by
 simp [Op.bytesLess]
theorem less_nil_r (a:List UInt8):Op.bytesLess a []=false:=by cases a<;>rfl
theorem less_nil_l (y:UInt8) (b:List UInt8):Op.bytesLess [] (y::b)=true:=rfl
def place (v:V):Int:=if v.k=3 then (if v.b then 2 else 1) else if v.k=1 then 3 else if v.k=2 then 4 else 0
def vless (u v:V):Bool :=
 if place u≠place v then decide (place u<place v)
 else (decide (u.k=1)&&decide (u.i<v.i))||(decide (u.k=2)&&Op.bytesLess u.s.data.toList v.s.data.toList)
def vsame (u v:V):Bool := !vless u v && !vless v u
theorem less_total (s t:List UInt8):(s==t)=(!Op.bytesLess s t && !Op.bytesLess t s):=by
 induction s generalizing t with
 | nil=>cases t with
   | nil=>rfl
   | cons b t=>rw [less_nil_l];rfl
 | cons a s ih =>
   cases t with
   | nil=>rw [less_nil_l,Bool.not_true,Bool.and_false];rfl
   | cons b t =>
     rw [less_cons,less_cons]
     by_cases h1:a<b
     ·have h2:(a==b)=false:=by rw [beq_eq_false_iff_ne];rintro rfl;exact UInt8.lt_irrefl _ h1
      simp [h1,h2]
     ·by_cases h2:b<a
      ·have h3:(a==b)=false:=by rw [beq_eq_false_iff_ne];rintro rfl;exact UInt8.lt_irrefl _ h2
       simp [h2,h3]
      ·have h3:a=b:=UInt8.le_antisymm (UInt8.not_lt.1 h2) (UInt8.not_lt.1 h1)
       subst h3
       have:=ih t
       simp [UInt8.lt_irrefl,this]
theorem less_asymm {s t:List UInt8} (h:Op.bytesLess s t=true):Op.bytesLess t s=false:=by
 induction s generalizing t with
 | nil=>cases t with
   | nil=>cases h
   | cons b t=>exact less_nil_r _
 | cons a s ih =>
   cases t with
   | nil=>rw [less_nil_r] at h;cases h
   | cons b t =>
     rw [less_cons] at h ⊢
     by_cases h1:a<b
     ·have h2:¬b<a:=UInt8.lt_asymm h1
      have h3:(b==a)=false:=by rw [beq_eq_false_iff_ne];rintro rfl;exact UInt8.lt_irrefl _ h1
      simp [h2,h3]
     ·simp only [h1,decide_false,Bool.false_or,Bool.and_eq_true,beq_iff_eq] at h
      obtain ⟨rfl,h2⟩:=h
      simp [UInt8.lt_irrefl,ih h2]
end Go.Proofs.YtkfjmgmjbljnbaaGreatDoor.Lp
namespace Go.Proofs.YtkfjmgmjbljnbaaGreatDoor
open Go.RowKit
theorem ta_i_i (x:Int) (w:World):(Instr.typeAssert (.iface 2 (.int .i64 x)) 20 2 true).run Tryz.prog w=.ok (.tuple #[.int .i64 x,.bool true]) w:=by kernel_rfl
theorem ta_i_s (x:Int) (w:World):(Instr.typeAssert (.iface 2 (.int .i64 x)) 20 9 true).run Tryz.prog w=.ok (.tuple #[.string ⟨#[]⟩,.bool false]) w:=by kernel_rfl
theorem ta_i_b (x:Int) (w:World):(Instr.typeAssert (.iface 2 (.int .i64 x)) 20 4 true).run Tryz.prog w=.ok (.tuple #[.bool false,.bool false]) w:=by kernel_rfl
theorem ta1_i (x:Int) (w:World):(Instr.typeAssert (.iface 2 (.int .i64 x)) 20 2 false).run Tryz.prog w=.ok (.int .i64 x) w:=by kernel_rfl
theorem ta_s_i (x:ByteArray) (w:World):(Instr.typeAssert (.iface 9 (.string x)) 20 2 true).run Tryz.prog w=.ok (.tuple #[.int .i64 0,.bool false]) w:=by kernel_rfl
theorem ta_s_s (x:ByteArray) (w:World):(Instr.typeAssert (.iface 9 (.string x)) 20 9 true).run Tryz.prog w=.ok (.tuple #[.string x,.bool true]) w:=by kernel_rfl
theorem ta_s_b (x:ByteArray) (w:World):(Instr.typeAssert (.iface 9 (.string x)) 20 4 true).run Tryz.prog w=.ok (.tuple #[.bool false,.bool false]) w:=by kernel_rfl
theorem ta1_s (x:ByteArray) (w:World):(Instr.typeAssert (.iface 9 (.string x)) 20 9 false).run Tryz.prog w=.ok (.string x) w:=by kernel_rfl
theorem ta_b_i (x:Bool) (w:World):(Instr.typeAssert (.iface 4 (.bool x)) 20 2 true).run Tryz.prog w=.ok (.tuple #[.int .i64 0,.bool false]) w:=by kernel_rfl
theorem ta_b_s (x:Bool) (w:World):(Instr.typeAssert (.iface 4 (.bool x)) 20 9 true).run Tryz.prog w=.ok (.tuple #[.string ⟨#[]⟩,.bool false]) w:=by kernel_rfl
theorem ta_b_b (x:Bool) (w:World):(Instr.typeAssert (.iface 4 (.bool x)) 20 4 true).run Tryz.prog w=.ok (.tuple #[.bool x,.bool true]) w:=by kernel_rfl
theorem ta1_b (x:Bool) (w:World):(Instr.typeAssert (.iface 4 (.bool x)) 20 4 false).run Tryz.prog w=.ok (.bool x) w:=by kernel_rfl
theorem ta_n_i  (w:World):(Instr.typeAssert (.nilIface) 20 2 true).run Tryz.prog w=.ok (.tuple #[.int .i64 0,.bool false]) w:=by kernel_rfl
theorem ta_n_s  (w:World):(Instr.typeAssert (.nilIface) 20 9 true).run Tryz.prog w=.ok (.tuple #[.string ⟨#[]⟩,.bool false]) w:=by kernel_rfl
theorem ta_n_b  (w:World):(Instr.typeAssert (.nilIface) 20 4 true).run Tryz.prog w=.ok (.tuple #[.bool false,.bool false]) w:=by kernel_rfl
end Go.Proofs.YtkfjmgmjbljnbaaGreatDoor
namespace Go.Proofs.YtkfjmgmjbljnbaaGreatDoor
open Go.RowKit Go.Lib
def cell1:DataW Unit→List Value
 | .lit (.int k z)=>[.int k z]
 | _=>[]
def cell2:DataW Unit→List Value
 | .agg l=>l.flatMap cell1
 | d=>cell1 d
def cell3:DataW Unit→List Value
 | .agg l=>l.flatMap cell2
 | d=>cell1 d
end Go.Proofs.YtkfjmgmjbljnbaaGreatDoor
