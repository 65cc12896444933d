/-
 Contracts and laws, joined. Conditions: those of each.
-/
import Derived.Test.YtkfjmgmjbljnbaaGreatDoorQGE
import Derived.Test.YtkfjmgmjbljnbaaGreatDoorQGC
import Derived.Test.YtkfjmgmjbljnbaaGreatDoorQZI
import Derived.Test.YtkfjmgmjbljnbaaGreatDoorQScope18
import Derived.Test.YtkfjmgmjbljnbaaGreatDoorQFit
import Derived.Test.YtkfjmgmjbljnbaaGreatDoorQZE
import Derived.Laws.StructEq
namespace Go.Proofs.YtkfjmgmjbljnbaaGreatDoor
open Go.RowKit
theorem vv_take2 (l:List Lp.V) (n:Nat):Lp.vv (l.take n)=(Lp.vv l).take (n*4):=(Lp.vv_take l n).symm
theorem row_cut {W:World} {A:Option Addr} {c:Nat} {l:List Lp.V} (h:RowOk1 W (A,c,l)):RowOk1 W ((A,c,l.take (min l.length 20)):RowV)∧(l.take (min l.length 20)).length=min l.length 20:=by
 refine ⟨⟨?_, ?_,fun u hu=>h.2.2 u (List.mem_of_mem_take hu)⟩,by simp⟩
 ·show Rds W A (Lp.vv _)
  rw [vv_take2]
  exact Rds.take h.1 _
 ·have h2:l.length≤c:=h.2.1
  show (l.take (min l.length 20)).length≤c
  simp;omega
theorem RowOk1.below {W W':World} {x:RowV} (h:RowOk1 W x) (hb:Below W.heap.size W W'):RowOk1 W' x:=⟨h.1.below hb,h.2⟩
def vEq (u v:Lp.V):Bool:=u.k==v.k&&u.i==v.i&&u.s.data.toList==v.s.data.toList&&u.b==v.b
theorem valFields:(Tryz.prog.fieldsOf 31).toList=[{ name := "Kind", type:=29,offset:=0,embedded:=false,tag := "", pkgPath := "", byteOffset:=0 },{ name := "I", type:=2,offset:=1,embedded:=false,tag := "", pkgPath := "", byteOffset:=8 },{ name := "S", type:=9,offset:=2,embedded:=false,tag := "", pkgPath := "", byteOffset:=16 },{ name := "B", type:=4,offset:=3,embedded:=false,tag := "", pkgPath := "", byteOffset:=32 }]:=by
 unfold Program.fieldsOf
 rw [Tryz.underlying31]
theorem eqG_run (x y:Operand) (xs ys:Array Value) (w:World):(eqGuard .eql 31 x y (.agg xs) (.agg ys)).run Tryz.prog w=.ok () w:=run_eqGuard_agg w _ _ _ _ _ _ (by kernel_rfl)
theorem eqV_run (x1 x2 y1 y2:Int) (x3 y3:ByteArray) (x4 y4:Bool) (w:World):(binOp .eql 31 (.agg #[.int .u8 x1,.int .i64 x2,.string x3,.bool x4]) (.agg #[.int .u8 y1,.int .i64 y2,.string y3,.bool y4])).run Tryz.prog w=.ok (.bool (vEq ⟨x1,x2,x3,x4⟩ ⟨y1,y2,y3,y4⟩)) w:=by
 rw [run_eql_struct,show (10000:Nat)=9998+1+1 from rfl,run_equalIn_struct w (9998+1) 31 _ _ (by kernel_rfl) (by kernel_rfl),valFields]
 have p1:∀ b c d:Value,(part 29 #[.int .u8 x1,b,c,d] 0).run Tryz.prog w=.ok (.int .u8 x1) w:=fun b c d=>by kernel_rfl
 have p1':∀ b c d:Value,(part 29 #[.int .u8 y1,b,c,d] 0).run Tryz.prog w=.ok (.int .u8 y1) w:=fun b c d=>by kernel_rfl
 have p2:∀ a c d:Value,(part 2 #[a,.int .i64 x2,c,d] 1).run Tryz.prog w=.ok (.int .i64 x2) w:=fun a c d=>by kernel_rfl
 have p2':∀ a c d:Value,(part 2 #[a,.int .i64 y2,c,d] 1).run Tryz.prog w=.ok (.int .i64 y2) w:=fun a c d=>by kernel_rfl
 have p3:∀ a b d:Value,(part 9 #[a,b,.string x3,d] 2).run Tryz.prog w=.ok (.string x3) w:=fun a b d=>by kernel_rfl
 have p3':∀ a b d:Value,(part 9 #[a,b,.string y3,d] 2).run Tryz.prog w=.ok (.string y3) w:=fun a b d=>by kernel_rfl
 have p4:∀ a b c:Value,(part 4 #[a,b,c,.bool x4] 3).run Tryz.prog w=.ok (.bool x4) w:=fun a b c=>by kernel_rfl
 have p4':∀ a b c:Value,(part 4 #[a,b,c,.bool y4] 3).run Tryz.prog w=.ok (.bool y4) w:=fun a b c=>by kernel_rfl
 have q1:=run_equalIn_int w 9998 29 .u8 .u8 x1 y1 Tryz.underlying29
 have q2:=run_equalIn_int w 9998 2 .i64 .i64 x2 y2 Tryz.underlying2
 have q3:=run_equalIn_string w 9998 9 x3 y3 Tryz.underlying9
 have q4:=run_equalIn_bool' w 9998 4 x4 y4 Tryz.underlying4
 generalize (9998+1:Nat)=d at *
 have n1:("Kind" ≠ "_"):=by decide
 have n2:("I" ≠ "_"):=by decide
 have n3:("S" ≠ "_"):=by decide
 have n4:("B" ≠ "_"):=by decide
 rw [ByteArray.toList_eq,ByteArray.toList_eq] at q3
 simp only [vEq]
 generalize (x1==y1)=r1 at *
 generalize (x2==y2)=r2 at *
 generalize (x3.data.toList==y3.data.toList)=r3 at *
 generalize (x4==y4)=r4 at *
 cases r1<;>cases r2<;>cases r3<;>cases r4<;>simp [Op.eqFields,p1,p1',p2,p2',p3,p3',p4,p4',q1,q2,q3,q4]
end Go.Proofs.YtkfjmgmjbljnbaaGreatDoor
