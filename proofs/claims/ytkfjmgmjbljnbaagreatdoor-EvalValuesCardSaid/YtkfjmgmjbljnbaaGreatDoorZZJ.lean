/-
 Contracts and laws, joined. Conditions: those of each.
-/
import Derived.Test.YtkfjmgmjbljnbaaGreatDoorZGE
import Derived.Test.YtkfjmgmjbljnbaaGreatDoorZGC
import Derived.Test.YtkfjmgmjbljnbaaGreatDoorZZI
import Derived.Test.YtkfjmgmjbljnbaaGreatDoorZScope18
import Derived.Test.YtkfjmgmjbljnbaaGreatDoorZFit
import Derived.Test.YtkfjmgmjbljnbaaGreatDoorZZF
import Derived.Test.YtkfjmgmjbljnbaaGreatDoorZGB
import Derived.Test.YtkfjmgmjbljnbaaGreatDoorZZE
import Derived.Laws.StructEq
namespace Go.Proofs.YtkfjmgmjbljnbaaGreatDoor
open Go.RowKit
end Go.Proofs.YtkfjmgmjbljnbaaGreatDoor
namespace Go.Proofs.YtkfjmgmjbljnbaaGreatDoor
open Go.RowKit
theorem vv_take2 (l:List Lp.V) (n:Nat):Lp.vv (l.take n)=(Lp.vv l).take (n*4):=(Lp.vv_take l n).symm
theorem row_cut {W:World} {A:Option Addr} {c:Nat} {l:List Lp.V} (h:RowOk1 W (A,c,l)):RowOk1 W ((A,c,l.take (min l.length 20)):RowV)∧(l.take (min l.length 20)).length=min l.length 20:=by
 refine ⟨⟨?_, ?_,fun u hu=>h.2.2 u (List.mem_of_mem_take hu)⟩,by simp⟩
 ·show Rds W A (Lp.vv _)
  rw [vv_take2]
  exact Rds.take h.1 _
 ·have h2:l.length≤c:=h.2.1
  show (l.take (min l.length 20)).length≤c
  simp;omega
theorem RowOk1.below {W W':World} {x:RowV} (h:RowOk1 W x) (hb:Below W.heap.size W W'):RowOk1 W' x:=⟨h.1.below hb,h.2⟩
theorem value_at {sc:List Lp.Tb} {x:Lp.X} (hw:x.wf) (hk:(Lp.kindX sc x false).2=0) {r:RowV} (hr:Lp.RowOk sc r.2.2) {S:Nat→Prop} {g:Nat} {w:World} (hnt:NT S w sc x g) (hv:RdsV w r.1 r.2.2) :
 Calls Tryz.prog 19 #[ptr g,r.val] w (EvPost (Lp.evalX sc x r.2.2 []) w) :=
 eValue_any sc x r (ev_all sc x false (frV r) hw hk (Nat.zero_le _) hr (fun _ h=>by cases h)) S g w hnt hv
end Go.Proofs.YtkfjmgmjbljnbaaGreatDoor
namespace Go.Proofs.YtkfjmgmjbljnbaaGreatDoor.Lp
theorem less_asym:∀ a b:List UInt8,Op.bytesLess a b=true→Op.bytesLess b a=false
 | a,[],h=>by rw [less_nil_r] at h;cases h
 | [],y::b,_=>less_nil_r _
 | x::a,y::b,h=>by
   rw [less_cons] at h ⊢
   simp only [Bool.or_eq_true,decide_eq_true_iff,Bool.and_eq_true,beq_iff_eq] at h
   rcases h with h|⟨rfl,h⟩
   ·rw [Bool.or_eq_false_iff]
    have h1:¬y<x:=by rw [UInt8.lt_iff_toNat_lt] at *;omega
    have h2:(y==x)=false:=by rw [beq_eq_false_iff_ne];rintro rfl;rw [UInt8.lt_iff_toNat_lt] at h;omega
    exact ⟨by simpa using h1,by rw [h2];rfl⟩
   ·rw [Bool.or_eq_false_iff]
    exact ⟨by simp [UInt8.lt_irrefl],by rw [less_asym a b h];simp⟩
theorem cmpI_turn (a b:Int):cmpI b a = - cmpI a b:=by
 unfold cmpI
 repeat' split
 all_goals omega
theorem cmpS_turn (a b:List UInt8):cmpS b a = - cmpS a b:=by
 unfold cmpS
 cases h1:Op.bytesLess a b
 ·cases h2:Op.bytesLess b a<;>simp
 ·have:=less_asym a b h1
  rw [this];simp
theorem vord_turn (u v:V) (h:u.k=v.k):vord v u = - vord u v:=by
 unfold vord
 rw [h]
 simp only [if_true]
 repeat' split
 ·exact cmpI_turn _ _
 ·exact cmpS_turn _ _
 ·exact cmpI_turn _ _
 ·rfl
end Go.Proofs.YtkfjmgmjbljnbaaGreatDoor.Lp
namespace Go.Proofs.YtkfjmgmjbljnbaaGreatDoor.Lp
end Go.Proofs.YtkfjmgmjbljnbaaGreatDoor.Lp
namespace Go.Proofs.YtkfjmgmjbljnbaaGreatDoor.Lp
def sg (s:List UInt8):Tok:=⟨4,s,0⟩
def whole (d:Nat) (L:List Tok):Bool:=match pX 1 d L with
 | some (_,[])=>true
 | _=>false
def nt:Tok:=⟨1,wNot,0⟩
theorem sign_tok (c:UInt8) (r:List UInt8) (h0:letB c=false) (h1:isDig c=false) (h2:c≠39) (h3:singB c=true) (h4:∀ d,twoB c d=false):nextT (c::r)=(⟨4,[c],0⟩,1,0):=by
 have hs:signN (c::r)=1:=by
  cases r with
  | nil=>simp [signN,h3]
  | cons d r=>simp [signN,h3,h4]
 rw [nextT_sign r h0 h1 h2,hs]
 rfl
end Go.Proofs.YtkfjmgmjbljnbaaGreatDoor.Lp
namespace Go.Proofs.YtkfjmgmjbljnbaaGreatDoor
open Go.RowKit
def AskPost (p:Lp.V×Bool) (w:World) (e:Ending) (w':World):Prop:=e=.returned (.tuple #[vv4 p.1,.bool p.2])∧Below w.heap.size w w'
theorem AskPost.mk {p:Lp.V×Bool} {w w':World} {k i:Int} {s:ByteArray} {b o:Bool} (h:p=(⟨k,i,s,b⟩,o)) (hb:Below w.heap.size w w'):AskPost p w (.returned (.tuple #[.agg #[.int .u8 k,.int .i64 i,.string s,.bool b],.bool o])) w':=by
 subst h;exact ⟨rfl,hb⟩
end Go.Proofs.YtkfjmgmjbljnbaaGreatDoor
namespace Go.Proofs.YtkfjmgmjbljnbaaGreatDoor
open Go.RowKit
def vEq (u v:Lp.V):Bool:=u.k==v.k&&u.i==v.i&&u.s.data.toList==v.s.data.toList&&u.b==v.b
end Go.Proofs.YtkfjmgmjbljnbaaGreatDoor
namespace Go.Proofs.YtkfjmgmjbljnbaaGreatDoor
open Go.RowKit
theorem valFields:(Tryz.prog.fieldsOf 31).toList=[{ name := "Kind", type:=29,offset:=0,embedded:=false,tag := "", pkgPath := "", byteOffset:=0 },{ name := "I", type:=2,offset:=1,embedded:=false,tag := "", pkgPath := "", byteOffset:=8 },{ name := "S", type:=9,offset:=2,embedded:=false,tag := "", pkgPath := "", byteOffset:=16 },{ name := "B", type:=4,offset:=3,embedded:=false,tag := "", pkgPath := "", byteOffset:=32 }]:=by
 unfold Program.fieldsOf
 rw [Tryz.underlying31]
theorem eqG_run (x y:Operand) (xs ys:Array Value) (w:World):(eqGuard .eql 31 x y (.agg xs) (.agg ys)).run Tryz.prog w=.ok () w:=run_eqGuard_agg w _ _ _ _ _ _ (by kernel_rfl)
theorem eqV_run (x1 x2 y1 y2:Int) (x3 y3:ByteArray) (x4 y4:Bool) (w:World):(binOp .eql 31 (.agg #[.int .u8 x1,.int .i64 x2,.string x3,.bool x4]) (.agg #[.int .u8 y1,.int .i64 y2,.string y3,.bool y4])).run Tryz.prog w=.ok (.bool (vEq ⟨x1,x2,x3,x4⟩ ⟨y1,y2,y3,y4⟩)) w:=by
 rw [run_eql_struct,show (10000:Nat)=9998+1+1 from rfl,run_equalIn_struct w (9998+1) 31 _ _ (by kernel_rfl) (by kernel_rfl),valFields]
 have p1:∀ b c d:Value,(part 29 #[.int .u8 x1,b,c,d] 0).run Tryz.prog w=.ok (.int .u8 x1) w:=fun b c d=>by kernel_rfl
 have p1':∀ b c d:Value,(part 29 #[.int .u8 y1,b,c,d] 0).run Tryz.prog w=.ok (.int .u8 y1) w:=fun b c d=>by kernel_rfl
 have p2:∀ a c d:Value,(part 2 #[a,.int .i64 x2,c,d] 1).run Tryz.prog w=.ok (.int .i64 x2) w:=fun a c d=>by kernel_rfl
 have p2':∀ a c d:Value,(part 2 #[a,.int .i64 y2,c,d] 1).run Tryz.prog w=.ok (.int .i64 y2) w:=fun a c d=>by kernel_rfl
 have p3:∀ a b d:Value,(part 9 #[a,b,.string x3,d] 2).run Tryz.prog w=.ok (.string x3) w:=fun a b d=>by kernel_rfl
 have p3':∀ a b d:Value,(part 9 #[a,b,.string y3,d] 2).run Tryz.prog w=.ok (.string y3) w:=fun a b d=>by kernel_rfl
 have p4:∀ a b c:Value,(part 4 #[a,b,c,.bool x4] 3).run Tryz.prog w=.ok (.bool x4) w:=fun a b c=>by kernel_rfl
 have p4':∀ a b c:Value,(part 4 #[a,b,c,.bool y4] 3).run Tryz.prog w=.ok (.bool y4) w:=fun a b c=>by kernel_rfl
 have q1:=run_equalIn_int w 9998 29 .u8 .u8 x1 y1 Tryz.underlying29
 have q2:=run_equalIn_int w 9998 2 .i64 .i64 x2 y2 Tryz.underlying2
 have q3:=run_equalIn_string w 9998 9 x3 y3 Tryz.underlying9
 have q4:=run_equalIn_bool' w 9998 4 x4 y4 Tryz.underlying4
 generalize (9998+1:Nat)=d at *
 have n1:("Kind" ≠ "_"):=by decide
 have n2:("I" ≠ "_"):=by decide
 have n3:("S" ≠ "_"):=by decide
 have n4:("B" ≠ "_"):=by decide
 rw [ByteArray.toList_eq,ByteArray.toList_eq] at q3
 simp only [vEq]
 generalize (x1==y1)=r1 at *
 generalize (x2==y2)=r2 at *
 generalize (x3.data.toList==y3.data.toList)=r3 at *
 generalize (x4==y4)=r4 at *
 cases r1<;>cases r2<;>cases r3<;>cases r4<;>simp [Op.eqFields,p1,p1',p2,p2',p3,p3',p4,p4',q1,q2,q3,q4]
end Go.Proofs.YtkfjmgmjbljnbaaGreatDoor
namespace Go.Proofs.YtkfjmgmjbljnbaaGreatDoor
open Go.RowKit
theorem vEq_self (u:Lp.V):vEq u u=true:=by simp [vEq]
theorem eqS_run (x1 x2:Int) (x3:ByteArray) (x4:Bool) (w:World):(binOp .eql 31 (.agg #[.int .u8 x1,.int .i64 x2,.string x3,.bool x4]) (.agg #[.int .u8 x1,.int .i64 x2,.string x3,.bool x4])).run Tryz.prog w=.ok (.bool true) w:=by
 rw [eqV_run,vEq_self]
theorem neS_run (x1 x2:Int) (x3:ByteArray) (x4:Bool) (w:World):(binOp .neq 31 (.agg #[.int .u8 x1,.int .i64 x2,.string x3,.bool x4]) (.agg #[.int .u8 x1,.int .i64 x2,.string x3,.bool x4])).run Tryz.prog w=.ok (.bool false) w:=by
 have h:=eqS_run x1 x2 x3 x4 w
 rw [run_eql_struct] at h
 rw [run_neq_struct]
 generalize (Op.equalIn 10000 31 (.agg #[.int .u8 x1,.int .i64 x2,.string x3,.bool x4]) (.agg #[.int .u8 x1,.int .i64 x2,.string x3,.bool x4])).run Tryz.prog w=r at *
 cases r with
 | ok b w' =>
   simp only [Result.andThen_ok,Result.ok.injEq,Value.bool.injEq] at h ⊢
   obtain ⟨rfl,rfl⟩:=h
   exact ⟨rfl,rfl⟩
 | halt x w'=>simp [Result.andThen] at h
theorem neG_run (x y:Operand) (xs ys:Array Value) (w:World):(eqGuard .neq 31 x y (.agg xs) (.agg ys)).run Tryz.prog w=.ok () w:=run_eqGuard_agg w _ _ _ _ _ _ (by kernel_rfl)
attribute [local go_sem] eqG_run neG_run eqS_run neS_run
attribute [-go_sem] run_eql_struct run_neq_struct
end Go.Proofs.YtkfjmgmjbljnbaaGreatDoor
