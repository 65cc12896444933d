/-
 How values and rows of values that came in read. No conditions.
-/
import Derived.Test.YtkfjmgmjbljnbaaGreatDoorQOpenT
import Derived.Test.YtkfjmgmjbljnbaaGreatDoorQZF
set_option maxRecDepth 100000
namespace Go.Proofs.YtkfjmgmjbljnbaaGreatDoor
open Go.ChangeShapes Go.WideShapes Go.ChangeAt Go.RowKit Go.Deep
open Go.ChangeMaps (open_string shut_string)
theorem valSize:Tryz.prog.cellsOf 31=4:=by kernel_rfl
theorem rowsSize:Tryz.prog.cellsOf 23=1:=by kernel_rfl
theorem i64Size1:Tryz.prog.cellsOf 2=1:=by kernel_rfl
theorem boolSize1:Tryz.prog.cellsOf 4=1:=by kernel_rfl
def RowOk1 (W:World) (x:RowV):Prop:=RdsV W x.1 x.2.2∧x.2.2.length≤x.2.1∧∀ u∈x.2.2,u.ok
def RdsR (w:World) (A:Option Addr) (R:List RowV):Prop:=Rds w A (R.map RowV.val)∧∀ x∈R,RowOk1 w x
theorem RdsR.below {w w':World} {A:Option Addr} {R:List RowV} (h:RdsR w A R) (hb:Below w.heap.size w w'):RdsR w' A R :=
 ⟨h.1.below hb,fun x hx=>⟨(h.2 x hx).1.below hb,(h.2 x hx).2⟩⟩
section
variable {H:Type} {enc:TypeId×Value→H} {W:World} {base:Nat} {spare:Nat→Bool} {held:Bool}
theorem val_of_cells {fuel:Nat} {cs:List Value} {x:DataW H×List MemPlace} (hlen:cs.length=4) (h:DataW.trod enc Tryz.prog W base spare held fuel 31 cs=some x):∃ u:Lp.V,cs=u.cells∧u.ok:=by
 match cs,hlen with
 | [c0,c1,c2,c3],_ =>
   obtain ⟨ys,n',hn',hy,hl2,hyl,hf⟩:=DataW.trod_struct Tryz.underlying31 h
   have h0:=hf 0 _ rfl
   have h1:=hf 1 _ rfl
   have h2:=hf 2 _ rfl
   have h3:=hf 3 _ rfl
   simp [i64Size1,strSize1,boolSize1,kindSize1] at h0 h1 h2 h3
   match ys,hyl with
   | [y0,y1,y2,y3],_ =>
     simp at h0 h1 h2 h3
     obtain ⟨k,ek,_,wk⟩:=DataW.trod_int Tryz.underlying29 h0
     obtain ⟨i,ei,_,wi⟩:=DataW.trod_int Tryz.underlying2 h1
     obtain ⟨s,es,_,ws⟩:=DataW.trod_string Tryz.underlying9 h2
     obtain ⟨b,eb,_⟩:=DataW.trod_bool Tryz.underlying4 h3
     simp only [List.cons.injEq,and_true] at ek ei es eb
     subst ek ei es eb
     simp [Lit.wf,IntKind.min,IntKind.max,IntKind.bits,IntKind.signed] at wk wi
     refine ⟨⟨k,i,s,b⟩,rfl, ?_, ?_, ?_, ?_⟩
     ·unfold maxLen at ws;simp only;omega
     ·simp only [Lp.inR];omega
     ·exact wk.1
     ·exact wk.2
theorem vals_of_trod {fuel:Nat} {cs:List Value} {x:DataW H×List MemPlace} (h:DataW.trod enc Tryz.prog W base spare held fuel 23 cs=some x) :
 ∃ u:RowV,cs=[u.val]∧RowOk1 W u:=by
 rcases open_slice Tryz.underlying23 h with ⟨hcs,_⟩|⟨a,len,cap,m,n,D,Pl,hcs,_,hl,_,hm,_,hi⟩
 ·exact ⟨(none,0,[]),hcs,Rds.nil_,Nat.le_refl _,fun _ h=>by cases h⟩
 ·have hlm:len≤m:=by rw [hm];split<;>omega
  obtain ⟨l,h1,h2,h3⟩:=recs_of (f:=Lp.V.cells) (n:=4) (P:=Lp.V.ok) (W:=W) (a:=a) (len:=len) (fun _=>rfl) (by omega) (fun e=>⟨_,rfl⟩) (fun i hlt=>by
   obtain ⟨cs',hc,ht⟩:=hi i (by omega)
   rw [valSize] at hc
   obtain ⟨_,hcl,hat⟩:=World.cells?_some hc
   obtain ⟨u,hu,hok⟩:=val_of_cells hcl ht
   exact ⟨u,hok,fun j hj=>by rw [←hu];exact hat j hj⟩)
  exact ⟨(some a,cap,l),by rw [hcs, ←h1];rfl,h2,by show l.length≤cap;rw [h1];exact hl,h3⟩
theorem rows_of_trod {fuel:Nat} {cs:List Value} {x:DataW H×List MemPlace} (h:DataW.trod enc Tryz.prog W base spare held fuel 51 cs=some x) :
 ∃ (A:Option Addr) (c:Nat) (R:List RowV),cs=[.slice A R.length c]∧RdsR W A R∧R.length≤9223372036854775807:=by
 rcases open_slice Tryz.underlying51 h with ⟨hcs,_⟩|⟨a,len,cap,m,n,D,Pl,hcs,_,hl,hcap,hm,_,hi⟩
 ·exact ⟨none,0,[],hcs,⟨Rds.nil_,fun _ h=>by cases h⟩,Nat.zero_le _⟩
 ·have hlm:len≤m:=by rw [hm];split<;>omega
  obtain ⟨l,h1,h2,h3⟩:=recs_of (f:=fun u:RowV=>[u.val]) (n:=1) (P:=RowOk1 W) (W:=W) (a:=a) (len:=len) (fun _=>rfl) (by omega) (fun e=>⟨_,rfl⟩) (fun i hlt=>by
   obtain ⟨cs',hc,ht⟩:=hi i (by omega)
   rw [rowsSize] at hc
   obtain ⟨_,hcl,hat⟩:=World.cells?_some hc
   obtain ⟨u,hu,hok⟩:=vals_of_trod ht
   exact ⟨u,hok,fun j hj=>by rw [←hu];exact hat j hj⟩)
  have e:l.flatMap (fun u:RowV=>[u.val])=l.map RowV.val:=by
   clear h1 h2 h3
   induction l with
   | nil=>rfl
   | cons a l ih=>simp [ih]
  rw [e] at h2
  exact ⟨some a,cap,l,by rw [h1];exact hcs,⟨h2,h3⟩,by rw [h1];unfold maxLen at hcap;omega⟩
end
theorem open_rows {H:Type} {enc:TypeId×Value→H} {W:World} {base:Nat} {v:Value} {d:DataW H} {p:List MemPlace} {r:Reach}
 (hv:Value.okWide Tryz.prog W r base 51 v) (h:DataW.Trod enc Tryz.prog W 0 (fun _=>true) true 51 v d p) :
 ∃ (A:Option Addr) (c:Nat) (R:List RowV),v=.slice A R.length c∧RdsR W A R∧R.length≤9223372036854775807:=by
 obtain ⟨a0,len0,cap0,rfl⟩:=okWide_slice Tryz.underlying51 hv
 obtain ⟨fuel,hf⟩:=h
 obtain ⟨A,c,R,hcs,h1,h2⟩:=rows_of_trod hf
 simp [Value.cells] at hcs
 obtain ⟨rfl,rfl,rfl⟩:=hcs
 exact ⟨_,_,R,rfl,h1,h2⟩
end Go.Proofs.YtkfjmgmjbljnbaaGreatDoor
