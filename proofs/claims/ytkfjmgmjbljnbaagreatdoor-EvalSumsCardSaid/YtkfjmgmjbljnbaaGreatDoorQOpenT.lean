/-
 How tables, rows and lists that came in read. No conditions.
-/
import Derived.Test.YtkfjmgmjbljnbaaGreatDoorQGE
import Derived.Test.YtkfjmgmjbljnbaaGreatDoorQGA
import Derived.ProofKit
import Derived.OpenShut
import Derived.ShutString
import Derived.ChangeOld
import Derived.ChangeArms
import Derived.ChangeSame
import Derived.Deep.Slices
import Derived.Deep.Fields
set_option maxRecDepth 100000
namespace Go.Proofs.YtkfjmgmjbljnbaaGreatDoor
open Go.ChangeShapes Go.WideShapes Go.ChangeAt Go.RowKit Go.Deep
open Go.ChangeMaps (open_string shut_string)
theorem addr_add (b off j:Nat):(⟨b,off,none⟩:Addr).add j=⟨b,off+j,none⟩:=by unfold Addr.add;split<;>simp_all
theorem flat_len {E:Type} {n:Nat} {f:E→List Value} (hf:∀ e,(f e).length=n):∀ l:List E,(l.flatMap f).length=l.length*n
 | []=>by simp
 | e::l=>by rw [List.flatMap_cons,List.length_append,hf,flat_len hf l,List.length_cons,Nat.succ_mul,Nat.add_comm]
theorem flat_at {E:Type} {n:Nat} {f:E→List Value} (hf:∀ e,(f e).length=n):∀ (l:List E) (i j:Nat) (hi:i<l.length),j<n→(l.flatMap f)[i*n+j]? = (f l[i])[j]?
 | [],i,j,hi,_=>by simp at hi
 | e::l,0,j,_,hj=>by
   rw [List.flatMap_cons,Nat.zero_mul,Nat.zero_add,List.getElem?_append_left (by rw [hf];exact hj)]
   rfl
 | e::l,i+1,j,hi,hj=>by
   have h:=flat_at hf l i j (by simpa using hi) hj
   rw [List.flatMap_cons,List.getElem?_append_right (by rw [hf,Nat.succ_mul];omega),hf,show (i+1)*n+j-n=i*n+j by rw [Nat.succ_mul];omega,h]
   rfl
theorem recs_of {E:Type} {n:Nat} {f:E→List Value} (hf:∀ e,(f e).length=n) (hn:0<n) (hne:∀ e,∃ v,(f e)[0]? = some v) {P:E→Prop} {W:World} {a:Addr} {len:Nat}
 (hv:∀ i,i<len→∃ u:E,P u∧∀ j,j<n→W.cell? ((a.add (i*n)).add j)=(f u)[j]?):∃ l:List E,l.length=len∧Rds W (some a) (l.flatMap f)∧∀ u∈l,P u:=by
 let g:Fin len→E:=fun i=>Classical.choose (hv i.1 i.2)
 have hg:∀ i:Fin len,P (g i)∧∀ j,j<n→W.cell? ((a.add (i.1*n)).add j)=(f (g i))[j]? := fun i=>Classical.choose_spec (hv i.1 i.2)
 have hlen:(List.ofFn g).length=len:=List.length_ofFn
 refine ⟨List.ofFn g,hlen, ?_, ?_⟩
 ·rcases Nat.eq_zero_or_pos len with h0|h0
  ·left
   have:((List.ofFn g).flatMap f).length=0:=by rw [flat_len hf,hlen,h0,Nat.zero_mul]
   exact List.eq_nil_of_length_eq_zero this
  ·have hz:=(hg ⟨0,h0⟩).2 0 hn
   obtain ⟨b,off,spot⟩:=a
   have hspot:spot=none:=by
    obtain ⟨v,hv0⟩:=hne (g ⟨0,h0⟩)
    have hz':W.cell? ⟨b,off,spot⟩=some v:=by rw [←hv0, ←hz];simp [Addr.add]
    simpa using World.cell?_spot hz'
   subst hspot
   refine .inr ⟨b,off,rfl,fun q u hu => ?_⟩
   have hq:q<((List.ofFn g).flatMap f).length:=(List.getElem?_eq_some_iff.1 hu).1
   rw [flat_len hf,hlen] at hq
   have hi2:q / n<len:=Nat.div_lt_of_lt_mul (by rw [Nat.mul_comm];exact hq)
   have hq2:q=(q / n)*n+q % n:=by rw [Nat.mul_comm];exact (Nat.div_add_mod q n).symm
   have hat:=(hg ⟨q / n,hi2⟩).2 (q % n) (Nat.mod_lt _ hn)
   have e:((⟨b,off,none⟩:Addr).add (q / n*n)).add (q % n)=⟨b,off+q,none⟩:=by
    rw [Go.Deep.add_add, ←hq2];exact addr_add b off q
   rw [e] at hat
   have h2:=flat_at hf (List.ofFn g) (q / n) (q % n) (by rw [hlen];exact hi2) (Nat.mod_lt _ hn)
   rw [←hq2,hu,List.getElem_ofFn] at h2
   rw [hat]
   exact h2.symm
 ·intro u hu
  obtain ⟨i,rfl⟩:=(List.mem_ofFn).1 hu
  exact (hg i).1
def colC (c:Lp.Col):List Value:=[.string ⟨c.n.toArray⟩,.int .u8 c.k]
def ColOk (c:Lp.Col):Prop:=c.n.length≤maxLen∧0≤c.k∧c.k≤255
abbrev TabA:=Lp.Tb×Option Addr×Nat
def tabC (p:TabA):List Value:=[.string ⟨p.1.n.toArray⟩,.slice p.2.1 p.1.cs.length p.2.2]
def TabOk (W:World) (p:TabA):Prop:=p.1.n.length≤maxLen∧Rds W p.2.1 (colv p.1.cs)∧p.1.cs.length≤p.2.2∧∀ c∈p.1.cs,ColOk c
theorem colSize:Tryz.prog.cellsOf 55=2:=by kernel_rfl
theorem tabSize:Tryz.prog.cellsOf 90=2:=by kernel_rfl
theorem strSize1:Tryz.prog.cellsOf 9=1:=by kernel_rfl
theorem kindSize1:Tryz.prog.cellsOf 29=1:=by kernel_rfl
theorem colsSize1:Tryz.prog.cellsOf 56=1:=by kernel_rfl
section
variable {H:Type} {enc:TypeId×Value→H} {W:World} {base:Nat} {spare:Nat→Bool} {held:Bool}
theorem col_of_cells {fuel:Nat} {cs:List Value} {x:DataW H×List MemPlace} (hlen:cs.length=2) (h:DataW.trod enc Tryz.prog W base spare held fuel 55 cs=some x):∃ u:Lp.Col,cs=colC u∧ColOk u:=by
 match cs,hlen with
 | [c0,c1],_ =>
   obtain ⟨ys,n',hn',hy,hl2,hyl,hf⟩:=DataW.trod_struct Tryz.underlying55 h
   have h0:=hf 0 _ rfl
   have h1:=hf 1 _ rfl
   simp [strSize1,kindSize1] at h0 h1
   match ys,hyl with
   | [y0,y1],_ =>
     simp at h0 h1
     obtain ⟨s,es,_,ws⟩:=DataW.trod_string Tryz.underlying9 h0
     obtain ⟨k,ek,_,wk⟩:=DataW.trod_int Tryz.underlying29 h1
     simp only [List.cons.injEq,and_true] at ek es
     subst ek es
     simp [Lit.wf,IntKind.min,IntKind.max,IntKind.bits,IntKind.signed] at wk
     refine ⟨⟨s.data.toList,k⟩,rfl, ?_,wk.1,by simp only;omega⟩
     have:s.data.toList.length=s.size:=by rw [Array.length_toList];rfl
     simp only
     omega
theorem cols_of_trod {fuel:Nat} {cs:List Value} {x:DataW H×List MemPlace} (h:DataW.trod enc Tryz.prog W base spare held fuel 56 cs=some x) :
 ∃ (A:Option Addr) (c:Nat) (l:List Lp.Col),cs=[.slice A l.length c]∧Rds W A (colv l)∧l.length≤c∧∀ u∈l,ColOk u:=by
 rcases open_slice Tryz.underlying56 h with ⟨hcs,_⟩|⟨a,len,cap,m,n,D,Pl,hcs,_,hl,_,hm,_,hi⟩
 ·exact ⟨none,0,[],hcs,Rds.nil_,Nat.le_refl _,fun _ h=>by cases h⟩
 ·have hlm:len≤m:=by rw [hm];split<;>omega
  obtain ⟨l,h1,h2,h3⟩:=recs_of (f:=colC) (n:=2) (P:=ColOk) (W:=W) (a:=a) (len:=len) (fun _=>rfl) (by omega) (fun e=>⟨_,rfl⟩) (fun i hlt=>by
   obtain ⟨cs',hc,ht⟩:=hi i (by omega)
   rw [colSize] at hc
   obtain ⟨_,hcl,hat⟩:=World.cells?_some hc
   obtain ⟨u,hu,hok⟩:=col_of_cells hcl ht
   exact ⟨u,hok,fun j hj=>by rw [←hu];exact hat j hj⟩)
  exact ⟨some a,cap,l,by rw [h1];exact hcs,h2,by rw [h1];exact hl,h3⟩
theorem tab_of_cells {fuel:Nat} {cs:List Value} {x:DataW H×List MemPlace} (hlen:cs.length=2) (h:DataW.trod enc Tryz.prog W base spare held fuel 90 cs=some x):∃ u:TabA,cs=tabC u∧TabOk W u:=by
 match cs,hlen with
 | [c0,c1],_ =>
   obtain ⟨ys,n',hn',hy,hl2,hyl,hf⟩:=DataW.trod_struct Tryz.underlying90 h
   have h0:=hf 0 _ rfl
   have h1:=hf 1 _ rfl
   simp [strSize1,colsSize1] at h0 h1
   match ys,hyl with
   | [y0,y1],_ =>
     simp at h0 h1
     obtain ⟨s,es,_,ws⟩:=DataW.trod_string Tryz.underlying9 h0
     obtain ⟨A,c,l,ek,g1,g2,g3⟩:=cols_of_trod h1
     simp only [List.cons.injEq,and_true] at ek es
     subst ek es
     refine ⟨(⟨s.data.toList,l⟩,A,c),rfl, ?_,g1,g2,g3⟩
     have:s.data.toList.length=s.size:=by rw [Array.length_toList];rfl
     simp only
     omega
theorem tabs_of_trod {fuel:Nat} {cs:List Value} {x:DataW H×List MemPlace} (h:DataW.trod enc Tryz.prog W base spare held fuel 22 cs=some x) :
 ∃ (A:Option Addr) (c:Nat) (l:List TabA),cs=[.slice A l.length c]∧Rds W A (tbv l)∧l.length≤c∧∀ u∈l,TabOk W u:=by
 rcases open_slice Tryz.underlying22 h with ⟨hcs,_⟩|⟨a,len,cap,m,n,D,Pl,hcs,_,hl,_,hm,_,hi⟩
 ·exact ⟨none,0,[],hcs,Rds.nil_,Nat.le_refl _,fun _ h=>by cases h⟩
 ·have hlm:len≤m:=by rw [hm];split<;>omega
  obtain ⟨l,h1,h2,h3⟩:=recs_of (f:=tabC) (n:=2) (P:=TabOk W) (W:=W) (a:=a) (len:=len) (fun _=>rfl) (by omega) (fun e=>⟨_,rfl⟩) (fun i hlt=>by
   obtain ⟨cs',hc,ht⟩:=hi i (by omega)
   rw [tabSize] at hc
   obtain ⟨_,hcl,hat⟩:=World.cells?_some hc
   obtain ⟨u,hu,hok⟩:=tab_of_cells hcl ht
   exact ⟨u,hok,fun j hj=>by rw [←hu];exact hat j hj⟩)
  exact ⟨some a,cap,l,by rw [h1];exact hcs,h2,by rw [h1];exact hl,h3⟩
end
def ScA (W:World) (A:Option Addr) (l:List TabA):Prop:=Rds W A (tbv l)∧∀ u∈l,TabOk W u
theorem TabOk.below {W W':World} {u:TabA} (h:TabOk W u) (hb:Below W.heap.size W W'):TabOk W' u:=⟨h.1,h.2.1.below hb,h.2.2⟩
theorem ScA.below {W W':World} {A:Option Addr} {l:List TabA} (h:ScA W A l) (hb:Below W.heap.size W W'):ScA W' A l:=⟨h.1.below hb,fun u hu=>(h.2 u hu).below hb⟩
theorem open_tabs {H:Type} {enc:TypeId×Value→H} {W:World} {base:Nat} {v:Value} {d:DataW H} {p:List MemPlace} {r:Reach}
 (hv:Value.okWide Tryz.prog W r base 22 v) (h:DataW.Trod enc Tryz.prog W 0 (fun _=>true) true 22 v d p) :
 ∃ (A:Option Addr) (c:Nat) (l:List TabA),v=.slice A l.length c∧ScA W A l∧l.length≤c:=by
 obtain ⟨a0,len0,cap0,rfl⟩:=okWide_slice Tryz.underlying22 hv
 obtain ⟨fuel,hf⟩:=h
 obtain ⟨A,c,l,hcs,h1,h2,h3⟩:=tabs_of_trod hf
 simp [Value.cells] at hcs
 obtain ⟨rfl,rfl,rfl⟩:=hcs
 exact ⟨_,_,l,rfl,⟨h1,h3⟩,h2⟩
end Go.Proofs.YtkfjmgmjbljnbaaGreatDoor
