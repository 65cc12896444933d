/-
 Contracts. Conditions: those of each.
-/
import Derived.Test.YtkolcimllghnaaaGreatDoorQbGE
import Derived.ProofKit
import Derived.OpenShut
import Derived.ShutString
import Derived.ChangeOld
import Derived.ChangeArms
import Derived.ChangeSame
import Derived.Deep.Slices
import Derived.Deep.Fields
set_option maxRecDepth 100000
namespace Go.Proofs.YtkolcimllghnaaaGreatDoor
open Lp Go.Proofs.Tryz
open Go.ChangeShapes Go.WideShapes Go.ChangeAt Go.RowKit Go.Deep
open Go.ChangeMaps (open_string shut_string)
theorem Sf (b off j:Nat):(⟨b,off,none⟩:Addr).add j=⟨b,off+j,none⟩:=by unfold Addr.add;split<;>simp_all
theorem pV {E:Type} {n:Nat} {f:E→List Value} (hf:∀ e,(f e).length=n):∀ l:List E,(l.flatMap f).length=l.length*n
 | []=>by simp
 | e::l=>by rw [List.flatMap_cons,List.length_append,hf,pV hf l,List.length_cons,Nat.succ_mul,Nat.add_comm]
theorem sD {E:Type} {n:Nat} {f:E→List Value} (hf:∀ e,(f e).length=n):∀ (l:List E) (i j:Nat) (hi:i<l.length),j<n→(l.flatMap f)[i*n+j]? = (f l[i])[j]?
 | [],i,j,hi,_=>by simp at hi
 | e::l,0,j,_,hj=>by
   rw [List.flatMap_cons,Nat.zero_mul,Nat.zero_add,List.getElem?_append_left (by rw [hf];exact hj)]
   rfl
 | e::l,i+1,j,hi,hj=>by
   have h:=sD hf l i j (by simpa using hi) hj
   rw [List.flatMap_cons,List.getElem?_append_right (by rw [hf,Nat.succ_mul];omega),hf,show (i+1)*n+j-n=i*n+j by rw [Nat.succ_mul];omega,h]
   rfl
theorem Gj {E:Type} {n:Nat} {f:E→List Value} (hf:∀ e,(f e).length=n) (hn:0<n) (hne:∀ e,∃ v,(f e)[0]? = some v) {P:E→Prop} {W:World} {a:Addr} {len:Nat}
 (hv:∀ i,i<len→∃ u:E,P u∧∀ j,j<n→W.cell? ((a.add (i*n)).add j)=(f u)[j]?):∃ l:List E,l.length=len∧Rds W (some a) (l.flatMap f)∧∀ u∈l,P u:=by
 let g:Fin len→E:=fun i=>Classical.choose (hv i.1 i.2)
 have hg:∀ i:Fin len,P (g i)∧∀ j,j<n→W.cell? ((a.add (i.1*n)).add j)=(f (g i))[j]? := fun i=>Classical.choose_spec (hv i.1 i.2)
 have hlen:(List.ofFn g).length=len:=List.length_ofFn
 refine ⟨List.ofFn g,hlen, ?_, ?_⟩
 ·rcases Nat.eq_zero_or_pos len with h0|h0
  ·left
   have:((List.ofFn g).flatMap f).length=0:=by rw [pV hf,hlen,h0,Nat.zero_mul]
   exact List.eq_nil_of_length_eq_zero this
  ·have hz:=(hg ⟨0,h0⟩).2 0 hn
   obtain ⟨b,off,spot⟩:=a
   have hspot:spot=none:=by
    obtain ⟨v,hv0⟩:=hne (g ⟨0,h0⟩)
    have hz':W.cell? ⟨b,off,spot⟩=some v:=by rw [←hv0, ←hz];simp [Addr.add]
    simpa using World.cell?_spot hz'
   subst hspot
   refine .inr ⟨b,off,rfl,fun q u hu => ?_⟩
   have hq:q<((List.ofFn g).flatMap f).length:=(List.getElem?_eq_some_iff.1 hu).1
   rw [pV hf,hlen] at hq
   have hi2:q / n<len:=Nat.div_lt_of_lt_mul (by rw [Nat.mul_comm];exact hq)
   have hq2:q=(q / n)*n+q % n:=by rw [Nat.mul_comm];exact (Nat.div_add_mod q n).symm
   have hat:=(hg ⟨q / n,hi2⟩).2 (q % n) (Nat.mod_lt _ hn)
   have e:((⟨b,off,none⟩:Addr).add (q / n*n)).add (q % n)=⟨b,off+q,none⟩:=by
    rw [Go.Deep.add_add, ←hq2];exact Sf b off q
   rw [e] at hat
   have h2:=sD hf (List.ofFn g) (q / n) (q % n) (by rw [hlen];exact hi2) (Nat.mod_lt _ hn)
   rw [←hq2,hu,List.getElem_ofFn] at h2
   rw [hat]
   exact h2.symm
 ·intro u hu
  obtain ⟨i,rfl⟩:=(List.mem_ofFn).1 hu
  exact (hg i).1
def Zn (c:Col):List Value:=[.string ⟨c.n.toArray⟩,.int .u8 c.k]
def oI (c:Col):Prop:=c.n.length≤maxLen∧0≤c.k∧c.k≤255
abbrev dL:=Tb×Option Addr×Nat
def aAC (p:dL):List Value:=[.string ⟨p.1.n.toArray⟩,.slice p.2.1 p.1.cs.length p.2.2]
def TabOk (W:World) (p:dL):Prop:=p.1.n.length≤maxLen∧Rds W p.2.1 (fB p.1.cs)∧p.1.cs.length≤p.2.2∧∀ c∈p.1.cs,oI c
theorem Vz:prog.cellsOf 116=2:=by kernel_rfl
theorem Tc:prog.cellsOf 52=2:=by kernel_rfl
theorem Ab:prog.cellsOf 9=1:=by kernel_rfl
theorem Jh:prog.cellsOf 56=1:=by kernel_rfl
theorem Kd:prog.cellsOf 33=1:=by kernel_rfl
section
variable {H:Type} {enc:TypeId×Value→H} {W:World} {base:Nat} {spare:Nat→Bool} {held:Bool}
theorem zD {fuel:Nat} {cs:List Value} {x:DataW H×List MemPlace} (hlen:cs.length=2) (h:DataW.trod enc prog W base spare held fuel 116 cs=some x):∃ u:Col,cs=Zn u∧oI u:=by
 match cs,hlen with
 | [c0,c1],_ =>
   obtain ⟨ys,n',hn',hy,hl2,hyl,hf⟩:=DataW.trod_struct underlying116 h
   have h0:=hf 0 _ rfl
   have h1:=hf 1 _ rfl
   simp [Ab,Jh] at h0 h1
   match ys,hyl with
   | [y0,y1],_ =>
     simp at h0 h1
     obtain ⟨s,es,_,ws⟩:=DataW.trod_string underlying9 h0
     obtain ⟨k,ek,_,wk⟩:=DataW.trod_int underlying56 h1
     simp only [List.cons.injEq,and_true] at ek es
     subst ek es
     simp [Lit.wf,IntKind.min,IntKind.max,IntKind.bits,IntKind.signed] at wk
     refine ⟨⟨s.data.toList,k⟩,rfl, ?_,wk.1,by simp only;omega⟩
     have:s.data.toList.length=s.size:=by rw [Array.length_toList];rfl
     simp only
     omega
theorem zC {fuel:Nat} {cs:List Value} {x:DataW H×List MemPlace} (h:DataW.trod enc prog W base spare held fuel 33 cs=some x) :
 ∃ (A:Option Addr) (c:Nat) (l:List Col),cs=[.slice A l.length c]∧Rds W A (fB l)∧l.length≤c∧∀ u∈l,oI u:=by
 rcases open_slice underlying33 h with ⟨hcs,_⟩|⟨a,len,cap,m,n,D,Pl,hcs,_,hl,_,hm,_,hi⟩
 ·exact ⟨none,0,[],hcs,Rds.nil_,ν _,fun _ h=>by cases h⟩
 ·have hlm:len≤m:=by rw [hm];split<;>omega
  obtain ⟨l,h1,h2,h3⟩:=Gj (f:=Zn) (n:=2) (P:=oI) (W:=W) (a:=a) (len:=len) (fun _=>rfl) (by omega) (fun e=>⟨_,rfl⟩) (fun i hlt=>by
   obtain ⟨cs',hc,ht⟩:=hi i (by omega)
   rw [Vz] at hc
   obtain ⟨_,hcl,hat⟩:=World.cells?_some hc
   obtain ⟨u,hu,hok⟩:=zD hcl ht
   exact ⟨u,hok,fun j hj=>by rw [←hu];exact hat j hj⟩)
  exact ⟨some a,cap,l,by rw [h1];exact hcs,h2,by rw [h1];exact hl,h3⟩
theorem xT {fuel:Nat} {cs:List Value} {x:DataW H×List MemPlace} (hlen:cs.length=2) (h:DataW.trod enc prog W base spare held fuel 52 cs=some x):∃ u:dL,cs=aAC u∧TabOk W u:=by
 match cs,hlen with
 | [c0,c1],_ =>
   obtain ⟨ys,n',hn',hy,hl2,hyl,hf⟩:=DataW.trod_struct underlying52 h
   have h0:=hf 0 _ rfl
   have h1:=hf 1 _ rfl
   simp [Ab,Kd] at h0 h1
   match ys,hyl with
   | [y0,y1],_ =>
     simp at h0 h1
     obtain ⟨s,es,_,ws⟩:=DataW.trod_string underlying9 h0
     obtain ⟨A,c,l,ek,g1,g2,g3⟩:=zC h1
     simp only [List.cons.injEq,and_true] at ek es
     subst ek es
     refine ⟨(⟨s.data.toList,l⟩,A,c),rfl, ?_,g1,g2,g3⟩
     have:s.data.toList.length=s.size:=by rw [Array.length_toList];rfl
     simp only
     omega
theorem xS {fuel:Nat} {cs:List Value} {x:DataW H×List MemPlace} (h:DataW.trod enc prog W base spare held fuel 22 cs=some x) :
 ∃ (A:Option Addr) (c:Nat) (l:List dL),cs=[.slice A l.length c]∧Rds W A (tbv l)∧l.length≤c∧∀ u∈l,TabOk W u:=by
 rcases open_slice underlying22 h with ⟨hcs,_⟩|⟨a,len,cap,m,n,D,Pl,hcs,_,hl,_,hm,_,hi⟩
 ·exact ⟨none,0,[],hcs,Rds.nil_,ν _,fun _ h=>by cases h⟩
 ·have hlm:len≤m:=by rw [hm];split<;>omega
  obtain ⟨l,h1,h2,h3⟩:=Gj (f:=aAC) (n:=2) (P:=TabOk W) (W:=W) (a:=a) (len:=len) (fun _=>rfl) (by omega) (fun e=>⟨_,rfl⟩) (fun i hlt=>by
   obtain ⟨cs',hc,ht⟩:=hi i (by omega)
   rw [Tc] at hc
   obtain ⟨_,hcl,hat⟩:=World.cells?_some hc
   obtain ⟨u,hu,hok⟩:=xT hcl ht
   exact ⟨u,hok,fun j hj=>by rw [←hu];exact hat j hj⟩)
  exact ⟨some a,cap,l,by rw [h1];exact hcs,h2,by rw [h1];exact hl,h3⟩
end
def ScA (W:World) (A:Option Addr) (l:List dL):Prop:=Rds W A (tbv l)∧∀ u∈l,TabOk W u
theorem TabOk.below {W W':World} {u:dL} (h:TabOk W u) (hb:Below W.heap.size W W'):TabOk W' u:=⟨h.1,h.2.1.below hb,h.2.2⟩
theorem ScA.below {W W':World} {A:Option Addr} {l:List dL} (h:ScA W A l) (hb:Below W.heap.size W W'):ScA W' A l:=⟨h.1.below hb,fun u hu=>(h.2 u hu).below hb⟩
theorem Jb {H:Type} {enc:TypeId×Value→H} {W:World} {base:Nat} {v:Value} {d:DataW H} {p:List MemPlace} {r:Reach}
 (hv:Value.okWide prog W r base 22 v) (h:DataW.Trod enc prog W 0 (fun _=>true) true 22 v d p) :
 ∃ (A:Option Addr) (c:Nat) (l:List dL),v=.slice A l.length c∧ScA W A l∧l.length≤c:=by
 obtain ⟨a0,aAL,cap0,rfl⟩:=okWide_slice underlying22 hv
 obtain ⟨fuel,hf⟩:=h
 obtain ⟨A,c,l,hcs,h1,h2,h3⟩:=xS hf
 simp [Value.cells] at hcs
 obtain ⟨rfl,rfl,rfl⟩:=hcs
 exact ⟨_,_,l,rfl,⟨h1,h3⟩,h2⟩
