/-
 How a slice of numbers, and a slice of truth values, that came in read. No conditions.
-/
import Derived.Test.YtkfjmgmjbljnbaaGreatDoorQGA
import Derived.ProofKit
import Derived.OpenShut
import Derived.ShutString
import Derived.ChangeOld
import Derived.Below
import Derived.WideShapes
import Derived.Deep.DeepHandedRow
import Derived.Deep.Grids
set_option maxRecDepth 100000
namespace Go.Proofs.YtkfjmgmjbljnbaaGreatDoor
open Go.ChangeShapes Go.WideShapes Go.ChangeAt Go.RowKit Go.Lib Go.Deep
open Go.ChangeMaps (open_string shut_string)
def nuv (l:List Int):List Value:=l.map (Value.int .i64)
def bov (l:List Bool):List Value:=l.map Value.bool
theorem open_nums {H:Type} {enc:TypeId×Value→H} {W:World} {base:Nat} {v:Value} {d:DataW H} {p:List MemPlace} {r:Reach}
 (hv:Value.okWide Tryz.prog W r base 49 v) (h:DataW.Trod enc Tryz.prog W 0 (fun _=>true) true 49 v d p) :
 ∃ (A:Option Addr) (c:Nat) (l:List Int),v=.slice A l.length c∧Rds W A (nuv l)∧l.length≤c∧(∀ n∈l, -9223372036854775808≤n∧n≤9223372036854775807):=by
 obtain ⟨a0,len0,cap0,rfl⟩:=okWide_slice Tryz.underlying49 hv
 obtain ⟨fuel,hf⟩:=h
 rcases open_ints Tryz.underlying49 Tryz.underlying2 (by kernel_rfl) hf with ⟨hcs,_⟩|⟨x,l,c,zs,hcs,_,hl,hm,hz,_,hcell,hwz⟩
 ·simp [Value.cells] at hcs
  obtain ⟨rfl,rfl,rfl⟩:=hcs
  exact ⟨none,0,[],rfl,Rds.nil_,Nat.le_refl _,fun _ h=>by cases h⟩
 ·simp [Value.cells] at hcs
  obtain ⟨rfl,rfl,rfl⟩:=hcs
  have hz':zs.length=cap0:=by simpa using hz
  have hlen:(zs.take len0).length=len0:=by simp;omega
  refine ⟨some x,cap0,zs.take len0,by rw [hlen], ?_,by rw [hlen];exact hl,fun n hn => ?_⟩
  ·rcases Nat.eq_zero_or_pos len0 with h0|h0
   ·left;subst h0;simp [nuv]
   ·have h1:=hcell 0 (by omega)
    obtain ⟨b,off,spot⟩:=x
    have hspot:spot=none:=by simpa [Addr.add] using World.cell?_spot h1
    subst hspot
    refine .inr ⟨b,off,rfl,fun j u hu => ?_⟩
    have hj:j<len0:=by
     have:=(List.getElem?_eq_some_iff.1 hu).1
     simpa [nuv,hz'] using (Nat.lt_of_lt_of_le this (by simp [nuv];omega))
    have hc:=hcell j (by omega)
    have e:(⟨b,off,none⟩:Addr).add j=⟨b,off+j,none⟩:=by unfold Addr.add;split<;>simp_all
    rw [e] at hc
    rw [hc]
    have hjz:j<zs.length:=by omega
    have hu2:(nuv (zs.take len0))[j]? = some (Value.int .i64 zs[j]):=by
     unfold nuv
     rw [List.getElem?_map,List.getElem?_take,if_pos hj,List.getElem?_eq_getElem hjz]
     rfl
    rw [hu2] at hu
    rw [←hu]
    simp [List.getD,List.getElem?_eq_getElem hjz]
  ·have hw:=hwz n (List.mem_of_mem_take hn)
   simp [Lit.wf,IntKind.min,IntKind.max,IntKind.bits,IntKind.signed] at hw
   omega
theorem open_bits {H:Type} {enc:TypeId×Value→H} {W:World} {base:Nat} {v:Value} {d:DataW H} {p:List MemPlace} {r:Reach}
 (hv:Value.okWide Tryz.prog W r base 50 v) (h:DataW.Trod enc Tryz.prog W 0 (fun _=>true) true 50 v d p) :
 ∃ (A:Option Addr) (c:Nat) (l:List Bool),v=.slice A l.length c∧Rds W A (bov l)∧l.length≤9223372036854775807:=by
 obtain ⟨a0,len0,cap0,rfl⟩:=okWide_slice Tryz.underlying50 hv
 obtain ⟨fuel,hf⟩:=h
 rcases open_bools Tryz.underlying50 Tryz.underlying4 (by kernel_rfl) hf with ⟨hcs,_⟩|⟨x,l,c,B,hcs,_,hl,hm,_,hcell⟩
 ·simp [Value.cells] at hcs
  obtain ⟨rfl,rfl,rfl⟩:=hcs
  exact ⟨none,0,[],rfl,Rds.nil_,by simp⟩
 ·simp [Value.cells] at hcs
  obtain ⟨rfl,rfl,rfl⟩:=hcs
  have hlen:((List.range len0).map B).length=len0:=by simp
  refine ⟨some x,cap0,(List.range len0).map B,by rw [hlen], ?_,by rw [hlen];unfold maxLen at hm;omega⟩
  rcases Nat.eq_zero_or_pos len0 with h0|h0
  ·left;subst h0;rfl
  ·have h1:=hcell 0 (by omega)
   obtain ⟨b,off,spot⟩:=x
   have hspot:spot=none:=by simpa [Addr.add] using World.cell?_spot h1
   subst hspot
   refine .inr ⟨b,off,rfl,fun j u hu => ?_⟩
   have hj:j<len0:=by
    have:=(List.getElem?_eq_some_iff.1 hu).1
    simpa [bov] using this
   have hc:=hcell j (by omega)
   have e:(⟨b,off,none⟩:Addr).add j=⟨b,off+j,none⟩:=by unfold Addr.add;split<;>simp_all
   rw [e] at hc
   rw [hc]
   simp only [bov,List.map_map,List.getElem?_map,List.getElem?_range hj,Option.map_some,Option.some.injEq] at hu
   rw [←hu];rfl
end Go.Proofs.YtkfjmgmjbljnbaaGreatDoor
