/-
 Contracts and laws, joined. Conditions: those of each.
-/
import Derived.Test.YtkfjmgmjbljnbaaGreatDoorQZK
import Derived.Test.YtkfjmgmjbljnbaaGreatDoorQRowsIn
namespace Go.Proofs.YtkfjmgmjbljnbaaGreatDoor
open Go.RowKit
def scT:List Lp.Tb:=[⟨[116],[⟨[97],1⟩]⟩]
def colA:Lp.X:=.col [] [97]
def F1:List Lp.V→Lp.V×Int:=fun r=>Lp.evalX scT colA r []
theorem findT:Lp.findX scT [] [97]=some (0,1):=by decide
theorem F1_one (v:Lp.V):F1 [v]=(v,0):=by
 show (match Lp.findX scT [] [97] with|none=>(Lp.nullV,(0:Int))|some p=>((([v]:List Lp.V)[p.1]?).getD Lp.nullV,0))=_
 rw [findT]
 rfl
def nz (us:List Lp.V):List Lp.V:=us.filter fun v=>v.k !=0
def rowsOf (us:List Lp.V):List (List Lp.V):=us.map fun v=>[v]
theorem nz_next {us:List Lp.V} {i:Nat} (h:i<us.length):nz (us.take (i+1))=nz (us.take i)++(if us[i].k=0 then [] else [us[i]]):=by
 unfold nz
 rw [List.take_succ_eq_append_getElem h,List.filter_append]
 congr 1
 by_cases h0:us[i].k=0
 ·rw [if_pos h0]
  simp [h0]
 ·rw [if_neg h0]
  simp [h0]
theorem rowsOf_at {us:List Lp.V} {i:Nat} (h:i<us.length) (h2:i<(rowsOf us).length):F1 (rowsOf us)[i]=(us[i],0):=by
 simp only [rowsOf,List.getElem_map]
 exact F1_one _
theorem gi_all {op:List UInt8} (hop:op≠Lp.uSum) {us:List Lp.V} (hu:∀ u∈us,Lp.Of 1 u):∀ i,i≤us.length→GI op F1 (rowsOf us) 1 i (nz (us.take i)) 0
 | 0,_=>GI.nil
 | i+1,hi=>by
   have h:=gi_all hop hu i (by omega)
   have hlt:i<us.length:=by omega
   have hl2:i<(rowsOf us).length:=by simpa [rowsOf] using hlt
   have hF:=rowsOf_at hlt hl2
   rw [nz_next hlt]
   by_cases h0:us[i].k=0
   ·rw [if_pos h0,List.append_nil]
    exact h.skip hl2 hF h0
   ·rw [if_neg h0]
    have:=h.next hl2 hF (hu _ (List.getElem_mem hlt)) h0 (fun g=>absurd g hop) (if_neg hop)
    rwa [show Lp.sumN op 0 us[i].i=0 from if_neg hop] at this
theorem agg_all {op:List UInt8} (hop:op≠Lp.uSum) (hin:op∈Lp.aggOps) {us:List Lp.V} (hu:∀ u∈us,Lp.Of 1 u) :
 Lp.foldA op F1 (0,Lp.nullV) (rowsOf us)=(if op=Lp.uCount then Lp.numV (nz us).length else if nz us=[] then Lp.nullV else Lp.bestL op (nz us),0):=by
 have h:=gi_all hop hu us.length (Nat.le_refl _)
 rw [List.take_length,show us.length=(rowsOf us).length by simp [rowsOf]] at h
 rw [h.fin hin,if_neg hop]
theorem vless_num (a b:Int):Lp.vless (Lp.numV a) (Lp.numV b)=decide (a<b):=by
 simp [Lp.vless,Lp.place,Lp.numV]
 rfl
theorem best_fold (op:List UInt8):∀ (r:List Int) (a:Int),∃ b,(r.map Lp.numV).foldl (Lp.stepM op) (Lp.numV a)=Lp.numV b∧(b=a∨b∈r)∧(op=Lp.uMin→b≤a∧∀ n∈r,b≤n)∧(op=Lp.uMax→a≤b∧∀ n∈r,n≤b)
 | [],a=>⟨a,rfl,.inl rfl,fun _=>⟨Int.le_refl _,fun _ h=>by cases h⟩,fun _=>⟨Int.le_refl _,fun _ h=>by cases h⟩⟩
 | n::r,a=>by
   have hst:∃ c,Lp.stepM op (Lp.numV a) (Lp.numV n)=Lp.numV c∧(c=a∨c=n)∧(op=Lp.uMin→c≤a∧c≤n)∧(op=Lp.uMax→a≤c∧n≤c):=by
    unfold Lp.stepM
    rw [vless_num,vless_num]
    split
    ·rename_i h
     refine ⟨n,rfl,.inr rfl,fun g => ?_,fun g => ?_⟩
     ·subst g
      rcases h with h|h
      ·exact ⟨by have:=of_decide_eq_true h.2;omega,Int.le_refl _⟩
      ·exact absurd h.1 (by decide)
     ·subst g
      rcases h with h|h
      ·exact absurd h.1 (by decide)
      ·exact ⟨by have:=of_decide_eq_true h.2;omega,Int.le_refl _⟩
    ·rename_i h
     refine ⟨a,rfl,.inl rfl,fun g=>⟨Int.le_refl _, ?_⟩,fun g=>⟨Int.le_refl _, ?_⟩⟩
     ·rcases Int.lt_or_le n a with g2|g2
      ·exact absurd (.inl ⟨g,decide_eq_true g2⟩) h
      ·exact g2
     ·rcases Int.lt_or_le a n with g2|g2
      ·exact absurd (.inr ⟨g,decide_eq_true g2⟩) h
      ·exact g2
   obtain ⟨c,hc,h1,h2,h3⟩:=hst
   obtain ⟨b,hb,k1,k2,k3⟩:=best_fold op r c
   refine ⟨b, ?_, ?_,fun g => ?_,fun g => ?_⟩
   ·rw [List.map_cons,List.foldl_cons,hc,hb]
   ·rcases k1 with rfl|k1
    ·rcases h1 with rfl|rfl
     ·exact .inl rfl
     ·exact .inr List.mem_cons_self
    ·exact .inr (List.mem_cons_of_mem _ k1)
   ·have a1:=h2 g;have a2:=k2 g
    refine ⟨by omega,fun m hm => ?_⟩
    rcases List.mem_cons.1 hm with rfl|hm
    ·omega
    ·exact a2.2 m hm
   ·have a1:=h3 g;have a2:=k3 g
    refine ⟨by omega,fun m hm => ?_⟩
    rcases List.mem_cons.1 hm with rfl|hm
    ·omega
    ·exact a2.2 m hm
theorem best_ints {op:List UInt8} {ns:List Int} (h:ns≠[]):∃ b,Lp.bestL op (ns.map Lp.numV)=Lp.numV b∧b∈ns∧(op=Lp.uMin→∀ n∈ns,b≤n)∧(op=Lp.uMax→∀ n∈ns,n≤b):=by
 match ns,h with
 | a::r,_ =>
   obtain ⟨b,hb,h1,h2,h3⟩:=best_fold op (a::r) a
   refine ⟨b,hb, ?_,fun g=>(h2 g).2,fun g=>(h3 g).2⟩
   rcases h1 with rfl|h1
   ·exact List.mem_cons_self
   ·exact h1
theorem nz_ints {us:List Lp.V} (hu:∀ u∈us,u=Lp.nullV∨∃ n,u=Lp.numV n):nz us=((nz us).map (·.i)).map Lp.numV:=by
 rw [List.map_map]
 have:∀ u∈nz us,(Lp.numV∘fun v=>v.i) u=u:=by
  intro u h
  have h1:=List.mem_filter.1 h
  rcases hu u h1.1 with rfl|⟨n,rfl⟩
  ·exact absurd h1.2 (by decide)
  ·rfl
 exact ((List.map_congr_left this).trans (List.map_id _)).symm
def SumI (us:List Lp.V) (i:Nat) (count sum least most:Int) (over:Bool):Prop :=
 count=(nz (us.take i)).length∧Lp.inR sum ∧
 ((over=false∧GI Lp.uSum F1 (rowsOf us) 1 i (nz (us.take i)) sum)∨(over=true∧∃ E,E≠0∧Lp.foldA Lp.uSum F1 (0,Lp.nullV) (rowsOf us)=(Lp.nullV,E))) ∧
 (nz (us.take i)≠[]→(least∈(nz (us.take i)).map (·.i)∧∀ n∈(nz (us.take i)).map (·.i),least≤n)∧(most∈(nz (us.take i)).map (·.i)∧∀ n∈(nz (us.take i)).map (·.i),n≤most))
theorem SumI.nil (us:List Lp.V):SumI us 0 0 0 0 0 false:=⟨rfl,by simp [Lp.inR],.inl ⟨rfl,GI.nil⟩,fun h=>absurd rfl h⟩
section
variable {us:List Lp.V} {i:Nat} {count sum least most n:Int} {over:Bool}
theorem SumI.skip (h:SumI us i count sum least most over) (hi:i<us.length) (hv:us[i]=Lp.nullV):SumI us (i+1) count sum least most over:=by
 obtain ⟨h1,h2,h3,h4⟩:=h
 have e:nz (us.take (i+1))=nz (us.take i):=by rw [nz_next hi,if_pos (by rw [hv];rfl),List.append_nil]
 refine ⟨by rw [e];exact h1,h2, ?_,by rw [e];exact h4⟩
 rcases h3 with ⟨h3,h5⟩|h3
 ·refine .inl ⟨h3, ?_⟩
  have hl2:i<(rowsOf us).length:=by simpa [rowsOf] using hi
  rw [e]
  exact h5.skip hl2 (rowsOf_at hi hl2) (by rw [hv];rfl)
 ·exact .inr h3
theorem SumI.ends (h:SumI us i count sum least most over) (hi:i<us.length) (hv:us[i]=Lp.numV n) :
 nz (us.take (i+1))=nz (us.take i)++[Lp.numV n] ∧
 ((((min (if count=0 then n else least) n)∈(nz (us.take (i+1))).map (·.i))∧∀ m∈(nz (us.take (i+1))).map (·.i),(min (if count=0 then n else least) n)≤m) ∧
 (((max (if count=0 then n else most) n)∈(nz (us.take (i+1))).map (·.i))∧∀ m∈(nz (us.take (i+1))).map (·.i),m≤(max (if count=0 then n else most) n))):=by
 obtain ⟨h1,h2,h3,h4⟩:=h
 have e:nz (us.take (i+1))=nz (us.take i)++[Lp.numV n]:=by rw [nz_next hi,if_neg (by rw [hv];exact (by decide:(1:Int)≠0)),hv]
 refine ⟨e, ?_⟩
 rw [e,List.map_append]
 show ((_∈(nz (us.take i)).map (·.i)++[n])∧∀ m∈(nz (us.take i)).map (·.i)++[n],_)∧((_∈(nz (us.take i)).map (·.i)++[n])∧∀ m∈(nz (us.take i)).map (·.i)++[n],_)
 have h5:count=0↔nz (us.take i)=[]:=by
  rw [h1]
  constructor
  ·intro g;exact List.eq_nil_of_length_eq_zero (by omega)
  ·intro g;rw [g];rfl
 by_cases h0:nz (us.take i)=[]
 ·rw [if_pos (h5.2 h0),if_pos (h5.2 h0),h0]
  simp
 ·rw [if_neg fun g=>h0 (h5.1 g),if_neg fun g=>h0 (h5.1 g)]
  obtain ⟨⟨a1,a2⟩,a3,a4⟩:=h4 h0
  refine ⟨⟨?_,fun m hm => ?_⟩, ?_,fun m hm => ?_⟩
  ·rcases Int.le_total least n with g|g
   ·rw [Int.min_eq_left g];exact List.mem_append_left _ a1
   ·rw [Int.min_eq_right g];exact List.mem_append_right _ List.mem_cons_self
  ·rcases List.mem_append.1 hm with hm|hm
   ·have:=a2 m hm;omega
   ·rw [List.mem_singleton.1 hm];omega
  ·rcases Int.le_total most n with g|g
   ·rw [Int.max_eq_right g];exact List.mem_append_right _ List.mem_cons_self
   ·rw [Int.max_eq_left g];exact List.mem_append_left _ a3
  ·rcases List.mem_append.1 hm with hm|hm
   ·have:=a4 m hm;omega
   ·rw [List.mem_singleton.1 hm];omega
theorem SumI.next (h:SumI us i count sum least most over) (hi:i<us.length) (hv:us[i]=Lp.numV n) (hn:Lp.inR n) :
 SumI us (i+1) (count+1) (if (over||Lp.err (sum+n) !=0)=true then sum else Lp.val (sum+n)) (min (if count=0 then n else least) n) (max (if count=0 then n else most) n) (over||Lp.err (sum+n) !=0):=by
 obtain ⟨e,h5⟩:=h.ends hi hv
 obtain ⟨h1,h2,h3,h4⟩:=h
 have hl2:i<(rowsOf us).length:=by simpa [rowsOf] using hi
 have hF:=rowsOf_at hi hl2
 rw [hv] at hF
 have hof:Lp.Of 1 (Lp.numV n):=Lp.Of.num hn
 have hk:(Lp.numV n).k≠0:=(by decide:(1:Int)≠0)
 refine ⟨by rw [e,h1];simp, ?_, ?_,fun _=>h5⟩
 ·split
  ·exact h2
  ·exact Lp.val_inR _
 ·rcases h3 with ⟨rfl,h6⟩|⟨rfl,h6⟩
  ·by_cases he:Lp.err (sum+n)=0
   ·have e1:(Lp.err (sum+n) !=0)=false:=by rw [bne,beq_iff_eq.2 he];rfl
    rw [e1]
    refine .inl ⟨rfl, ?_⟩
    rw [e]
    have:=h6.next hl2 hF hof hk (fun _=>rfl) (show Lp.sumF Lp.uSum sum n=0 from (if_pos rfl).trans he)
    rwa [show Lp.sumN Lp.uSum sum (Lp.numV n).i=Lp.val (sum+n) from if_pos rfl] at this
   ·have e1:(Lp.err (sum+n) !=0)=true:=by rw [bne,beq_eq_false_iff_ne.2 he];rfl
    rw [e1]
    have hs:Lp.sumF Lp.uSum sum (Lp.numV n).i=Lp.err (sum+n):=if_pos rfl
    exact .inr ⟨rfl,_,he,by rw [h6.bad hl2 hF hof hk (fun _=>rfl) (by rw [hs];exact he),hs]⟩
  ·exact .inr ⟨rfl,h6⟩
end
theorem sums_end {us:List Lp.V} {count sum least most:Int} {over:Bool} (hu:∀ u∈us,u=Lp.nullV∨∃ n,u=Lp.numV n∧Lp.inR n) (h:SumI us us.length count sum least most over) :
 Lp.foldA Lp.uCount F1 (0,Lp.nullV) (rowsOf us)=(Lp.numV count,0) ∧
 (∃ E v,Lp.foldA Lp.uSum F1 (0,Lp.nullV) (rowsOf us)=(v,E)∧(E==0)=(!over)∧(count=0→v.k=0)∧(over=false→count≠0→v.i=sum)) ∧
 (∃ v,Lp.foldA Lp.uMin F1 (0,Lp.nullV) (rowsOf us.reverse)=(v,0)∧(count=0→v.k=0)∧(count≠0→v.i=least)) ∧
 (∃ v,Lp.foldA Lp.uMax F1 (0,Lp.nullV) (rowsOf us.reverse)=(v,0)∧(count=0→v.k=0)∧(count≠0→v.i=most)):=by
 obtain ⟨h1,h2,h3,h4⟩:=h
 rw [List.take_length] at h1 h3 h4
 have hof:∀ u∈us,Lp.Of 1 u:=fun u hm=>by
  rcases hu u hm with rfl|⟨n,rfl,hn⟩
  ·exact Lp.Of.null 1
  ·exact Lp.Of.num hn
 have hof2:∀ u∈us.reverse,Lp.Of 1 u:=fun u hm=>hof u (List.mem_reverse.1 hm)
 have hin:=nz_ints (us:=us) fun u hm=>(hu u hm).imp id fun ⟨n,hn,_⟩=>⟨n,hn⟩
 have hrev:nz us.reverse=(nz us).reverse:=by unfold nz;rw [List.filter_reverse]
 have h0:count=0↔nz us=[]:=by
  rw [h1]
  constructor
  ·intro g;exact List.eq_nil_of_length_eq_zero (by omega)
  ·intro g;rw [g];rfl
 refine ⟨?_, ?_, ?_, ?_⟩
 ·rw [agg_all (by decide) (by decide) hof,if_pos rfl,h1]
 ·rcases h3 with ⟨rfl,h6⟩|⟨rfl,E,hE,h6⟩
  ·have hlen:us.length=(rowsOf us).length:=by simp [rowsOf]
   rw [hlen] at h6
   have h7:=h6.fin (by decide)
   rw [if_neg (by decide),if_pos rfl] at h7
   refine ⟨0,_,h7,rfl,fun g => ?_,fun _ g => ?_⟩
   ·rw [if_pos (h0.1 g)];rfl
   ·rw [if_neg fun k=>g (h0.2 k)];rfl
  ·refine ⟨E,_,h6, ?_,fun _=>rfl,fun g=>by cases g⟩
   rw [beq_eq_false_iff_ne.2 hE];rfl
 ·rw [agg_all (by decide) (by decide) hof2,if_neg (by decide),hrev]
  refine ⟨_,rfl,fun g => ?_,fun g => ?_⟩
  ·rw [h0.1 g];rfl
  ·have hne:nz us≠[]:=fun k=>g (h0.2 k)
   rw [if_neg fun k=>hne (List.reverse_eq_nil_iff.1 k)]
   obtain ⟨⟨a1,a2⟩, -⟩:=h4 hne
   rw [hin, ←List.map_reverse]
   obtain ⟨b,hb,k1,k2, -⟩:=best_ints (op:=Lp.uMin) (ns:=((nz us).map (·.i)).reverse) (fun k=>hne (by simpa using k))
   rw [hb]
   have b1:=a2 b (List.mem_reverse.1 k1)
   have b2:=k2 rfl least (List.mem_reverse.2 a1)
   show b=least
   omega
 ·rw [agg_all (by decide) (by decide) hof2,if_neg (by decide),hrev]
  refine ⟨_,rfl,fun g => ?_,fun g => ?_⟩
  ·rw [h0.1 g];rfl
  ·have hne:nz us≠[]:=fun k=>g (h0.2 k)
   rw [if_neg fun k=>hne (List.reverse_eq_nil_iff.1 k)]
   obtain ⟨-,a1,a2⟩:=h4 hne
   rw [hin, ←List.map_reverse]
   obtain ⟨b,hb,k1, -,k2⟩:=best_ints (op:=Lp.uMax) (ns:=((nz us).map (·.i)).reverse) (fun k=>hne (by simpa using k))
   rw [hb]
   have b1:=a2 b (List.mem_reverse.1 k1)
   have b2:=k2 rfl most (List.mem_reverse.2 a1)
   show b=most
   omega
def LP (B:Nat) (us:List Lp.V) (X:World) (v:Value):Prop :=
 ∃ R:List RowV,R.map (fun q=>q.2.2)=rowsOf us∧X.ownsRow B 23 1 v us.length (R.map RowV.val)∧RowsIn scT X B R
def Ap (v1 v2:Value):Prop:=∀ g,v1.ownBlock=some g→v2.ownBlock≠some g
theorem LP.nil (B:Nat) (X:World):LP B [] X (.slice none 0 0):=⟨[],rfl,World.ownsRow_nil _ _ _ _,RowsIn.nil _ _ _⟩
section
variable {B:Nat} {us:List Lp.V} {X X':World} {v v1 v2:Value}
theorem LP.below (h:LP B us X v) (hb:Below X.heap.size X X'):LP B us X' v:=by
 obtain ⟨R,h1,h2,h3⟩:=h
 exact ⟨R,h1,own_under h2 hb,h3.below hb⟩
theorem LP.old (h:LP B us X v) {g:Nat} (hg:X.heap.size≤g):some g≠v.ownBlock:=by
 obtain ⟨R, -,h2, -⟩:=h
 exact own_old h2 hg
theorem LP.other (h:LP B us X v) {B2 n2:Nat} {x2:List Value} (h2:X.ownsRow B2 23 1 v2 n2 x2) (hne:∀ g,v.ownBlock=some g→v2.ownBlock≠some g) (hg:X.grownBy X' v2.ownBlock):LP B us X' v:=by
 obtain ⟨R,h1,h3,h4⟩:=h
 refine ⟨R,h1,h3.kept hg ?_,h4.two h2 (by decide) hg⟩
 rcases hv:v.ownBlock with _|g
 ·exact .inl rfl
 ·exact .inr fun e=>hne g hv e.symm
theorem LP.block (h:LP B us X v) {g:Nat} (hg:v.ownBlock=some g):∃ o,X.heap[g]? = some o:=by
 obtain ⟨R, -,h2, -⟩:=h
 exact ⟨_,Array.getElem?_eq_getElem (h2.lt g hg).2⟩
theorem Ap.symm (h:Ap v1 v2):Ap v2 v1:=fun g h1 h2=>h g h2 h1
end
theorem four_cells {w:World} {g:Nat} {a b c d:Value} {t:TypeId} (h:w.heap[g]? = some (.cells #[a,b,c,d] t (0,0))):w.cell? ⟨g,0,none⟩=some a∧w.cell? ⟨g,1,none⟩=some b∧w.cell? ⟨g,2,none⟩=some c∧w.cell? ⟨g,3,none⟩=some d :=
 ⟨β h 0,β h 1,β h 2,β h 3⟩
theorem heap_new3 (w:World) (a b c:Obj):(((w.alloc a).alloc b).alloc c).heap[w.heap.size+1+1]? = some c:=by
 have h:=heap_new2 (w.alloc a) b c
 rw [World.size_alloc] at h
 exact h
theorem heap_new4 (w:World) (a b c d:Obj):((((w.alloc a).alloc b).alloc c).alloc d).heap[w.heap.size+1+1+1]? = some d:=by
 have h:=heap_new3 (w.alloc a) b c d
 rw [World.size_alloc] at h
 exact h
theorem one_own {X:World} {B g:Nat} {v:Lp.V} (h1:X.heap[g]? = some (.cells #[.int .u8 v.k,.int .i64 v.i,.string v.s,.bool v.b] 31 (0,0))) (hg:B≤g):X.ownsRow B 31 4 (.slice (some ⟨g,0,none⟩) 1 1) 1 (Lp.vv [v]) :=
 ⟨rfl,.inr ⟨g,1,_,rfl,hg,h1,Nat.le_refl _,by decide,rfl,rfl⟩⟩
theorem cell_own {X:World} {B g:Nat} {u:Value} (h1:X.heap[g]? = some (.cells #[u] 23 (0,0))) (hg:B≤g):X.ownsRow B 23 1 (.slice (some ⟨g,0,none⟩) 1 1) 1 [u] :=
 ⟨rfl,.inr ⟨g,1,_,rfl,hg,h1,Nat.le_refl _,by decide,rfl,rfl⟩⟩
section
variable {ops:Array Oper} {o:Oper} {a:Act} {K:Act→World→Prop} {Q:Exit→Act→World→Prop} {E:Prop}
theorem stepA (hgd:o.guard=none) (s x:Operand) (ho:o.op=.call { callee:=.builtin .append,args:=#[s,x],argTypes:=#[51,51] })
 {X:World} {B:Nat} {us us2:List Lp.V} {v u:Lp.V} {v2:Value} {A0:Option Addr} {n c0 g2 gv:Nat} (hn:us.length=n) (hs:a.eval s=.slice A0 n c0) (hx:a.eval x=.slice (some ⟨g2,0,none⟩) 1 1) (hL:LP B us X (.slice A0 n c0)) (hL2:LP B us2 X v2) (hap:Ap (.slice A0 n c0) v2) (h20:n≤20) (hv:Lp.RowOk scT [v])
 (hgv:X.heap[gv]? = some (.cells #[.int .u8 u.k,.int .i64 u.i,.string u.s,.bool u.b] 31 (0,0)))
 (hnew:∃ g1,X.heap[g2]? = some (.cells #[.slice (some ⟨g1,0,none⟩) 1 1] 23 (0,0))∧X.heap[g1]? = some (.cells #[.int .u8 v.k,.int .i64 v.i,.string v.s,.bool v.b] 31 (0,0))∧B≤g1) (hB:B≤X.heap.size)
 (h:∀ A' c' w',LP B (us++[v]) w' (.slice A' (n+1) c')→LP B us2 w' v2→Ap (.slice A' (n+1) c') v2→Below B X w'→Keeps X w' (Value.ownBlock (.slice A0 n c0)) (Value.ownBlock (.slice A' (n+1) c'))→w'.heap[gv]? = some (.cells #[.int .u8 u.k,.int .i64 u.i,.string u.s,.bool u.b] 31 (0,0))→K (a.put o.dst (.slice A' (n+1) c')) w') :
 if Region.wanted o (yielded ops a.tmps)=true then Oper.wp Tryz.prog o a X K Q else E:=by
 obtain ⟨iR,hiR,hz0,hz1,hz2⟩:=info_parts rowsInfo
 obtain ⟨R,e1,e2,e3⟩:=hL
 obtain ⟨g1,h2,h1,hg1⟩:=hnew
 subst hn
 refine step_app X hgd s x _ ho B 23 iR _ 1 24 Tryz.underlying51 hiR hz0 hz1 hz2 rfl (by omega) A0 us.length c0 _ hs e2 _ 1 1 [.slice (some ⟨g1,0,none⟩) 1 1] hx rfl (rds_blk [.slice (some ⟨g1,0,none⟩) 1 1] h2) (by simp [Value.oneCell']) (by simp only [maxLen];omega) (by omega) hB ?_
 intro A' c' w' hown hb hg hk
 refine h A' c' w' ⟨R++[(some ⟨g1,0,none⟩,1,[v])], ?_, ?_, ?_⟩ (hL2.other e2 (fun g k1 k2=>hap g k2 k1) hg) ?_ hb hk (box_far e2 hgv (by decide) hg)
 ·rw [List.map_append,e1];simp [rowsOf]
 ·rw [List.length_append,List.map_append];exact hown
 ·exact (e3.two e2 (by decide) hg).snoc (x:=(some ⟨g1,0,none⟩,1,[v])) (own_twoS (one_own h1 hg1) e2 (by decide) hg) hv rfl
 ·intro g k1 k2
  obtain ⟨ob,hob⟩:=hL2.block k2
  exact (hk g ob hob fun k3=>hap g k3.symm k2).2 k1.symm
theorem stepB (hgd:o.guard=none) (s x:Operand) (ho:o.op=.call { callee:=.builtin .append,args:=#[s,x],argTypes:=#[51,51] })
 {X:World} {B:Nat} {us us1:List Lp.V} {v u:Lp.V} {v1:Value} {A0:Option Addr} {n c0 g2 gv:Nat} (hn:us.length=n) (hs:a.eval s=.slice (some ⟨g2,0,none⟩) 1 1) (hx:a.eval x=.slice A0 n c0) (hL:LP B us X (.slice A0 n c0)) (hL1:LP B us1 X v1) (h20:n≤20) (hv:Lp.RowOk scT [v])
 (hgv:X.heap[gv]? = some (.cells #[.int .u8 u.k,.int .i64 u.i,.string u.s,.bool u.b] 31 (0,0)))
 (hnew:∃ g1,X.heap[g2]? = some (.cells #[.slice (some ⟨g1,0,none⟩) 1 1] 23 (0,0))∧X.heap[g1]? = some (.cells #[.int .u8 v.k,.int .i64 v.i,.string v.s,.bool v.b] 31 (0,0))∧B≤g1) (hg2:B≤g2) (hne:some g2≠v1.ownBlock) (hB:B≤X.heap.size)
 (h:∀ A' c' w',LP B (v::us) w' (.slice A' (1+n) c')→LP B us1 w' v1→Ap v1 (.slice A' (1+n) c')→Below B X w'→Keeps X w' (some g2) (Value.ownBlock (.slice A' (1+n) c'))→w'.heap[gv]? = some (.cells #[.int .u8 u.k,.int .i64 u.i,.string u.s,.bool u.b] 31 (0,0))→K (a.put o.dst (.slice A' (1+n) c')) w') :
 if Region.wanted o (yielded ops a.tmps)=true then Oper.wp Tryz.prog o a X K Q else E:=by
 obtain ⟨iR,hiR,hz0,hz1,hz2⟩:=info_parts rowsInfo
 obtain ⟨R,e1,e2,e3⟩:=hL
 obtain ⟨g1,h2,h1,hg1⟩:=hnew
 subst hn
 have eo:=cell_own h2 hg2
 refine step_app X hgd s x _ ho B 23 iR _ 1 24 Tryz.underlying51 hiR hz0 hz1 hz2 rfl (by omega) _ 1 1 _ hs eo A0 us.length c0 (R.map RowV.val) hx ?_ (Rds.own e2) (vals_one R) (by simp only [maxLen];omega) (by omega) hB ?_
 ·have:=congrArg List.length e1
  simp [rowsOf] at this
  simp [this]
 intro A' c' w' hown hb hg hk
 refine h A' c' w' ⟨(some ⟨g1,0,none⟩,1,[v])::R, ?_, ?_, ?_⟩ (hL1.other eo (fun g k1 k2=>hne (k2.trans k1.symm)) hg) ?_ hb hk (box_far eo hgv (by decide) hg)
 ·rw [List.map_cons,e1];rfl
 ·rw [show (v::us).length=1+us.length by rw [List.length_cons];omega];exact hown
 ·intro q hq
  rcases List.mem_cons.1 hq with rfl|hq
  ·exact ⟨own_twoS (one_own h1 hg1) eo (by decide) hg,hv,rfl⟩
  ·exact (e3.two eo (by decide) hg) q hq
 ·intro g k1 k2
  obtain ⟨ob,hob⟩:=hL1.block k1
  exact (hk g ob hob fun k3=>hne (k3.symm.trans k1.symm)).2 k2.symm
end
end Go.Proofs.YtkfjmgmjbljnbaaGreatDoor
