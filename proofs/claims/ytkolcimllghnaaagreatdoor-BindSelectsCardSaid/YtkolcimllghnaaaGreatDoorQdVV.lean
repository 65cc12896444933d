/-
 Contracts. Conditions: those of each.
-/
import Derived.Test.YtkolcimllghnaaaGreatDoorQdVG
import Derived.ProofKit
import Derived.OpenShut
import Derived.ShutString
import Derived.ChangeOld
import Derived.ChangeArms
import Derived.ChangeSame
import Derived.Deep.Slices
import Derived.Deep.Fields
import Derived.Test.YtkolcimllghnaaaGreatDoorQdGV
import Derived.Lib.LaidIn
import Derived.Lib.LaidU8T
import Derived.Lib.LaidCaseMet
import Derived.PinnedBridge
import Derived.Deep.DeepHandedRow
import Derived.Deep.DeepWitnessRowRef
set_option maxRecDepth 100000
set_option maxHeartbeats 8000000
namespace Go.Proofs.YtkolcimllghnaaaGreatDoor
open Lp Go.Proofs.Tryz
open Go.RowKit
variable{sc:List Tb}{x:Lp.X}
def Mj (sc:List Tb) (x:Lp.X):Prop:=x.wf->eW sc x->∀ y:Lp.X,y.wf->eW sc y->∀ (S S':Nat->Prop) (w:World) (g g':Nat),NT S w sc x g->NT S' w sc y g'->Calls prog 103 #[ptr g,ptr g'] w λe w'=>e=.returned (.bool (bU sc x y))∧∃ m,w'=w.drewN m
theorem Gy {S:Nat->Prop} {w:World} {g:Nat} (h:NT S w sc x g) (m:Nat):NT S (w.drewN m) sc x g:=NT.turn (w:=w) (w':=w.drewN m) (λ_ h _=>⟨h,rfl⟩) h
theorem Jg {f:Lp.X->Lp.X->Bool}:∀ {xs ys:List Lp.X},xs.length=ys.length->aAZ f xs ys=(List.zipWith f xs ys).all id
 | [],[],_=>rfl
 | x::xs,[],h=>ar
 | [],y::ys,h=>ar
 | x::xs,y::ys,h=>by
   show (f x y&&aAZ f xs ys)=_;rw [Jg (f:=f) (xs:=xs) (ys:=ys) an];simp
theorem Lj (hw:x.wf) (hk:eW sc x):∀ z∈nKs x,z.wf∧eW sc z:=by
 cases x with
 | lit=>intro z h;cases h
 | col=>intro z h;cases h
 | cnt=>intro z h;cases h
 | un op x=>intro z h;rw [List.mem_singleton.1 h];exact ⟨hw.2,hk⟩
 | isn n x=>intro z h;rw [List.mem_singleton.1 h];exact ⟨hw,hk⟩
 | agg op x=>intro z h;rw [List.mem_singleton.1 h];exact ⟨hw.2,hk⟩
 | bin op a b =>
   intro z h;rcases List.mem_cons.1 h with rfl|h
   ·exact ⟨hw.2.1,hk.1⟩
   ·rw [List.mem_singleton.1 h];exact ⟨hw.2.2,hk.2⟩
theorem oA (ih:∀ z∈nKs x,Mj sc z):Mj sc x:=by
 intro hx kx y hy ky S S' w g g' h h';obtain ⟨A,c,gs,hc,hl,hr,hn⟩:=vV h;obtain ⟨A',c',gs',hc',hl',hr',hn'⟩:=vV h';rw [Pt hx hy kx ky];have hE:∀ m,Calls prog 146 #[.slice A gs.length c,.slice A' gs'.length c',.func (.func 103) #[] #[]] (w.drewN m) λe w'=>e=.returned (.bool ((nKs x).length==(nKs y).length&&aAZ (bU sc) (nKs x) (nKs y)))∧∃ n,w'=w.drewN n:=by
  intro m;refine Wt ?_
  by_cases hlen:(nKs x).length=(nKs y).length
  ·have hz:(List.zipWith (bU sc) (nKs x) (nKs y)).length=(nKs x).length:=by rw [List.length_zipWith, <-hlen,Nat.min_self]
   have h0:=Ii 103 (λ_ _=>rfl) A A' c c' (nKs x).length gs gs' (List.zipWith (bU sc) (nKs x) (nKs y)) (w.drewN m) (qP hr m) (qP hr' m) hl (hl'.trans hlen.symm) hz EA ?_
   ·rw [<-Jg hlen] at h0;rw [hl,hl', <-hlen,beq_self_eq_true,Bool.true_and];exact h0
   ·intro j a a' b ha ha' hb m2;obtain ⟨h1,h2⟩:=List.getElem?_eq_some_iff.1 ha;obtain ⟨h1',h2'⟩:=List.getElem?_eq_some_iff.1 ha';have j1:j<(nKs x).length:=ac
    have j2:j<(nKs y).length:=ac
    obtain ⟨h3,h4⟩:=List.getElem?_eq_some_iff.1 hb;rw [List.getElem_zipWith] at h4;subst h2 h2' h4;have kz:=Lj hx kx _ (List.getElem_mem j1);have kz':=Lj hy ky _ (List.getElem_mem j2);rw [World.drewN_drewN];have:=ih _ (List.getElem_mem j1) kz.1 kz.2 _ kz'.1 kz'.2 S S' (w.drewN (m+m2)) gs[j] gs'[j] (Gy (hn j j1 h1) _) (Gy (hn' j j2 h1') _);exact this.mono λe w' ⟨e1,n,e2⟩=>⟨e1,m2+n,by rw [e2,World.drewN_drewN,World.drewN_drewN,Nat.add_assoc]⟩
  ·rw [η hlen,Bool.false_and];exact Rt A A' c c' gs.length gs'.length _ (w.drewN m) ac
 exact Pq g g' (nOp x) (nOp y) (nKd sc x) (nKd sc y) (nV x) (nV y) (nAt sc x) (nAt sc y) A A' gs.length c gs'.length c' _ w hc hc' hE
theorem Vk (sc:List Tb):∀ x:Lp.X,Mj sc x:=by
 intro x
 induction x with
 | lit=>exact oA λz h=>by cases h
 | col=>exact oA λz h=>by cases h
 | cnt=>exact oA λz h=>by cases h
 | un op x ih=>exact oA λz h=>EB
 | isn n x ih=>exact oA λz h=>EB
 | agg op x ih=>exact oA λz h=>EB
 | bin op a b iha ihb =>
   refine oA λz h => ?_;rcases List.mem_cons.1 h with rfl|h
   ·exact iha
   ·rw [List.mem_singleton.1 h];exact ihb
end Go.Proofs.YtkolcimllghnaaaGreatDoor

namespace Go.Proofs.YtkolcimllghnaaaGreatDoor.Lp
variable{l r:ZW}
def Ey:ZS:=[42]
def rG:ZS:=[102,114,111,109]
def wG:ZS:=[106,111,105,110]
def wOn:ZS:=[111,110]
def gR:ZS:=[103,114,111,117,112]
def wBy:ZS:=[98,121]
def iG:ZS:=[111,114,100,101,114]
def oW:ZS:=[108,105,109,105,116]
def wAs:ZS:=[97,115]
def wH:ZS:=[100,101,115,99]
def Tj:ZS:=[97,115,99]
structure Sel where
 items:List (X×ZS)
 on:Option X
 wh:Option X
 group:List X
 order:List (X×Bool)
 limit:Int
def tY:Sel:=⟨[],none,none,[],[], -1⟩
abbrev SS:=Option (Sel×ZW)
def dA (l:ZW):Option ((X×ZS)×ZW):=match pX 1 0 l with
 | none=>none
 | some (x,r)=>if isF wAs r then (bB r.tail).map λp=>((x,p.1),p.2) else some ((x,[]),r)
def bK (l:ZW):Option ((X×Bool)×ZW):=match pX 1 0 l with
 | none=>none
 | some (x,r)=>if isF wH r then some ((x,true),r.tail) else if isF Tj r then some ((x,false),r.tail) else some ((x,false),r)
def gS (l:ZW):Option (List (X×ZS)×ZW):=if isF Ey l then some ([],l.tail) else dO dA 16 l
def oO (l:ZW):Option ZW:=(aD rG l).bind λr=>(bB r).map λp=>p.2
def onF (l:ZW):Option (Option X×ZW):=if isF wG l then (bB l.tail).bind λp=>(aD wOn p.2).bind λr=>(pX 1 0 r).map λq=>(some q.1,q.2) else some (none,l)
def byF {α:Type} (w:ZS) (f:ZW->Option (α×ZW)) (l:ZW):Option (List α×ZW):=if isF w l then (aD wBy l.tail).bind (dO f 8) else some ([],l)
def rD (l:ZW):Option (Int×ZW):=match l with
 | []=>none
 | t::r=>if t.k=2 then some (t.n,r) else none
def uH (l:ZW):Option (Int×ZW):=if isF oW l then rD l.tail else some (-1,l)
theorem Hn (h:isF oW l=true):uH l=rD l.tail:=if_pos h
theorem Gx {n:Int} (h:rD l=some (n,r)):r <:+ l:=by
 cases l with
 | nil=>cases h
 | cons t l =>
   by_cases h1:t.k=2
   ·rw [rD,if_pos h1] at h;injection h with h;injection h with _ h;subst h;exact List.suffix_cons _ _
   ·rw [rD,if_neg h1] at h;cases h
theorem aBN {x:Option X} (h:whF l=some (x,r)):r <:+ l:=by
 unfold whF at h
 split at h
 ·obtain ⟨⟨y,r1⟩,h1,h2⟩:=aq;injection h2 with _ h2;subst h2;exact (iJ h1).trans (aV l)
 ·injection h with h;injection h with _ h;subst h;exact List.suffix_refl l
def st1 (q:Sel×ZW):SS:=(gS q.2).map λa=>({ q.1 with items:=a.1 },a.2)
def st2 (q:Sel×ZW):SS:=(oO q.2).map λa=>(q.1,a)
def st3 (q:Sel×ZW):SS:=(onF q.2).map λa=>({ q.1 with on:=a.1 },a.2)
def st4 (q:Sel×ZW):SS:=(whF q.2).map λa=>({ q.1 with wh:=a.1 },a.2)
def st5 (q:Sel×ZW):SS:=(byF gR (pX 1 0) q.2).map λa=>({ q.1 with group:=a.1 },a.2)
def st6 (q:Sel×ZW):SS:=(byF iG bK q.2).map λa=>({ q.1 with order:=a.1 },a.2)
def st7 (q:Sel×ZW):SS:=(uH q.2).map λa=>({ q.1 with limit:=a.1 },a.2)
def stN:Nat->Sel×ZW->SS
 | 1=>st1
 | 2=>st2
 | 3=>st3
 | 4=>st4
 | 5=>st5
 | 6=>st6
 | _=>st7
def aX (l:ZW):Nat->SS
 | 0=>some (tY,l)
 | k+1=>(aX l k).bind (stN (k+1))
def mK (l:ZW):SS:=aX l 7
theorem Ba {l:ZW} {k:Nat} (h:aX l k=none):∀ j,aX l (k+j)=none
 | 0=>h
 | j+1=>by
   show (aX l (k+j)).bind _=none;rw [Ba h j];rfl
theorem eT (k:Nat) (hk:k≤7) (h:aX l k=none):mK l=none:=by
 have:=Ba h (7-k);rwa [show k+(7-k)=7 by omega] at this
theorem bO {k:Nat} {q:Sel×ZW} (h:aX l k=some q):aX l (k+1)=stN (k+1) q:=by
 show (aX l k).bind _=_;rw [h];rfl
theorem aCD:∀ {k:Nat} {q p:Sel×ZW},stN k q=some p->(k≠3->p.1.on=q.1.on)∧(k≠5->p.1.group=q.1.group)∧(k≠6->p.1.order=q.1.order)∧(1≤k->k≤6->p.1.limit=q.1.limit)
 | 0,q,p,h=>by obtain ⟨a, -,rfl⟩:=Option.map_eq_some_iff.1 h;exact ⟨λ_=>rfl,λ_=>rfl,λ_=>rfl,λh=>absurd h am⟩
 | 1,q,p,h=>pz
 | 2,q,p,h=>pz
 | 3,q,p,h=>by obtain ⟨a, -,rfl⟩:=Option.map_eq_some_iff.1 h;exact ⟨λh=>absurd rfl h,λ_=>rfl,λ_=>rfl,λ_ _=>rfl⟩
 | 4,q,p,h=>pz
 | 5,q,p,h=>by obtain ⟨a, -,rfl⟩:=Option.map_eq_some_iff.1 h;exact ⟨λ_=>rfl,λh=>absurd rfl h,λ_=>rfl,λ_ _=>rfl⟩
 | 6,q,p,h=>by obtain ⟨a, -,rfl⟩:=Option.map_eq_some_iff.1 h;exact ⟨λ_=>rfl,λ_=>rfl,λh=>absurd rfl h,λ_ _=>rfl⟩
 | k+7,q,p,h=>by obtain ⟨a, -,rfl⟩:=Option.map_eq_some_iff.1 h;exact ⟨λ_=>rfl,λ_=>rfl,λ_=>rfl,λ_ h=>ac⟩
theorem fY {l:ZW}:∀ {k:Nat} {s:Sel} {r:ZW},aX l k=some (s,r)->(k<3->s.on=none)∧(k<5->s.group=[])∧(k<6->s.order=[])∧(k<7->s.limit = -1)
 | 0,s,r,h=>by injection h with h;injection h with h _;subst h;exact ⟨λ_=>rfl,λ_=>rfl,λ_=>rfl,λ_=>rfl⟩
 | k+1,s,r,h=>by
   obtain ⟨⟨s1,r1⟩,h1,h2⟩:=qa;obtain ⟨a1,a2,a3,a4⟩:=fY h1;obtain ⟨b1,b2,b3,b4⟩:=aCD h2;exact ⟨λh=>(b1 ac).trans (a1 ac),λh=>(b2 ac).trans (a2 ac),λh=>(b3 ac).trans (a3 ac),λh=>(b4 ac ac).trans (a4 ac)⟩
theorem Cg:Am dA:=by
 intro l x r h;unfold dA at h;rcases h1:pX 1 0 l with _|⟨c,r1⟩
 ·rw [h1] at h;cases h
 ·rw [h1] at h;simp only at h;have b1:=iJ h1;have b0:=iL h1
  split at h
  ·obtain ⟨p,h4,h5⟩:=aq;injection h5 with _ h5;subst h5;have b2:=(bZ h4).trans (aV r1);have:=b2.length_le;exact ⟨ac,b2.trans b1⟩
  ·injection h with h;injection h with _ h;subst h;exact ⟨b0,b1⟩
theorem yS:Am bK:=by
 intro l x r h;unfold bK at h;rcases h1:pX 1 0 l with _|⟨c,r1⟩
 ·rw [h1] at h;cases h
 ·rw [h1] at h;simp only at h;have b1:=iJ h1;have b0:=iL h1;have b2:=(aV r1).length_le
  split at h
  ·injection h with h;injection h with _ h;subst h;exact qb
  ·split at h <;>
   ·injection h with h;injection h with _ h;subst h
    first|exact ⟨ac,(aV r1).trans b1⟩|exact ⟨b0,b1⟩
theorem yG:dA []=none:=by unfold dA;rw [xM]
theorem uG:bK []=none:=by unfold bK;rw [xM]
end Go.Proofs.YtkolcimllghnaaaGreatDoor.Lp

namespace Go.Proofs.YtkolcimllghnaaaGreatDoor
open Lp
open Go.RowKit
variable{B k:Nat}{w w':World}{vs:ZU}
def EL2 {α:Type} (R:World->α->Value->Value->Prop):List α->World->ZU->Prop
 | [],_,[]=>True
 | x::xs,w,a::b::vs=>R w x a b∧EL2 R xs w vs
 | _,_,_=>False
theorem EL2.mono {α:Type} {R R':World->α->Value->Value->Prop} {w w':World} (h:∀ x a b,R w x a b->R' w' x a b):∀ {xs:List α} {vs:ZU},EL2 R xs w vs->EL2 R' xs w' vs
 | [],[],_=>trivial
 | [],_::_,k=>k.elim
 | _::_,[],k=>k.elim
 | _::_,[_],k=>k.elim
 | _::_,_::_::_,k=>⟨h _ _ _ k.1,EL2.mono h k.2⟩
theorem EL2.app {α:Type} {R:World->α->Value->Value->Prop} {w:World} {x:α} {a b:Value} (h:R w x a b):∀ {xs:List α} {vs:ZU},EL2 R xs w vs->EL2 R (xs++[x]) w (vs++[a,b])
 | [],[],_=>⟨h,trivial⟩
 | [],_::_,k=>k.elim
 | _::_,[],k=>k.elim
 | _::_,[_],k=>k.elim
 | _::_,_::_::_,k=>⟨k.1,EL2.app h k.2⟩
def RIt (B:Nat) (w:World) (x:Lp.X×ZS) (a b:Value):Prop:=PX B w x.1 a∧b=.string ⟨x.2.toArray⟩
def ROr (B:Nat) (w:World) (x:Lp.X×Bool) (a b:Value):Prop:=PX B w x.1 a∧b=.bool x.2
theorem Zf (hn:fU w w') {xs:List (Lp.X×ZS)} :EL2 (RIt B) xs w vs->EL2 (RIt B) xs w' vs:=EL2.mono λ_ _ _ h=>⟨PX.keepN hn h.1,h.2⟩
theorem Ze (hn:fU w w') {xs:List (Lp.X×Bool)} :EL2 (ROr B) xs w vs->EL2 (ROr B) xs w' vs:=EL2.mono λ_ _ _ h=>⟨PX.keepN hn h.1,h.2⟩
theorem PXo.keepN {B:Nat} {w w':World} (hs:fU w w'):∀ {o:Option Lp.X} {v:Value},PXo B w o v->PXo B w' o v
 | none,_,h=>h
 | some _,_,h=>⟨h.1,PX.keepN hs h.2⟩
def Fld (B:Nat) (w:World) (s:Sel) (j:Nat) (u:Value):Prop:=match j with
 | 0=>∃ A c vs,u=.slice A s.items.length c∧w.ownsRow B 142 2 u s.items.length vs∧EL2 (RIt B) s.items w vs
 | 3=>PXo B w s.on u
 | 4=>PXo B w s.wh u
 | 5=>RowX B w s.group u
 | 6=>∃ A c vs,u=.slice A s.order.length c∧w.ownsRow B 147 2 u s.order.length vs∧EL2 (ROr B) s.order w vs
 | 7=>u=.int .i64 s.limit
 | _=>True
def pV (k:Nat) (t:TypeId):Bool:=Gz t||(t==142&&k !=0)||(t==66&&k !=5)||(t==147&&k !=6)
theorem Fld.stays {s:Sel} (hs:StaysT (pV k) w w') {j:Nat} (hj:j≠k) {u:Value} (h:Fld B w s j u):Fld B w' s j u:=by
 have hn:fU w w':=λg cs t hg ht=>hs g cs t hg (by simp [pV,ht])
 match j,hj,h with
 | 0,hj,⟨A,c,vs,e,h1,h2⟩=>exact ⟨A,c,vs,e,qR h1 hs rq,Zf hn h2⟩
 | 1,_,_=>trivial
 | 2,_,_=>trivial
 | 3,_,h=>exact PXo.keepN hn h
 | 4,_,h=>exact PXo.keepN hn h
 | 5,hj,⟨A,c,vs,e,h1,h2⟩=>exact ⟨A,c,vs,e,qR h1 hs rq,h2.keepN hn⟩
 | 6,hj,⟨A,c,vs,e,h1,h2⟩=>exact ⟨A,c,vs,e,qR h1 hs rq,Ze hn h2⟩
 | 7,_,h=>exact h
 | _+8,_,_=>trivial
def SelC (B:Nat) (w:World) (s:Sel) (k:Nat) (cs:ZV):Prop:=cs.size=8∧∀ j u,j≠k->cs[j]? = some u->Fld B w s j u
theorem SelC.stays {B k:Nat} {w w':World} {s:Sel} {cs:ZV} (h:SelC B w s k cs) (hs:StaysT (pV k) w w'):SelC B w' s k cs:=⟨h.1,λj u hj hu=>(h.2 j u hj hu).stays hs hj⟩
def CE (B:Nat) (s:Sel) (k:Nat) (cs:ZV) (E:World->ZU->Prop) (vs:ZU) (w:World):Prop:=SelC B w s k cs∧E w vs
theorem CE.stays {B k:Nat} {s:Sel} {cs:ZV} {E:World->ZU->Prop} {vs:ZU} {w w':World} (h:CE B s k cs E vs w) (hs:StaysT (pV k) w w') (hE:fU w w'->E w vs->E w' vs):CE B s k cs E vs w' :=
 ⟨h.1.stays hs,hE (λg cs t hg ht=>hs g cs t hg (by simp [pV,ht])) h.2⟩
theorem CE.app {s:Sel} {cs:ZV} {E E':World->ZU->Prop} {vs':ZU} (h:CE B s k cs E vs w) (hE:E w vs->E' w vs'):CE B s k cs E' vs' w:=⟨h.1,hE h.2⟩
end Go.Proofs.YtkolcimllghnaaaGreatDoor

namespace Go.Proofs.YtkolcimllghnaaaGreatDoor
open Lp Go.Proofs.Tryz
open Go.ChangeShapes Go.WideShapes Go.ChangeAt Go.RowKit Go.Deep
open Go.ChangeMaps (open_string shut_string)
variable{W:World}
theorem aBB (b off j:Nat):(⟨b,off,none⟩:Addr).add j=⟨b,off+j,none⟩:=ai
theorem pW {E:Type} {n:Nat} {f:E->ZU} (hf:∀ e,(f e).length=n):∀ l:List E,(l.flatMap f).length=l.length*n
 | []=>aa
 | e::l=>by rw [List.flatMap_cons,List.length_append,hf,pW hf l,List.length_cons,Nat.succ_mul,Nat.add_comm]
theorem vZ {E:Type} {n:Nat} {f:E->ZU} (hf:∀ e,(f e).length=n):∀ (l:List E) (i j:Nat) (hi:i<l.length),j<n->(l.flatMap f)[i*n+j]? = (f l[i])[j]?
 | [],i,j,hi,_=>by simp at hi
 | e::l,0,j,_,hj=>by
   rw [List.flatMap_cons,Nat.zero_mul,Nat.zero_add,List.getElem?_append_left (by rw [hf];exact hj)];rfl
 | e::l,i+1,j,hi,hj=>by
   have h:=vZ hf l i j mq hj;rw [List.flatMap_cons,List.getElem?_append_right (by rw [hf,Nat.succ_mul];omega),hf,show (i+1)*n+j-n=i*n+j by rw [Nat.succ_mul];omega,h];rfl
theorem Ng {E:Type} {n:Nat} {f:E->ZU} (hf:∀ e,(f e).length=n) (hn:0<n) (hne:∀ e,∃ v,(f e)[0]? = some v) {P:E->Prop} {a:Addr} {len:Nat}
 (hv:∀ i,i<len->∃ u:E,P u∧∀ j,j<n->W.cell? ((a.add (i*n)).add j)=(f u)[j]?):∃ l:List E,l.length=len∧Rds W (some a) (l.flatMap f)∧∀ u∈l,P u:=by
 let g:Fin len->E:=λi=>Classical.choose (hv i.1 i.2)
 have hg:∀ i:Fin len,P (g i)∧∀ j,j<n->W.cell? ((a.add (i.1*n)).add j)=(f (g i))[j]? := λi=>Classical.choose_spec (hv i.1 i.2);have hlen:(List.ofFn g).length=len:=List.length_ofFn;refine ⟨List.ofFn g,hlen, ?_, ?_⟩
 ·rcases Nat.eq_zero_or_pos len with h0|h0
  ·left
   have:((List.ofFn g).flatMap f).length=0:=by rw [pW hf,hlen,h0,Nat.zero_mul]
   exact List.eq_nil_of_length_eq_zero this
  ·have hz:=(hg ⟨0,h0⟩).2 0 hn;obtain ⟨b,off,spot⟩:=a;have hspot:spot=none:=by
    obtain ⟨v,hv0⟩:=hne (g ⟨0,h0⟩);have hz':W.cell? ⟨b,off,spot⟩=some v:=by rw [<-hv0, <-hz];simp [Addr.add]
    simpa using World.cell?_spot hz'
   subst hspot;refine .inr ⟨b,off,rfl,λq u hu => ?_⟩;have hq:q<((List.ofFn g).flatMap f).length:=(List.getElem?_eq_some_iff.1 hu).1;rw [pW hf,hlen] at hq;have hi2:q / n<len:=Nat.div_lt_of_lt_mul (by rw [Nat.mul_comm];exact hq);have hq2:q=(q / n)*n+q % n:=by rw [Nat.mul_comm];exact (Nat.div_add_mod q n).symm
   have hat:=(hg ⟨q / n,hi2⟩).2 (q % n) (Nat.mod_lt _ hn);have e:((⟨b,off,none⟩:Addr).add (q / n*n)).add (q % n)=⟨b,off+q,none⟩:=by
    rw [Go.Deep.add_add, <-hq2];exact aBB b off q
   rw [e] at hat;have h2:=vZ hf (List.ofFn g) (q / n) (q % n) (by rw [hlen];exact hi2) (Nat.mod_lt _ hn);rw [<-hq2,hu,List.getElem_ofFn] at h2;rw [hat];exact h2.symm
 ·intro u hu;obtain ⟨i,rfl⟩:=(List.mem_ofFn).1 hu;exact (hg i).1
def aJC (c:Col):ZU:=[.string ⟨c.n.toArray⟩,.int .u8 c.k]
def rL (c:Col):Prop:=c.n.length≤maxLen∧0≤c.k∧c.k≤255
abbrev dW:=Tb×ZT×Nat
def aJV (p:dW):ZU:=[.string ⟨p.1.n.toArray⟩,.slice p.2.1 p.1.cs.length p.2.2]
def TabOk (W:World) (p:dW):Prop:=p.1.n.length≤maxLen∧Rds W p.2.1 (jD p.1.cs)∧p.1.cs.length≤p.2.2∧∀ c∈p.1.cs,rL c
theorem aFG:prog.cellsOf 116=2:=aj
theorem aBW:prog.cellsOf 52=2:=aj
theorem Fl:prog.cellsOf 9=1:=aj
theorem Rb:prog.cellsOf 56=1:=aj
theorem Se:prog.cellsOf 33=1:=aj
section
variable {H:Type} {enc:TypeId×Value->H} {W:World} {base:Nat} {spare:Nat->Bool} {held:Bool}
theorem Eg {fuel:Nat} {cs:ZU} {x:DataW H×List MemPlace} (hlen:cs.length=2) (h:DataW.trod enc prog W base spare held fuel 116 cs=some x):∃ u:Col,cs=aJC u∧rL u:=by
 match cs,hlen with
 | [c0,c1],_ =>
   obtain ⟨ys,n',hn',hy,hl2,hyl,hf⟩:=DataW.trod_struct underlying116 h;have h0:=hf 0 _ rfl;have h1:=hf 1 _ rfl;simp [Fl,Rb] at h0 h1
   match ys,hyl with
   | [y0,y1],_ =>
     simp at h0 h1;obtain ⟨s,es,_,ws⟩:=DataW.trod_string underlying9 h0;obtain ⟨k,ek,_,wk⟩:=DataW.trod_int underlying56 h1;simp only [List.cons.injEq,and_true] at ek es;subst ek es;simp [Lit.wf,IntKind.min,IntKind.max,IntKind.bits,IntKind.signed] at wk;refine ⟨⟨s.data.toList,k⟩,rfl, ?_,wk.1,by simp only;omega⟩;have:s.data.toList.length=s.size:=ig
     simp only;omega
theorem Ef {fuel:Nat} {cs:ZU} {x:DataW H×List MemPlace} (h:DataW.trod enc prog W base spare held fuel 33 cs=some x) :
 ∃ (A:ZT) (c:Nat) (l:List Col),cs=[.slice A l.length c]∧Rds W A (jD l)∧l.length≤c∧∀ u∈l,rL u:=by
 rcases open_slice underlying33 h with ⟨hcs,_⟩|⟨a,len,cap,m,n,D,Pl,hcs,_,hl,_,hm,_,hi⟩
 ·exact mr
 ·have hlm:len≤m:=by rw [hm];split<;>omega
  obtain ⟨l,h1,h2,h3⟩:=Ng (f:=aJC) (n:=2) (P:=rL) (W:=W) (a:=a) (len:=len) (λ_=>rfl) ac (λe=>⟨_,rfl⟩) (λi hlt=>by
   obtain ⟨cs',hc,ht⟩:=hi i ac;rw [aFG] at hc;obtain ⟨_,hcl,hat⟩:=World.cells?_some hc;obtain ⟨u,hu,hok⟩:=Eg hcl ht;exact ⟨u,hok,λj hj=>by rw [<-hu];exact hat j hj⟩)
  exact ms
theorem Cy {fuel:Nat} {cs:ZU} {x:DataW H×List MemPlace} (hlen:cs.length=2) (h:DataW.trod enc prog W base spare held fuel 52 cs=some x):∃ u:dW,cs=aJV u∧TabOk W u:=by
 match cs,hlen with
 | [c0,c1],_ =>
   obtain ⟨ys,n',hn',hy,hl2,hyl,hf⟩:=DataW.trod_struct underlying52 h;have h0:=hf 0 _ rfl;have h1:=hf 1 _ rfl;simp [Fl,Se] at h0 h1
   match ys,hyl with
   | [y0,y1],_ =>
     simp at h0 h1;obtain ⟨s,es,_,ws⟩:=DataW.trod_string underlying9 h0;obtain ⟨A,c,l,ek,g1,g2,g3⟩:=Ef h1;simp only [List.cons.injEq,and_true] at ek es;subst ek es;refine ⟨(⟨s.data.toList,l⟩,A,c),rfl, ?_,g1,g2,g3⟩;have:s.data.toList.length=s.size:=ig
     simp only;omega
theorem Cx {fuel:Nat} {cs:ZU} {x:DataW H×List MemPlace} (h:DataW.trod enc prog W base spare held fuel 22 cs=some x) :
 ∃ (A:ZT) (c:Nat) (l:List dW),cs=[.slice A l.length c]∧Rds W A (tbv l)∧l.length≤c∧∀ u∈l,TabOk W u:=by
 rcases open_slice underlying22 h with ⟨hcs,_⟩|⟨a,len,cap,m,n,D,Pl,hcs,_,hl,_,hm,_,hi⟩
 ·exact mr
 ·have hlm:len≤m:=by rw [hm];split<;>omega
  obtain ⟨l,h1,h2,h3⟩:=Ng (f:=aJV) (n:=2) (P:=TabOk W) (W:=W) (a:=a) (len:=len) (λ_=>rfl) ac (λe=>⟨_,rfl⟩) (λi hlt=>by
   obtain ⟨cs',hc,ht⟩:=hi i ac;rw [aBW] at hc;obtain ⟨_,hcl,hat⟩:=World.cells?_some hc;obtain ⟨u,hu,hok⟩:=Cy hcl ht;exact ⟨u,hok,λj hj=>by rw [<-hu];exact hat j hj⟩)
  exact ms
end
def ScA (W:World) (A:ZT) (l:List dW):Prop:=Rds W A (tbv l)∧∀ u∈l,TabOk W u
theorem TabOk.below {W W':World} {u:dW} (h:TabOk W u) (hb:Below W W W'):TabOk W' u:=⟨h.1,h.2.1.below hb,h.2.2⟩
theorem ScA.below {W W':World} {A:ZT} {l:List dW} (h:ScA W A l) (hb:Below W W W'):ScA W' A l:=⟨h.1.below hb,λu hu=>(h.2 u hu).below hb⟩
theorem Qr {H:Type} {enc:TypeId×Value->H} {base:Nat} {v:Value} {d:DataW H} {p:List MemPlace} {r:Reach}
 (hv:Value.okWide prog W r base 22 v) (h:DataW.Trod enc prog W 0 (λ_=>true) true 22 v d p) :
 ∃ (A:ZT) (c:Nat) (l:List dW),v=.slice A l.length c∧ScA W A l∧l.length≤c:=by
 obtain ⟨a0,aKN,cap0,rfl⟩:=okWide_slice underlying22 hv;obtain ⟨fuel,hf⟩:=h;obtain ⟨A,c,l,hcs,h1,h2,h3⟩:=Cx hf;simp [Value.cells] at hcs;obtain ⟨rfl,rfl,rfl⟩:=hcs;exact ⟨_,_,l,rfl,⟨h1,h3⟩,h2⟩
end Go.Proofs.YtkolcimllghnaaaGreatDoor

namespace Go.Proofs.YtkolcimllghnaaaGreatDoor
open Lp Go.Proofs.Tryz
open Go.ChangeShapes Go.WideShapes Go.ChangeAt Go.RowKit Go.Lib Go.Shelf
open Go.ChangeMaps (open_string shut_string)
variable{W w:World}
theorem Ac {P:Program} {w:World} {sp:Nat->Bool} {held:Bool} {fuel:Nat} {t e:TypeId} {n:Nat} {cs:ZU} {ws:List ZS} {p:List MemPlace}
 (ht:P.underlying t=some (.array n e)) (he:P.underlying e=some .string) (hce:P.cellsOf e=1) (hct:P.cellsOf t=n)
 (h:DataW.trod (λ_=>()) P w 0 sp held fuel t cs=some (.agg (ws.map λl=>.lit (.string l)),p)):cs=wv ws:=by
 cases fuel with
 | zero=>simp [DataW.trod] at h
 | succ fuel =>
   simp only [DataW.trod,ht,hce,hct,Nat.mul_one] at h
   split at h
   ·rename_i hl
    obtain ⟨xs,hm,hx⟩:=aq;have hxs:xs.map (·.1)=ws.map λl=>(DataW.lit (.string l):DataW Unit):=by
     have:=congrArg Prod.fst hx
     simpa using this
    have hxl:xs.length=n:=by simpa using mapM_length hm
    have hzl:ws.length=n:=by
     have:=congrArg List.length hxs;simp at this;omega
    apply List.ext_getElem?;intro i
    by_cases hi:i<n
    ·obtain ⟨b,hb,hf⟩:=mapM_at hm i i (by simp [hi]);obtain ⟨s,hc,rfl,_⟩:=DataW.trod_string he hf;have h1:cs[i]? = some (.string s):=by
      have:=congrArg (·[0]?) hc
      simpa [List.getElem?_take,List.getElem?_drop] using this
     have h2:(xs.map (·.1))[i]? = some (DataW.lit (.string s.data.toList):DataW Unit):=by simp [hb]
     rw [hxs] at h2;simp only [List.getElem?_map,Option.map_eq_some_iff,DataW.lit.injEq,Lit.string.injEq] at h2;obtain ⟨l,hl',hl2⟩:=h2;have hs:s=⟨l.toArray⟩:=by rw [hl2]
     rw [h1,hs];unfold wv;simp [hl']
    ·rw [List.getElem?_eq_none ac,List.getElem?_eq_none (by unfold wv;simp;omega)]
   ·cases h
theorem Kr (h:Lib.VarReads prog W "lapidary/parse.reserved" Rows.laid_lapidary_parse_reserved):Resv W:=by
 obtain ⟨g,t,cs,fuel,p,hg,hty,hvar,hd⟩:=h;have hgn:prog.globalNamed "lapidary/parse.reserved" = some 3:=by kernel_rfl
 obtain rfl:=Option.some.inj (hgn.symm.trans hg);obtain rfl:=Option.some.inj ((show (prog.globals[3]?).map (·.type)=some 278 by kernel_rfl).symm.trans hty);have e:(Rows.laid_lapidary_parse_reserved:DataW Unit)=.agg (Qf.map λl=>.lit (.string l)):=aj
 rw [e] at hd;have hcs:=Ac underlying278 underlying9 aj aj hd;intro j u hu;have hc:=World.var?_cell hgn hvar j;rw [hc, <-Array.getElem?_toList,hcs];exact hu
def AwZ (W:World):Prop:=eQ W∧Resv W∧Pow W∧Ml W
theorem aBV (hL:laidMet prog Rows.bindRowsRow.laid W) (hS:W.ShapedOpen prog):AwZ W:=by
 have r1:=Lib.laidMet.reads hL (.tail _ (.tail _ (.head _)));have r2:=Lib.laidMet.reads hL (.tail _ (.tail _ (.tail _ (.head _))));have r4:=Lib.laidMet.reads hL (.tail _ (.tail _ (.tail _ (.tail _ (.head _)))));have r3:=Lib.laidMet.reads hL (.tail _ (.tail _ (.tail _ (.tail _ (.tail _ (.tail _ (.head _)))))));have e1:(Rows.laid_internal_strconv_uint64pow10:DataW Unit)=Lib.tabData .u64 Lib.pow10Tab:=aj
 have e2:(Rows.laid_unicode_utf8_acceptRanges:DataW Unit)=Lib.acceptData:=aj
 have e3:Rows.laid_unicode_utf8_first=Lib.firstData:=aj
 rw [e1] at r1;rw [e2] at r2;rw [e3] at r3;exact ⟨utf8Tabs_of_readsT (U8Types.of196 Tryz.laysValid) ⟨aj,aj,aj,aj,aj,aj,aj⟩ r3 r2,Kr r4,Ql r1,Qx hS⟩
theorem aEH:Lays.n274 prog Tryz.lays203_ren:={ lays203 with }
theorem Oj:CaseExtra prog Tryz.lays203_ren:=⟨aj,aj,aj,aj,aj,aj⟩
def aLG:DataW Unit->ZU
 | .lit (.string l)=>[.string ⟨l.toArray⟩]
 | _=>[]
def aLF:DataW Unit->ZU
 | .agg l=>l.flatMap aLG
 | _=>[]
noncomputable def lO (os:Os):World :=
 let N:=(World.settled prog os).heap.size
 let w0:=World.holding prog os ⟨#[.cells Lib.caseCells5 309],#[],[]⟩
 let put (h:Array Obj) (g:Nat) (cs:ZV):Array Obj:=h.modify g fun
  | .cells _ t frozen=>.cells cs t frozen
  | o=>o
 let h1:=put w0.heap 6 (Iy Rows.laid_math_bits_deBruijn32tab).toArray
 let h2:=put h1 7 (Iy Rows.laid_math_bits_deBruijn64tab).toArray
 let h3:=put h2 5 (Iy Rows.laid_internal_strconv_uint64pow10).toArray
 let h4:=put h3 1 (Iy Rows.laid_unicode_utf8_acceptRanges).toArray
 let h5:=put h4 0 (Iy Rows.laid_unicode_utf8_first).toArray
 let h6:=put h5 3 (aLF Rows.laid_lapidary_parse_reserved).toArray
 let h7:=put h6 4 #[.slice (some ⟨N,0,none⟩) 336 336]
 { w0 with heap:=h7 }
theorem aFL (R:Nat) (t:TypeId) (hgR:4≠R) (hvar:w.heap[4]? = some (.cells #[.slice (some ⟨R,0,none⟩) caseA.size caseA.size] 286 (0,0))) (hblk:w.heap[R]? = some (.cells caseCells5 t (0,0))) :
 LaidIn prog w [("unicode.CaseRanges", caseData)] [4,R]:=by
 have hT:=caseTab_of_block hblk;have hread:=case_slice_reads aEH lays203.t206 Oj hT caseA_wf (by rw [caseA_size];unfold maxLen;omega) 0;rw [case_rows_data] at hread;have hv:w.var? prog "unicode.CaseRanges" = some #[.slice (some ⟨R,0,none⟩) caseA.size caseA.size]:=by
  have h13:=Oj.n13;unfold World.var?;rw [h13];show (match w.heap[4]? with|some (.cells cs _ _)=>some cs|_=>none)=_;rw [hvar]
 refine LaidIn.one [4,R] Oj.n13 Oj.y13 hv hread ?_ ?_ ?_
 ·refine List.nodup_append.2 ⟨row_nodup _ _,row_nodup _ _, ?_⟩;intro a ha b hb e;obtain ⟨i,_,rfl⟩:=MemPlace.mem_row.1 ha;obtain ⟨j,_,rfl⟩:=MemPlace.mem_row.1 hb;simp at e;exact hgR e.1
 ·intro b off hp;rcases List.mem_append.1 hp with hp|hp
  ·obtain ⟨i,hi,e⟩:=MemPlace.mem_row.1 hp;cases e;refine ⟨⟨_,_,hvar⟩,λu v hc => ?_⟩;have hi0:i=0:=by simp at hi;omega
   subst hi0;have hc:w.cell? ⟨4,0,none⟩=some (.iface u v):=hc;rw [Lib.cell_of_heap hvar] at hc;simp at hc
  ·obtain ⟨i,hi,e⟩:=MemPlace.mem_row.1 hp;cases e;refine ⟨⟨_,_,hblk⟩,λu v hc => ?_⟩;obtain ⟨c0,c1,c2,c3,c4⟩:=hT (i / 5) ac;have hi5:0+i=0+i / 5*5+i % 5:=ac
   simp only at hc;rw [hi5] at hc;have hm:i % 5<5:=Nat.mod_lt _ ac
   match hk:i % 5,hm with
   | 0,_=>rw [hk,Nat.add_zero,c0] at hc;cases hc
   | 1,_=>rw [hk,c1] at hc;cases hc
   | 2,_=>rw [hk,c2] at hc;cases hc
   | 3,_=>rw [hk,c3] at hc;cases hc
   | 4,_=>rw [hk,c4] at hc;cases hc
 ·intro x hx;rcases List.mem_append.1 hx with hx|hx
  ·obtain ⟨i,_,rfl⟩:=MemPlace.mem_row.1 hx;exact List.mem_cons_self
  ·obtain ⟨i,_,rfl⟩:=MemPlace.mem_row.1 hx;exact List.mem_cons_of_mem _ List.mem_cons_self
