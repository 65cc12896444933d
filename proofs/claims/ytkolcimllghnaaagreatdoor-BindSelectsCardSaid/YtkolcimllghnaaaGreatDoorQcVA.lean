/-
 Contracts. Conditions: those of each.
-/
import Derived.Test.YtkolcimllghnaaaGreatDoorQcGI
import Derived.Deep.RegionHeldLaw
set_option maxRecDepth 100000
set_option maxHeartbeats 8000000
namespace Go.Proofs.YtkolcimllghnaaaGreatDoor.Lp
variable{k most:Nat}{l r:ZW}
def eI:ZS:=[44]
def uR:ZS:=[40]
def uQ:ZS:=[41]
def wEq:ZS:=[61]
def Ti:ZS:=[105,110,116,111]
def Cl:ZS:=[118,97,108,117,101,115]
def aHG:ZS:=[115,101,116]
def Ck:ZS:=[119,104,101,114,101]
def vO:ZS:=[105,110,115,101,114,116]
def vN:ZS:=[117,112,100,97,116,101]
def jL {α:Type} (f:ZW->Option (α×ZW)) (most:Nat):Nat->List α->ZW->Option (List α×ZW)
 | 0,_,_=>none
 | k+1,acc,l=>match f l with
   | none=>none
   | some (x,r)=>if isF eI r then (if acc.length+1=most/\1<r.length then none else jL f most k (acc++[x]) r.tail) else some (acc++[x],r)
def dO {α:Type} (f:ZW->Option (α×ZW)) (most:Nat) (l:ZW):Option (List α×ZW):=jL f most (most+1) [] l
def rB (l:ZW):Option (List X×ZW):=match aD uR l with
 | none=>none
 | some r=>match dO (pX 1 0) 8 r with
   | none=>none
   | some (xs,r2)=>(aD uQ r2).map λr3=>(xs,r3)
def yH (l:ZW):Option (ZS×List (List X)×ZW):=match aD Ti l with
 | none=>none
 | some r=>match bB r with
   | none=>none
   | some (t,r2)=>match aD Cl r2 with
     | none=>none
     | some r3=>(dO rB 64 r3).map λp=>(t,p.1,p.2)
def qZ (l:ZW):Option ((ZS×X)×ZW):=match bB l with
 | none=>none
 | some (c,r)=>match aD wEq r with
   | none=>none
   | some r2=>(pX 1 0 r2).map λp=>((c,p.1),p.2)
def whF (l:ZW):Option (Option X×ZW):=if isF Ck l then (pX 1 0 l.tail).map λp=>(some p.1,p.2) else some (none,l)
def wJ (l:ZW):Option (ZS×List (ZS×X)×Option X×ZW):=match bB l with
 | none=>none
 | some (t,r)=>match aD aHG r with
   | none=>none
   | some r2=>match dO qZ 8 r2 with
     | none=>none
     | some (ss,r3)=>(whF r3).map λp=>(t,ss,p.1,p.2)
theorem mF {α:Type} {f:ZW->Option (α×ZW)} {acc:List α} (h:f l=none):jL f most (k+1) acc l=none:=by
 show (match f l with|none=>none|some (x,r)=>_)=_;rw [h]
theorem nW {α:Type} {f:ZW->Option (α×ZW)} {acc:List α} {x:α} (h:f l=some (x,r)) (hc:isF eI r=false):jL f most (k+1) acc l=some (acc++[x],r):=by
 show (match f l with|none=>none|some (x,r)=>if isF eI r then (if acc.length+1=most/\1<r.length then none else jL f most k (acc++[x]) r.tail) else some (acc++[x],r))=_;rw [h];simp only [hc,φ,if_false]
theorem mG {α:Type} {f:ZW->Option (α×ZW)} {acc:List α} {x:α} (h:f l=some (x,r)) (hc:isF eI r=true) (hm:acc.length+1=most) (hr:1<r.length):jL f most (k+1) acc l=none:=by
 show (match f l with|none=>none|some (x,r)=>if isF eI r then (if acc.length+1=most/\1<r.length then none else jL f most k (acc++[x]) r.tail) else some (acc++[x],r))=_;rw [h];simp only [hc,if_true];rw [if_pos ⟨hm,hr⟩]
theorem jY {α:Type} {f:ZW->Option (α×ZW)} {acc:List α} {x:α} (h:f l=some (x,r)) (hc:isF eI r=true) (hm:¬(acc.length+1=most/\1<r.length)):jL f most (k+1) acc l=jL f most k (acc++[x]) r.tail:=by
 show (match f l with|none=>none|some (x,r)=>if isF eI r then (if acc.length+1=most/\1<r.length then none else jL f most k (acc++[x]) r.tail) else some (acc++[x],r))=_;rw [h];simp only [hc,if_true];rw [if_neg hm]
def Am {α:Type} (f:ZW->Option (α×ZW)):Prop:=∀ l x r,f l=some (x,r)->r.length<l.length/\r <:+ l
theorem lQ {α:Type} {f:ZW->Option (α×ZW)} (hf:Am f) (most:Nat):∀ (k:Nat) (acc:List α) (l:ZW) (xs:List α) (r:ZW),jL f most k acc l=some (xs,r)->r.length<l.length/\r <:+ l
 | 0,_,_,_,_,h=>by cases h
 | k+1,acc,l,xs,r,h=>by
   rcases hq:f l with _|⟨x,r1⟩
   ·rw [mF hq] at h;cases h
   ·obtain ⟨a1,a2⟩:=hf l x r1 hq
    by_cases hc:isF eI r1=true
    ·by_cases hm:acc.length+1=most/\1<r1.length
     ·rw [mG hq hc hm.1 hm.2] at h;cases h
     ·rw [jY hq hc hm] at h;obtain ⟨b1,b2⟩:=lQ hf most k _ _ _ _ h;have ht:=aV r1;have:=ht.length_le;exact ⟨ac,(b2.trans ht).trans a2⟩
    ·rw [nW hq ew] at h;injection h with h;injection h with _ h;subst h;exact ⟨a1,a2⟩
theorem wB (lev d:Nat):Am (pX lev d):=λ_ _ _ h=>⟨iL h,iJ h⟩
theorem xM (lev d:Nat):pX lev d []=none:=by
 rcases h:pX lev d [] with _|⟨x,r⟩
 ·rfl
 ·exact absurd (iL h) (Nat.not_lt_zero _)
end Go.Proofs.YtkolcimllghnaaaGreatDoor.Lp

namespace Go.Proofs.YtkolcimllghnaaaGreatDoor
open Lp Go.Proofs.Tryz
open Go.RowKit
variable{acc:List Lp.X}{B P bp d g gr n o size:Nat}{e t:TypeId}{v:Value}{w w' w0:World}{J:World->Prop}{xs:ZU}{cs:ZV}{l r:ZW}
def lA {α:Type} (P:Nat) (I:List α->World->Prop) (J:World->Prop) (acc:List α) (q:Option (α×ZW)) (e:Ending) (w':World):Prop:=match q with
 | none=>∃ c,e=aT c/\c≠0/\J w'
 | some (x,r)=>e=.returned (.tuple #[])/\PS w' P r 0/\I (acc++[x]) w'
def EachPost {α:Type} (P:Nat) (I:List α->World->Prop) (J:World->Prop) (q:Option (List α×ZW)) (e:Ending) (w':World):Prop:=match q with
 | none=>∃ c,e=aT c/\c≠0/\J w'
 | some (xs,r)=>e=.returned (.tuple #[])/\PS w' P r 0/\I xs w'
theorem EachPost.no {α:Type} {I:List α->World->Prop} {q:Option (List α×ZW)} {c:Int} (hq:q=none) (hc:c≠0) (h:J w'):EachPost P I J q (aT c) w':=by
 subst hq;exact ⟨c,rfl,hc,h⟩
theorem EachPost.yes {α:Type} {I:List α->World->Prop} {q:Option (List α×ZW)} {xs:List α} (hq:q=some (xs,r)) (hp:PS w' P r 0) (h:I xs w'):EachPost P I J q (.returned (.tuple #[])) w':=by
 subst hq;exact ⟨rfl,hp,h⟩
theorem aKN (h:l.length=0):l=[]:=List.eq_nil_of_length_eq_zero h
theorem mE {α:Type} (F:ZW->Option (α×ZW)) (hF:Am F) (hF0:F []=none) (most:Nat) (hm:most<=100) (h1m:1<=most) (fi:FuncId) (hfi:∀ args w,Sem.run prog (callFunc fi args) w=.ok (.enter fi args) w) (caps:ZV) (P:Nat)
 (I:List α->World->Prop) (J:World->Prop) (hIJ:∀ acc w,I acc w->J w) (hJ:∀ w w',J w->But P w w'->J w') (hI:∀ acc w w' l,I acc w->PS w P l 0->But P w w'->I acc w')
 (hf:∀ (acc:List α) (l:ZW) (w:World),acc.length<=most->I acc w->PS w P l 0->Lsane l->Calls prog fi caps w (lA P I J acc (F l)))
 (l:ZW) (w:World) (h0:I [] w) (hp:PS w P l 0) (hs:Lsane l) :
 Calls prog 120 #[P,.int .i64 (most:Nat),.func (.func fi) #[] caps] w (EachPost P I J (dO F most l)):=by
 have HF:=ez;have HX:=κ (ι hF hF0);have HJ:=κ (ι hIJ (ι hJ hI));have hmI:(most:Int)<=100:=ac
 have hmJ:(1:Int)<=most:=ac
 clear hf hF hF0 hIJ hJ hI;go_enter func120,ntmps120;go_wp2_with fail
 go_loopg [6] (most+1) (λgk s6 wr=>∃ (acc:List α) (r:ZW),acc.length<=most/\gk=most+1-acc.length/\s6=.int .i64 ((acc.length:Int)+1)/\(acc.length=most->r=[])/\I acc wr/\PS wr P r 0/\Lsane r/\dO F most l=jL F most (most+1-acc.length) acc r)
 case atStart=>exact ⟨[],l,Nat.zero_le _,rfl,rfl,λh=>by simp at h;omega,h0,hp,hs,rfl⟩
 case round =>
  clear h0 hp hs;obtain ⟨acc,r,ha,rfl,rfl,hend,hi,hpr,hsr,hq⟩:=de;obtain ⟨n,hn⟩:∃ n,acc.length=n:=da;have HC:=κ (HF.o acc r wr ha hi hpr hsr);have hk:most+1-acc.length=(most-acc.length)+1:=ac
  rw [hk] at hq;have HQ:=fa;have HE:=κ hend;have HS:=κ hsr;have HN:=κ hn;have haI:(n:Int)<=most:=ac
  have hnI:(0:Int)<=(n:Int):=ac
  rw [hn];clear hq hk hi hpr hsr hend ha hn;go_wp2_with fail;refine μ HC ?_;rintro e w1 hr;rcases hF:F r with _|⟨x,r1⟩
  ·rw [hF] at hr;obtain ⟨c,rfl,hc,hj⟩:=hr;have HP:=κ (EachPost.no (P:=P) (I:=I) (J:=J) (HQ.o.trans (mF hF)) hc hj);clear hF hj hc HC;unfold aT;go_wp2;exact ⟨rfl,HP.o⟩
  ·rw [hF] at hr;obtain ⟨rfl,hp1,hi1⟩:=hr;have HP1:=κ hp1;have HI1:=κ hi1;obtain ⟨a1,a2⟩:=HX.o.1 _ _ _ hF;have hs1:=HS.o.sfx a2;cases hc:isF eI r1
   ·have HIs:=κ (oM P 0 r1 ⟨#[44]⟩ w1 hp1 false hc);have HP:=κ (EachPost.yes (P:=P) (I:=I) (J:=J) (HQ.o.trans (nW hF hc)) hp1 hi1);clear hF hp1 hi1 a1 a2 hs1 hc HC;go_wp2_with fail;refine μ HIs ?_;rintro e w2 ⟨rfl,rfl⟩;go_wp2;go_end0;exact HP.o
   ·have HIs:=κ (oM P 0 r1 ⟨#[44]⟩ w1 hp1 true hc);obtain ⟨Ar,cr,hb,hlc, -⟩:=hp1;have cp:=β hb 0;simp only [γ,δ] at cp;have hrl:1<=r1.length:=by have:=bD hc;omega
    by_cases hlast:n+1=most
    ·have e1:((n:Int)+1==(most:Int))=true:=by rw [beq_iff_eq];omega
     by_cases h2:1<r1.length
     ·have e2:(1:Int)<(r1.length:Int):=ac
      have HP:=κ (EachPost.no (P:=P) (I:=I) (J:=J) (c:=2) (HQ.o.trans (mG hF hc (by rw [HN.o];exact hlast) h2)) am (HJ.o.1 _ _ hi1));generalize r1.length=m1 at *;clear hF hi1 a1 a2 hs1 hc HC hb hlc;go_wp2_with fail;refine μ HIs ?_;rintro e w2 ⟨rfl,rfl⟩;go_wp2_with fail;refine (tD 2 _).mono ?_;rintro e w2 ⟨rfl,rfl⟩;unfold aT;go_wp2;exact ⟨rfl,HP.o⟩
     ·have e2:¬(1:Int)<(r1.length:Int):=ac
      have hr1:r1.length=1:=ac
      have htl:r1.tail=[]:=aKN (by have:=bD hc;omega);have HNd:=κ (bQ P 0 eI r1 w1 HP1.o);have HNF:=fc;have HNX:=κ (HQ.o.trans (jY (k:=most-acc.length) hF hc (λh=>h2 h.2)));have HT:=κ (ι htl hs1.tl);generalize r1.length=m1 at *;clear hF hi1 a1 a2 hs1 hc HC hb hlc htl hr1 h2;go_wp2_with fail;refine μ HIs ?_;rintro e w2 ⟨rfl,rfl⟩;go_wp2_with fail;refine μ HNd ?_;rintro e w3 hnd;obtain ⟨rfl,hb3,hp3⟩:=hnd.yes HNF.o;have HZ:=κ (ι hb3 hp3);clear hnd hb3 hp3 cp HIs HNd;go_wp2
      go_roundg (most+1-(n+1))
      case measure=>(have:=HN.o;omega)
      case rel=>exact ⟨acc++[x],r1.tail,fh,fg,fe,λ_=>HT.o.1,HJ.o.2.2 _ _ _ _ HI1.o HP1.o HZ.o.1,HZ.o.2,HT.o.2,fd⟩
    ·have e1:((n:Int)+1==(most:Int))=false:=fj
     have hlt:n<most:=by
      rcases Nat.lt_or_ge n most with h|h
      ·exact h
      ·have hr0:=HE.o (by have:=HN.o;omega);rw [hr0,HX.o.2] at hF;cases hF
     have HNd:=κ (bQ P 0 eI r1 w1 HP1.o);have HNF:=fc;have HNX:=κ (HQ.o.trans (jY (k:=most-acc.length) hF hc (λh=>hlast (by rw [<-HN.o];exact h.1))));have HT:=κ hs1.tl;clear hF hi1 a1 a2 hs1 hc HC hb hlc;go_wp2_with fail;refine μ HIs ?_;rintro e w2 ⟨rfl,rfl⟩;go_wp2_with fail;refine μ HNd ?_;rintro e w3 hnd;obtain ⟨rfl,hb3,hp3⟩:=hnd.yes HNF.o;have HZ:=κ (ι hb3 hp3);clear hnd hb3 hp3 cp HIs HNd;go_wp2
     go_roundg (most+1-(n+1))
     case measure=>(have:=HN.o;omega)
     case rel=>exact ⟨acc++[x],r1.tail,fh,fg,fe,λh=>by rw [List.length_append,HN.o] at h;simp at h;omega,HJ.o.2.2 _ _ _ _ HI1.o HP1.o HZ.o.1,HZ.o.2,HT.o,fd⟩
def PXs (B:Nat) (w:World):List Lp.X->ZU->Prop
 | [],[]=>True
 | x::xs,v::vs=>(∃ T g,v=.iface T (.pointer (some ⟨g,0,none⟩)))/\PX B w x v/\PXs B w xs vs
 | _,_=>False
theorem PXs.keep {B:Nat} {w w':World} (hs:Stays w w'):∀ {xs:List Lp.X} {vs:ZU},PXs B w xs vs->PXs B w' xs vs
 | [],[],_=>trivial
 | [],_::_,h=>h.elim
 | _::_,[],h=>h.elim
 | _::_,_::_,⟨h1,h2,h3⟩=>⟨h1,PX.keep hs h2,PXs.keep hs h3⟩
theorem PXs.mono {B B':Nat} {w:World} (hB:B'<=B):∀ {xs:List Lp.X} {vs:ZU},PXs B w xs vs->PXs B' w xs vs
 | [],[],_=>trivial
 | [],_::_,h=>h.elim
 | _::_,[],h=>h.elim
 | _::_,_::_,⟨h1,h2,h3⟩=>⟨h1,PX.mono hB h2,PXs.mono hB h3⟩
theorem PXs.app {B:Nat} {w:World}:∀ {xs:List Lp.X} {vs:ZU} {x:Lp.X} {v:Value},PXs B w xs vs->(∃ T g,v=.iface T (.pointer (some ⟨g,0,none⟩)))->PX B w x v->PXs B w (xs++[x]) (vs++[v])
 | [],[],_,_,_,h2,h3=>⟨h2,h3,trivial⟩
 | [],_::_,_,_,h,_,_=>h.elim
 | _::_,[],_,_,h,_,_=>h.elim
 | _::_,_::_,_,_,⟨a,b,c⟩,h2,h3=>⟨a,b,PXs.app c h2 h3⟩
theorem PXs.len {B:Nat} {w:World}:∀ {xs:List Lp.X} {vs:ZU},PXs B w xs vs->vs.length=xs.length
 | [],[],_=>rfl
 | [],_::_,h=>h.elim
 | _::_,[],h=>h.elim
 | _::_,_::_,h=>by simp [PXs.len h.2.2]
theorem mU (h:w.ownsRow B e size v n xs) (hb:But P w w') (hp:PS w P l d) (he:e≠100):w'.ownsRow B e size v n xs:=by
 refine ⟨h.1, ?_⟩;rcases h.2 with h2|⟨g,cap,cur,h2,h3,h4,h5⟩
 ·exact .inl h2
 ·exact .inr ⟨g,cap,cur,h2,h3,aM h4 hb hp he,h5⟩
def Gz (t:TypeId):Bool:=t==123||t==206||t==196||t==247||t==200||t==208
def StaysT (p:TypeId->Bool) (w w':World):Prop:=∀ (g:Nat) (cs:ZV) (t:TypeId),w.heap[g]? = some (.cells cs t (0,0))->p t=true->w'.heap[g]? = some (.cells cs t (0,0))
abbrev fU:=StaysT Gz
def Ha (t:TypeId):Bool:=Gz t||t==66
theorem StaysT.trans {p:TypeId->Bool} {a b c:World} (h:StaysT p a b) (k:StaysT p b c):StaysT p a c:=λg cs t hg ht=>k g cs t (h g cs t hg ht) ht
theorem StaysT.below {p:TypeId->Bool} (hb:Below w w w'):StaysT p w w':=λ_ _ _ h _=>aA h hb
theorem StaysT.but {p:TypeId->Bool} (hb:But P w w') (hp:PS w P l d) (hn:p 100=false):StaysT p w w':=λg cs t h ht=>cT hb hp g cs t h (by rintro rfl;rw [hn] at ht;cases ht)
theorem StaysT.keeps {p:TypeId->Bool} {r':Option Nat} (ho:w.ownsRow B e size v n xs) (he:p e=false) (hk:fL w w' v.ownBlock r'):StaysT p w w' :=
 λg cs t h ht=>(hk g _ h (cU ho h (by rintro rfl;rw [he] at ht;cases ht))).1
theorem StaysT.set {p:TypeId->Bool} (hg:w.heap[g]? = some (.cells cs t (0,0))) (ht:p t=false):StaysT p w (w.setCell ⟨g,o,none⟩ v):=by
 intro g2 cs2 t2 h2 ht2;refine (Below.heap_setCell w ⟨g,o,none⟩ v g2 ?_).trans h2;rintro rfl;rw [h2] at hg;injection hg with hg;injection hg with _ hg;rw [hg,ht] at ht2;cases ht2
theorem StaysT.nodes (h:StaysT Ha w w'):fU w w':=λg cs t hg ht=>h g cs t hg (by simp [Ha,ht])
theorem qR {p:TypeId->Bool} (h:w.ownsRow B e size v n xs) (hs:StaysT p w w') (he:p e=true):w'.ownsRow B e size v n xs:=by
 refine ⟨h.1, ?_⟩;rcases h.2 with h2|⟨g,cap,cur,h2,h3,h4,h5⟩
 ·exact .inl h2
 ·exact .inr ⟨g,cap,cur,h2,h3,hs _ _ _ h4 he,h5⟩
theorem PX.keepN {B:Nat} {w w':World} (hs:fU w w'):∀ {e:Lp.X} {v:Value},PX B w e v->PX B w' e v
 | .lit ..,v,h=>dw
 | .col ..,v,h=>dw
 | .un _ x,v,h=>me
 | .bin _ a b,v,h=>by obtain ⟨g,u1,u2,h0,h1,h2,h3,h4⟩:=h;exact ⟨g,u1,u2,h0,h1,hs _ _ _ h2 am,PX.keepN hs h3,PX.keepN hs h4⟩
 | .isn _ x,v,h=>me
 | .agg _ x,v,h=>me
 | .cnt,v,h=>dw
theorem PXs.keepN {B:Nat} {w w':World} (hs:fU w w'):∀ {xs:List Lp.X} {vs:ZU},PXs B w xs vs->PXs B w' xs vs
 | [],[],_=>trivial
 | [],_::_,h=>h.elim
 | _::_,[],h=>h.elim
 | _::_,_::_,⟨h1,h2,h3⟩=>⟨h1,PX.keepN hs h2,PXs.keepN hs h3⟩
theorem But.low (h:But P w0 w) (hb:Below w0 w w'):But P w0 w' :=
 ⟨hb.os.trans h.os,hb.tape.trans h.tape,hb.output.trans h.output,Nat.le_trans h.size hb.size,λk hk hn=>(hb.block k hk).trans (h.block k hk hn)⟩
theorem PS.low (h:PS w P l d) (hP:P<B) (hb:Below B w w'):PS w' P l d:=by
 obtain ⟨A,c,h1,h2,h3⟩:=h;refine ⟨A,c,(hb.block P hP).trans h1,h2, ?_⟩;rcases h3 with h3|⟨b,off,hA,hlt,hc⟩
 ·exact .inl h3
 ·exact .inr ⟨b,off,hA,hlt,λj u hu=>(hb.cell (p:=⟨b,off+j,none⟩) (Nat.lt_trans hlt hP)).trans (hc j u hu)⟩
theorem lJ {u:Value} (h:w.ownsRow B e size v n xs) (hg:w.heap[g]? = some (.cells cs t (0,0))) (hne:e≠t):(w.setCell ⟨g,o,none⟩ u).ownsRow B e size v n xs:=by
 have hn:=cU h hg hne;refine ⟨h.1, ?_⟩;rcases h.2 with h2|⟨g',cap,cur,rfl,h3,h4,h5⟩
 ·exact .inl h2
 ·refine .inr ⟨g',cap,cur,rfl,h3,(Below.heap_setCell w ⟨g,o,none⟩ u g' ?_).trans h4,h5⟩;intro e;exact hn mf
structure RI (P bp gr:Nat) (w0:World) (acc:List Lp.X) (w:World):Prop where
 but:But P w0 w
 hbp:w.heap[bp]? = some (.cells #[P] 98 (0,0))
 row:∃ A c vs,w.heap[gr]? = some (.cells #[.slice A acc.length c] 45 (0,0))/\w.ownsRow w0 66 1 (.slice A acc.length c) acc.length vs/\PXs w0 w acc vs
theorem RI.next (h:RI P bp gr w0 acc w) (hp:PS w P l d) (hb:But P w w'):RI P bp gr w0 acc w':=by
 obtain ⟨A,c,vs,h1,h2,h3⟩:=h.row;exact ⟨h.but.trans hb,aM h.hbp hb hp am,A,c,vs,aM h1 hb hp am,mU h2 hb hp am,PXs.keep (cT hb hp) h3⟩
def RJ (P:Nat) (w0 w:World):Prop:=But P w0 w
theorem Az:(prog.info? 66).map (λi=>(i.zero,i.size,i.bytes))=some (some .nilIface,1,16):=aj
theorem Vy {c5:Nat} {w2 w5:World} {x:Lp.X} {A A5:ZT} {c:Nat} {vs:ZU} {ob:Obj} (hP0:P<w0) (hgr:w0.heap.size<=gr) (hne:gr≠bp)
 (hi:RI P bp gr w0 acc w) (hp:PS w P l d) (hb2:But P w w2) (h3:PXs w0 w acc vs) (hv:∃ T g,v=.iface T (.pointer (some ⟨g,0,none⟩))) (hx:PX w w2 x v) (hp2:PS w2 P r 0)
 (hx5:w5.heap[gr]? = some (.cells #[.slice A acc.length c] 45 (0,0))) (ho5:w5.ownsRow w0 66 1 (.slice A5 (acc.length+1) c5) (acc.length+1) (vs++[v])) (hb5:Below w0 (w2.alloc ob) w5)
 (hk5:fL (w2.alloc ob) w5 (Value.ownBlock (.slice A acc.length c)) (Value.ownBlock (.slice A5 (acc.length+1) c5))) (k2:w2.ownsRow w0 66 1 (.slice A acc.length c) acc.length vs) :
 PS (w5.setCell ⟨gr,0,none⟩ (.slice A5 (acc.length+1) c5)) P r 0/\RI P bp gr w0 (acc++[x]) (w5.setCell ⟨gr,0,none⟩ (.slice A5 (acc.length+1) c5)):=by
 have hb25:Below w0 w2 w5:=((Below.refl w2 w2).alloc (ν _) ob |>.mono (Nat.le_trans hi.but.size hb2.size)).trans hb5;have hbut5:But P w0 (w5.setCell ⟨gr,0,none⟩ (.slice A5 (acc.length+1) c5)):=((hi.but.trans hb2).low hb25).setNew hgr _;have hp5:PS (w5.setCell ⟨gr,0,none⟩ (.slice A5 (acc.length+1) c5)) P r 0:=(hp2.low hP0 hb25).setNew (Nat.lt_of_lt_of_le hP0 hgr) _;have hsN:fU w2 (w5.setCell ⟨gr,0,none⟩ (.slice A5 (acc.length+1) c5)) :=
  (StaysT.below ((θ).alloc (ν _) ob)).trans ((StaysT.keeps (k2.alloc ob) am hk5).trans (StaysT.set hx5 am))
 refine ⟨hp5,hbut5, ?_,A5,c5,vs++[v], ?_, ?_, ?_⟩
 ·have hbp2:=aM hi.hbp hb2 hp am;have hbp5:=(hk5 _ _ (aB hbp2 ob) (cU (k2.alloc ob) (aB hbp2 ob) am)).1;exact (Below.heap_setCell w5 ⟨gr,0,none⟩ _ bp (λe=>hne e.symm)).trans hbp5
 ·have:=heap_setCell_same w5 gr 0 _ _ (.slice A5 (acc.length+1) c5) hx5
  simpa using this
 ·rw [List.length_append];exact lJ ho5 hx5 am
 ·exact PXs.app (PXs.keepN ((StaysT.but hb2 hp am).trans hsN) h3) hv (PX.keepN hsN (hx.mono hi.but.size))
theorem Vz (P bp gr d0:Nat) (l0:ZW) (w0:World) (hR0:Resv w0) (hp0:PS w0 P l0 d0) (hP0:P<w0) (hgr:w0.heap.size<=gr) (hne:gr≠bp) (acc:List Lp.X) (l:ZW) (w:World) (hacc:acc.length<=8) (hi:RI P bp gr w0 acc w) (hp:PS w P l 0) (hs:Lsane l) :
 Calls prog 123 #[gr,bp] w (lA P (RI P bp gr w0) (RJ P w0) acc (pX 1 0 l)):=by
 obtain ⟨iE,hiE,hz0,hz1,hz2⟩:=info_parts Az;have HC:=mh;obtain ⟨A,c,vs,h1,h2,h3⟩:=hi.row;have c0:=cu;have c1:=mg;have f0:=λj=>frozen_of_row w gr j _ _ h1;have HP:=κ (show PS w.drew P l 0 from hp);have HR:=κ (show w.drew.heap[gr]? = some (.cells #[.slice A acc.length c] 45 (0,0))/\w.drew.ownsRow w0 66 1 (.slice A acc.length c) acc.length vs/\PXs w0 w.drew acc vs from ⟨h1,h2.drew,PXs.keep (aP (θ).drew) h3⟩);have HI:=κ (show RI P bp gr w0 acc w.drew from ⟨hi.but.drew,hi.hbp,A,c,vs,h1,h2.drew,PXs.keep (aP (θ).drew) h3⟩);have hng:some gr≠Value.ownBlock (.slice A acc.length c):=cU h2 h1 am;have hgl:=aG h1;have hbl:=aG hi.hbp;clear hp hs hi h1 h2 h3;go_enter func123,ntmps123;generalize hq:pX 1 0 l=q at *;rcases q with _|⟨x,r⟩
 ·have HC0:=mi;clear HC;go_wp2_with fail;refine wp_region_held_drew (S:=λw'=>w'.cell? ⟨gr,0,none⟩=some (.slice A acc.length c)/\w'.cell? ⟨bp,0,none⟩=some (.pointer (some ⟨P,0,none⟩))) aj ⟨c0,c1⟩ (λhHeld => ?_);refine wpAnyH_take (i:=0) (v:=.slice A acc.length c) rfl aj aj aj (λ_ _ _ h=>h) (Or.inl ⟨ej,λw hSw=>ip⟩) hHeld ?_;refine wpAnyH_take (i:=1) (v:=.pointer (some ⟨P,0,none⟩)) rfl aj aj aj (λ_ _ _ h=>h) (Or.inl ⟨ej,λw hSw=>ip⟩) hHeld ?_;refine wpAnyH_ready (rs:=[2]) aj aa ?_;refine AllReadyH.cons rfl (λK hK => ?_) AllReadyH.nil;go_simp;refine μ HC0 ?_;rintro e w2 ⟨hb2,ce,rfl,hc⟩;unfold aT;go_wp2;exact ⟨rfl,ce,rfl,hc,HI.o.but.trans hb2⟩
 ·have HC0:=RB;clear HC;go_wp2_with fail
  go_region_law (first
   | (go_simp;go_at_call 124;refine μ HC0 ?_;rintro e w2 ⟨hb2,T,g,rfl,hx,hp2⟩;have k1:=aM HR.o.1 hb2 HP.o am;have k2:=mU HR.o.2.1 hb2 HP.o am;have d0:w2.cell? ⟨gr,0,none⟩=some (.slice A acc.length c):=β k1 0;have d1:∀ o,(w2.alloc o).cell? ⟨gr,0,none⟩=some (.slice A acc.length c):=λo=>β (aB k1 o) 0;have hsz:=Nat.le_trans HI.o.but.size hb2.size)
   | (refine bL _ rfl (.tmp 2) (.tmp 5) _ rfl w0.heap.size 66 iE _ 1 16 underlying45 hiE hz0 hz1 hz2 rfl (by omega) A acc.length c vs rfl ?_ _ 1 1 [.iface T (.pointer (some ⟨g,0,none⟩))] rfl rfl ?_ ?_ ?_ ?_ ?_ ?_
      ·exact k2.alloc _
      ·exact aS [.iface T g] (heap_alloc_new _ _)
      ·simp [Value.oneCell']
      ·simp only [maxLen];omega
      ·omega
      ·rw [World.size_alloc];omega
      intro A5 c5 w5 ho5 hb5 hg5 hk5;have hx5:=(hk5 _ _ (aB k1 _) hng).1;have d5:=β hx5 0;have f5:=λj=>frozen_of_row w5 gr j _ _ hx5)
   | fail)
  all_goals
   have hw5:=Vy hP0 hgr hne HI.o HP.o hb2 (HR.o.2.2) ⟨_,_,rfl⟩ hx hp2 hx5 ho5 hb5 hk5 k2;clear HR HI HP HC0 hx hp2 hx5 ho5 hb5 hg5 hk5 k1 k2 hb2;go_wp2;go_end0;exact ml
end Go.Proofs.YtkolcimllghnaaaGreatDoor

namespace Go.Proofs.YtkolcimllghnaaaGreatDoor.Lp
variable{l r:ZW}
def Ey:ZS:=[42]
def rG:ZS:=[102,114,111,109]
def wG:ZS:=[106,111,105,110]
def wOn:ZS:=[111,110]
def gR:ZS:=[103,114,111,117,112]
def wBy:ZS:=[98,121]
def iG:ZS:=[111,114,100,101,114]
def oW:ZS:=[108,105,109,105,116]
def wAs:ZS:=[97,115]
def wH:ZS:=[100,101,115,99]
def Tj:ZS:=[97,115,99]
structure Sel where
 items:List (X×ZS)
 on:Option X
 wh:Option X
 group:List X
 order:List (X×Bool)
 limit:Int
def tY:Sel:=⟨[],none,none,[],[], -1⟩
abbrev SS:=Option (Sel×ZW)
def dA (l:ZW):Option ((X×ZS)×ZW):=match pX 1 0 l with
 | none=>none
 | some (x,r)=>if isF wAs r then (bB r.tail).map λp=>((x,p.1),p.2) else some ((x,[]),r)
def bK (l:ZW):Option ((X×Bool)×ZW):=match pX 1 0 l with
 | none=>none
 | some (x,r)=>if isF wH r then some ((x,true),r.tail) else if isF Tj r then some ((x,false),r.tail) else some ((x,false),r)
def gS (l:ZW):Option (List (X×ZS)×ZW):=if isF Ey l then some ([],l.tail) else dO dA 16 l
def oO (l:ZW):Option ZW:=(aD rG l).bind λr=>(bB r).map λp=>p.2
def onF (l:ZW):Option (Option X×ZW):=if isF wG l then (bB l.tail).bind λp=>(aD wOn p.2).bind λr=>(pX 1 0 r).map λq=>(some q.1,q.2) else some (none,l)
def byF {α:Type} (w:ZS) (f:ZW->Option (α×ZW)) (l:ZW):Option (List α×ZW):=if isF w l then (aD wBy l.tail).bind (dO f 8) else some ([],l)
def rD (l:ZW):Option (Int×ZW):=match l with
 | []=>none
 | t::r=>if t.k=2 then some (t.n,r) else none
def uH (l:ZW):Option (Int×ZW):=if isF oW l then rD l.tail else some (-1,l)
theorem Hn (h:isF oW l=true):uH l=rD l.tail:=if_pos h
theorem Gx {n:Int} (h:rD l=some (n,r)):r <:+ l:=by
 cases l with
 | nil=>cases h
 | cons t l =>
   by_cases h1:t.k=2
   ·rw [rD,if_pos h1] at h;injection h with h;injection h with _ h;subst h;exact List.suffix_cons _ _
   ·rw [rD,if_neg h1] at h;cases h
theorem aBN {x:Option X} (h:whF l=some (x,r)):r <:+ l:=by
 unfold whF at h
 split at h
 ·obtain ⟨⟨y,r1⟩,h1,h2⟩:=ar;injection h2 with _ h2;subst h2;exact (iJ h1).trans (aV l)
 ·injection h with h;injection h with _ h;subst h;exact List.suffix_refl l
def st1 (q:Sel×ZW):SS:=(gS q.2).map λa=>({ q.1 with items:=a.1 },a.2)
def st2 (q:Sel×ZW):SS:=(oO q.2).map λa=>(q.1,a)
def st3 (q:Sel×ZW):SS:=(onF q.2).map λa=>({ q.1 with on:=a.1 },a.2)
def st4 (q:Sel×ZW):SS:=(whF q.2).map λa=>({ q.1 with wh:=a.1 },a.2)
def st5 (q:Sel×ZW):SS:=(byF gR (pX 1 0) q.2).map λa=>({ q.1 with group:=a.1 },a.2)
def st6 (q:Sel×ZW):SS:=(byF iG bK q.2).map λa=>({ q.1 with order:=a.1 },a.2)
def st7 (q:Sel×ZW):SS:=(uH q.2).map λa=>({ q.1 with limit:=a.1 },a.2)
def stN:Nat->Sel×ZW->SS
 | 1=>st1
 | 2=>st2
 | 3=>st3
 | 4=>st4
 | 5=>st5
 | 6=>st6
 | _=>st7
def aX (l:ZW):Nat->SS
 | 0=>some (tY,l)
 | k+1=>(aX l k).bind (stN (k+1))
def mK (l:ZW):SS:=aX l 7
theorem Ba {l:ZW} {k:Nat} (h:aX l k=none):∀ j,aX l (k+j)=none
 | 0=>h
 | j+1=>by
   show (aX l (k+j)).bind _=none;rw [Ba h j];rfl
theorem eT (k:Nat) (hk:k<=7) (h:aX l k=none):mK l=none:=by
 have:=Ba h (7-k);rwa [show k+(7-k)=7 by omega] at this
theorem bO {k:Nat} {q:Sel×ZW} (h:aX l k=some q):aX l (k+1)=stN (k+1) q:=by
 show (aX l k).bind _=_;rw [h];rfl
theorem aCD:∀ {k:Nat} {q p:Sel×ZW},stN k q=some p->(k≠3->p.1.on=q.1.on)/\(k≠5->p.1.group=q.1.group)/\(k≠6->p.1.order=q.1.order)/\(1<=k->k<=6->p.1.limit=q.1.limit)
 | 0,q,p,h=>by obtain ⟨a, -,rfl⟩:=Option.map_eq_some_iff.1 h;exact ⟨λ_=>rfl,λ_=>rfl,λ_=>rfl,λh=>absurd h am⟩
 | 1,q,p,h=>oo
 | 2,q,p,h=>oo
 | 3,q,p,h=>by obtain ⟨a, -,rfl⟩:=Option.map_eq_some_iff.1 h;exact ⟨λh=>absurd rfl h,λ_=>rfl,λ_=>rfl,λ_ _=>rfl⟩
 | 4,q,p,h=>oo
 | 5,q,p,h=>by obtain ⟨a, -,rfl⟩:=Option.map_eq_some_iff.1 h;exact ⟨λ_=>rfl,λh=>absurd rfl h,λ_=>rfl,λ_ _=>rfl⟩
 | 6,q,p,h=>by obtain ⟨a, -,rfl⟩:=Option.map_eq_some_iff.1 h;exact ⟨λ_=>rfl,λ_=>rfl,λh=>absurd rfl h,λ_ _=>rfl⟩
 | k+7,q,p,h=>by obtain ⟨a, -,rfl⟩:=Option.map_eq_some_iff.1 h;exact ⟨λ_=>rfl,λ_=>rfl,λ_=>rfl,λ_ h=>ac⟩
theorem fY {l:ZW}:∀ {k:Nat} {s:Sel} {r:ZW},aX l k=some (s,r)->(k<3->s.on=none)/\(k<5->s.group=[])/\(k<6->s.order=[])/\(k<7->s.limit = -1)
 | 0,s,r,h=>by injection h with h;injection h with h _;subst h;exact ⟨λ_=>rfl,λ_=>rfl,λ_=>rfl,λ_=>rfl⟩
 | k+1,s,r,h=>by
   obtain ⟨⟨s1,r1⟩,h1,h2⟩:=oq;obtain ⟨a1,a2,a3,a4⟩:=fY h1;obtain ⟨b1,b2,b3,b4⟩:=aCD h2;exact ⟨λh=>(b1 ac).trans (a1 ac),λh=>(b2 ac).trans (a2 ac),λh=>(b3 ac).trans (a3 ac),λh=>(b4 ac ac).trans (a4 ac)⟩
theorem Cg:Am dA:=by
 intro l x r h;unfold dA at h;rcases h1:pX 1 0 l with _|⟨c,r1⟩
 ·rw [h1] at h;cases h
 ·rw [h1] at h;simp only at h;have b1:=iJ h1;have b0:=iL h1
  split at h
  ·obtain ⟨p,h4,h5⟩:=ar;injection h5 with _ h5;subst h5;have b2:=(bZ h4).trans (aV r1);have:=b2.length_le;exact ⟨ac,b2.trans b1⟩
  ·injection h with h;injection h with _ h;subst h;exact ⟨b0,b1⟩
theorem yS:Am bK:=by
 intro l x r h;unfold bK at h;rcases h1:pX 1 0 l with _|⟨c,r1⟩
 ·rw [h1] at h;cases h
 ·rw [h1] at h;simp only at h;have b1:=iJ h1;have b0:=iL h1;have b2:=(aV r1).length_le
  split at h
  ·injection h with h;injection h with _ h;subst h;exact nl
  ·split at h <;>
   ·injection h with h;injection h with _ h;subst h
    first|exact ⟨ac,(aV r1).trans b1⟩|exact ⟨b0,b1⟩
theorem yG:dA []=none:=by unfold dA;rw [xM]
theorem uG:bK []=none:=by unfold bK;rw [xM]
