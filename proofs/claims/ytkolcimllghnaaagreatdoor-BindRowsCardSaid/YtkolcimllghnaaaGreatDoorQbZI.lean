/-
 Contracts. Conditions: those of each.
-/
import Derived.Test.YtkolcimllghnaaaGreatDoorQbGI
import Derived.Deep.RegionHeldLaw
set_option maxRecDepth 100000
set_option maxHeartbeats 8000000
namespace Go.Proofs.YtkolcimllghnaaaGreatDoor.Lp
def dS:List UInt8:=[44]
def lF:List UInt8:=[40]
def oD:List UInt8:=[41]
def wEq:List UInt8:=[61]
def oZ:List UInt8:=[105,110,116,111]
def jM:List UInt8:=[118,97,108,117,101,115]
def xI:List UInt8:=[115,101,116]
def Dh:List UInt8:=[119,104,101,114,101]
def cE:List UInt8:=[105,110,115,101,114,116]
def cC:List UInt8:=[117,112,100,97,116,101]
def gV {α:Type} (f:List Tok→Option (α×List Tok)) (most:Nat):Nat→List α→List Tok→Option (List α×List Tok)
 | 0,_,_=>none
 | k+1,acc,l=>match f l with
   | none=>none
   | some (x,r)=>if isF dS r then (if acc.length+1=most∧1<r.length then none else gV f most k (acc++[x]) r.tail) else some (acc++[x],r)
def cN {α:Type} (f:List Tok→Option (α×List Tok)) (most:Nat) (l:List Tok):Option (List α×List Tok):=gV f most (most+1) [] l
def fA (l:List Tok):Option (List X×List Tok):=match aE lF l with
 | none=>none
 | some r=>match cN (pX 1 0) 8 r with
   | none=>none
   | some (xs,r2)=>(aE oD r2).map fun r3=>(xs,r3)
def gT (l:List Tok):Option (List UInt8×List (List X)×List Tok):=match aE oZ l with
 | none=>none
 | some r=>match aZ r with
   | none=>none
   | some (t,r2)=>match aE jM r2 with
     | none=>none
     | some r3=>(cN fA 64 r3).map fun p=>(t,p.1,p.2)
def eS (l:List Tok):Option ((List UInt8×X)×List Tok):=match aZ l with
 | none=>none
 | some (c,r)=>match aE wEq r with
   | none=>none
   | some r2=>(pX 1 0 r2).map fun p=>((c,p.1),p.2)
def whF (l:List Tok):Option (Option X×List Tok):=if isF Dh l then (pX 1 0 l.tail).map fun p=>(some p.1,p.2) else some (none,l)
def gN (l:List Tok):Option (List UInt8×List (List UInt8×X)×Option X×List Tok):=match aZ l with
 | none=>none
 | some (t,r)=>match aE xI r with
   | none=>none
   | some r2=>match cN eS 8 r2 with
     | none=>none
     | some (ss,r3)=>(whF r3).map fun p=>(t,ss,p.1,p.2)
theorem kL {α:Type} {f:List Tok→Option (α×List Tok)} {most k:Nat} {acc:List α} {l:List Tok} (h:f l=none):gV f most (k+1) acc l=none:=by
 show (match f l with|none=>none|some (x,r)=>_)=_
 rw [h]
theorem lQ {α:Type} {f:List Tok→Option (α×List Tok)} {most k:Nat} {acc:List α} {l r:List Tok} {x:α} (h:f l=some (x,r)) (hc:isF dS r=false):gV f most (k+1) acc l=some (acc++[x],r):=by
 show (match f l with|none=>none|some (x,r)=>if isF dS r then (if acc.length+1=most∧1<r.length then none else gV f most k (acc++[x]) r.tail) else some (acc++[x],r))=_
 rw [h]
 simp only [hc,φ,if_false]
theorem kM {α:Type} {f:List Tok→Option (α×List Tok)} {most k:Nat} {acc:List α} {l r:List Tok} {x:α} (h:f l=some (x,r)) (hc:isF dS r=true) (hm:acc.length+1=most) (hr:1<r.length):gV f most (k+1) acc l=none:=by
 show (match f l with|none=>none|some (x,r)=>if isF dS r then (if acc.length+1=most∧1<r.length then none else gV f most k (acc++[x]) r.tail) else some (acc++[x],r))=_
 rw [h]
 simp only [hc,if_true]
 rw [if_pos ⟨hm,hr⟩]
theorem iL {α:Type} {f:List Tok→Option (α×List Tok)} {most k:Nat} {acc:List α} {l r:List Tok} {x:α} (h:f l=some (x,r)) (hc:isF dS r=true) (hm:¬(acc.length+1=most∧1<r.length)):gV f most (k+1) acc l=gV f most k (acc++[x]) r.tail:=by
 show (match f l with|none=>none|some (x,r)=>if isF dS r then (if acc.length+1=most∧1<r.length then none else gV f most k (acc++[x]) r.tail) else some (acc++[x],r))=_
 rw [h]
 simp only [hc,if_true]
 rw [if_neg hm]
def wD {α:Type} (f:List Tok→Option (α×List Tok)):Prop:=∀ l x r,f l=some (x,r)→r.length<l.length∧r <:+ l
theorem jX {α:Type} {f:List Tok→Option (α×List Tok)} (hf:wD f) (most:Nat):∀ (k:Nat) (acc:List α) (l:List Tok) (xs:List α) (r:List Tok),gV f most k acc l=some (xs,r)→r.length<l.length∧r <:+ l
 | 0,_,_,_,_,h=>by cases h
 | k+1,acc,l,xs,r,h=>by
   rcases hq:f l with _|⟨x,r1⟩
   ·rw [kL hq] at h;cases h
   ·obtain ⟨a1,a2⟩:=hf l x r1 hq
    by_cases hc:isF dS r1=true
    ·by_cases hm:acc.length+1=most∧1<r1.length
     ·rw [kM hq hc hm.1 hm.2] at h;cases h
     ·rw [iL hq hc hm] at h
      obtain ⟨b1,b2⟩:=jX hf most k _ _ _ _ h
      have ht:=bL r1
      have:=ht.length_le
      exact ⟨by omega,(b2.trans ht).trans a2⟩
    ·rw [lQ hq (by simpa using hc)] at h
     injection h with h
     injection h with _ h
     subst h
     exact ⟨a1,a2⟩
theorem yV (lev d:Nat):wD (pX lev d):=fun _ _ _ h=>⟨fT h,fS h⟩
theorem tQ (lev d:Nat):pX lev d []=none:=by
 rcases h:pX lev d [] with _|⟨x,r⟩
 ·rfl
 ·exact absurd (fT h) (Nat.not_lt_zero _)
end Go.Proofs.YtkolcimllghnaaaGreatDoor.Lp

namespace Go.Proofs.YtkolcimllghnaaaGreatDoor
open Lp Go.Proofs.Tryz
open Go.RowKit
def jK {α:Type} (P:Nat) (I:List α→World→Prop) (J:World→Prop) (acc:List α) (q:Option (α×List Tok)) (e:Ending) (w':World):Prop:=match q with
 | none=>∃ c,e=aV c∧c≠0∧J w'
 | some (x,r)=>e=.returned (.tuple #[])∧PS w' P r 0∧I (acc++[x]) w'
def EachPost {α:Type} (P:Nat) (I:List α→World→Prop) (J:World→Prop) (q:Option (List α×List Tok)) (e:Ending) (w':World):Prop:=match q with
 | none=>∃ c,e=aV c∧c≠0∧J w'
 | some (xs,r)=>e=.returned (.tuple #[])∧PS w' P r 0∧I xs w'
theorem EachPost.no {α:Type} {P:Nat} {I:List α→World→Prop} {J:World→Prop} {q:Option (List α×List Tok)} {c:Int} {w':World} (hq:q=none) (hc:c≠0) (h:J w'):EachPost P I J q (aV c) w':=by
 subst hq;exact ⟨c,rfl,hc,h⟩
theorem EachPost.yes {α:Type} {P:Nat} {I:List α→World→Prop} {J:World→Prop} {q:Option (List α×List Tok)} {xs:List α} {r:List Tok} {w':World} (hq:q=some (xs,r)) (hp:PS w' P r 0) (h:I xs w'):EachPost P I J q (.returned (.tuple #[])) w':=by
 subst hq;exact ⟨rfl,hp,h⟩
theorem aAL {l:List Tok} (h:l.length=0):l=[]:=List.eq_nil_of_length_eq_zero h
theorem kK {α:Type} (F:List Tok→Option (α×List Tok)) (hF:wD F) (hF0:F []=none) (most:Nat) (hm:most≤100) (h1m:1≤most) (fi:FuncId) (hfi:∀ args w,Sem.run prog (callFunc fi args) w=.ok (.enter fi args) w) (caps:Array Value) (P:Nat)
 (I:List α→World→Prop) (J:World→Prop) (hIJ:∀ acc w,I acc w→J w) (hJ:∀ w w',J w→But P w w'→J w') (hI:∀ acc w w' l,I acc w→PS w P l 0→But P w w'→I acc w')
 (hf:∀ (acc:List α) (l:List Tok) (w:World),acc.length≤most→I acc w→PS w P l 0→Lsane l→Calls prog fi caps w (jK P I J acc (F l)))
 (l:List Tok) (w:World) (h0:I [] w) (hp:PS w P l 0) (hs:Lsane l) :
 Calls prog 120 #[.pointer (some ⟨P,0,none⟩),.int .i64 (most:Nat),.func (.func fi) #[] caps] w (EachPost P I J (cN F most l)):=by
 have HF:=κ hf
 have HX:=κ (ι hF hF0)
 have HJ:=κ (ι hIJ (ι hJ hI))
 have hmI:(most:Int)≤100:=by omega
 have hmJ:(1:Int)≤most:=by omega
 clear hf hF hF0 hIJ hJ hI
 go_enter func120,ntmps120
 go_wp2_with fail
 go_loopg [6] (most+1) (fun gk s6 wr=>∃ (acc:List α) (r:List Tok),acc.length≤most∧gk=most+1-acc.length∧s6=.int .i64 ((acc.length:Int)+1)∧(acc.length=most→r=[])∧I acc wr∧PS wr P r 0∧Lsane r∧cN F most l=gV F most (most+1-acc.length) acc r)
 case atStart=>exact ⟨[],l,Nat.zero_le _,rfl,rfl,fun h=>by simp at h;omega,h0,hp,hs,rfl⟩
 case round =>
  clear h0 hp hs
  obtain ⟨acc,r,ha,rfl,rfl,hend,hi,hpr,hsr,hq⟩:=hrel
  obtain ⟨n,hn⟩:∃ n,acc.length=n:=⟨_,rfl⟩
  have HC:=κ (HF.out acc r wr ha hi hpr hsr)
  have hk:most+1-acc.length=(most-acc.length)+1:=by omega
  rw [hk] at hq
  have HQ:=κ hq
  have HE:=κ hend
  have HS:=κ hsr
  have HN:=κ hn
  have haI:(n:Int)≤most:=by omega
  have hnI:(0:Int)≤(n:Int):=by omega
  rw [hn]
  clear hq hk hi hpr hsr hend ha hn
  go_wp2_with fail
  refine μ HC ?_
  rintro e w1 hr
  rcases hF:F r with _|⟨x,r1⟩
  ·rw [hF] at hr
   obtain ⟨c,rfl,hc,hj⟩:=hr
   have HP:=κ (EachPost.no (P:=P) (I:=I) (J:=J) (HQ.out.trans (kL hF)) hc hj)
   clear hF hj hc HC
   unfold aV
   go_wp2
   exact ⟨rfl,HP.out⟩
  ·rw [hF] at hr
   obtain ⟨rfl,hp1,hi1⟩:=hr
   have HP1:=κ hp1
   have HI1:=κ hi1
   obtain ⟨a1,a2⟩:=HX.out.1 _ _ _ hF
   have hs1:=HS.out.sfx a2
   cases hc:isF dS r1
   ·have HIs:=κ (mG P 0 r1 ⟨#[44]⟩ w1 hp1 false hc)
    have HP:=κ (EachPost.yes (P:=P) (I:=I) (J:=J) (HQ.out.trans (lQ hF hc)) hp1 hi1)
    clear hF hp1 hi1 a1 a2 hs1 hc HC
    go_wp2_with fail
    refine μ HIs ?_
    rintro e w2 ⟨rfl,rfl⟩
    go_wp2
    go_end0
    exact HP.out
   ·have HIs:=κ (mG P 0 r1 ⟨#[44]⟩ w1 hp1 true hc)
    obtain ⟨Ar,cr,hb,hlc, -⟩:=hp1
    have cp:=β hb 0
    simp only [γ,δ] at cp
    have hrl:1≤r1.length:=by have:=bB hc;omega
    by_cases hlast:n+1=most
    ·have e1:((n:Int)+1==(most:Int))=true:=by rw [beq_iff_eq];omega
     by_cases h2:1<r1.length
     ·have e2:(1:Int)<(r1.length:Int):=by omega
      have HP:=κ (EachPost.no (P:=P) (I:=I) (J:=J) (c:=2) (HQ.out.trans (kM hF hc (by rw [HN.out];exact hlast) h2)) (by decide) (HJ.out.1 _ _ hi1))
      generalize r1.length=m1 at *
      clear hF hi1 a1 a2 hs1 hc HC hb hlc
      go_wp2_with fail
      refine μ HIs ?_
      rintro e w2 ⟨rfl,rfl⟩
      go_wp2_with fail
      refine (pY 2 _).mono ?_
      rintro e w2 ⟨rfl,rfl⟩
      unfold aV
      go_wp2
      exact ⟨rfl,HP.out⟩
     ·have e2:¬(1:Int)<(r1.length:Int):=by omega
      have hr1:r1.length=1:=by omega
      have htl:r1.tail=[]:=aAL (by have:=bB hc;omega)
      have HNd:=κ (bQ P 0 dS r1 w1 HP1.out)
      have HNF:=κ (show aE dS r1=some r1.tail by simp [aE,hc])
      have HNX:=κ (HQ.out.trans (iL (k:=most-acc.length) hF hc (fun h=>h2 h.2)))
      have HT:=κ (ι htl hs1.tl)
      generalize r1.length=m1 at *
      clear hF hi1 a1 a2 hs1 hc HC hb hlc htl hr1 h2
      go_wp2_with fail
      refine μ HIs ?_
      rintro e w2 ⟨rfl,rfl⟩
      go_wp2_with fail
      refine μ HNd ?_
      rintro e w3 hnd
      obtain ⟨rfl,hb3,hp3⟩:=hnd.yes HNF.out
      have HZ:=κ (ι hb3 hp3)
      clear hnd hb3 hp3 cp HIs HNd
      go_wp2
      go_roundg (most+1-(n+1))
      case measure=>(have:=HN.out;omega)
      case rel=>exact ⟨acc++[x],r1.tail,by rw [List.length_append,HN.out];simp;omega,by rw [List.length_append,HN.out];rfl,by rw [List.length_append,HN.out];simp,fun _=>HT.out.1,HJ.out.2.2 _ _ _ _ HI1.out HP1.out HZ.out.1,HZ.out.2,HT.out.2,by rw [HNX.out,List.length_append];congr 1;have:=HN.out;(try simp);(try omega)⟩
    ·have e1:((n:Int)+1==(most:Int))=false:=by rw [beq_eq_false_iff_ne];omega
     have hlt:n<most:=by
      rcases Nat.lt_or_ge n most with h|h
      ·exact h
      ·have hr0:=HE.out (by have:=HN.out;omega)
       rw [hr0,HX.out.2] at hF
       cases hF
     have HNd:=κ (bQ P 0 dS r1 w1 HP1.out)
     have HNF:=κ (show aE dS r1=some r1.tail by simp [aE,hc])
     have HNX:=κ (HQ.out.trans (iL (k:=most-acc.length) hF hc (fun h=>hlast (by rw [←HN.out];exact h.1))))
     have HT:=κ hs1.tl
     clear hF hi1 a1 a2 hs1 hc HC hb hlc
     go_wp2_with fail
     refine μ HIs ?_
     rintro e w2 ⟨rfl,rfl⟩
     go_wp2_with fail
     refine μ HNd ?_
     rintro e w3 hnd
     obtain ⟨rfl,hb3,hp3⟩:=hnd.yes HNF.out
     have HZ:=κ (ι hb3 hp3)
     clear hnd hb3 hp3 cp HIs HNd
     go_wp2
     go_roundg (most+1-(n+1))
     case measure=>(have:=HN.out;omega)
     case rel=>exact ⟨acc++[x],r1.tail,by rw [List.length_append,HN.out];simp;omega,by rw [List.length_append,HN.out];rfl,by rw [List.length_append,HN.out];simp,fun h=>by rw [List.length_append,HN.out] at h;simp at h;omega,HJ.out.2.2 _ _ _ _ HI1.out HP1.out HZ.out.1,HZ.out.2,HT.out,by rw [HNX.out,List.length_append];congr 1;have:=HN.out;(try simp);(try omega)⟩
def PXs (B:Nat) (w:World):List Lp.X→List Value→Prop
 | [],[]=>True
 | x::xs,v::vs=>(∃ T g,v=.iface T (.pointer (some ⟨g,0,none⟩)))∧PX B w x v∧PXs B w xs vs
 | _,_=>False
theorem PXs.keep {B:Nat} {w w':World} (hs:Stays w w'):∀ {xs:List Lp.X} {vs:List Value},PXs B w xs vs→PXs B w' xs vs
 | [],[],_=>trivial
 | [],_::_,h=>h.elim
 | _::_,[],h=>h.elim
 | _::_,_::_,⟨h1,h2,h3⟩=>⟨h1,PX.keep hs h2,PXs.keep hs h3⟩
theorem PXs.mono {B B':Nat} {w:World} (hB:B'≤B):∀ {xs:List Lp.X} {vs:List Value},PXs B w xs vs→PXs B' w xs vs
 | [],[],_=>trivial
 | [],_::_,h=>h.elim
 | _::_,[],h=>h.elim
 | _::_,_::_,⟨h1,h2,h3⟩=>⟨h1,PX.mono hB h2,PXs.mono hB h3⟩
theorem PXs.app {B:Nat} {w:World}:∀ {xs:List Lp.X} {vs:List Value} {x:Lp.X} {v:Value},PXs B w xs vs→(∃ T g,v=.iface T (.pointer (some ⟨g,0,none⟩)))→PX B w x v→PXs B w (xs++[x]) (vs++[v])
 | [],[],_,_,_,h2,h3=>⟨h2,h3,trivial⟩
 | [],_::_,_,_,h,_,_=>h.elim
 | _::_,[],_,_,h,_,_=>h.elim
 | _::_,_::_,_,_,⟨a,b,c⟩,h2,h3=>⟨a,b,PXs.app c h2 h3⟩
theorem PXs.len {B:Nat} {w:World}:∀ {xs:List Lp.X} {vs:List Value},PXs B w xs vs→vs.length=xs.length
 | [],[],_=>rfl
 | [],_::_,h=>h.elim
 | _::_,[],h=>h.elim
 | _::_,_::_,h=>by simp [PXs.len h.2.2]
theorem kV {w w':World} {P d B n size:Nat} {l:List Tok} {e:TypeId} {v:Value} {xs:List Value} (h:w.ownsRow B e size v n xs) (hb:But P w w') (hp:PS w P l d) (he:e≠100):w'.ownsRow B e size v n xs:=by
 refine ⟨h.1, ?_⟩
 rcases h.2 with h2|⟨g,cap,cur,h2,h3,h4,h5⟩
 ·exact .inl h2
 ·exact .inr ⟨g,cap,cur,h2,h3,aI h4 hb hp he,h5⟩
def Xk (t:TypeId):Bool:=t==123||t==206||t==196||t==247||t==200||t==208
def StaysT (p:TypeId→Bool) (w w':World):Prop:=∀ (g:Nat) (cs:Array Value) (t:TypeId),w.heap[g]? = some (.cells cs t (0,0))→p t=true→w'.heap[g]? = some (.cells cs t (0,0))
abbrev rB:=StaysT Xk
def Bm (t:TypeId):Bool:=Xk t||t==66
theorem StaysT.trans {p:TypeId→Bool} {a b c:World} (h:StaysT p a b) (k:StaysT p b c):StaysT p a c:=fun g cs t hg ht=>k g cs t (h g cs t hg ht) ht
theorem StaysT.below {p:TypeId→Bool} {w w':World} (hb:Below w.heap.size w w'):StaysT p w w':=fun _ _ _ h _=>aA h hb
theorem StaysT.but {p:TypeId→Bool} {w w':World} {P d:Nat} {l:List Tok} (hb:But P w w') (hp:PS w P l d) (hn:p 100=false):StaysT p w w':=fun g cs t h ht=>cG hb hp g cs t h (by rintro rfl;rw [hn] at ht;cases ht)
theorem StaysT.keeps {p:TypeId→Bool} {w w':World} {B n size:Nat} {e:TypeId} {v:Value} {xs:List Value} {r':Option Nat} (ho:w.ownsRow B e size v n xs) (he:p e=false) (hk:gD w w' v.ownBlock r'):StaysT p w w' :=
 fun g cs t h ht=>(hk g _ h (cX ho h (by rintro rfl;rw [he] at ht;cases ht))).1
theorem StaysT.set {p:TypeId→Bool} {w:World} {g o:Nat} {cs:Array Value} {t:TypeId} {v:Value} (hg:w.heap[g]? = some (.cells cs t (0,0))) (ht:p t=false):StaysT p w (w.setCell ⟨g,o,none⟩ v):=by
 intro g2 cs2 t2 h2 ht2
 refine (Below.heap_setCell w ⟨g,o,none⟩ v g2 ?_).trans h2
 rintro rfl
 rw [h2] at hg
 injection hg with hg
 injection hg with _ hg
 rw [hg,ht] at ht2
 cases ht2
theorem StaysT.nodes {w w':World} (h:StaysT Bm w w'):rB w w':=fun g cs t hg ht=>h g cs t hg (by simp [Bm,ht])
theorem jV {p:TypeId→Bool} {w w':World} {B n size:Nat} {e:TypeId} {v:Value} {xs:List Value} (h:w.ownsRow B e size v n xs) (hs:StaysT p w w') (he:p e=true):w'.ownsRow B e size v n xs:=by
 refine ⟨h.1, ?_⟩
 rcases h.2 with h2|⟨g,cap,cur,h2,h3,h4,h5⟩
 ·exact .inl h2
 ·exact .inr ⟨g,cap,cur,h2,h3,hs _ _ _ h4 he,h5⟩
theorem PX.keepN {B:Nat} {w w':World} (hs:rB w w'):∀ {e:Lp.X} {v:Value},PX B w e v→PX B w' e v
 | .lit ..,v,h=>by obtain ⟨g,h0,h1,h2⟩:=h;exact ⟨g,h0,h1,hs _ _ _ h2 (by decide)⟩
 | .col ..,v,h=>by obtain ⟨g,h0,h1,h2⟩:=h;exact ⟨g,h0,h1,hs _ _ _ h2 (by decide)⟩
 | .un _ x,v,h=>by obtain ⟨g,u,h0,h1,h2,h3⟩:=h;exact ⟨g,u,h0,h1,hs _ _ _ h2 (by decide),PX.keepN hs h3⟩
 | .bin _ a b,v,h=>by obtain ⟨g,u1,u2,h0,h1,h2,h3,h4⟩:=h;exact ⟨g,u1,u2,h0,h1,hs _ _ _ h2 (by decide),PX.keepN hs h3,PX.keepN hs h4⟩
 | .isn _ x,v,h=>by obtain ⟨g,u,h0,h1,h2,h3⟩:=h;exact ⟨g,u,h0,h1,hs _ _ _ h2 (by decide),PX.keepN hs h3⟩
 | .agg _ x,v,h=>by obtain ⟨g,u,h0,h1,h2,h3⟩:=h;exact ⟨g,u,h0,h1,hs _ _ _ h2 (by decide),PX.keepN hs h3⟩
 | .cnt,v,h=>by obtain ⟨g,h0,h1,h2⟩:=h;exact ⟨g,h0,h1,hs _ _ _ h2 (by decide)⟩
theorem PXs.keepN {B:Nat} {w w':World} (hs:rB w w'):∀ {xs:List Lp.X} {vs:List Value},PXs B w xs vs→PXs B w' xs vs
 | [],[],_=>trivial
 | [],_::_,h=>h.elim
 | _::_,[],h=>h.elim
 | _::_,_::_,⟨h1,h2,h3⟩=>⟨h1,PX.keepN hs h2,PXs.keepN hs h3⟩
theorem But.low {P:Nat} {w0 w w':World} (h:But P w0 w) (hb:Below w0.heap.size w w'):But P w0 w' :=
 ⟨hb.os.trans h.os,hb.tape.trans h.tape,hb.output.trans h.output,Nat.le_trans h.size hb.size,fun k hk hn=>(hb.block k hk).trans (h.block k hk hn)⟩
theorem PS.low {P d B:Nat} {l:List Tok} {w w':World} (h:PS w P l d) (hP:P<B) (hb:Below B w w'):PS w' P l d:=by
 obtain ⟨A,c,h1,h2,h3⟩:=h
 refine ⟨A,c,(hb.block P hP).trans h1,h2, ?_⟩
 rcases h3 with h3|⟨b,off,hA,hlt,hc⟩
 ·exact .inl h3
 ·exact .inr ⟨b,off,hA,hlt,fun j u hu=>(hb.cell (p:=⟨b,off+j,none⟩) (Nat.lt_trans hlt hP)).trans (hc j u hu)⟩
theorem jQ {w:World} {B n size g o:Nat} {e t:TypeId} {v u:Value} {xs:List Value} {cs:Array Value} (h:w.ownsRow B e size v n xs) (hg:w.heap[g]? = some (.cells cs t (0,0))) (hne:e≠t):(w.setCell ⟨g,o,none⟩ u).ownsRow B e size v n xs:=by
 have hn:=cX h hg hne
 refine ⟨h.1, ?_⟩
 rcases h.2 with h2|⟨g',cap,cur,rfl,h3,h4,h5⟩
 ·exact .inl h2
 ·refine .inr ⟨g',cap,cur,rfl,h3,(Below.heap_setCell w ⟨g,o,none⟩ u g' ?_).trans h4,h5⟩
  intro e
  exact hn (by rw [e];rfl)
structure RI (P bp gr:Nat) (w0:World) (acc:List Lp.X) (w:World):Prop where
 but:But P w0 w
 hbp:w.heap[bp]? = some (.cells #[.pointer (some ⟨P,0,none⟩)] 98 (0,0))
 row:∃ A c vs,w.heap[gr]? = some (.cells #[.slice A acc.length c] 45 (0,0))∧w.ownsRow w0.heap.size 66 1 (.slice A acc.length c) acc.length vs∧PXs w0.heap.size w acc vs
theorem RI.next {P bp gr d:Nat} {w0 w w':World} {acc:List Lp.X} {l:List Tok} (h:RI P bp gr w0 acc w) (hp:PS w P l d) (hb:But P w w'):RI P bp gr w0 acc w':=by
 obtain ⟨A,c,vs,h1,h2,h3⟩:=h.row
 exact ⟨h.but.trans hb,aI h.hbp hb hp (by decide),A,c,vs,aI h1 hb hp (by decide),kV h2 hb hp (by decide),PXs.keep (cG hb hp) h3⟩
def RJ (P:Nat) (w0 w:World):Prop:=But P w0 w
theorem wJ:(prog.info? 66).map (fun i=>(i.zero,i.size,i.bytes))=some (some .nilIface,1,16):=by kernel_rfl
theorem Np {P bp gr d c5:Nat} {w0 w w2 w5:World} {acc:List Lp.X} {x:Lp.X} {l r:List Tok} {A A5:Option Addr} {c:Nat} {vs:List Value} {v:Value} {ob:Obj} (hP0:P<w0.heap.size) (hgr:w0.heap.size≤gr) (hne:gr≠bp)
 (hi:RI P bp gr w0 acc w) (hp:PS w P l d) (hb2:But P w w2) (h3:PXs w0.heap.size w acc vs) (hv:∃ T g,v=.iface T (.pointer (some ⟨g,0,none⟩))) (hx:PX w.heap.size w2 x v) (hp2:PS w2 P r 0)
 (hx5:w5.heap[gr]? = some (.cells #[.slice A acc.length c] 45 (0,0))) (ho5:w5.ownsRow w0.heap.size 66 1 (.slice A5 (acc.length+1) c5) (acc.length+1) (vs++[v])) (hb5:Below w0.heap.size (w2.alloc ob) w5)
 (hk5:gD (w2.alloc ob) w5 (Value.ownBlock (.slice A acc.length c)) (Value.ownBlock (.slice A5 (acc.length+1) c5))) (k2:w2.ownsRow w0.heap.size 66 1 (.slice A acc.length c) acc.length vs) :
 PS (w5.setCell ⟨gr,0,none⟩ (.slice A5 (acc.length+1) c5)) P r 0∧RI P bp gr w0 (acc++[x]) (w5.setCell ⟨gr,0,none⟩ (.slice A5 (acc.length+1) c5)):=by
 have hb25:Below w0.heap.size w2 w5:=((Below.refl w2.heap.size w2).alloc (ν _) ob |>.mono (Nat.le_trans hi.but.size hb2.size)).trans hb5
 have hbut5:But P w0 (w5.setCell ⟨gr,0,none⟩ (.slice A5 (acc.length+1) c5)):=((hi.but.trans hb2).low hb25).setNew hgr _
 have hp5:PS (w5.setCell ⟨gr,0,none⟩ (.slice A5 (acc.length+1) c5)) P r 0:=(hp2.low hP0 hb25).setNew (Nat.lt_of_lt_of_le hP0 hgr) _
 have hsN:rB w2 (w5.setCell ⟨gr,0,none⟩ (.slice A5 (acc.length+1) c5)) :=
  (StaysT.below ((θ).alloc (ν _) ob)).trans ((StaysT.keeps (k2.alloc ob) (by decide) hk5).trans (StaysT.set hx5 (by decide)))
 refine ⟨hp5,hbut5, ?_,A5,c5,vs++[v], ?_, ?_, ?_⟩
 ·have hbp2:=aI hi.hbp hb2 hp (by decide)
  have hbp5:=(hk5 _ _ (aC hbp2 ob) (cX (k2.alloc ob) (aC hbp2 ob) (by decide))).1
  exact (Below.heap_setCell w5 ⟨gr,0,none⟩ _ bp (fun e=>hne e.symm)).trans hbp5
 ·have:=heap_setCell_same w5 gr 0 _ _ (.slice A5 (acc.length+1) c5) hx5
  simpa using this
 ·rw [List.length_append]
  exact jQ ho5 hx5 (by decide)
 ·exact PXs.app (PXs.keepN ((StaysT.but hb2 hp (by decide)).trans hsN) h3) hv (PX.keepN hsN (hx.mono hi.but.size))
theorem Nq (P bp gr d0:Nat) (l0:List Tok) (w0:World) (hR0:Resv w0) (hp0:PS w0 P l0 d0) (hP0:P<w0.heap.size) (hgr:w0.heap.size≤gr) (hne:gr≠bp) (acc:List Lp.X) (l:List Tok) (w:World) (hacc:acc.length≤8) (hi:RI P bp gr w0 acc w) (hp:PS w P l 0) (hs:Lsane l) :
 Calls prog 123 #[.pointer (some ⟨gr,0,none⟩),.pointer (some ⟨bp,0,none⟩)] w (jK P (RI P bp gr w0) (RJ P w0) acc (pX 1 0 l)):=by
 obtain ⟨iE,hiE,hz0,hz1,hz2⟩:=info_parts wJ
 have HC:=κ ((gG P l.length 0 (by have:=hs.1;omega)).e w.drew l (ν _) hp hs (show Resv w.drew from hR0.but hp0 hi.but.drew))
 obtain ⟨A,c,vs,h1,h2,h3⟩:=hi.row
 have c0:=β h1 0
 have c1:=β hi.hbp 0
 have f0:=fun j=>frozen_of_row w gr j _ _ h1
 have HP:=κ (show PS w.drew P l 0 from hp)
 have HR:=κ (show w.drew.heap[gr]? = some (.cells #[.slice A acc.length c] 45 (0,0))∧w.drew.ownsRow w0.heap.size 66 1 (.slice A acc.length c) acc.length vs∧PXs w0.heap.size w.drew acc vs from ⟨h1,h2.drew,PXs.keep (aK (θ).drew) h3⟩)
 have HI:=κ (show RI P bp gr w0 acc w.drew from ⟨hi.but.drew,hi.hbp,A,c,vs,h1,h2.drew,PXs.keep (aK (θ).drew) h3⟩)
 have hng:some gr≠Value.ownBlock (.slice A acc.length c):=cX h2 h1 (by decide)
 have hgl:=aL h1
 have hbl:=aL hi.hbp
 clear hp hs hi h1 h2 h3
 go_enter func123,ntmps123
 generalize hq:pX 1 0 l=q at *
 rcases q with _|⟨x,r⟩
 ·have HC0:=κ (HC.out.mono (fun e w2 (hx:XPost P w.drew 0 none e w2)=>(show But P w.drew w2∧∃ c,e=aV c∧c≠0 from hx)))
  clear HC
  go_wp2_with fail
  refine wp_region_held_drew (S:=fun w'=>w'.cell? ⟨gr,0,none⟩=some (.slice A acc.length c)∧w'.cell? ⟨bp,0,none⟩=some (.pointer (some ⟨P,0,none⟩))) (by kernel_rfl) ⟨c0,c1⟩ (fun hHeld => ?_)
  refine wpAnyH_take (i:=0) (v:=.slice A acc.length c) rfl (by kernel_rfl) (by kernel_rfl) (by kernel_rfl) (fun _ _ _ h=>h) (Or.inl ⟨by rfl,fun w hSw=>by obtain ⟨s1,s2⟩:=hSw;go_simp⟩) hHeld ?_
  refine wpAnyH_take (i:=1) (v:=.pointer (some ⟨P,0,none⟩)) rfl (by kernel_rfl) (by kernel_rfl) (by kernel_rfl) (fun _ _ _ h=>h) (Or.inl ⟨by rfl,fun w hSw=>by obtain ⟨s1,s2⟩:=hSw;go_simp⟩) hHeld ?_
  refine wpAnyH_ready (rs:=[2]) (by kernel_rfl) (by simp) ?_
  refine AllReadyH.cons rfl (fun K hK => ?_) AllReadyH.nil
  go_simp
  refine μ HC0 ?_
  rintro e w2 ⟨hb2,ce,rfl,hc⟩
  unfold aV
  go_wp2
  exact ⟨rfl,ce,rfl,hc,HI.out.but.trans hb2⟩
 ·have HC0:=κ (HC.out.mono (fun e w2 (hx:XPost P w.drew 0 (some (x,r)) e w2)=>(show But P w.drew w2∧∃ T g,e=.returned (.iface T (.pointer (some ⟨g,0,none⟩)))∧PX w.drew.heap.size w2 x (.iface T (.pointer (some ⟨g,0,none⟩)))∧PS w2 P r 0 from hx)))
  clear HC
  go_wp2_with fail
  go_region_law (first
   | (go_simp;go_at_call 124;refine μ HC0 ?_;rintro e w2 ⟨hb2,T,g,rfl,hx,hp2⟩;have k1:=aI HR.out.1 hb2 HP.out (by decide);have k2:=kV HR.out.2.1 hb2 HP.out (by decide);have d0:w2.cell? ⟨gr,0,none⟩=some (.slice A acc.length c):=β k1 0;have d1:∀ o,(w2.alloc o).cell? ⟨gr,0,none⟩=some (.slice A acc.length c):=fun o=>β (aC k1 o) 0;have hsz:=Nat.le_trans HI.out.but.size hb2.size)
   | (refine eC _ rfl (.tmp 2) (.tmp 5) _ rfl w0.heap.size 66 iE _ 1 16 underlying45 hiE hz0 hz1 hz2 rfl (by omega) A acc.length c vs rfl ?_ _ 1 1 [.iface T (.pointer (some ⟨g,0,none⟩))] rfl rfl ?_ ?_ ?_ ?_ ?_ ?_
      ·exact k2.alloc _
      ·exact bD [.iface T (.pointer (some ⟨g,0,none⟩))] (heap_alloc_new _ _)
      ·simp [Value.oneCell']
      ·simp only [maxLen];omega
      ·omega
      ·rw [World.size_alloc];omega
      intro A5 c5 w5 ho5 hb5 hg5 hk5
      have hx5:=(hk5 _ _ (aC k1 _) hng).1
      have d5:=β hx5 0
      have f5:=fun j=>frozen_of_row w5 gr j _ _ hx5)
   | fail)
  all_goals
   have hw5:=Np hP0 hgr hne HI.out HP.out hb2 (HR.out.2.2) ⟨_,_,rfl⟩ hx hp2 hx5 ho5 hb5 hk5 k2
   clear HR HI HP HC0 hx hp2 hx5 ho5 hb5 hg5 hk5 k1 k2 hb2
   go_wp2
   go_end0
   exact ⟨rfl,hw5.1,hw5.2⟩
theorem gX {w:World} {g g2 o2:Nat} {o:Obj} (h:w.heap[g]? = some o) (hne:g≠g2) (v:Value):(w.setCell ⟨g2,o2,none⟩ v).heap[g]? = some o:=(Below.heap_setCell w ⟨g2,o2,none⟩ v g hne).trans h
def RowX (B:Nat) (w:World) (xs:List Lp.X) (v:Value):Prop:=∃ A c vs,v=.slice A xs.length c∧w.ownsRow B 66 1 (.slice A xs.length c) xs.length vs∧PXs B w xs vs
def RowsX (B:Nat) (w:World):List (List Lp.X)→List Value→Prop
 | [],[]=>True
 | x::xs,v::vs=>RowX B w x v∧RowsX B w xs vs
 | _,_=>False
theorem RowX.stays {B:Nat} {w w':World} {xs:List Lp.X} {v:Value} (h:RowX B w xs v) (hs:StaysT Bm w w'):RowX B w' xs v:=by
 obtain ⟨A,c,vs,h1,h2,h3⟩:=h
 exact ⟨A,c,vs,h1,jV h2 hs (by decide),PXs.keepN hs.nodes h3⟩
theorem RowX.mono {B B':Nat} (hB:B'≤B) {w:World} {xs:List Lp.X} {v:Value} (h:RowX B w xs v):RowX B' w xs v:=by
 obtain ⟨A,c,vs,h1,h2,h3⟩:=h
 refine ⟨A,c,vs,h1,⟨h2.1, ?_⟩,PXs.mono hB h3⟩
 rcases h2.2 with k|⟨g,cap,cur,k1,k2,k3⟩
 ·exact .inl k
 ·exact .inr ⟨g,cap,cur,k1,Nat.le_trans hB k2,k3⟩
theorem RowsX.stays {B:Nat} {w w':World} (hs:StaysT Bm w w'):∀ {xs:List (List Lp.X)} {vs:List Value},RowsX B w xs vs→RowsX B w' xs vs
 | [],[],_=>trivial
 | [],_::_,h=>h.elim
 | _::_,[],h=>h.elim
 | _::_,_::_,⟨h1,h2⟩=>⟨h1.stays hs,RowsX.stays hs h2⟩
theorem RowsX.app {B:Nat} {w:World}:∀ {xs:List (List Lp.X)} {vs:List Value} {x:List Lp.X} {v:Value},RowsX B w xs vs→RowX B w x v→RowsX B w (xs++[x]) (vs++[v])
 | [],[],_,_,_,h2=>⟨h2,trivial⟩
 | [],_::_,_,_,h,_=>h.elim
 | _::_,[],_,_,h,_=>h.elim
 | _::_,_::_,_,_,⟨a,b⟩,h2=>⟨a,RowsX.app b h2⟩
structure II (P bp bx gi:Nat) (t:List UInt8) (w0:World) (acc:List (List Lp.X)) (w:World):Prop where
 but:But P w0 w
 hbp:w.heap[bp]? = some (.cells #[.pointer (some ⟨P,0,none⟩)] 98 (0,0))
 hbx:w.heap[bx]? = some (.cells #[.pointer (some ⟨gi,0,none⟩)] 41 (0,0))
 rows:∃ A c vs,w.heap[gi]? = some (.cells #[.string ⟨t.toArray⟩,.slice A acc.length c] 44 (0,0))∧w.ownsRow w0.heap.size 45 1 (.slice A acc.length c) acc.length vs∧RowsX w0.heap.size w acc vs
theorem II.next {P bp bx gi d:Nat} {t:List UInt8} {w0 w w':World} {acc:List (List Lp.X)} {l:List Tok} (h:II P bp bx gi t w0 acc w) (hp:PS w P l d) (hb:But P w w'):II P bp bx gi t w0 acc w':=by
 obtain ⟨A,c,vs,h1,h2,h3⟩:=h.rows
 exact ⟨h.but.trans hb,aI h.hbp hb hp (by decide),aI h.hbx hb hp (by decide),A,c,vs,aI h1 hb hp (by decide),kV h2 hb hp (by decide),RowsX.stays (StaysT.but hb hp (by decide)) h3⟩
theorem Tt:(prog.info? 45).map (fun i=>(i.zero,i.size,i.bytes))=some (some (.slice none 0 0),1,24):=by kernel_rfl
theorem Qr:wD fA:=by
 intro l x r h
 unfold fA at h
 rcases h1:aE lF l with _|r1
 ·rw [h1] at h;cases h
 ·rw [h1] at h
  simp only at h
  rcases h2:cN (pX 1 0) 8 r1 with _|⟨xs,r2⟩
  ·rw [h2] at h;cases h
  ·rw [h2] at h
   simp only at h
   rcases h3:aE oD r2 with _|r3
   ·rw [h3] at h;cases h
   ·rw [h3] at h
    simp only [Option.map_some,Option.some.injEq,Prod.mk.injEq] at h
    obtain ⟨rfl,rfl⟩:=h
    obtain ⟨a1,a2⟩:=jX (yV 1 0) 8 _ _ _ _ _ h2
    have b1:=(aR h1).length_le
    have b2:=(aR h3).length_le
    exact ⟨by omega,((aR h3).trans a2).trans (aR h1)⟩
theorem xZ:fA []=none:=rfl
theorem Nk {P bp bx gi d c5:Nat} {t:List UInt8} {w0 w w2 w5:World} {acc:List (List Lp.X)} {xs:List Lp.X} {l r:List Tok} {A A5:Option Addr} {c:Nat} {vs:List Value} {v:Value} {ob:Obj} (hP0:P<w0.heap.size) (hgi:w0.heap.size≤gi) (hne:gi≠bp) (hnx:gi≠bx)
 (hi:II P bp bx gi t w0 acc w) (hp:PS w P l d) (hb2:But P w w2) (h3:RowsX w0.heap.size w acc vs) (hv:RowX w0.heap.size w2 xs v) (hp2:PS w2 P r 0)
 (hx5:w5.heap[gi]? = some (.cells #[.string ⟨t.toArray⟩,.slice A acc.length c] 44 (0,0))) (ho5:w5.ownsRow w0.heap.size 45 1 (.slice A5 (acc.length+1) c5) (acc.length+1) (vs++[v])) (hb5:Below w0.heap.size (w2.alloc ob).drew w5)
 (hk5:gD (w2.alloc ob).drew w5 (Value.ownBlock (.slice A acc.length c)) (Value.ownBlock (.slice A5 (acc.length+1) c5))) (k2:w2.ownsRow w0.heap.size 45 1 (.slice A acc.length c) acc.length vs) :
 PS (w5.setCell ⟨gi,1,none⟩ (.slice A5 (acc.length+1) c5)) P r 0∧II P bp bx gi t w0 (acc++[xs]) (w5.setCell ⟨gi,1,none⟩ (.slice A5 (acc.length+1) c5)):=by
 have hb25:Below w0.heap.size w2 w5:=(((Below.refl w2.heap.size w2).alloc (ν _) ob).drew |>.mono (Nat.le_trans hi.but.size hb2.size)).trans hb5
 have hbut5:But P w0 (w5.setCell ⟨gi,1,none⟩ (.slice A5 (acc.length+1) c5)):=((hi.but.trans hb2).low hb25).setNew hgi _
 have hp5:PS (w5.setCell ⟨gi,1,none⟩ (.slice A5 (acc.length+1) c5)) P r 0:=(hp2.low hP0 hb25).setNew (Nat.lt_of_lt_of_le hP0 hgi) _
 have k2d:(w2.alloc ob).drew.ownsRow w0.heap.size 45 1 (.slice A acc.length c) acc.length vs:=(k2.alloc ob).drew
 have hsN:StaysT Bm w2 (w5.setCell ⟨gi,1,none⟩ (.slice A5 (acc.length+1) c5)) :=
  (StaysT.below ((θ).alloc (ν _) ob).drew).trans ((StaysT.keeps k2d (by decide) hk5).trans (StaysT.set hx5 (by decide)))
 have old:∀ (g:Nat) (cs:Array Value) (ty:TypeId),w.heap[g]? = some (.cells cs ty (0,0))→ty≠100→45≠ty→gi≠g→(w5.setCell ⟨gi,1,none⟩ (.slice A5 (acc.length+1) c5)).heap[g]? = some (.cells cs ty (0,0)):=by
  intro g cs ty hg h1 h2 h3
  have hg2:=aI hg hb2 hp h1
  have hg5:=(hk5 _ _ (cJ (aC hg2 ob)) (cX k2d (cJ (aC hg2 ob)) h2)).1
  exact (Below.heap_setCell w5 ⟨gi,1,none⟩ _ g (fun e=>h3 e.symm)).trans hg5
 refine ⟨hp5,hbut5,old _ _ _ hi.hbp (by decide) (by decide) hne,old _ _ _ hi.hbx (by decide) (by decide) hnx,A5,c5,vs++[v], ?_, ?_, ?_⟩
 ·have:=heap_setCell_same w5 gi 1 _ _ (.slice A5 (acc.length+1) c5) hx5
  simpa using this
 ·rw [List.length_append]
  exact jQ ho5 hx5 (by decide)
 ·exact RowsX.app (RowsX.stays ((StaysT.but hb2 hp (by decide)).trans hsN) h3) (hv.stays hsN)
theorem Vq:∀ args w,Sem.run prog (callFunc 123 args) w=.ok (.enter 123 args) w:=fun _ _=>rfl
theorem Qs (P bp d0:Nat) (l:List Tok) (w:World) (hR:Resv w) (hp:PS w P l 0) (hs:Lsane l) (hbp:w.heap[bp]? = some (.cells #[.pointer (some ⟨P,0,none⟩)] 98 (0,0))) (_:d0=0) :
 Calls prog 120 #[.pointer (some ⟨P,0,none⟩),.int .i64 8,.func (.func 123) #[] #[.pointer (some ⟨w.heap.size,0,none⟩),.pointer (some ⟨bp,0,none⟩)]]
  (w.alloc (.cells #[.slice none 0 0] 45)) (EachPost P (RI P bp w.heap.size w) (RJ P w) (cN (pX 1 0) 8 l)):=by
 have hb:Below w.heap.size w (w.alloc (.cells #[.slice none 0 0] 45)):=ρ
 have hne:w.heap.size≠bp:=Nat.ne_of_gt (aL hbp)
 exact kK (pX 1 0) (yV 1 0) (tQ 1 0) 8 (by omega) (by omega) _ Vq #[.pointer (some ⟨w.heap.size,0,none⟩),.pointer (some ⟨bp,0,none⟩)] P (RI P bp w.heap.size w) (RJ P w) (fun _ _ h=>h.but) (fun _ _ h k=>But.trans h k) (fun _ _ _ _ h hp hb=>h.next hp hb)
  (fun acc l' w' ha hi hp' hs'=>Nq P bp w.heap.size 0 l w hR hp hp.lt (ν _) hne acc l' w' ha hi hp' hs') l _
  ⟨But.of hb,aA hbp hb,none,0,[],heap_alloc_new w _,World.ownsRow_nil _ _ _ _,trivial⟩ (hp.below hb) hs
theorem Nl (P bp bx gi d0:Nat) (t:List UInt8) (l0:List Tok) (w0:World) (hR0:Resv w0) (hp0:PS w0 P l0 d0) (hgi:w0.heap.size≤gi) (hne:gi≠bp) (hnx:gi≠bx) (acc:List (List Lp.X)) (l:List Tok) (w:World) (hacc:acc.length≤64) (hi:II P bp bx gi t w0 acc w) (hp:PS w P l 0) (hs:Lsane l) :
 Calls prog 122 #[.pointer (some ⟨bp,0,none⟩),.pointer (some ⟨bx,0,none⟩)] w (jK P (II P bp bx gi t w0) (RJ P w0) acc (fA l)):=by
 obtain ⟨iE,hiE,hz0,hz1,hz2⟩:=info_parts Tt
 have HNe:=κ (bQ P 0 lF l w hp)
 have HI:=κ (ι hi (ι hp hs))
 have H0:=κ (ι hR0 (ι hp0 (ι hgi (ι hne hnx))))
 have cb:=β hi.hbp 0
 clear hi hp hs hR0 hp0 hgi hne hnx
 go_enter func122,ntmps122
 go_wp2_with fail
 refine μ HNe ?_
 rintro e w1 hn
 rcases hq1:aE lF l with _|r1
 ·obtain ⟨rfl,hb1⟩:=hn.no hq1
  have HN:=κ (show fA l=none by rw [fA,hq1])
  have HB:=κ (HI.out.1.but.trans hb1)
  clear hq1 hn HNe hb1
  unfold aV
  go_wp2
  refine ⟨rfl, ?_⟩
  rw [HN.out]
  exact ⟨4,rfl,by decide,HB.out⟩
 ·obtain ⟨rfl,hb1,hp1⟩:=hn.yes hq1
  have hi1:=HI.out.1.next HI.out.2.1 hb1
  have hR1:=H0.out.1.but H0.out.2.1 hi1.but
  have hs1:=HI.out.2.2.sfx (aR hq1)
  have HE:=κ (Qs P bp 0 r1 w1 hR1 hp1 hs1 hi1.hbp rfl)
  obtain ⟨A,c,vs,h1,h2,h3⟩:=hi1.rows
  have hnr:some w1.heap.size≠Value.ownBlock (.slice A acc.length c):=fun e=>by have:=(h2.lt _ e.symm).2;omega
  have HR1:=κ (ι h1 (ι h2 h3))
  have hne2:w1.heap.size≠gi:=Nat.ne_of_gt (aL h1)
  have hne1:bx≠gi:=fun e=>H0.out.2.2.2.2 e.symm
  have H1:=κ (ι hi1 (ι hp1 (ι hs1 hq1)))
  have c1:∀ o,(w1.alloc o).cell? ⟨bp,0,none⟩=some (.pointer (some ⟨P,0,none⟩)):=fun o=>β (aC hi1.hbp o) 0
  clear hn hq1 hi1 hR1 hs1 hp1 hb1 cb HNe HI h1 h2 h3
  go_wp2_with fail
  refine μ HE ?_
  rintro e w2 hn
  rcases hq2:cN (pX 1 0) 8 r1 with _|⟨xs,r2⟩
  ·rw [hq2] at hn
   obtain ⟨ce,rfl,hc,hj⟩:=hn
   have HN:=κ (show fA l=none by rw [fA,H1.out.2.2.2];simp only [hq2])
   have HB:=κ (ι hc (H1.out.1.but.trans hj))
   clear hq2 hc hj HE
   unfold aV
   go_wp2
   refine ⟨rfl, ?_⟩
   rw [HN.out]
   exact ⟨ce,rfl,HB.out.1,HB.out.2⟩
  ·rw [hq2] at hn
   obtain ⟨rfl,hp2,hri⟩:=hn
   have hi2:=H1.out.1.next H1.out.2.1 hri.but
   have cb2:=β hi2.hbp 0
   have HN2:=κ (bQ P 0 oD r2 w2 hp2)
   have H2:=κ (ι hi2 (ι hri (ι hp2 hq2)))
   have hsz:=H1.out.1.but.size
   clear hq2 hi2 hri hp2 c1 HE
   go_wp2_with fail
   refine μ HN2 ?_
   rintro e w3 hn
   rcases hq3:aE oD r2 with _|r3
   ·obtain ⟨rfl,hb3⟩:=hn.no hq3
    have HN:=κ (show fA l=none by rw [fA,H1.out.2.2.2];simp only [H2.out.2.2.2,hq3];rfl)
    have HB:=κ (H2.out.1.but.trans hb3)
    clear hq3 hn HN2 hb3
    unfold aV
    go_wp2
    refine ⟨rfl, ?_⟩
    rw [HN.out]
    exact ⟨4,rfl,by decide,HB.out⟩
   ·obtain ⟨rfl,hb3,hp3⟩:=hn.yes hq3
    have HN:=κ (show fA l=some (xs,r3) by rw [fA,H1.out.2.2.2];simp only [H2.out.2.2.2,hq3];rfl)
    have hi3:=H2.out.1.next H2.out.2.2.1 hb3
    have hri3:=H2.out.2.1.next H2.out.2.2.1 hb3
    obtain ⟨Ar,cr,vr,hr1,hr2,hr3⟩:=hri3.row
    have hb13:But P w1 w3:=H2.out.2.1.but.trans hb3
    have h1:=aI HR1.out.1 hb13 H1.out.2.1 (by decide)
    have h2:=kV HR1.out.2.1 hb13 H1.out.2.1 (by decide)
    have h3:=RowsX.stays (StaysT.but hb13 H1.out.2.1 (by decide)) HR1.out.2.2
    have hrow:RowX w0.heap.size w3 xs (.slice Ar xs.length cr):=RowX.mono hsz ⟨Ar,cr,vr,rfl,hr2,hr3⟩
    have hng:some gi≠Value.ownBlock (.slice A acc.length c):=cX h2 h1 (by decide)
    have hnb:some bx≠Value.ownBlock (.slice A acc.length c):=cX h2 hi3.hbx (by decide)
    have H3:=κ (ι hi3 (ι hp3 (ι h1 (ι h2 (ι h3 (ι hrow (ι hng (ι hi3.hbx (ι hr1 hnb)))))))))
    have cx:w3.cell? ⟨bx,0,none⟩=some (.pointer (some ⟨gi,0,none⟩)):=β hi3.hbx 0
    have ci:w3.cell? ⟨gi,1,none⟩=some (.slice A acc.length c):=β h1 1
    have ci2:∀ o,(w3.alloc o).cell? ⟨gi,1,none⟩=some (.slice A acc.length c):=fun o=>β (aC h1 o) 1
    have cx2:∀ o,(w3.alloc o).cell? ⟨bx,0,none⟩=some (.pointer (some ⟨gi,0,none⟩)):=fun o=>β (aC hi3.hbx o) 0
    have cr1:w3.cell? ⟨w1.heap.size,0,none⟩=some (.slice Ar xs.length cr):=β hr1 0
    have hl1:=aL hi3.hbx
    have hl2:=aL hr1
    have hl3:=aL h1
    have hz3:=hi3.but.size
    clear hn hq3 hi3 hri3 hr1 hr2 hr3 h1 h2 h3 hrow hp3 hb3 hb13 cb2 HN2 hng
    go_wp2_with fail
    go_region_law (first
     | (refine eC _ rfl (.tmp 16) (.tmp 18) _ rfl w0.heap.size 45 iE _ 1 24 underlying42 hiE hz0 hz1 hz2 rfl (by omega) A acc.length c vs rfl ?_ _ 1 1 [.slice Ar xs.length cr] rfl rfl ?_ ?_ ?_ ?_ ?_ ?_
        ·exact (H3.out.2.2.2.1.alloc _).drew
        ·exact bD [.slice Ar xs.length cr] (cJ (heap_alloc_new _ _))
        ·simp [Value.oneCell']
        ·simp only [maxLen];omega
        ·omega
        ·show w0.heap.size≤(w3.alloc _).heap.size;rw [World.size_alloc];omega
        intro A5 c5 w5 ho5 hb5 hg5 hk5
        have hx5:=(hk5 _ _ (cJ (aC H3.out.2.2.1 _)) H3.out.2.2.2.2.2.2.1).1
        have hx6:=(hk5 _ _ (cJ (aC H3.out.2.2.2.2.2.2.2.1 _)) H3.out.2.2.2.2.2.2.2.2.2).1
        have d5:=β hx5 1
        have f5:=fun j=>frozen_of_row w5 gi j _ _ hx5
        have hd5:w5.cell? ⟨bx,0,none⟩=some (.pointer (some ⟨gi,0,none⟩)):=β hx6 0)
     | fail)
    all_goals
     have hw5:=Nk H0.out.2.1.lt H0.out.2.2.1 H0.out.2.2.2.1 H0.out.2.2.2.2 H3.out.1 H3.out.2.1 (But.refl _ _) H3.out.2.2.2.2.1 H3.out.2.2.2.2.2.1 H3.out.2.1 hx5 ho5 hb5 hk5 H3.out.2.2.2.1
     clear H3 H2 H1 hx5 hx6 ho5 hb5 hg5 hk5 hd5
     go_wp2
     go_end0
     rw [HN.out]
     exact ⟨rfl,hw5.1,hw5.2⟩
def zN (P:Nat) (w:World) (q:Option (List UInt8×List (List Lp.X)×List Tok)) (e:Ending) (w':World):Prop :=
 But P w w'∧match q with
 | none=>∃ c,e=aV c∧c≠0
 | some (t,rows,r)=>∃ gi A c vs,e=.returned (.iface 41 (.pointer (some ⟨gi,0,none⟩)))∧w.heap.size≤gi∧w'.heap[gi]? = some (.cells #[.string ⟨t.toArray⟩,.slice A rows.length c] 44 (0,0)) ∧
  w'.ownsRow w.heap.size 45 1 (.slice A rows.length c) rows.length vs∧RowsX w.heap.size w' rows vs∧PS w' P r 0
theorem pT {P:Nat} {w w':World} {q:Option (List UInt8×List (List Lp.X)×List Tok)} {c:Int} (hb:But P w w') (hq:q=none) (hc:c≠0):zN P w q (aV c) w':=by
 subst hq;exact ⟨hb,c,rfl,hc⟩
theorem Vo:∀ args w,Sem.run prog (callFunc 122 args) w=.ok (.enter 122 args) w:=fun _ _=>rfl
theorem Ju (P bp bx gi:Nat) (t:List UInt8) (l0 l:List Tok) (w0 w:World) (hR0:Resv w0) (hp0:PS w0 P l0 0) (hgi:w0.heap.size≤gi) (hne:gi≠bp) (hnx:gi≠bx) (hi:II P bp bx gi t w0 [] w) (hp:PS w P l 0) (hs:Lsane l) :
 Calls prog 120 #[.pointer (some ⟨P,0,none⟩),.int .i64 64,.func (.func 122) #[] #[.pointer (some ⟨bp,0,none⟩),.pointer (some ⟨bx,0,none⟩)]]
  w (EachPost P (II P bp bx gi t w0) (RJ P w0) (cN fA 64 l)) :=
 kK fA Qr xZ 64 (by omega) (by omega) _ Vo #[.pointer (some ⟨bp,0,none⟩),.pointer (some ⟨bx,0,none⟩)] P (II P bp bx gi t w0) (RJ P w0) (fun _ _ h=>h.but) (fun _ _ h k=>But.trans h k) (fun _ _ _ _ h hp hb=>h.next hp hb)
  (fun acc l' w' ha hi hp' hs'=>Nl P bp bx gi 0 t l0 w0 hR0 hp0 hgi hne hnx acc l' w' ha hi hp' hs') l w hi hp hs
theorem Ez (P:Nat) (l:List Tok) (w:World) (h:PS w P l 0) (hs:Lsane l) (hR:Resv w) :
 Calls prog 66 #[.pointer (some ⟨P,0,none⟩)] w (zN P w (gT l)):=by
 have hb0:Below w.heap.size w (w.alloc (.cells #[.pointer (some ⟨P,0,none⟩)] 98)):=ρ
 have hx0:=heap_alloc_new w (.cells #[.pointer (some ⟨P,0,none⟩)] 98)
 have HNe:=κ (bQ P 0 oZ l _ (h.below hb0))
 have H0:=κ (ι h (ι hs (ι hR (ι (But.of (P:=P) hb0) (ι hx0 (h.below hb0))))))
 clear h hs hR hb0 hx0
 go_enter func66,ntmps66
 go_wp2_with fail
 rw [World.size_alloc] at HNe
 refine μ HNe ?_
 rintro e w1 hn
 rcases hq1:aE oZ l with _|r1
 ·obtain ⟨rfl,hb1⟩:=hn.no hq1
  have HN:=κ (show gT l=none by rw [gT,hq1])
  have HB:=κ (H0.out.2.2.2.1.trans hb1)
  clear hq1 hn HNe hb1
  unfold aV
  go_wp2
  exact ⟨rfl,pT HB.out HN.out (by decide)⟩
 ·obtain ⟨rfl,hb1,hp1⟩:=hn.yes hq1
  have hbw1:=H0.out.2.2.2.1.trans hb1
  have hx1:=aI H0.out.2.2.2.2.1 hb1 H0.out.2.2.2.2.2 (by decide)
  have hR1:=H0.out.2.2.1.but H0.out.1 hbw1
  have hs1:=H0.out.2.1.sfx (aR hq1)
  have c1:=β hx1 0
  have HNm:=κ (dU P 0 r1 w1 hp1 hR1)
  have H1:=κ (ι hbw1 (ι hx1 (ι hs1 (ι hp1 hq1))))
  clear hn hq1 hb1 hbw1 hx1 hR1 hs1 hp1 HNe
  go_wp2_with fail
  refine μ HNm ?_
  rintro e w2 ⟨hb2,hq2⟩
  rcases hq:aZ r1 with _|⟨t,r2⟩
  ·rw [hq] at hq2
   obtain ⟨ce,rfl,hce⟩:=hq2
   have HN:=κ (show gT l=none by rw [gT,H1.out.2.2.2.2];simp only [hq])
   have HB:=κ (H1.out.1.trans hb2)
   clear hq hb2
   unfold aV
   go_wp2
   exact ⟨rfl,pT HB.out HN.out hce⟩
  ·rw [hq] at hq2
   obtain ⟨rfl,hp2⟩:=hq2
   have hx2:=aI H1.out.2.1 hb2 H1.out.2.2.2.1 (by decide)
   have hs2:=H1.out.2.2.1.sfx (bU hq)
   have hb3:Below w2.heap.size w2 ((w2.alloc (.cells #[.string ⟨t.toArray⟩,.slice none 0 0] 44)).alloc (.cells #[.pointer (some ⟨w2.heap.size,0,none⟩)] 41)):=(ρ).alloc (by simp) _
   have hg3:=aC (heap_alloc_new w2 (.cells #[.string ⟨t.toArray⟩,.slice none 0 0] 44)) (.cells #[.pointer (some ⟨w2.heap.size,0,none⟩)] 41)
   have hv3:=bN w2 (.cells #[.string ⟨t.toArray⟩,.slice none 0 0] 44) (.cells #[.pointer (some ⟨w2.heap.size,0,none⟩)] 41)
   have hbx3:=aA hx2 hb3
   have c3:=β hbx3 0
   have hz:=(H1.out.1.trans hb2).size
   have hlt2:=aL hx2
   have HN3:=κ (bQ P 0 jM r2 _ (hp2.below hb3))
   have H3:=κ (ι ((H1.out.1.trans hb2).trans (But.of hb3)) (ι hg3 (ι hv3 (ι hbx3 (ι (hp2.below hb3) (ι hs2 (ι hq (ι hz hlt2))))))))
   clear hq hb2 hp2 hx2 hs2 hb3 hg3 hv3 hbx3 HNm hlt2 hz
   rw [World.size_alloc,World.size_alloc] at HN3
   go_wp2_with fail
   refine μ HN3 ?_
   rintro e w4 hn
   rcases hq4:aE jM r2 with _|r3
   ·obtain ⟨rfl,hb4⟩:=hn.no hq4
    have HN:=κ (show gT l=none by rw [gT,H1.out.2.2.2.2];simp only [H3.out.2.2.2.2.2.2.1,hq4])
    have HB:=κ (H3.out.1.trans hb4)
    clear hq4 hn HN3 hb4
    unfold aV
    go_wp2
    exact ⟨rfl,pT HB.out HN.out (by decide)⟩
   ·obtain ⟨rfl,hb4,hp4⟩:=hn.yes hq4
    have hbp4:=aI H3.out.2.2.2.1 hb4 H3.out.2.2.2.2.1 (by decide)
    have hi4:II P w.heap.size (w2.heap.size+1) w2.heap.size t w [] w4:=⟨H3.out.1.trans hb4,hbp4,aI H3.out.2.2.1 hb4 H3.out.2.2.2.2.1 (by decide),none,0,[],aI H3.out.2.1 hb4 H3.out.2.2.2.2.1 (by decide),World.ownsRow_nil _ _ _ _,trivial⟩
    have HE:=κ (Ju P w.heap.size (w2.heap.size+1) w2.heap.size t l r3 w w4 H0.out.2.2.1 H0.out.1 H3.out.2.2.2.2.2.2.2.1 (Nat.ne_of_gt H3.out.2.2.2.2.2.2.2.2) (by omega) hi4 hp4 (H3.out.2.2.2.2.2.1.sfx (aR hq4)))
    have c4:=β hbp4 0
    have HQ4:=κ hq4
    clear hn hq4 hb4 hp4 hbp4 hi4 HN3 c3 c1
    go_wp2_with fail
    refine μ HE ?_
    rintro e w5 hn
    rcases hq5:cN fA 64 r3 with _|⟨rows,r4⟩
    ·rw [hq5] at hn
     obtain ⟨ce,rfl,hc,hj⟩:=hn
     have HN:=κ (show gT l=none by rw [gT,H1.out.2.2.2.2];simp only [H3.out.2.2.2.2.2.2.1,HQ4.out,hq5];rfl)
     have HB:=κ (ι hc hj)
     clear hq5 hc hj HE
     unfold aV
     go_wp2
     exact ⟨rfl,pT HB.out.2 HN.out HB.out.1⟩
    ·rw [hq5] at hn
     obtain ⟨rfl,hp5,hi5⟩:=hn
     have HN:=κ (show gT l=some (t,rows,r4) by rw [gT,H1.out.2.2.2.2];simp only [H3.out.2.2.2.2.2.2.1,HQ4.out,hq5];rfl)
     obtain ⟨A,c,vs,k1,k2,k3⟩:=hi5.rows
     have HB:=κ (ι hi5.but (ι H3.out.2.2.2.2.2.2.2.1 (ι k1 (ι k2 (ι k3 hp5)))))
     have c5:=β hi5.hbx 0
     clear hq5 hp5 hi5 k1 k2 k3 HE
     go_wp2
     go_ret
     refine ⟨HB.out.1, ?_⟩
     rw [HN.out]
     exact ⟨_,A,c,vs,rfl,HB.out.2.1,HB.out.2.2.1,HB.out.2.2.2.1,HB.out.2.2.2.2.1,HB.out.2.2.2.2.2⟩
