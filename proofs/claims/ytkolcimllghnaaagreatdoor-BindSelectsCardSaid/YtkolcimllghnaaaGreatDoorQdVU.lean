/-
 Contracts. Conditions: those of each.
-/
import Derived.Test.YtkolcimllghnaaaGreatDoorQdVI
import Derived.Test.YtkolcimllghnaaaGreatDoorQdVF
set_option maxRecDepth 100000
set_option maxHeartbeats 8000000
namespace Go.Proofs.YtkolcimllghnaaaGreatDoor
open Lp Go.Proofs.Tryz
open Go.RowKit
inductive Sm where
 | sel (s:Sel)
 | oth
def Fo (L:ZW):Option Sm :=
 if isF cO L then (match mK L.tail with
  | none=>none
  | some p=>if tE p.2=[] then some (.sel p.1) else none) else some .oth
def Ka (l:ZS):Option Sm:=if (eL l).2=0 then Fo (eL l).1 else none
def aLB (w:World) (q:Option Sm) (e:Ending) (w':World):Prop :=
 Below w w w'∧match q with
 | none=>∃ c:Int,c≠0∧e=.returned (.tuple #[.nilIface,.int .i64 c])
 | some (.sel s)=>∃ g cs,e=.returned (.tuple #[.iface 74 (.pointer (some ⟨g,0,none⟩)),.int .i64 0])∧w'.heap[g]? = some (.cells cs 136 (0,0))∧SelC w w' s 9 cs
 | some .oth=>(∃ c:Int,c≠0∧e=.returned (.tuple #[.nilIface,.int .i64 c]))∨∃ T g,zG T=true∧e=.returned (.tuple #[.iface T (.pointer (some ⟨g,0,none⟩)),.int .i64 0])
theorem aIA {B:Nat} {w w':World} {n size:Nat} {e:TypeId} {v:Value} {xs:ZU} (hk:Kp B w w') (h:w.ownsRow B e size v n xs):w'.ownsRow B e size v n xs :=
 ⟨h.1,h.2.imp id λ⟨g,cap,cur,h1,h2,h3,h4⟩=>⟨g,cap,cur,h1,h2,hk _ _ h2 h3,h4⟩⟩
theorem aHP (L:ZW) (B B':Nat) (w w':World) (T:TypeId) (g:Nat) (hB:B'≤B) (hk:Kp B w w') (h:StK L B w T g):StK L B' w' T g:=by
 unfold StK at h |-
 split
 ·rename_i h1
  rw [if_pos h1] at h;cases hq:mK L.tail with
  | none=>rw [hq] at h;exact h
  | some p =>
    rw [hq] at h;obtain ⟨k1,k2,cs,k3,k4⟩:=h;exact ⟨k1,Nat.le_trans hB k2,cs,hk _ _ k2 k3,k4.1,λj u hj hu=>(k4.2 j u hj hu).map (λ_ _ h=>(PX.keepB hk h).mono hB) (λh=>xO hB (aIA hk h))⟩
 ·rename_i h1
  rwa [if_neg h1] at h
theorem aDD (s:ByteArray) (w:World) (hT:eQ w) (hR:Resv w) (hs:s.size≤9223372036854775807) :
 Calls prog 7 #[s] w (aLB w (Ka s.data.toList)):=by
 obtain ⟨L,E,hL⟩:∃ L E,eL s.data.toList=(L,E):=⟨_,_,rfl⟩;unfold Ka;rw [hL]
 by_cases hE:E=0
 ·subst hE;rw [if_pos rfl];refine (Gt s w hT hR hs L hL (StK L) (StR L) (aHP L) (λP w' h hS hR=>Un P L w' h hS hR)).mono ?_;rintro e w' ⟨q,hi,hb,h⟩;refine ⟨hb, ?_⟩;unfold Fo
  dsimp only
  by_cases h1:isF cO L=true
  ·have hq:=hi h1;rw [if_pos h1];rcases hn:mK L.tail with _|p
   ·rw [hn] at hq;subst hq;rcases h with ⟨r,T,g,k1, -⟩|⟨-,h⟩
    ·cases k1
    ·exact h
   ·rw [hn] at hq;subst hq;rcases h with ⟨r,T,g,k1,k2,k3,k4⟩|⟨k1,h⟩
    ·injection k1 with k1
     dsimp only
     rw [<-k1] at k2;rw [if_pos (by exact k2)];rw [StK,if_pos h1,hn] at k4;obtain ⟨rfl,k5,cs,k6,k7⟩:=k4;exact ⟨g,cs,k3,k6,k7⟩
    ·dsimp only
     rw [if_neg (show ¬tE p.2=[] from k1 _ rfl)];exact h
  ·rw [if_neg h1];rcases h with ⟨r,T,g,k1,k2,k3,k4⟩|⟨-,h⟩
   ·rw [StK,if_neg h1] at k4;exact .inr ⟨T,g,k4,k3⟩
   ·exact .inl h
 ·rw [if_neg hE];refine (Bm s w hT hs L E hL hE).mono ?_;rintro e w' ⟨h1,h2⟩;exact ⟨h1,E,hE,h2⟩
end Go.Proofs.YtkolcimllghnaaaGreatDoor

namespace Go.Proofs.YtkolcimllghnaaaGreatDoor.Lp
variable{l r:ZW}
def Few (l:ZW):Prop:=(∀ t∈l,uO t)∧l.length≤2000
theorem Few.sfx (h:Few l) (hr:r <:+ l):Few r:=⟨sR h.1 hr,Nat.le_trans hr.length_le h.2⟩
def XOk (x:X):Prop:=x.wf∧x.size≤2000
def qE {α:Type} (P:α->Prop) (f:ZW->Option (α×ZW)):Prop:=∀ l x r,Few l->f l=some (x,r)->P x∧r <:+ l
theorem pI:qE XOk (pX 1 0):=λl x r hl h=>⟨⟨rI _ _ _ _ _ _ hl.1 h,by have:=kJ _ _ _ _ _ _ h;have:=hl.2;omega⟩,iJ h⟩
theorem rS {α:Type} {P:α->Prop} {f:ZW->Option (α×ZW)} (hf:qE P f) (most:Nat):∀ (k:Nat) (acc:List α) (l:ZW) (xs:List α) (r:ZW),Few l->(∀ x∈acc,P x)->jL f most k acc l=some (xs,r)->((∀ x∈xs,P x)∧xs.length≤acc.length+k)∧r <:+ l
 | 0,_,_,_,_,_,_,h=>by cases h
 | k+1,acc,l,xs,r,hl,ha,h=>by
   rcases hq:f l with _|⟨x,r1⟩
   ·rw [mF hq] at h;cases h
   ·obtain ⟨a1,a2⟩:=hf l x r1 hl hq;have ha':∀ y∈acc++[x],P y:=λy hy=>by
     rcases List.mem_append.1 hy with hy|hy
     ·exact ha y hy
     ·rw [List.mem_singleton] at hy;rw [hy];exact a1
    by_cases hc:isF eI r1=true
    ·by_cases hm:acc.length+1=most∧1<r1.length
     ·rw [mG hq hc hm.1 hm.2] at h;cases h
     ·rw [jY hq hc hm] at h;obtain ⟨b1,b2⟩:=rS hf most k _ _ _ _ ((hl.sfx a2).sfx (aV r1)) ha' h;refine ⟨⟨b1.1, ?_⟩,(b2.trans (aV r1)).trans a2⟩;have:=b1.2;simp only [List.length_append,List.length_cons,List.length_nil] at this;omega
    ·rw [nW hq mg] at h;injection h with h;injection h with h1 h2;subst h1 h2;exact ⟨⟨ha',by simp only [List.length_append,List.length_cons,List.length_nil];omega⟩,a2⟩
theorem Yy {l:ZS} (h:l.length≤2000):Few (eL l).1:=by
 rw [lT h];refine ⟨sK l.length [] l (ν _) h (λt ht=>by cases ht), ?_⟩;have:=pB l.length [] l (ν _);simp at this;omega
theorem Bh {α β:Type} {P:α->Prop} {Q:β->Prop} {f:ZW->Option (α×ZW)} (hf:qE P f) (g:α->β) (hg:∀ x,P x->Q (g x)) {y:β} (hl:Few l) (h:(f l).map (λp=>(g p.1,p.2))=some (y,r)):Q y∧r <:+ l:=by
 obtain ⟨⟨x,r1⟩,h1,h2⟩:=aq;injection h2 with h2 h3;subst h2 h3;obtain ⟨a,b⟩:=hf _ _ _ hl h1;exact ⟨hg x a,b⟩
theorem Ks:qE (λp:X×ZS=>XOk p.1) dA:=by
 intro l x r hl h;unfold dA at h;rcases h1:pX 1 0 l with _|⟨c,r1⟩
 ·rw [h1] at h;cases h
 ·obtain ⟨a1,a2⟩:=pI _ _ _ hl h1;rw [h1] at h;simp only at h
  split at h
  ·obtain ⟨p,h4,h5⟩:=aq;injection h5 with h5 h6;subst h5 h6;exact ⟨a1,((bZ h4).trans (aV r1)).trans a2⟩
  ·injection h with h;injection h with h5 h6;subst h5 h6;exact ⟨a1,a2⟩
theorem Gg:qE (λp:X×Bool=>XOk p.1) bK:=by
 intro l x r hl h;unfold bK at h;rcases h1:pX 1 0 l with _|⟨c,r1⟩
 ·rw [h1] at h;cases h
 ·obtain ⟨a1,a2⟩:=pI _ _ _ hl h1;have a3:=(aV r1).trans a2;rw [h1] at h;simp only at h
  split at h
  ·injection h with h;injection h with h5 h6;subst h5 h6;exact ⟨a1,a3⟩
  ·split at h <;>
   ·injection h with h;injection h with h5 h6;subst h5 h6
    first|exact ⟨a1,a3⟩|exact ⟨a1,a2⟩
theorem Gi {α:Type} {P:α->Prop} {f:ZW->Option (α×ZW)} (hf:qE P f) (w:ZS):qE (λxs:List α=>(∀ x∈xs,P x)∧xs.length≤9) (byF w f):=by
 intro l xs r hl h;unfold byF at h
 split at h
 ·obtain ⟨r1,h1,h2⟩:=IU;have hs:=(aU h1).trans (aV l);obtain ⟨a1,a2⟩:=rS hf 8 9 [] r1 _ _ (hl.sfx hs) (λx hx=>IR) h2;exact ⟨⟨a1.1,by simpa using a1.2⟩,a2.trans hs⟩
 ·injection h with h;injection h with h1 h2;subst h1 h2;exact ⟨⟨(λx hx=>IR),aa⟩,List.suffix_refl _⟩
theorem Gh:qE (λxs:List (X×ZS)=>(∀ x∈xs,XOk x.1)∧xs.length≤17) gS:=by
 intro l xs r hl h;unfold gS at h
 split at h
 ·injection h with h;injection h with h1 h2;subst h1 h2;exact ⟨⟨(λx hx=>IR),aa⟩,aV l⟩
 ·obtain ⟨a1,a2⟩:=rS Ks 16 17 [] l _ _ hl (λx hx=>IR) h;exact ⟨⟨a1.1,by simpa using a1.2⟩,a2⟩
theorem Wk:qE (λo:Option X=>∀ x,o=some x->XOk x) onF:=by
 intro l o r hl h;unfold onF at h
 split at h
 ·obtain ⟨p,h1,h2⟩:=IU;obtain ⟨r2,h3,h4⟩:=Option.bind_eq_some_iff.1 h2;have hs:=(aU h3).trans ((bZ h1).trans (aV l));obtain ⟨a1,a2⟩:=Bh (Q:=λo:Option X=>∀ x,o=some x->XOk x) pI some (λx hx y hy=>IV) (hl.sfx hs) h4;exact ⟨a1,a2.trans hs⟩
 ·injection h with h;injection h with h1 h2;subst h1 h2;exact IW
theorem Wj:qE (λo:Option X=>∀ x,o=some x->XOk x) whF:=by
 intro l o r hl h;unfold whF at h
 split at h
 ·obtain ⟨a1,a2⟩:=Bh (Q:=λo:Option X=>∀ x,o=some x->XOk x) pI some (λx hx y hy=>IV) (hl.sfx (aV l)) h;exact ⟨a1,a2.trans (aV l)⟩
 ·injection h with h;injection h with h1 h2;subst h1 h2;exact IW
theorem Qg:qE (λn:Int => -1≤n∧n≤9223372036854775807) uH:=by
 intro l n r hl h;unfold uH at h
 split at h
 ·have hs:=Gx h;have hf:=hl.sfx (aV l);cases ht:l.tail with
  | nil=>rw [ht] at h;cases h
  | cons t l2 =>
    rw [ht] at h hf;unfold rD at h;simp only at h
    split at h
    ·injection h with h;injection h with h1 h2;subst h1;have:=hf.1 t aa;exact ⟨⟨by have:=this.1;omega,this.2.1⟩,hs.trans (aV l)⟩
    ·cases h
 ·injection h with h;injection h with h1 h2;subst h1 h2;exact ⟨am,List.suffix_refl _⟩
theorem Kt (h:oO l=some r):r <:+ l:=by
 obtain ⟨r1,h1,h2⟩:=IU;obtain ⟨p,h3,h4⟩:=Option.map_eq_some_iff.1 h2;subst h4;exact (bZ h3).trans (aU h1)
structure SelOk (s:Sel):Prop where
 on:∀ x,s.on=some x->XOk x
 wh:∀ x,s.wh=some x->XOk x
 grp:(∀ x∈s.group,XOk x)∧s.group.length≤9
 itm:(∀ p∈s.items,XOk p.1)∧s.items.length≤17
 ord:(∀ p∈s.order,XOk p.1)∧s.order.length≤9
 lim : -1≤s.limit∧s.limit≤9223372036854775807
theorem aCJ:SelOk tY:=⟨(λx h=>lq),(λx h=>lq),⟨(λx h=>lq),am⟩,⟨(λx h=>lq),am⟩,⟨(λx h=>lq),am⟩,am⟩
theorem aHS {k:Nat} {q p:Sel×ZW} (hl:Few q.2) (hs:SelOk q.1) (h:stN k q=some p):SelOk p.1∧p.2 <:+ q.2:=by
 match k,h with
 | 0,h|_+7,h=>obtain ⟨a,h1,rfl⟩:=Option.map_eq_some_iff.1 h;obtain ⟨b1,b2⟩:=Qg _ _ _ hl h1;exact ⟨⟨hs.on,hs.wh,hs.grp,hs.itm,hs.ord,b1⟩,b2⟩
 | 1,h=>obtain ⟨a,h1,rfl⟩:=Option.map_eq_some_iff.1 h;obtain ⟨b1,b2⟩:=Gh _ _ _ hl h1;exact ⟨⟨hs.on,hs.wh,hs.grp,b1,hs.ord,hs.lim⟩,b2⟩
 | 2,h=>obtain ⟨a,h1,rfl⟩:=Option.map_eq_some_iff.1 h;exact ⟨hs,Kt h1⟩
 | 3,h=>obtain ⟨a,h1,rfl⟩:=Option.map_eq_some_iff.1 h;obtain ⟨b1,b2⟩:=Wk _ _ _ hl h1;exact ⟨⟨b1,hs.wh,hs.grp,hs.itm,hs.ord,hs.lim⟩,b2⟩
 | 4,h=>obtain ⟨a,h1,rfl⟩:=Option.map_eq_some_iff.1 h;obtain ⟨b1,b2⟩:=Wj _ _ _ hl h1;exact ⟨⟨hs.on,b1,hs.grp,hs.itm,hs.ord,hs.lim⟩,b2⟩
 | 5,h=>obtain ⟨a,h1,rfl⟩:=Option.map_eq_some_iff.1 h;obtain ⟨b1,b2⟩:=Gi pI gR _ _ _ hl h1;exact ⟨⟨hs.on,hs.wh,b1,hs.itm,hs.ord,hs.lim⟩,b2⟩
 | 6,h=>obtain ⟨a,h1,rfl⟩:=Option.map_eq_some_iff.1 h;obtain ⟨b1,b2⟩:=Gi Gg iG _ _ _ hl h1;exact ⟨⟨hs.on,hs.wh,hs.grp,hs.itm,b1,hs.lim⟩,b2⟩
theorem Nb {l:ZW} (hl:Few l):∀ (k:Nat) (p:Sel×ZW),aX l k=some p->SelOk p.1∧p.2 <:+ l
 | 0,p,h=>by injection h with h;subst h;exact ⟨aCJ,List.suffix_refl _⟩
 | k+1,p,h=>by
   obtain ⟨q,h1,h2⟩:=qa;obtain ⟨a,b⟩:=Nb hl k q h1;obtain ⟨c,d⟩:=aHS (hl.sfx b) a h2;exact ⟨c,d.trans b⟩
end Go.Proofs.YtkolcimllghnaaaGreatDoor.Lp

namespace Go.Proofs.YtkolcimllghnaaaGreatDoor
open Lp Go.Proofs.Tryz
open Go.RowKit
variable{xs:List Lp.X}{x:Lp.X}{B P i:Nat}{S:Nat->Prop}{r:RC}{s:Sel}{w w0:World}{cs:ZU}
theorem Fu (h:SelOk s):SelWf s:=⟨λx hx=>(h.on x hx).1,λx hx=>(h.wh x hx).1,λx hx=>(h.grp.1 x hx).1,λp hp=>(h.itm.1 p hp).1,λp hp=>(h.ord.1 p hp).1,Nat.le_trans h.grp.2 am,Nat.le_trans h.itm.2 am,Nat.le_trans h.ord.2 am⟩
theorem Aq {sc:List Tb} (h:SelOk s):∀ x,x∈s.group∨x∈dJ sc s->x.size≤10000:=by
 intro x hx;have fin:x.size≤2000:=by
  rcases hx with hx|hx
  ·exact (h.grp.1 x hx).2
  ·rcases List.mem_append.1 hx with hx|hx
   ·obtain ⟨p,hp,rfl⟩:=List.mem_map.1 hx;unfold aY at hp
    split at hp
    ·obtain ⟨tb, -,h2⟩:=ra;obtain ⟨c, -,h4⟩:=qz;subst h4;simp [Lp.X.size]
    ·exact (h.itm.1 p hp).2
   ·obtain ⟨p,hp,rfl⟩:=List.mem_map.1 hx;exact (h.ord.1 p hp).2
 omega
def aLS:Option Sm->Prop
 | some (.sel s)=>SelOk s
 | _=>True
theorem aCA {l:ZS} (h:l.length≤2000):aLS (Ka l):=by
 have hf:=Yy h;unfold Ka
 split
 ·unfold Fo
  split
  ·rcases hq:mK (eL l).1.tail with _|p
   ·trivial
   ·dsimp only
    split
    ·exact (Nb (hf.sfx (aV _)) 7 p hq).1
    ·trivial
  ·trivial
 ·trivial
def puts (w:World) (g:Nat):ZU->Nat->World
 | [],_=>w
 | v::vs,k=>puts (w.setCell ⟨g,k,none⟩ v) g vs (k+1)
theorem jG {g j:Nat} (h:j≠g):∀ (vs:ZU) (k:Nat) (w:World),(puts w g vs k).heap[j]? = w.heap[j]?
 | [],_,_=>rfl
 | v::vs,k,w=>(jG h vs (k+1) _).trans (Below.heap_setCell w ⟨g,k,none⟩ v j h)
theorem gZ {g B:Nat} (hg:B≤g) {a:World}:∀ (vs:ZU) (k:Nat) (w:World),Below B a w->Below B a (puts w g vs k)
 | [],_,_,h=>h
 | v::vs,k,_,h=>gZ hg vs (k+1) _ (h.setCell (p:=⟨g,k,none⟩) hg v)
theorem kP {g:Nat} {t:TypeId}:∀ (vs:ZU) (k:Nat) (w:World) (cs:ZU),w.heap[g]? = some (.cells cs.toArray t (0,0))->cs.length=k+vs.length->(puts w g vs k).heap[g]? = some (.cells (cs.take k++vs).toArray t (0,0))
 | [],k,w,cs,h,hl=>by
   rw [List.append_nil,List.take_of_length_le ot];exact h
 | v::vs,k,w,cs,h,hl=>by
   have h1:=heap_setCell_same w g k _ _ v h;rw [List.setIfInBounds_toArray] at h1;have h2:=kP vs (k+1) _ (cs.set k v) h1 (by simp at hl |-;omega);have hk:k<cs.length:=ot
   rw [show (cs.set k v).take (k+1)=cs.take k++[v] by
    rw [List.take_succ_eq_append_getElem (by simpa using hk),List.take_set_of_le (ν _)];simp,List.append_assoc] at h2
   exact h2
structure SS (B P:Nat) (w0 w:World) (o:Option ZW) (cs:ZU):Prop where
 b:But P w0 w
 z:w.heap[B]? = some (.cells stZ.toArray 38 (0,0))
 x:w.heap[B+1]? = some (.cells cs.toArray 38 (0,0))
 p:RO P w o
theorem SS.next {w':World} {o o':Option ZW} (h:SS B P w0 w o cs) (hb:But P w w') (hp:RO P w' o'):SS B P w0 w' o' cs :=
 ⟨h.b.trans hb,aL hb h.z (h.p.box h.z am),aL hb h.x (h.p.box h.x am),hp⟩
theorem RO.puts {P g:Nat} {w:World} {o:Option ZW} (h:RO P w o) (hP:P<g) (vs:ZU) (k:Nat):RO P (puts w g vs k) o:=h.low hP (gZ (ν _) vs k w (θ))
theorem But.puts {P g:Nat} {a:World} (hg:a.heap.size≤g):∀ (vs:ZU) (k:Nat) (w:World),But P a w->But P a (puts w g vs k)
 | [],_,_,h=>h
 | v::vs,k,_,h=>But.puts hg vs (k+1) _ (bP h hg k v)
theorem SS.puts {B P:Nat} {w0 w:World} {o:Option ZW} {cs:ZU} (h:SS B P w0 w o cs) (hB:w0≤B) (hP:P<B) (vs:ZU) (hl:cs.length=vs.length):SS B P w0 (puts w (B+1) vs 0) o vs :=
 ⟨But.puts ac vs 0 w h.b,(jG ac vs 0 w).trans h.z,by simpa using kP vs 0 w cs h.x ac,h.p.puts ac vs 0⟩
theorem SS.set {B P:Nat} {w0 w:World} {o:Option ZW} {cs:ZU} (h:SS B P w0 w o cs) (hB:w0≤B) (hP:P<B) (j:Nat) (v:Value):SS B P w0 (w.setCell ⟨B+1,j,none⟩ v) o (cs.set j v):=by
 refine ⟨bP h.b ac _ _,(Below.heap_setCell w ⟨B+1,j,none⟩ v B vl).trans h.z, ?_,h.p.low (B:=B+1) ac ((θ).setCell (p:=⟨B+1,j,none⟩) (ν _) v)⟩;have:=heap_setCell_same w (B+1) j _ _ v h.x;rwa [List.setIfInBounds_toArray] at this
theorem SS.low {B P B2:Nat} {w0 w w':World} {o:Option ZW} {cs:ZU} (h:SS B P w0 w o cs) (hB:w0≤B2) (h2:B+2≤B2) (hP:P<B) (hb:Below B2 w w'):SS B P w0 w' o cs :=
 ⟨h.b.lowr (hb.mono hB),(hb.block B ac).trans h.z,(hb.block (B+1) ac).trans h.x,h.p.low ac hb⟩
theorem SS.new (P:Nat) (w:World) (o:Option ZW) (cs:ZU) (h:RO P w o):SS w P w ((w.alloc (.cells stZ.toArray 38)).alloc (.cells cs.toArray 38)) o cs:=by
 have hb:Below w w ((w.alloc (.cells stZ.toArray 38)).alloc (.cells cs.toArray 38)):=(ρ).alloc aa _;refine ⟨But.of hb,aB (heap_alloc_new w _) _, ?_,h.below hb⟩;have:=heap_alloc_new (w.alloc (.cells stZ.toArray 38)) (.cells cs.toArray 38);rwa [World.size_alloc] at this
theorem SS.cells {o:Option ZW} (h:SS B P w0 w o cs):(∀ j,w.cell? ⟨B,j,none⟩=stZ.toArray[j]?)∧(∀ j,w.cell? ⟨B+1,j,none⟩=cs.toArray[j]?)∧(∀ j,w.frozen? ⟨B,j,none⟩=false)∧∀ j,w.frozen? ⟨B+1,j,none⟩=false :=
 ⟨β h.z,β h.x,λj=>frozen_of_row w _ j _ _ h.z,λj=>frozen_of_row w _ j _ _ h.x⟩
theorem Do (S:Nat->Prop) (w:World):Pts S w none [] []:=⟨rfl,.inl rfl,λ_ h=>absurd h (Nat.not_lt_zero _)⟩
theorem Nf (h:RX S w x r):r.k=iO x∧r.n=(dR x).length∧∃ rs,Pts S w r.A (dR x) rs:=by
 by_cases hk:dR x=[]
 ·cases x with
  | lit k i s b=>obtain rfl:r=rcL k i s b:=h;exact FV
  | col t s=>obtain rfl:r=rcC t s:=h;exact FV
  | cnt=>obtain rfl:r=rc0 6 aJ:=h;exact FV
  | un op x=>cases hk
  | bin op a b=>cases hk
  | isn n x=>cases hk
  | agg op x=>cases hk
 ·obtain ⟨A,rs,rfl,hp⟩:=Cz h hk;exact ⟨rfl,rfl,rs,hp⟩
theorem Yn (x:Lp.X):jC x=((dR x).any jC||iO x==6):=by cases x<;>simp [jC,dR,iO]
theorem Hp {P:Lp.X->Prop} (hs:∀ x,(∀ z∈dR x,P z)->P x):∀ x:Lp.X,P x:=by
 intro x
 induction x with
 | lit=>exact hs _ λz h=>by cases h
 | col=>exact hs _ λz h=>by cases h
 | cnt=>exact hs _ λz h=>by cases h
 | un op x ih=>exact hs _ λz h=>EB
 | isn n x ih=>exact hs _ λz h=>EB
 | agg op x ih=>exact hs _ λz h=>EB
 | bin op a b iha ihb =>
   refine hs _ λz h => ?_;rcases List.mem_cons.1 h with rfl|h
   ·exact iha
   ·rw [List.mem_singleton.1 h];exact ihb
def aBI (x:Lp.X):Prop:=∀ (S:Nat->Prop) (w:World) (r:RC),RX S w x r->Calls prog 59 #[r.val] w λe w'=>e=.returned (.bool (jC x))∧Below w w w'
theorem Je {f:Lp.X->Bool} (h:i<xs.length) (ha:(xs.take i).any f=false) (hr:f xs[i]=false):(xs.take (i+1)).any f=false:=by
 rw [List.take_succ_eq_append_getElem h,List.any_append,ha];simp [hr]
theorem Om {f:Lp.X->Bool} (h:i<xs.length) (hr:f xs[i]=true):xs.any f=true:=List.any_eq_true.2 ⟨xs[i],List.getElem_mem h,hr⟩
theorem Ym (x:Lp.X) (ho:∀ y∈dR x,aBI y):aBI x:=by
 intro S w r hr;have hf:=Yn x;have hkl:=sY x;obtain ⟨h1,h2,rs,hp⟩:=Nf hr;obtain ⟨k,vk,vi,vs,vb,t,op,Ar,n,c⟩:=r;simp only at h1 h2 hp;subst h1 h2;have HF:=mh;clear hf;generalize iO x=k at *;generalize dR x=xs at *;simp only [RC.val];have hb0:Below w w (w.alloc (.cells #[.int .u8 k,.int .u8 vk,vi,vs,vb,t,op,.slice Ar xs.length c] 60)):=ρ;have hz:=heap_alloc_new w (.cells #[.int .u8 k,.int .u8 vk,vi,vs,vb,t,op,.slice Ar xs.length c] 60);have hc:=β hz;have HB:=κ (ι hb0 (ι hz (hp.below hb0)));have HO:=κ ho;have hnI:=FW
 clear hb0 hz hp ho hr;go_enter func59,ntmps59;go_wp2_with fail;generalize (w.alloc (.cells #[.int .u8 k,.int .u8 vk,vi,vs,vb,t,op,.slice Ar xs.length c] 60))=W at *;clear hc
 go_loopw [4,8] (λ_ s8 wr=>∃ i:Nat,i≤xs.length∧s8=.int .i64 i∧(xs.take i).any jC=false∧Below W W wr) (λ_ s8 _=>xs.length-(intOf s8).toNat)
 case atStart=>exact ⟨0,Nat.zero_le _,rfl,rfl,θ⟩
 case round =>
  obtain ⟨i,hi,rfl,ha,hb⟩:=dd;have hkw:=FX
  by_cases hlt:i<xs.length
  ·have hpw:=HB.o.2.2.below hb;have hri:=FY
   obtain ⟨bR,oR,hAR,q0,q1,q2,q3,q4,q5,q6,q7⟩:=GD;have hrx:=GC;have hok:=GB;have HNO:=κ (Je (f:=jC) hlt ha);have HYE:=κ (Om (f:=jC) hlt);subst hAR;generalize rs[i]=r at *;generalize xs[i]=y at *;obtain ⟨rk,rvk,rvi,rvs,rvb,rt,rs0,rA,rn,rc⟩:=r;have hbx:=GA;have HC:=κ (hok S _ _ (RX.below hbx hrx));simp only [RC.val] at HC;have HX:=FZ;generalize jC y=b at *;clear ha hb hpw hri hrx hok hbx hkw;go_wp2_with fail;refine μ HC ?_;rintro e w9 ⟨rfl,hb9⟩;have HQ:=κ (HX.o.trans (hb9.mono HX.o.size));cases b
   ·have HN:=κ (HNO.o rfl);clear hb9 q0 q1 q2 q3 q4 q5 q6 q7;go_wp2
    go_roundw
    case rel=>exact ⟨i+1,ac,de,HN.o,HQ.o⟩
    case measure=>simp [intOf];omega
   ·have HN:=κ (HYE.o rfl);have HQ2:=κ (HB.o.1.trans (HQ.o.mono HB.o.1.size));clear hb9 q0 q1 q2 q3 q4 q5 q6 q7;go_wp2;go_ret;exact GE
  ·have hi2:=ld
   rw [hi2,List.take_length] at ha;have HAL:=κ ha;have hc:=β (aA HB.o.2.1 hb);have HQ:=κ hkw;clear hb hkw hi2 ha;go_wp2;go_ret;exact ⟨by rw [HF.o,HAL.o];rfl,HQ.o⟩
theorem Ri:∀ x:Lp.X,aBI x:=Hp Ym
theorem Fc (A:ZT) (c:Nat) (l:List dW) (x:Lp.X) (r:RC) (g:Nat) (w:World) (hA:ScA w A l) (hn:l.length≤100) (hw:bY (aE l)≤10000) (hx:x.wf) (hg:w.heap[g]? = some (.cells r.cells.toArray 60 (0,0))) (S:Nat->Prop) (hr:RX S w x r) :
 Calls prog 57 #[.slice A l.length c,.slice (some ⟨g,0,none⟩) 1 1] w λe w'=>e=.returned (.int .i64 (tS (aE l) x))∧Below w w w':=by
 obtain ⟨rk,rvk,rvi,rvs,rvb,rt,rs,rA,rn,rc⟩:=r;have hbx:Below w w (w.alloc (.cells #[.int .u8 rk,.int .u8 rvk,rvi,rvs,rvb,rt,rs,.slice rA rn rc] 60)):=ρ;have HC:=κ (rW A c l hn hw x hx false S _ _ (hA.below hbx) (RX.below hbx hr));simp only [RC.val] at HC;have hc:=β hg;simp only [RC.cells] at hc;have HB:=κ hbx;have HT:=κ (show tS (aE l) x=if (aC (aE l) x false).2=0 then (if fitK (aC (aE l) x false).1 3 then 0 else 8) else (aC (aE l) x false).2 from rfl);generalize aC (aE l) x false=p at *;obtain ⟨p1,p2⟩:=p;generalize tS (aE l) x=E at *;clear hA hn hw hx hg hr hbx;go_enter func57,ntmps57;go_wp2_with fail
 go_loopw [6,7,8,11] (λ_ _ _ s11 wr=>(s11=.int .i64 0∧w=wr)∨(s11=.int .i64 1∧E=0∧Below w w wr)) (λ_ _ _ s11 _=>1-(intOf s11).toNat)
 case atStart=>exact .inl ⟨rfl,rfl⟩
 case round =>
  rcases hrel with ⟨rfl,rfl⟩|⟨rfl,hE,hb⟩
  ·go_wp2_with fail;refine μ HC ?_;rintro e w2 ⟨rfl,hb2⟩;have HQ:=FA
   by_cases h2:p2=0
   ·subst h2;cases e1:(p1==0)
    ·have n1:(p1 !=0)=true:=kf
     cases e2:(p1==3)
     ·have n2:(p1 !=3)=true:=ur
      have HE:=κ (show E=8 by rw [HT.o];simp [fitK,e1,e2]);clear hb2 hc HT;go_wp2;go_ret;exact PK
     ·have n2:(p1 !=3)=false:=ur
      have HE:=κ (show E=0 by rw [HT.o];simp [fitK,e2]);clear hb2 hc HT;go_wp2
      go_roundw
      case rel=>exact .inr ⟨de,HE.o,HQ.o⟩
      case measure=>simp [intOf]
    ·have n1:(p1 !=0)=false:=kf
     have HE:=κ (show E=0 by rw [HT.o];simp [fitK,e1]);clear hb2 hc HT;go_wp2
     go_roundw
     case rel=>exact .inr ⟨de,HE.o,HQ.o⟩
     case measure=>simp [intOf]
   ·have e1:(p2 !=0)=true:=GG
    have HE:=κ (show E=p2 by rw [HT.o];exact if_neg h2);clear hb2 hc HT h2;go_wp2;go_ret;exact PK
  ·have HE:=κ hE;have HQ:=dm;clear hE hb hc;go_wp2;go_ret;exact PK
theorem Fv (A:ZT) (c:Nat) (la:List dW) (most:Nat) (hmost:most≤2) (w:World) (hA:ScA w A la) :
 Calls prog 6 #[.slice A la.length c,.int .i64 (most:Nat)] w (ScPost most w):=by
 obtain ⟨iB,hiB,hB0,hB1,hB2⟩:=info_parts Tz;obtain ⟨iM,hiM,hM0,hM1,hM2⟩:=info_parts Ty;have HA:=κ hA;clear hA;go_enter func6,ntmps6;go_wp2_with fail
 go_loopw [7,8,9,10,13] (λs7 s8 _ _ s13 wr=>∃ (i:Nat) (l:List dW) (A1:ZT) (c1:Nat) (A2:ZT) (c2:Nat),i≤la.length∧i≤most∧i=l.length∧s13=.int .i64 i∧s7=.slice A1 i c1∧s8=.slice A2 i c2∧wr.ownsRow w 50 2 (.slice A1 i c1) i (tbv l)∧wr.ownsRow w 52 2 (.slice A2 i c2) i (tbv l)∧TabsIn wr w l∧Below w w wr) (λ_ _ _ _ s13 _=>la.length-(intOf s13).toNat)
 case atStart=>exact ⟨0,[],none,0,none,0,Nat.zero_le _,Nat.zero_le _,rfl,rfl,rfl,rfl,World.ownsRow_nil _ _ _ _,World.ownsRow_nil _ _ _ _,λp hp=>absurd hp List.not_mem_nil,θ⟩
 case round =>
  obtain ⟨i,l,A1,c1,A2,c2,hi,hi2,hil,rfl,rfl,rfl,ho1,ho2,hTT,hb⟩:=dd;have HIL:=κ hil;clear hil
  by_cases hlt:i<la.length
  ·obtain ⟨bT,oT,hAT,q0,q1⟩:=qK ((HA.o.below hb).1) hlt;have hok:=(HA.o.below hb).2 _ (List.getElem_mem hlt);generalize (la[i])=p at *;obtain ⟨⟨nm,cs⟩,At,ct⟩:=p;simp only at q0 q1 hok;subst hAT;have HB:=κ (ι ho1 (ι ho2 (ι hTT hb)));have HK:=κ hok;obtain ⟨s,hs⟩:∃ s:ByteArray,s=⟨nm.toArray⟩:=cw;rw [<-hs] at q0;have hbT:Below wr wr (wr.alloc (.cells #[s,.slice At cs.length ct] 52)):=ρ;have HF:=κ (Ls s At ct cs _ (hok.2.1.below hbT) hok.2.2.1 hok.2.2.2);have hzT:=heap_alloc_new wr (.cells #[s,.slice At cs.length ct] 52);have HT:=κ (ι hbT hzT);have HS:=κ hs;clear ho1 ho2 hTT hb hok hbT hzT hs
   by_cases h2:i<most
   ·go_wp2_with fail;refine μ HF ?_;rintro e w1 ⟨hb1,A3,c3,cs3,rfl,ho3,h8,hc3,hok3⟩;have hz1:=aA HT.o.2 hb1;have hk1:=HT.o.1.trans (hb1.mono HT.o.1.size);have c1x:=β hz1;have f1x:=λj=>frozen_of_row _ _ j _ _ hz1;have hz2:=heap_setCell_same _ wr 1 _ _ (.slice A3 cs3.length c3) (heap_setCell_same w1 wr 0 _ _ (.string s) hz1);rw [show ((#[Value.string s,.slice At cs.length ct]:ZV).setIfInBounds 0 (.string s)).setIfInBounds 1 (.slice A3 cs3.length c3)=#[.string s,.slice A3 cs3.length c3] by simp] at hz2;have hk2:=(hk1.setCell (p:=⟨wr,0,none⟩) (ν _) (.string s)).setCell (p:=⟨wr,1,none⟩) (ν _) (.slice A3 cs3.length c3);rw [World.size_alloc] at ho3;have ho32:=World.ownsRow_setCell_lt (World.ownsRow_setCell_lt ho3 (a:=⟨wr,0,none⟩) (Nat.lt_succ_self _) (.string s)) (a:=⟨wr,1,none⟩) (Nat.lt_succ_self _) (.slice A3 cs3.length c3);have HZ:=κ (ι hz2 (ι hk2 ho32));have HC3:=κ (ι h8 (ι hc3 hok3));clear hb1 hz1 hk1 hz2 hk2 ho3 ho32 h8 hc3 hok3 q0 q1 HF;go_upto_region 8 with fail;obtain ⟨W2,hW2⟩:∃ W2,(w1.setCell ⟨wr,0,none⟩ (.string s)).setCell ⟨wr,1,none⟩ (.slice A3 cs3.length c3)=W2:=cw;rw [hW2] at HZ |-;have c2x:=β HZ.o.1;have HR:=κ (Gd A3 c3 cs3 W2 (Rds.own HZ.o.2.2) HC3.o.2.1 (by have:=HC3.o.1;omega) (λu hu=>(HC3.o.2.2 u hu).1));clear hW2 c1x f1x;go_wp2_with fail;refine μ HR ?_;rintro e w3 ⟨⟨r,rfl,hds⟩,hb3⟩;have hz3:=aA HZ.o.1 hb3
    have hk3:=HZ.o.2.1.trans (hb3.mono HZ.o.2.1.size);have hO1:=aN HB.o.1 hk3;have hO2:=aN HB.o.2.1 hk3;have hb5:=HB.o.2.2.2.trans (hk3.mono HB.o.2.2.2.size);have hTN:r=true->(1≤nm.length∧nm.length≤20)->aBE w3 w ((⟨nm,cs3⟩,A3,c3):dW):=λhr hnl=>⟨(aN HZ.o.2.2 hb3).mono (Nat.le_trans HB.o.2.2.2.size (Nat.le_succ _)),HK.o.1,HC3.o.1,HC3.o.2.1,hds hr,HC3.o.2.2,hnl⟩;have hTT:=λhr hnl=>TabsIn.snoc (TabsIn.below HB.o.2.2.1 hk3) (hTN hr hnl);have cx:=β hz3;have hsz:s.size≤9223372036854775807:=by
     have:=HK.o.1;rw [HS.o];show nm.toArray.size≤_;rw [List.size_toArray];exact ah
    have HS3:=κ (ι hz3 (ι hk3 (ι hTN (ι hb5 hb5.size))));clear hz3 hk3 hb3 hTN c2x HR hb5;cases r
    ·go_wp2;go_ret3;exact ScPost.no HS3.o.2.2.2.1
    ·replace hTT:=hTT rfl;go_wp2_with fail;refine (xV s _ hsz).mono ?_;rintro e w' ⟨⟨r2,rfl,hnm⟩,rfl⟩;cases r2
     ·go_wp2;go_ret3;exact ScPost.no HS3.o.2.2.2.1
     ·replace hTT:=hTT (by have:=hnm rfl;rw [HS.o] at this;rwa [show (nm:ByteArray).size=nm.length from List.size_toArray] at this);clear hnm;go_wp2_with fail
      go_region_held3 (λw'=>w'.cell? ⟨wr,0,none⟩=some (.string s)∧w'.cell? ⟨wr,1,none⟩=some (.slice A3 cs3.length c3))
       (first|go_keep|exact hd2|exact hd3)
       (first
        | (refine bL _ rfl (.tmp 37) (.tmp 39) _ rfl w.heap.size 52 iM _ 2 40 underlying22 hiM hM0 hM1 hM2 rfl (by omega) _ _ _ (tbv l) rfl ?_ _ 1 1 [.string s,.slice A3 cs3.length c3] rfl rfl ?_ ?_ ?_ ?_ ?_ ?_
           ·exact (aN hm4 (by repeat (first|exact θ|apply Below.drew|refine Below.alloc ?_ aa _)))
           ·(first|exact dL _ _ _|exact pJ (dL _ _ _)|exact aS [.string s,.slice A3 cs3.length c3] (aB (heap_alloc_new _ _) _)|exact aS [.string s,.slice A3 cs3.length c3] (bG _ _ _)|exact aS [.string s,.slice A3 cs3.length c3] (hk4 _ _ (bG _ _ _) (fW hO1 (Nat.le_succ _))).1|exact aS [.string s,.slice A3 cs3.length c3] (hk4 _ _ (heap_alloc_new _ _) (fW hO1 (ν _))).1|exact aS [.string s,.slice A3 cs3.length c3] (hk4 _ _ (aB (heap_alloc_new _ _) _) (fW hO1 (ν _))).1)
           ·simp [Value.oneCell']
           ·simp only [maxLen];omega
           ·omega
           ·(have:=HS3.o.2.2.2.2;have:=hb4.size;simp at *;omega)
           intro A5 c5 w5 hFm hb5 hg5 hk5;have hFo:=pN (aN ho4 (by repeat (first|exact θ|apply Below.drew|refine Below.alloc ?_ aa _))) (aN hm4 (by repeat (first|exact θ|apply Below.drew|refine Below.alloc ?_ aa _))) am hg5;have hFT:=TabsIn.two (TabsIn.below hT4 (by repeat (first|exact θ|apply Below.drew|refine Below.alloc ?_ aa _))) (aN hm4 (by repeat (first|exact θ|apply Below.drew|refine Below.alloc ?_ aa _))) am hg5;have hd3:=qI (hk5 _ _ (aA hbx (by repeat (first|exact θ|apply Below.drew|refine Below.alloc ?_ aa _))) (fW HB.o.2.1 (ν _))).1;have hFb:=(hbA.trans ((by repeat (first|exact θ|apply Below.drew|refine Below.alloc ?_ aa _):Below w4 w4 _).mono hbA.size)).trans hb5)
        | (refine bL _ rfl (.tmp 33) (.tmp 35) _ rfl w.heap.size 50 iB _ 2 40 underlying24 hiB hB0 hB1 hB2 rfl (by omega) _ _ _ (tbv l) rfl ?_ _ 1 1 [.string s,.slice A3 cs3.length c3] rfl rfl ?_ ?_ ?_ ?_ ?_ ?_
           ·exact (aN ho5 (by repeat (first|exact θ|apply Below.drew|refine Below.alloc ?_ aa _)))
           ·(first|exact dL _ _ _|exact pJ (dL _ _ _)|exact aS [.string s,.slice A3 cs3.length c3] (aB (heap_alloc_new _ _) _)|exact aS [.string s,.slice A3 cs3.length c3] (bG _ _ _)|exact aS [.string s,.slice A3 cs3.length c3] (hk5 _ _ (bG _ _ _) (fW hO2 (Nat.le_succ _))).1|exact aS [.string s,.slice A3 cs3.length c3] (hk5 _ _ (heap_alloc_new _ _) (fW hO2 (ν _))).1|exact aS [.string s,.slice A3 cs3.length c3] (hk5 _ _ (aB (heap_alloc_new _ _) _) (fW hO2 (ν _))).1)
           ·simp [Value.oneCell']
           ·simp only [maxLen];omega
           ·omega
           ·(have:=HS3.o.2.2.2.2;have:=hb5.size;simp at *;omega)
           intro A4 c4 w4 hFo hb4 hg4 hk4;have hFm:=pN (aN hm5 (by repeat (first|exact θ|apply Below.drew|refine Below.alloc ?_ aa _))) (aN ho5 (by repeat (first|exact θ|apply Below.drew|refine Below.alloc ?_ aa _))) am hg4;have hFT:=TabsIn.two (TabsIn.below hT5 (by repeat (first|exact θ|apply Below.drew|refine Below.alloc ?_ aa _))) (aN ho5 (by repeat (first|exact θ|apply Below.drew|refine Below.alloc ?_ aa _))) am hg4;have hd3:=qI (hk4 _ _ (aA hbx (by repeat (first|exact θ|apply Below.drew|refine Below.alloc ?_ aa _))) (fW HB.o.1 (ν _))).1;have hFb:=(hbA.trans ((by repeat (first|exact θ|apply Below.drew|refine Below.alloc ?_ aa _):Below w5 w5 _).mono hbA.size)).trans hb4)
        | (refine bL _ rfl (.tmp 33) (.tmp 35) _ rfl w.heap.size 50 iB _ 2 40 underlying24 hiB hB0 hB1 hB2 rfl (by omega) _ _ _ (tbv l) rfl ?_ _ 1 1 [.string s,.slice A3 cs3.length c3] rfl rfl ?_ ?_ ?_ ?_ ?_ ?_
           ·exact (aN hO1 (by repeat (first|exact θ|apply Below.drew|refine Below.alloc ?_ aa _)))
           ·(first|exact dL _ _ _|exact pJ (dL _ _ _)|exact aS [.string s,.slice A3 cs3.length c3] (aB (heap_alloc_new _ _) _)|exact aS [.string s,.slice A3 cs3.length c3] (bG _ _ _))
           ·simp [Value.oneCell']
           ·simp only [maxLen];omega
           ·omega
           ·(have:=HS3.o.2.2.2.2;simp at this |-;omega)
           intro A4 c4 w4 ho4 hb4 hg4 hk4;have hm4:=pN (aN hO2 (by repeat (first|exact θ|apply Below.drew|refine Below.alloc ?_ aa _))) (aN hO1 (by repeat (first|exact θ|apply Below.drew|refine Below.alloc ?_ aa _))) am hg4;have hT4:=TabsIn.two (TabsIn.below hTT (by repeat (first|exact θ|apply Below.drew|refine Below.alloc ?_ aa _))) (aN hO1 (by repeat (first|exact θ|apply Below.drew|refine Below.alloc ?_ aa _))) am hg4;have hbx:=(hk4 _ _ (aA HS3.o.1 (by repeat (first|exact θ|apply Below.drew|refine Below.alloc ?_ aa _))) (fW HB.o.1 (ν _))).1;have hd2:=qI hbx;have hbA:=(HS3.o.2.2.2.1.trans ((by repeat (first|exact θ|apply Below.drew|refine Below.alloc ?_ aa _):Below w3 w3 _).mono HS3.o.2.2.2.2)).trans hb4;have hs4:=hb4.size)
        | (refine bL _ rfl (.tmp 37) (.tmp 39) _ rfl w.heap.size 52 iM _ 2 40 underlying22 hiM hM0 hM1 hM2 rfl (by omega) _ _ _ (tbv l) rfl ?_ _ 1 1 [.string s,.slice A3 cs3.length c3] rfl rfl ?_ ?_ ?_ ?_ ?_ ?_
           ·exact (aN hO2 (by repeat (first|exact θ|apply Below.drew|refine Below.alloc ?_ aa _)))
           ·(first|exact dL _ _ _|exact pJ (dL _ _ _)|exact aS [.string s,.slice A3 cs3.length c3] (aB (heap_alloc_new _ _) _)|exact aS [.string s,.slice A3 cs3.length c3] (bG _ _ _))
           ·simp [Value.oneCell']
           ·simp only [maxLen];omega
           ·omega
           ·(have:=HS3.o.2.2.2.2;simp at this |-;omega)
           intro A5 c5 w5 hm5 hb5 hg5 hk5;have ho5:=pN (aN hO1 (by repeat (first|exact θ|apply Below.drew|refine Below.alloc ?_ aa _))) (aN hO2 (by repeat (first|exact θ|apply Below.drew|refine Below.alloc ?_ aa _))) am hg5;have hT5:=TabsIn.two (TabsIn.below hTT (by repeat (first|exact θ|apply Below.drew|refine Below.alloc ?_ aa _))) (aN hO2 (by repeat (first|exact θ|apply Below.drew|refine Below.alloc ?_ aa _))) am hg5;have hbx:=(hk5 _ _ (aA HS3.o.1 (by repeat (first|exact θ|apply Below.drew|refine Below.alloc ?_ aa _))) (fW HB.o.2.1 (ν _))).1;have hd2:=qI hbx;have hbA:=(HS3.o.2.2.2.1.trans ((by repeat (first|exact θ|apply Below.drew|refine Below.alloc ?_ aa _):Below w3 w3 _).mono HS3.o.2.2.2.2)).trans hb5;have hs5:=hb5.size))
      all_goals
       rw [HS.o] at hFo hFm;rw [<-Tw l ((⟨nm,cs3⟩,A3,c3):dW)] at hFo hFm;have HN:=κ (ι hFo (ι hFm (ι hFT hFb)));clear hFo hFm hFT hFb;go_wp2
       go_roundw
       case rel=>exact ⟨i+1,l++[(⟨nm,cs3⟩,A3,c3)],A4,c4,A5,c5,ac,ac,by rw [List.length_append, <-HIL.o];rfl,de,rfl,rfl,HN.o.1,HN.o.2.1,HN.o.2.2.1,HN.o.2.2.2⟩
       case measure=>simp [intOf];omega
   ·go_wp2;go_ret3;exact ScPost.yes HIL.o (by have:=HIL.o;omega) (HB.o.2.2.2.trans (HT.o.1.mono HB.o.2.2.2.size)) (aN HB.o.1 HT.o.1) (aN HB.o.2.1 HT.o.1) (TabsIn.below HB.o.2.2.1 HT.o.1)
  ·go_wp2;go_ret3;exact ScPost.yes HIL.o (by have:=HIL.o;omega) hb ho1 ho2 hTT
def nmD (k:Int) (op nm:ZS):ZS:=if nm==[] then (if k==2 then op else if k==6 then (if op==[67,79,85,78,84] then [99,111,117,110,116] else if op==[83,85,77] then [115,117,109] else if op==[77,73,78] then [109,105,110] else [109,97,120]) else Mm) else nm
theorem Qw (k vk vi:Int) (vs:ByteArray) (vb:Bool) (t:ByteArray) (op nm:ZS) (A:ZT) (n c:Nat) (d:Bool) (w:World) :
 Calls prog 21 #[.agg #[.int .u8 k,.int .u8 vk,vi,vs,vb,t,op,.slice A n c,nm,d]] w λe w'=>e=.returned (.string ⟨(nmD k op nm).toArray⟩)∧Below w w w':=by
 have hb0:Below w w (w.alloc (.cells #[.int .u8 k,.int .u8 vk,vi,vs,vb,t,op,.slice A n c,nm,d] 72)):=ρ;have hc:=β (heap_alloc_new w (.cells #[.int .u8 k,.int .u8 vk,vi,vs,vb,t,op,.slice A n c,nm,d] 72));have HB:=sv;clear hb0;obtain ⟨b1,e1⟩:∃ b,(nm==[])=b:=cw;obtain ⟨b2,e2⟩:∃ b,(k==2)=b:=cw;obtain ⟨b3,e3⟩:∃ b,(k==6)=b:=cw;obtain ⟨b4,e4⟩:∃ b,(op==[67,79,85,78,84])=b:=cw;obtain ⟨b5,e5⟩:∃ b,(op==[83,85,77])=b:=cw;obtain ⟨b6,e6⟩:∃ b,(op==[77,73,78])=b:=cw;have HN:=κ (show nmD k op nm=if b1 then (if b2 then op else if b3 then (if b4 then [99,111,117,110,116] else if b5 then [115,117,109] else if b6 then [109,105,110] else [109,97,120]) else Mm) else nm by unfold nmD;rw [e1,e2,e3,e4,e5,e6]);go_enter func21,ntmps21;cases b1
 ·go_wp2;go_ret;exact GQ
 ·cases b2
  ·cases b3
   ·go_wp2;go_ret;exact GQ
   ·cases b4
    ·cases b5
     ·cases b6
      ·go_wp2;go_ret;exact GQ
      ·go_wp2;go_ret;exact GQ
     ·go_wp2;go_ret;exact GQ
    ·go_wp2;go_ret;exact GQ
  ·go_wp2;go_ret;exact GQ
theorem Le (hx:x.wf) (hr:RX S w x r) (nm:ZS) (d:Bool) :
 Calls prog 21 #[.agg #[.int .u8 r.k,.int .u8 r.vk,.int .i64 r.vi,r.vs,r.vb,r.t,r.s,.slice r.A r.n r.c,nm,d]] w λe w'=>e=.returned (.string ⟨(Bv (x,nm)).toArray⟩)∧Below w w w':=by
 have ha:∀ o∈kG,nmD 6 o []=aEE o:=am
 have hne:∀ (k:Int) (op:ZS),nm≠[]->nmD k op nm=nm:=λk op h=>by unfold nmD;rw [η h];rfl
 have key:∃ op,r.s=⟨op.toArray⟩∧nmD r.k op nm=Bv (x,nm):=by
  by_cases hn:nm=[]
  ·subst hn;cases x with
   | lit k i s b=>obtain rfl:r=rcL k i s b:=hr;exact ⟨[],rfl,rfl⟩
   | col t s=>obtain rfl:r=rcC t s:=hr;exact ⟨s,rfl,rfl⟩
   | cnt=>obtain rfl:r=rc0 6 aJ:=hr;exact ⟨aJ,rfl,am⟩
   | un op x=>obtain ⟨g,r1,rfl, -⟩:=hr;exact ⟨op,rfl,rfl⟩
   | bin op a b=>obtain ⟨g,r1,r2,rfl, -⟩:=hr;exact ⟨op,rfl,rfl⟩
   | isn n x=>obtain ⟨g,r1,rfl, -⟩:=hr;exact ⟨_,rfl,rfl⟩
   | agg op x=>obtain ⟨g,r1,rfl, -⟩:=hr;exact ⟨op,rfl,ha op hx.1⟩
  ·have e:Bv (x,nm)=nm:=if_neg hn;cases x with
   | lit k i s b=>obtain rfl:r=rcL k i s b:=hr;exact ⟨[],rfl,GS⟩
   | col t s=>obtain rfl:r=rcC t s:=hr;exact ⟨s,rfl,GS⟩
   | cnt=>obtain rfl:r=rc0 6 aJ:=hr;exact ⟨aJ,rfl,GS⟩
   | un op x=>obtain ⟨g,r1,rfl, -⟩:=hr;exact GT
   | bin op a b=>obtain ⟨g,r1,r2,rfl, -⟩:=hr;exact GT
   | isn n x=>obtain ⟨g,r1,rfl, -⟩:=hr;exact ⟨_,rfl,GS⟩
   | agg op x=>obtain ⟨g,r1,rfl, -⟩:=hr;exact GT
 obtain ⟨op,h1,h2⟩:=key;rw [h1, <-h2];exact Qw _ _ _ _ _ _ op nm _ _ _ d w
