/-
 Contracts. Conditions: those of each.
-/
import Derived.Test.YtkolcimllghnaaaGreatDoorQcVJ
import Derived.Test.YtkolcimllghnaaaGreatDoorQcGP
set_option maxRecDepth 100000
set_option maxHeartbeats 8000000
namespace Go.Proofs.YtkolcimllghnaaaGreatDoor
open Lp Go.Proofs.Tryz
open Go.RowKit
variable{xs:List Lp.X}{gs hs:List Nat}{sc:List Tb}{B g i n q:Nat}{S:Nat->Prop}{s:Sel}{ds gd gr it lm nm od on u wh:Value}{w wr:World}{A:ZT}{cs:ZV}
theorem Ch:(prog.info? 4).map (λi=>(i.zero,i.size,i.bytes))=some (some (.bool false),1,1):=aj
theorem dT {α:Type} (l:List α) (i:Nat) (a:α):l.toArray.setIfInBounds i a=(l.set i a).toArray:=List.setIfInBounds_toArray ..
theorem gX {α:Type} (x:α) (l:List α) (a:α):(x::l).set 0 a=a::l:=rfl
theorem gY {α:Type} (x:α) (l:List α) (n:Nat) (a:α):(x::l).set (n+1) a=x::l.set n a:=rfl
theorem Lu {α:Type} {R:World->α->Value->Value->Prop} {w:World}:∀ {xs:List α} {vs:ZU} {i:Nat} (h:i<xs.length),EL2 R xs w vs->∃ a b,vs[i*2]? = some a/\vs[i*2+1]? = some b/\R w xs[i] a b
 | _::_,_::_::_,0,_,k=>⟨_,_,rfl,rfl,k.1⟩
 | x::xs,a::b::vs,i+1,h,k=>by
   obtain ⟨c,d,h1,h2,h3⟩:=Lu (i:=i) an k.2;refine ⟨c,d, ?_, ?_,h3⟩
   ·rw [Nat.succ_mul];exact h1
   ·rw [Nat.succ_mul];exact h2
 | [],_,_,h,_=>absurd h (Nat.not_lt_zero _)
 | _::_,[],_,_,k=>k.elim
 | _::_,[_],_,_,k=>k.elim
theorem zD {a b:World} (h:But q a b):Turn (λk=>k≠q) (λk=>k≠q) a b:=λg hg hl=>⟨hg,h.block g hl hg⟩
def T0:(Nat->Prop)->World->Prop:=λ_ _=>True
theorem Um:Stb T0:=λ_ _ _ _ _ _=>trivial
theorem bV {w':World} {size:Nat} {e t:TypeId} {v:Value} {xs:ZU} {r:Option Nat} (hk:fL w w' v.ownBlock r) (h:w.ownsRow B e size v n xs) (hg:w.heap[g]? = some (.cells cs t (0,0))) (hne:e≠t):w'.heap[g]? = some (.cells cs t (0,0)):=(hk _ _ hg (cU h hg hne)).1
theorem vR {T:TypeId} {i j:Nat} {P:(Nat->Prop)->World->Prop} {v1 v2 v1' v2' u:Value} {us:ZU} {x:Lp.X} {W w5 W6 w7:World}
 (hbut:But q w wr) (hlt:q<B) (hB:w<=B) (hq:wr.heap[q]? = some (.cells cs 84 (0,0))) (hp:Pair sc B P T v1 v2 us gs xs hs wr) (hT:T≠84) (hW:Below wr wr W) (hx:NT (λk=>wr.heap.size<=k) W sc x g)
 (ho5:w5.ownsRow B 53 1 v2' (gs.length+1) (gs.map ptr++[ptr g])) (hb5:Below B W w5) (hk5:fL W w5 v2.ownBlock v2'.ownBlock) (h56:Below w5 w5 W6)
 (ho7:w7.ownsRow B T 1 v1' (us.length+1) (us++[u])) (hb7:Below B W6 w7) (hk7:fL W6 w7 v1.ownBlock v1'.ownBlock) :
 But q w ((w7.setCell ⟨q,i,none⟩ v2').setCell ⟨q,j,none⟩ v1')/\((w7.setCell ⟨q,i,none⟩ v2').setCell ⟨q,j,none⟩ v1').heap[q]? = some (.cells ((cs.setIfInBounds i v2').setIfInBounds j v1') 84 (0,0))/\Pair sc B P T v1' v2' (us++[u]) (gs++[g]) (xs++[x]) (hs++[g]) ((w7.setCell ⟨q,i,none⟩ v2').setCell ⟨q,j,none⟩ v1'):=by
 have hp1:=hp.new hW hx;have hq1:=aA hq hW;have hq6:=aA (bV hk5 hp1.o2 hq1 am) h56;have hp6:=(hp1.two ho5 hb5.size hk5).below h56;have hq7:=bV hk7 hp6.o1 hq6 hT;have hp7:=hp6.one ho7 hb7.size hk7;have hq8:=gJ (o:=i) (u:=v2') hq7;exact ⟨((((((hbut.trans (But.of hW)).then (hb5.mono hB)).trans (But.of h56)).then (hb7.mono hB)).trans (But.set _ _ _ _)).trans (But.set _ _ _ _)),gJ hq8,(hp7.set hq7 hlt hT am).set hq8 hlt hT am⟩
def QO (sc:List Tb) (q B:Nat) (nm it on wh gr lm gd:Value) (w:World) (xs:List (Lp.X×Bool)) (wr:World):Prop :=
 But q w wr/\∃ A1 c1 A2 c2 gs,gs.length=xs.length/\wr.heap[q]? = some (.cells (eO nm it on wh gr (.slice A2 xs.length c2) (.slice A1 xs.length c1) lm gd) 84 (0,0))/\Pair sc B T0 4 (.slice A1 xs.length c1) (.slice A2 xs.length c2) (xs.map λp=>.bool p.2) gs (xs.map (·.1)) gs wr
theorem aCY {p:Lp.X×Bool} {l:List (Lp.X×Bool)} {A1 A2:ZT} {c1 c2:Nat} (hl:n=l.length+1) (hg:gs.length=n) (h1:But q w wr) (h2:wr.heap[q]? = some (.cells (eO nm it on wh gr (.slice A2 n c2) (.slice A1 n c1) lm gd) 84 (0,0)))
 (h3:Pair sc B T0 4 (.slice A1 n c1) (.slice A2 n c2) ((l.map λp=>.bool p.2)++[.bool p.2]) gs (l.map (·.1)++[p.1]) gs wr):QO sc q B nm it on wh gr lm gd w (l++[p]) wr:=by
 subst hl;refine ⟨h1,A1,c1,A2,c2,gs,by rw [hg];simp, ?_, ?_⟩
 ·rw [List.length_append];exact h2
 ·rw [List.length_append,List.map_append,List.map_append];exact h3
theorem nP (h1:oJ sc=false) (h2:jB sc s.on=0) (h3:jB sc s.wh=0) (h4:aF sc false s.group=0):fO sc s=if aF sc true (dJ sc s)≠0 then aF sc true (dJ sc s) else if mL sc s && !(dJ sc s).all (setX sc s.group) then 3 else 0:=by
 unfold fO;rw [h1,if_neg am,if_neg (λh=>h h2),if_neg (λh=>h h3),if_neg (λh=>h h4)]
theorem uW {gr:Bool} {α:Type} {f:α->Lp.X} {l:List α} (h:aF sc gr ((l.take i).map f)≠0):aF sc gr (l.map f)=aF sc gr ((l.take i).map f):=by
 have:=mC sc gr _ ((l.drop i).map f) h;rwa [<-List.map_append,List.take_append_drop] at this
theorem qW {gr:Bool} {α:Type} {f:α->Lp.X} {l:List α} (h:i<l.length) (h0:aF sc gr ((l.take i).map f)=0):aF sc gr ((l.take (i+1)).map f)=(aC sc (f l[i]) gr).2:=by
 rw [List.take_succ_eq_append_getElem h,List.map_append];exact kV sc gr _ _ h0
theorem Pn (h1:oJ sc=false) (h2:jB sc s.on=0) (h3:jB sc s.wh=0) (h4:aF sc false s.group=0) (hi:i<s.items.length) (h0:aF sc true ((s.items.take i).map (·.1))=0) (hk:(aC sc s.items[i].1 true).2≠0):fO sc s=(aC sc s.items[i].1 true).2:=by
 have e1:=qW (f:=(·.1)) hi h0;have e2:aF sc true (s.items.map (·.1))=_:=(uW (by rw [e1];exact hk)).trans e1;have hne:s.items.isEmpty=false:=by
  cases hs:s.items with
  | nil=>rw [hs] at hi;simp at hi
  | cons=>rfl
 have e3:aF sc true (dJ sc s)=(aC sc s.items[i].1 true).2:=by
  rw [dJ,aY,hne,if_neg Bool.false_ne_true,oF,e2,if_neg hk]
 rw [nP h1 h2 h3 h4,e3,if_pos hk]
theorem Kh (h1:oJ sc=false) (h2:jB sc s.on=0) (h3:jB sc s.wh=0) (h4:aF sc false s.group=0) (h5:aF sc true ((aY sc s).map (·.1))=0) (hi:i<s.order.length) (h0:aF sc true ((s.order.take i).map (·.1))=0) (hk:(aC sc s.order[i].1 true).2≠0):fO sc s=(aC sc s.order[i].1 true).2:=by
 have e1:=qW (f:=(·.1)) hi h0;have e3:aF sc true (dJ sc s)=(aC sc s.order[i].1 true).2:=by
  rw [dJ,oF,h5,if_pos rfl,uW (by rw [e1];exact hk),e1]
 rw [nP h1 h2 h3 h4,e3,if_pos hk]
theorem mD {sc:List Tb} {gr:Bool}:∀ {l:List Lp.X},aF sc gr l=0->∀ x∈l,(aC sc x gr).2=0
 | y::l,h,x,hx=>by
   by_cases hk:(aC sc y gr).2=0
   ·rcases List.mem_cons.1 hx with rfl|hx
    ·exact hk
    ·refine mD (l:=l) ?_ x hx;have h':=vg;rwa [if_pos hk] at h'
   ·have h':=vg;rw [if_neg hk] at h';exact absurd h' hk
theorem aDA (h:QI sc q B T0 on wh gr od ds lm gd w (aY sc s) wr) (hlt:q<B) (hp:aGF sc s on wh gr (λk=>k≠q) w):But q w wr/\∃ A1 c1 A2 c2,wr.heap[q]? = some (.cells (eO (.slice A1 (aY sc s).length c1) (.slice A2 (aY sc s).length c2) on wh gr od ds lm gd) 84 (0,0))/\Td sc s on wh gr (.slice A1 (aY sc s).length c1) (.slice A2 (aY sc s).length c2) (λk=>k≠q) wr:=by
 obtain ⟨hb,A1,c1,A2,c2,gs,hg,hc,hpr⟩:=h;obtain ⟨r1,r2,r3, -⟩:=hpr.rows;have ht:=vh
 refine ⟨hb,A1,c1,A2,c2,hc,sN _ _ _ _ _ _ _ _ _ (zD hb) hp,⟨A1,c1,rfl,r1.turn ht⟩,A2,c2,gs,by rw [List.length_map], ?_,r2.turn ht,NTs.turn ht r3⟩;rw [List.length_map];exact hg
theorem aCZ (h:QO sc q B nm it on wh gr lm gd w s.order wr) (hlt:q<B) (hp:Td sc s on wh gr nm it (λk=>k≠q) w):But q w wr/\∃ A1 c1 A2 c2,wr.heap[q]? = some (.cells (eO nm it on wh gr (.slice A2 s.order.length c2) (.slice A1 s.order.length c1) lm gd) 84 (0,0))/\Td sc s on wh gr nm it (λk=>k≠q) wr/\GrS (λk=>k≠q) wr sc (s.order.map (·.1)) (.slice A2 s.order.length c2)/\RowS (λk=>k≠q) wr A1 (s.order.map λp=>.bool p.2):=by
 obtain ⟨hb,A1,c1,A2,c2,gs,hg,hc,hpr⟩:=h;obtain ⟨r1,r2,r3, -⟩:=hpr.rows;have ht:=vh
 refine ⟨hb,A1,c1,A2,c2,hc,pR _ _ _ _ _ _ _ _ _ _ _ (zD hb) hp,⟨A2,c2,gs,by rw [List.length_map], ?_,r2.turn ht,NTs.turn ht r3⟩,r1.turn ht⟩;rw [List.length_map];exact hg
theorem Nr {S:Nat->Prop} {w:World} {sc:List Tb}:∀ {xs ys:List Lp.X} {gs hs:List Nat},NTs S w sc xs gs->NTs S w sc ys hs->NTs S w sc (xs++ys) (gs++hs)
 | [],_,[],_,_,k=>k
 | _::_,_,_::_,_,h,k=>⟨h.1,Nr h.2 k⟩
 | [],_,_::_,_,h,_=>h.elim
 | _::_,_,[],_,h,_=>h.elim
theorem aEM (h2:gs.length=xs.length) (h3:RowS S w A (gs.map ptr)) (h4:NTs S w sc xs gs):GsOk sc xs w A gs:=by
 refine ⟨h2,h3.rds,λi x g hx hg => ?_⟩;obtain ⟨y,hy,hn⟩:=NTs.at_ h4 hg;rw [hx] at hy;injection hy with hy;subst hy;exact hn.turn (Turn.mono λ_ _ _=>trivial)
theorem Pc (h:NTs S w sc xs gs) (hw:∀ x∈xs,x.wf):Jj 53 #[] w gs (xs.map jC):=by
 intro j g b hj hb wr hwr;obtain ⟨x,hx,hn⟩:=NTs.at_ h hj;rw [List.getElem?_map,hx] at hb;injection hb with hb;subst hb;exact aLJ g _ wr (aAW sc x (hw x (List.mem_of_getElem? hx)) S wr g (hn.below hwr))
theorem Pb {ys:List Lp.X} {bx c:Nat} (h:NTs S w sc xs gs) (hw:∀ x∈xs,x.wf/\eW sc x) (hy:∀ y∈ys,y.wf/\eW sc y) (hly:ys.length<=100) (hG:GsOk sc ys w A hs)
 (hx:w.heap[bx]? = some (.cells #[ptr q] 76 (0,0))) (hq:w.heap[q]? = some (.cells (eO nm it on wh (.slice A hs.length c) od ds lm gd) 84 (0,0))):Jj 55 #[bx] w gs (xs.map λx => !setX sc ys x):=by
 intro j g b hj hb wr hwr;obtain ⟨x,hx2,hn⟩:=NTs.at_ h hj;rw [List.getElem?_map,hx2] at hb;injection hb with hb;subst hb;obtain ⟨h1,h2⟩:=hw x (List.mem_of_getElem? hx2);exact aLI g bx q nm it on wh od ds lm gd A hs.length c _ wr (aA hx hwr) (aA hq hwr) (aEP sc ys hy hly x h1 h2 S wr g A c hs (hn.below hwr) (hG.below hwr))
theorem Pa {gi go:List Nat} (h1:NTs S w sc ((aY sc s).map (·.1)) gi) (h2:NTs S w sc (s.order.map (·.1)) go):NTs S w sc (dJ sc s) (gi++go):=Nr h1 h2
theorem aJI {α:Type} (l:List α) (f:α->Bool):(l.map f).any id=l.any f:=tm
theorem aFW {α:Type} (l:List α) (f:α->Bool):(l.map λx => !f x).any id = !l.all f:=ua
structure SelWf (s:Sel):Prop where
 on:∀ x,s.on=some x->x.wf
 wh:∀ x,s.wh=some x->x.wf
 grp:∀ x∈s.group,x.wf
 itm:∀ p∈s.items,p.1.wf
 ord:∀ p∈s.order,p.1.wf
 lg:s.group.length<=10
 li:s.items.length<=20
 lo:s.order.length<=10
theorem Fg (hok:nA sc) (hd:oJ sc=false) (hs:SelWf s):∀ x∈dJ sc s,x.wf:=by
 intro x hx;rcases List.mem_append.1 hx with h|h
 ·obtain ⟨p,hp,rfl⟩:=List.mem_map.1 h;unfold aY at hp
  split at hp
  ·exact (Aw hok hd p hp).2.1
  ·exact hs.itm p hp
 ·obtain ⟨p,hp,rfl⟩:=List.mem_map.1 h;exact hs.ord p hp
theorem Tn (hok:nA sc) (hs:SelWf s):(dJ sc s).length<=30:=by
 have h1:=lW hok;have h2:=hs.li;have h3:=hs.lo;rw [dJ,List.length_append,List.length_map,List.length_map];unfold aY
 split<;>omega
theorem wO (h1:aF sc true ((aY sc s).map (·.1))=0) (h2:aF sc true (s.order.map (·.1))=0):aF sc true (dJ sc s)=0:=by rw [dJ,oF,h1,if_pos rfl,h2]
theorem Dy (h:GrS S w sc xs u):∃ A c gs,u=.slice A gs.length c/\gs.length=xs.length/\RowS S w A (gs.map ptr)/\NTs S w sc xs gs:=by
 obtain ⟨A,c,gs,rfl,h2,h3,h4⟩:=h;exact ⟨A,c,gs,by rw [h2],h2,h3,h4⟩
theorem aEO (h:s.group=[]):mL sc s=(dJ sc s).any jC:=by simp [mL,h]
theorem Yq (h:s.group≠[]):mL sc s=true:=by
 cases hg:s.group with
 | nil=>exact absurd hg h
 | cons=>simp [mL,hg]
end Go.Proofs.YtkolcimllghnaaaGreatDoor

namespace Go.Proofs.YtkolcimllghnaaaGreatDoor.Lp
variable{l r:ZW}
def Few (l:ZW):Prop:=(∀ t∈l,uO t)/\l.length<=2000
theorem Few.sfx (h:Few l) (hr:r <:+ l):Few r:=⟨sR h.1 hr,Nat.le_trans hr.length_le h.2⟩
def XOk (x:X):Prop:=x.wf/\x.size<=2000
def qE {α:Type} (P:α->Prop) (f:ZW->Option (α×ZW)):Prop:=∀ l x r,Few l->f l=some (x,r)->P x/\r <:+ l
theorem pI:qE XOk (pX 1 0):=λl x r hl h=>⟨⟨rI _ _ _ _ _ _ hl.1 h,by have:=kJ _ _ _ _ _ _ h;have:=hl.2;omega⟩,iJ h⟩
theorem rS {α:Type} {P:α->Prop} {f:ZW->Option (α×ZW)} (hf:qE P f) (most:Nat):∀ (k:Nat) (acc:List α) (l:ZW) (xs:List α) (r:ZW),Few l->(∀ x∈acc,P x)->jL f most k acc l=some (xs,r)->((∀ x∈xs,P x)/\xs.length<=acc.length+k)/\r <:+ l
 | 0,_,_,_,_,_,_,h=>by cases h
 | k+1,acc,l,xs,r,hl,ha,h=>by
   rcases hq:f l with _|⟨x,r1⟩
   ·rw [mF hq] at h;cases h
   ·obtain ⟨a1,a2⟩:=hf l x r1 hl hq;have ha':∀ y∈acc++[x],P y:=λy hy=>by
     rcases List.mem_append.1 hy with hy|hy
     ·exact ha y hy
     ·rw [List.mem_singleton] at hy;rw [hy];exact a1
    by_cases hc:isF eI r1=true
    ·by_cases hm:acc.length+1=most/\1<r1.length
     ·rw [mG hq hc hm.1 hm.2] at h;cases h
     ·rw [jY hq hc hm] at h;obtain ⟨b1,b2⟩:=rS hf most k _ _ _ _ ((hl.sfx a2).sfx (aV r1)) ha' h;refine ⟨⟨b1.1, ?_⟩,(b2.trans (aV r1)).trans a2⟩;have:=b1.2;simp only [List.length_append,List.length_cons,List.length_nil] at this;omega
    ·rw [nW hq ew] at h;injection h with h;injection h with h1 h2;subst h1 h2;exact ⟨⟨ha',by simp only [List.length_append,List.length_cons,List.length_nil];omega⟩,a2⟩
theorem Yy {l:ZS} (h:l.length<=2000):Few (eL l).1:=by
 rw [lT h];refine ⟨sK l.length [] l (ν _) h (λt ht=>by cases ht), ?_⟩;have:=pB l.length [] l (ν _);simp at this;omega
theorem Bh {α β:Type} {P:α->Prop} {Q:β->Prop} {f:ZW->Option (α×ZW)} (hf:qE P f) (g:α->β) (hg:∀ x,P x->Q (g x)) {y:β} (hl:Few l) (h:(f l).map (λp=>(g p.1,p.2))=some (y,r)):Q y/\r <:+ l:=by
 obtain ⟨⟨x,r1⟩,h1,h2⟩:=ar;injection h2 with h2 h3;subst h2 h3;obtain ⟨a,b⟩:=hf _ _ _ hl h1;exact ⟨hg x a,b⟩
theorem Ks:qE (λp:X×ZS=>XOk p.1) dA:=by
 intro l x r hl h;unfold dA at h;rcases h1:pX 1 0 l with _|⟨c,r1⟩
 ·rw [h1] at h;cases h
 ·obtain ⟨a1,a2⟩:=pI _ _ _ hl h1;rw [h1] at h;simp only at h
  split at h
  ·obtain ⟨p,h4,h5⟩:=ar;injection h5 with h5 h6;subst h5 h6;exact ⟨a1,((bZ h4).trans (aV r1)).trans a2⟩
  ·injection h with h;injection h with h5 h6;subst h5 h6;exact ⟨a1,a2⟩
theorem Gg:qE (λp:X×Bool=>XOk p.1) bK:=by
 intro l x r hl h;unfold bK at h;rcases h1:pX 1 0 l with _|⟨c,r1⟩
 ·rw [h1] at h;cases h
 ·obtain ⟨a1,a2⟩:=pI _ _ _ hl h1;have a3:=(aV r1).trans a2;rw [h1] at h;simp only at h
  split at h
  ·injection h with h;injection h with h5 h6;subst h5 h6;exact ⟨a1,a3⟩
  ·split at h <;>
   ·injection h with h;injection h with h5 h6;subst h5 h6
    first|exact ⟨a1,a3⟩|exact ⟨a1,a2⟩
theorem Gi {α:Type} {P:α->Prop} {f:ZW->Option (α×ZW)} (hf:qE P f) (w:ZS):qE (λxs:List α=>(∀ x∈xs,P x)/\xs.length<=9) (byF w f):=by
 intro l xs r hl h;unfold byF at h
 split at h
 ·obtain ⟨r1,h1,h2⟩:=vl;have hs:=(aU h1).trans (aV l);obtain ⟨a1,a2⟩:=rS hf 8 9 [] r1 _ _ (hl.sfx hs) (λx hx=>vj) h2;exact ⟨⟨a1.1,by simpa using a1.2⟩,a2.trans hs⟩
 ·injection h with h;injection h with h1 h2;subst h1 h2;exact ⟨⟨(λx hx=>vj),aa⟩,List.suffix_refl _⟩
theorem Gh:qE (λxs:List (X×ZS)=>(∀ x∈xs,XOk x.1)/\xs.length<=17) gS:=by
 intro l xs r hl h;unfold gS at h
 split at h
 ·injection h with h;injection h with h1 h2;subst h1 h2;exact ⟨⟨(λx hx=>vj),aa⟩,aV l⟩
 ·obtain ⟨a1,a2⟩:=rS Ks 16 17 [] l _ _ hl (λx hx=>vj) h;exact ⟨⟨a1.1,by simpa using a1.2⟩,a2⟩
theorem Wk:qE (λo:Option X=>∀ x,o=some x->XOk x) onF:=by
 intro l o r hl h;unfold onF at h
 split at h
 ·obtain ⟨p,h1,h2⟩:=vl;obtain ⟨r2,h3,h4⟩:=Option.bind_eq_some_iff.1 h2;have hs:=(aU h3).trans ((bZ h1).trans (aV l));obtain ⟨a1,a2⟩:=Bh (Q:=λo:Option X=>∀ x,o=some x->XOk x) pI some (λx hx y hy=>vm) (hl.sfx hs) h4;exact ⟨a1,a2.trans hs⟩
 ·injection h with h;injection h with h1 h2;subst h1 h2;exact vn
theorem Wj:qE (λo:Option X=>∀ x,o=some x->XOk x) whF:=by
 intro l o r hl h;unfold whF at h
 split at h
 ·obtain ⟨a1,a2⟩:=Bh (Q:=λo:Option X=>∀ x,o=some x->XOk x) pI some (λx hx y hy=>vm) (hl.sfx (aV l)) h;exact ⟨a1,a2.trans (aV l)⟩
 ·injection h with h;injection h with h1 h2;subst h1 h2;exact vn
theorem Qg:qE (λn:Int => -1<=n/\n<=9223372036854775807) uH:=by
 intro l n r hl h;unfold uH at h
 split at h
 ·have hs:=Gx h;have hf:=hl.sfx (aV l);cases ht:l.tail with
  | nil=>rw [ht] at h;cases h
  | cons t l2 =>
    rw [ht] at h hf;unfold rD at h;simp only at h
    split at h
    ·injection h with h;injection h with h1 h2;subst h1;have:=hf.1 t aa;exact ⟨⟨by have:=this.1;omega,this.2.1⟩,hs.trans (aV l)⟩
    ·cases h
 ·injection h with h;injection h with h1 h2;subst h1 h2;exact ⟨am,List.suffix_refl _⟩
theorem Kt (h:oO l=some r):r <:+ l:=by
 obtain ⟨r1,h1,h2⟩:=vl;obtain ⟨p,h3,h4⟩:=Option.map_eq_some_iff.1 h2;subst h4;exact (bZ h3).trans (aU h1)
structure SelOk (s:Sel):Prop where
 on:∀ x,s.on=some x->XOk x
 wh:∀ x,s.wh=some x->XOk x
 grp:(∀ x∈s.group,XOk x)/\s.group.length<=9
 itm:(∀ p∈s.items,XOk p.1)/\s.items.length<=17
 ord:(∀ p∈s.order,XOk p.1)/\s.order.length<=9
 lim : -1<=s.limit/\s.limit<=9223372036854775807
theorem aCJ:SelOk tY:=⟨(λx h=>ao),(λx h=>ao),⟨(λx h=>ao),am⟩,⟨(λx h=>ao),am⟩,⟨(λx h=>ao),am⟩,am⟩
theorem aHS {k:Nat} {q p:Sel×ZW} (hl:Few q.2) (hs:SelOk q.1) (h:stN k q=some p):SelOk p.1/\p.2 <:+ q.2:=by
 match k,h with
 | 0,h|_+7,h=>obtain ⟨a,h1,rfl⟩:=Option.map_eq_some_iff.1 h;obtain ⟨b1,b2⟩:=Qg _ _ _ hl h1;exact ⟨⟨hs.on,hs.wh,hs.grp,hs.itm,hs.ord,b1⟩,b2⟩
 | 1,h=>obtain ⟨a,h1,rfl⟩:=Option.map_eq_some_iff.1 h;obtain ⟨b1,b2⟩:=Gh _ _ _ hl h1;exact ⟨⟨hs.on,hs.wh,hs.grp,b1,hs.ord,hs.lim⟩,b2⟩
 | 2,h=>obtain ⟨a,h1,rfl⟩:=Option.map_eq_some_iff.1 h;exact ⟨hs,Kt h1⟩
 | 3,h=>obtain ⟨a,h1,rfl⟩:=Option.map_eq_some_iff.1 h;obtain ⟨b1,b2⟩:=Wk _ _ _ hl h1;exact ⟨⟨b1,hs.wh,hs.grp,hs.itm,hs.ord,hs.lim⟩,b2⟩
 | 4,h=>obtain ⟨a,h1,rfl⟩:=Option.map_eq_some_iff.1 h;obtain ⟨b1,b2⟩:=Wj _ _ _ hl h1;exact ⟨⟨hs.on,b1,hs.grp,hs.itm,hs.ord,hs.lim⟩,b2⟩
 | 5,h=>obtain ⟨a,h1,rfl⟩:=Option.map_eq_some_iff.1 h;obtain ⟨b1,b2⟩:=Gi pI gR _ _ _ hl h1;exact ⟨⟨hs.on,hs.wh,b1,hs.itm,hs.ord,hs.lim⟩,b2⟩
 | 6,h=>obtain ⟨a,h1,rfl⟩:=Option.map_eq_some_iff.1 h;obtain ⟨b1,b2⟩:=Gi Gg iG _ _ _ hl h1;exact ⟨⟨hs.on,hs.wh,hs.grp,hs.itm,b1,hs.lim⟩,b2⟩
theorem Nb {l:ZW} (hl:Few l):∀ (k:Nat) (p:Sel×ZW),aX l k=some p->SelOk p.1/\p.2 <:+ l
 | 0,p,h=>by injection h with h;subst h;exact ⟨aCJ,List.suffix_refl _⟩
 | k+1,p,h=>by
   obtain ⟨q,h1,h2⟩:=oq;obtain ⟨a,b⟩:=Nb hl k q h1;obtain ⟨c,d⟩:=aHS (hl.sfx b) a h2;exact ⟨c,d.trans b⟩
end Go.Proofs.YtkolcimllghnaaaGreatDoor.Lp

namespace Go.Proofs.YtkolcimllghnaaaGreatDoor
open Lp Go.Proofs.Tryz
theorem Fu {s:Sel} (h:SelOk s):SelWf s:=⟨λx hx=>(h.on x hx).1,λx hx=>(h.wh x hx).1,λx hx=>(h.grp.1 x hx).1,λp hp=>(h.itm.1 p hp).1,λp hp=>(h.ord.1 p hp).1,Nat.le_trans h.grp.2 am,Nat.le_trans h.itm.2 am,Nat.le_trans h.ord.2 am⟩
theorem Aq {sc:List Tb} {s:Sel} (h:SelOk s):∀ x,x∈s.group\/x∈dJ sc s->x.size<=10000:=by
 intro x hx;have fin:x.size<=2000:=by
  rcases hx with hx|hx
  ·exact (h.grp.1 x hx).2
  ·rcases List.mem_append.1 hx with hx|hx
   ·obtain ⟨p,hp,rfl⟩:=List.mem_map.1 hx;unfold aY at hp
    split at hp
    ·obtain ⟨tb, -,h2⟩:=tj;obtain ⟨c, -,h4⟩:=ti;subst h4;simp [Lp.X.size]
    ·exact (h.itm.1 p hp).2
   ·obtain ⟨p,hp,rfl⟩:=List.mem_map.1 hx;exact (h.ord.1 p hp).2
 omega
def aLS:Option Sm->Prop
 | some (.sel s)=>SelOk s
 | _=>True
theorem aCA {l:ZS} (h:l.length<=2000):aLS (Ka l):=by
 have hf:=Yy h;unfold Ka
 split
 ·unfold Fo
  split
  ·rcases hq:mK (eL l).1.tail with _|p
   ·trivial
   ·dsimp only
    split
    ·exact (Nb (hf.sfx (aV _)) 7 p hq).1
    ·trivial
  ·trivial
 ·trivial
def mJ (bad:Int) (l:ZW):Bool:=decide (bad=0)&&isF eI l
def aGG (P:Nat) (w:World) (n most d:Nat) (bad:Int) (l:ZW) (e:Ending) (w':World):Prop :=
 But P w w'/\if mJ bad l=true then (if most<=n/\0<l.tail.length then e=.returned (.bool false)/\RS w' P l.tail d 2 else e=.returned (.bool true)/\RS w' P l.tail d 0) else e=.returned (.bool false)/\RS w' P l d bad
theorem xX (P d:Nat) (bad:Int) (n most:Nat) (l:ZW) (w:World) (h:RS w P l d bad) :
 Calls prog 84 #[P,.int .i64 n,.int .i64 most] w (aGG P w n most d bad l):=by
 have HP:=κ (aH P d bad l ⟨#[44]⟩ w h (mJ bad l) rfl);have HB:=κ (λ(hc:mJ bad l=true)=>(show bad=0 from by unfold mJ at hc;simp at hc;exact hc.1));clear h;cases hc:mJ bad l
 ·rw [hc] at HP;have HC:=κ hc;clear hc HB;go_enter func84,ntmps84;go_wp2_with fail;refine μ HP ?_;rintro e w1 ⟨rfl,hb1,hp1⟩;have H1:=ny;clear hb1 hp1 HP;go_wp2;go_ret;refine ⟨H1.o.1, ?_⟩;rw [HC.o];exact ⟨rfl,H1.o.2⟩
 ·rw [hc] at HP;obtain rfl:=HB.o hc;have HC:=κ hc;clear hc HB;go_enter func84,ntmps84;go_wp2_with fail;refine μ HP ?_;rintro e w1 ⟨rfl,hb1,hp1⟩;simp only [if_true] at hp1;have H1:=ny;obtain ⟨A,c,i,h1,h2,h3⟩:=hp1;have c0:w1.cell? ⟨P,0,none⟩=some (.slice A (i+l.tail.length) c):=β h1 0;have c1:w1.cell? ⟨P,1,none⟩=some (.int .i64 (i:Nat)):=β h1 1;have c3:w1.cell? ⟨P,3,none⟩=some (.int .i64 0):=β h1 3;obtain ⟨m,hm2⟩:∃ m,l.tail.length=m:=da;have HM:=κ hm2;rw [hm2] at c0 h3;clear hb1 h1 h2 HP hm2
  by_cases hnm:most<=n
  ·have e1:((most:Int)<=(n:Int)):=ac
   have e2:decide ((most:Int)<=(n:Int))=true:=bo
   by_cases hz:0<m
   ·have e3:((i:Int)<((i+m:Nat):Int)):=ac
    have e4:decide ((i:Int)<((i+m:Nat):Int))=true:=bo
    have HF:=κ (λw' (hd:RS w' P l.tail d 0)=>fH P d 0 2 l.tail w' hd);have e5:(i:Int)<(i:Int)+(m:Int):=ac
    have e6:0<m:=hz;go_wp2_with fail;go_quiet (fail);go_wp2_with fail;have hd:=GK;refine (HF.o _ (H1.o.2.drawn hd)).mono ?_;rintro e w2 ⟨rfl,hb2,hp2⟩;have H2:=κ (ι (H1.o.1.trans (hd.but.trans hb2)) hp2);obtain ⟨A2,c2,i2,k1,_,_⟩:=hp2;have c4:w2.cell? ⟨P,3,none⟩=some (.int .i64 2):=β k1 3;clear hb2 k1 hd c0 c1 c3;go_wp2;go_ret;refine ⟨H2.o.1, ?_⟩;rw [if_pos HC.o,if_pos ⟨hnm,by rw [HM.o];exact hz⟩];exact ⟨rfl,H2.o.2⟩
   ·have e3:decide ((i:Int)<((i+m:Nat):Int))=false:=bo
    have e4:¬((i:Int)<(i:Int)+(m:Int)):=ac
    have e5:¬(0<m):=hz;go_wp2_with fail;go_quiet (fail);have hd:=GK;have H2:=GM;have c4:=GL;clear hd;go_wp2;go_ret;refine ⟨H2.o.1, ?_⟩;rw [if_pos HC.o,if_neg (by rw [HM.o];omega)];exact ⟨rfl,H2.o.2⟩
  ·have e1:decide ((most:Int)<=(n:Int))=false:=bo
   go_wp2_with fail;go_quiet (fail);have hd:=GK;have H2:=GM;have c4:=GL;clear hd;go_wp2;go_ret;refine ⟨H2.o.1, ?_⟩;rw [if_pos HC.o,if_neg ac];exact ⟨rfl,H2.o.2⟩
