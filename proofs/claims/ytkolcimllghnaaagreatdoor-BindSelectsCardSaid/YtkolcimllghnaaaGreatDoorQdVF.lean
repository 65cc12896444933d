/-
 Contracts. Conditions: those of each.
-/
import Derived.Test.YtkolcimllghnaaaGreatDoorQdVE
import Derived.Test.YtkolcimllghnaaaGreatDoorQdVP
set_option maxRecDepth 100000
set_option maxHeartbeats 8000000
namespace Go.Proofs.YtkolcimllghnaaaGreatDoor
open Lp Go.Proofs.Tryz
open Go.RowKit
variable{gr:Bool}{xs:List Lp.X}{gs hs:List Nat}{sc:List Tb}{B g i n q:Nat}{S:Nat->Prop}{s:Sel}{ds gd it lm nm od on u v wh:Value}{w w' wr:World}{A:ZT}{cs:ZV}
def jB (sc:List Tb):Option Lp.X->Int
 | none=>0
 | some x=>tS sc x
def fO (sc:List Tb) (s:Sel):Int :=
 if oJ sc then 6 else if jB sc s.on≠0 then jB sc s.on else if jB sc s.wh≠0 then jB sc s.wh else if aF sc false s.group≠0 then aF sc false s.group
 else if aF sc true (dJ sc s)≠0 then aF sc true (dJ sc s) else if mL sc s && !(dJ sc s).all (setX sc s.group) then 3 else 0
theorem oF (sc:List Tb) (gr:Bool):∀ l r,aF sc gr (l++r)=if aF sc gr l=0 then aF sc gr r else aF sc gr l
 | [],_=>rfl
 | y::l,r=>by
   have ih:=oF sc gr l r;show (if (aC sc y gr).2=0 then aF sc gr (l++r) else (aC sc y gr).2)=_;show _=if (if (aC sc y gr).2=0 then aF sc gr l else (aC sc y gr).2)=0 then aF sc gr r else if (aC sc y gr).2=0 then aF sc gr l else (aC sc y gr).2
   split
   ·exact ih
   ·rfl
theorem yP {sc:List Tb} {gr:Bool}:∀ {l:List Lp.X},(∀ x∈l,(aC sc x gr).2=0)->aF sc gr l=0
 | [],_=>rfl
 | y::l,h=>by
   show (if (aC sc y gr).2=0 then aF sc gr l else _)=0;rw [if_pos (h y aa)];exact yP λx hx=>h x (by simp [hx])
def OnS (S:Nat->Prop) (w:World) (sc:List Tb):Option Lp.X->Value->Prop
 | none,u=>u=.pointer none
 | some x,u=>∃ g,u=ptr g∧NT S w sc x g
theorem OnS.turn {S S':Nat->Prop} {w w':World} {sc:List Tb} (ht:Turn S S' w w'):∀ {o:Option Lp.X} {u:Value},OnS S w sc o u->OnS S' w' sc o u
 | none,_,h=>h
 | some _,_,⟨g,h1,h2⟩=>⟨g,h1,h2.turn ht⟩
def GrS (S:Nat->Prop) (w:World) (sc:List Tb) (xs:List Lp.X) (u:Value):Prop:=∃ A c gs,u=.slice A xs.length c∧gs.length=xs.length∧RowS S w A (gs.map ptr)∧NTs S w sc xs gs
theorem GrS.turn {S S':Nat->Prop} {w w':World} {sc:List Tb} (ht:Turn S S' w w') {xs:List Lp.X} {u:Value} (h:GrS S w sc xs u):GrS S' w' sc xs u:=by
 obtain ⟨A,c,gs,h1,h2,h3,h4⟩:=h;exact ⟨A,c,gs,h1,h2,h3.turn ht,NTs.turn ht h4⟩
theorem NTs.len {S:Nat->Prop} {w:World} {sc:List Tb}:∀ {xs:List Lp.X} {gs:List Nat},NTs S w sc xs gs->gs.length=xs.length
 | [],[],_=>rfl
 | _::_,_::_,h=>by simp [NTs.len h.2]
 | [],_::_,h=>h.elim
 | _::_,[],h=>h.elim
def aGF (sc:List Tb) (s:Sel) (on wh gr:Value) (S:Nat->Prop) (w:World):Prop:=OnS S w sc s.on on∧OnS S w sc s.wh wh∧GrS S w sc s.group gr
theorem sN (sc:List Tb) (s:Sel) (on wh gr:Value):Stb (aGF sc s on wh gr):=λ_ _ _ _ ht h=>⟨h.1.turn ht,h.2.1.turn ht,h.2.2.turn ht⟩
def Td (sc:List Tb) (s:Sel) (on wh gr nm it:Value) (S:Nat->Prop) (w:World):Prop :=
 aGF sc s on wh gr S w∧(∃ A c,nm=.slice A (aY sc s).length c∧RowS S w A ((aY sc s).map nmV))∧GrS S w sc ((aY sc s).map (·.1)) it
theorem pR (sc:List Tb) (s:Sel) (on wh gr nm it:Value):Stb (Td sc s on wh gr nm it):=λ_ _ _ _ ht h=>by
 obtain ⟨h1,⟨A,c,h2,h3⟩,h4⟩:=h;exact ⟨sN sc s on wh gr _ _ _ _ ht h1,⟨A,c,h2,h3.turn ht⟩,h4.turn ht⟩
def aLR (sc:List Tb) (o:Option Lp.X) (w:World) (e:Ending) (w':World):Prop :=
 Below w w w'∧∃ p,e=.returned (.tuple #[.pointer p,.int .i64 (jB sc o)])∧(jB sc o=0->OnS (λk=>w.heap.size≤k) w' sc o (.pointer p))
theorem Tl (A:ZT) (c:Nat) (sc:List Tb) (o:Option Lp.X) (u:Value) (w:World) (hn:sc.length≤100) (hw:bY sc≤10000) (hx:∀ x,o=some x->x.wf) (hp:PXo 0 w o u) (hS:ScM w A sc) :
 Calls prog 46 #[.slice A sc.length c,u] w (aLR sc o w):=by
 cases o with
 | none =>
   rw [show u=.nilIface from hp];refine (Af A sc.length c w).mono ?_;rintro e w' ⟨rfl,rfl⟩;exact ⟨θ,none,rfl,λ_=>rfl⟩
 | some x =>
   obtain ⟨⟨T,g,rfl⟩,h2⟩:=hp;refine (Ah A c sc x T g w hn hw (hx x rfl) h2 hS).mono ?_;rintro e w' ⟨hb,h⟩;refine ⟨hb, ?_⟩
   split at h
   ·rename_i h0
    obtain ⟨g',rfl,h3⟩:=h;exact ⟨some ⟨g',0,none⟩,by show _=Ending.returned (.tuple #[_,.int .i64 (tS sc x)]);rw [h0];rfl,λ_=>⟨g',rfl,h3⟩⟩
   ·rename_i h0
    exact ⟨none,h,λh1=>absurd h1 h0⟩
theorem Qn {e:Ending} (h:qY sc gr xs w e w'):Below w w w'∧∃ A n c,e=.returned (.tuple #[.slice A n c,.int .i64 (aF sc gr xs)])∧(aF sc gr xs=0->GrS (λk=>w.heap.size≤k) w' sc xs (.slice A n c)):=by
 obtain ⟨hb,h⟩:=h;refine ⟨hb, ?_⟩
 split at h
 ·rename_i h0
  obtain ⟨A,c,gs,rfl,h1,h2⟩:=h;exact ⟨A,xs.length,c,by rw [h0],λ_=>⟨A,c,gs,rfl,NTs.len h2,λhn=>h1 (by rintro rfl;have:=NTs.len h2;simp at this;subst this;exact hn rfl),h2⟩⟩
 ·rename_i h0
  exact ⟨none,0,0,h,λh1=>absurd h1 h0⟩
theorem Ch:(prog.info? 4).map (λi=>(i.zero,i.size,i.bytes))=some (some (.bool false),1,1):=aj
theorem dT {α:Type} (l:List α) (i:Nat) (a:α):l.toArray.setIfInBounds i a=(l.set i a).toArray:=List.setIfInBounds_toArray ..
theorem gX {α:Type} (x:α) (l:List α) (a:α):(x::l).set 0 a=a::l:=rfl
theorem gY {α:Type} (x:α) (l:List α) (n:Nat) (a:α):(x::l).set (n+1) a=x::l.set n a:=rfl
theorem Lu {α:Type} {R:World->α->Value->Value->Prop} {w:World}:∀ {xs:List α} {vs:ZU} {i:Nat} (h:i<xs.length),EL2 R xs w vs->∃ a b,vs[i*2]? = some a∧vs[i*2+1]? = some b∧R w xs[i] a b
 | _::_,_::_::_,0,_,k=>⟨_,_,rfl,rfl,k.1⟩
 | x::xs,a::b::vs,i+1,h,k=>by
   obtain ⟨c,d,h1,h2,h3⟩:=Lu (i:=i) an k.2;refine ⟨c,d, ?_, ?_,h3⟩
   ·rw [Nat.succ_mul];exact h1
   ·rw [Nat.succ_mul];exact h2
 | [],_,_,h,_=>absurd h (Nat.not_lt_zero _)
 | _::_,[],_,_,k=>k.elim
 | _::_,[_],_,_,k=>k.elim
theorem zD {a b:World} (h:But q a b):Turn (λk=>k≠q) (λk=>k≠q) a b:=λg hg hl=>⟨hg,h.block g hl hg⟩
def T0:(Nat->Prop)->World->Prop:=λ_ _=>True
theorem Um:Stb T0:=λ_ _ _ _ _ _=>trivial
theorem bV {size:Nat} {e t:TypeId} {xs:ZU} {r:Option Nat} (hk:fL w w' v.ownBlock r) (h:w.ownsRow B e size v n xs) (hg:w.heap[g]? = some (.cells cs t (0,0))) (hne:e≠t):w'.heap[g]? = some (.cells cs t (0,0)):=(hk _ _ hg (cU h hg hne)).1
theorem vR {T:TypeId} {i j:Nat} {P:(Nat->Prop)->World->Prop} {v1 v2 v1' v2' u:Value} {us:ZU} {x:Lp.X} {W w5 W6 w7:World}
 (hbut:But q w wr) (hlt:q<B) (hB:w≤B) (hq:wr.heap[q]? = some (.cells cs 84 (0,0))) (hp:Pair sc B P T v1 v2 us gs xs hs wr) (hT:T≠84) (hW:Below wr wr W) (hx:NT (λk=>wr.heap.size≤k) W sc x g)
 (ho5:w5.ownsRow B 53 1 v2' (gs.length+1) (gs.map ptr++[ptr g])) (hb5:Below B W w5) (hk5:fL W w5 v2.ownBlock v2'.ownBlock) (h56:Below w5 w5 W6)
 (ho7:w7.ownsRow B T 1 v1' (us.length+1) (us++[u])) (hb7:Below B W6 w7) (hk7:fL W6 w7 v1.ownBlock v1'.ownBlock) :
 But q w ((w7.setCell ⟨q,i,none⟩ v2').setCell ⟨q,j,none⟩ v1')∧((w7.setCell ⟨q,i,none⟩ v2').setCell ⟨q,j,none⟩ v1').heap[q]? = some (.cells ((cs.setIfInBounds i v2').setIfInBounds j v1') 84 (0,0))∧Pair sc B P T v1' v2' (us++[u]) (gs++[g]) (xs++[x]) (hs++[g]) ((w7.setCell ⟨q,i,none⟩ v2').setCell ⟨q,j,none⟩ v1'):=by
 have hp1:=hp.new hW hx;have hq1:=aA hq hW;have hq6:=aA (bV hk5 hp1.o2 hq1 am) h56;have hp6:=(hp1.two ho5 hb5.size hk5).below h56;have hq7:=bV hk7 hp6.o1 hq6 hT;have hp7:=hp6.one ho7 hb7.size hk7;have hq8:=gJ (o:=i) (u:=v2') hq7;exact ⟨((((((hbut.trans (But.of hW)).then (hb5.mono hB)).trans (But.of h56)).then (hb7.mono hB)).trans (But.set _ _ _ _)).trans (But.set _ _ _ _)),gJ hq8,(hp7.set hq7 hlt hT am).set hq8 hlt hT am⟩
def QO (sc:List Tb) (q B:Nat) (nm it on wh gr lm gd:Value) (w:World) (xs:List (Lp.X×Bool)) (wr:World):Prop :=
 But q w wr∧∃ A1 c1 A2 c2 gs,gs.length=xs.length∧wr.heap[q]? = some (.cells (eO nm it on wh gr (.slice A2 xs.length c2) (.slice A1 xs.length c1) lm gd) 84 (0,0))∧Pair sc B T0 4 (.slice A1 xs.length c1) (.slice A2 xs.length c2) (xs.map λp=>.bool p.2) gs (xs.map (·.1)) gs wr
theorem aCY {gr:Value} {p:Lp.X×Bool} {l:List (Lp.X×Bool)} {A1 A2:ZT} {c1 c2:Nat} (hl:n=l.length+1) (hg:gs.length=n) (h1:But q w wr) (h2:wr.heap[q]? = some (.cells (eO nm it on wh gr (.slice A2 n c2) (.slice A1 n c1) lm gd) 84 (0,0)))
 (h3:Pair sc B T0 4 (.slice A1 n c1) (.slice A2 n c2) ((l.map λp=>.bool p.2)++[.bool p.2]) gs (l.map (·.1)++[p.1]) gs wr):QO sc q B nm it on wh gr lm gd w (l++[p]) wr:=by
 subst hl;refine ⟨h1,A1,c1,A2,c2,gs,by rw [hg];simp, ?_, ?_⟩
 ·rw [List.length_append];exact h2
 ·rw [List.length_append,List.map_append,List.map_append];exact h3
theorem nP (h1:oJ sc=false) (h2:jB sc s.on=0) (h3:jB sc s.wh=0) (h4:aF sc false s.group=0):fO sc s=if aF sc true (dJ sc s)≠0 then aF sc true (dJ sc s) else if mL sc s && !(dJ sc s).all (setX sc s.group) then 3 else 0:=by
 unfold fO;rw [h1,if_neg am,if_neg (λh=>h h2),if_neg (λh=>h h3),if_neg (λh=>h h4)]
theorem uW {α:Type} {f:α->Lp.X} {l:List α} (h:aF sc gr ((l.take i).map f)≠0):aF sc gr (l.map f)=aF sc gr ((l.take i).map f):=by
 have:=mC sc gr _ ((l.drop i).map f) h;rwa [<-List.map_append,List.take_append_drop] at this
theorem qW {α:Type} {f:α->Lp.X} {l:List α} (h:i<l.length) (h0:aF sc gr ((l.take i).map f)=0):aF sc gr ((l.take (i+1)).map f)=(aC sc (f l[i]) gr).2:=by
 rw [List.take_succ_eq_append_getElem h,List.map_append];exact kV sc gr _ _ h0
theorem Pn (h1:oJ sc=false) (h2:jB sc s.on=0) (h3:jB sc s.wh=0) (h4:aF sc false s.group=0) (hi:i<s.items.length) (h0:aF sc true ((s.items.take i).map (·.1))=0) (hk:(aC sc s.items[i].1 true).2≠0):fO sc s=(aC sc s.items[i].1 true).2:=by
 have e1:=qW (f:=(·.1)) hi h0;have e2:aF sc true (s.items.map (·.1))=_:=(uW (by rw [e1];exact hk)).trans e1;have hne:s.items.isEmpty=false:=by
  cases hs:s.items with
  | nil=>rw [hs] at hi;simp at hi
  | cons=>rfl
 have e3:aF sc true (dJ sc s)=(aC sc s.items[i].1 true).2:=by
  rw [dJ,aY,hne,if_neg Bool.false_ne_true,oF,e2,if_neg hk]
 rw [nP h1 h2 h3 h4,e3,if_pos hk]
theorem Kh (h1:oJ sc=false) (h2:jB sc s.on=0) (h3:jB sc s.wh=0) (h4:aF sc false s.group=0) (h5:aF sc true ((aY sc s).map (·.1))=0) (hi:i<s.order.length) (h0:aF sc true ((s.order.take i).map (·.1))=0) (hk:(aC sc s.order[i].1 true).2≠0):fO sc s=(aC sc s.order[i].1 true).2:=by
 have e1:=qW (f:=(·.1)) hi h0;have e3:aF sc true (dJ sc s)=(aC sc s.order[i].1 true).2:=by
  rw [dJ,oF,h5,if_pos rfl,uW (by rw [e1];exact hk),e1]
 rw [nP h1 h2 h3 h4,e3,if_pos hk]
theorem mD {sc:List Tb} {gr:Bool}:∀ {l:List Lp.X},aF sc gr l=0->∀ x∈l,(aC sc x gr).2=0
 | y::l,h,x,hx=>by
   by_cases hk:(aC sc y gr).2=0
   ·rcases List.mem_cons.1 hx with rfl|hx
    ·exact hk
    ·refine mD (l:=l) ?_ x hx;have h':=FL;rwa [if_pos hk] at h'
   ·have h':=FL;rw [if_neg hk] at h';exact absurd h' hk
theorem aDA {gr:Value} (h:QI sc q B T0 on wh gr od ds lm gd w (aY sc s) wr) (hlt:q<B) (hp:aGF sc s on wh gr (λk=>k≠q) w):But q w wr∧∃ A1 c1 A2 c2,wr.heap[q]? = some (.cells (eO (.slice A1 (aY sc s).length c1) (.slice A2 (aY sc s).length c2) on wh gr od ds lm gd) 84 (0,0))∧Td sc s on wh gr (.slice A1 (aY sc s).length c1) (.slice A2 (aY sc s).length c2) (λk=>k≠q) wr:=by
 obtain ⟨hb,A1,c1,A2,c2,gs,hg,hc,hpr⟩:=h;obtain ⟨r1,r2,r3, -⟩:=hpr.rows;have ht:=FM
 refine ⟨hb,A1,c1,A2,c2,hc,sN _ _ _ _ _ _ _ _ _ (zD hb) hp,⟨A1,c1,rfl,r1.turn ht⟩,A2,c2,gs,by rw [List.length_map], ?_,r2.turn ht,NTs.turn ht r3⟩;rw [List.length_map];exact hg
theorem aCZ {gr:Value} (h:QO sc q B nm it on wh gr lm gd w s.order wr) (hlt:q<B) (hp:Td sc s on wh gr nm it (λk=>k≠q) w):But q w wr∧∃ A1 c1 A2 c2,wr.heap[q]? = some (.cells (eO nm it on wh gr (.slice A2 s.order.length c2) (.slice A1 s.order.length c1) lm gd) 84 (0,0))∧Td sc s on wh gr nm it (λk=>k≠q) wr∧GrS (λk=>k≠q) wr sc (s.order.map (·.1)) (.slice A2 s.order.length c2)∧RowS (λk=>k≠q) wr A1 (s.order.map λp=>.bool p.2):=by
 obtain ⟨hb,A1,c1,A2,c2,gs,hg,hc,hpr⟩:=h;obtain ⟨r1,r2,r3, -⟩:=hpr.rows;have ht:=FM
 refine ⟨hb,A1,c1,A2,c2,hc,pR _ _ _ _ _ _ _ _ _ _ _ (zD hb) hp,⟨A2,c2,gs,by rw [List.length_map], ?_,r2.turn ht,NTs.turn ht r3⟩,r1.turn ht⟩;rw [List.length_map];exact hg
theorem Nr {S:Nat->Prop} {w:World} {sc:List Tb}:∀ {xs ys:List Lp.X} {gs hs:List Nat},NTs S w sc xs gs->NTs S w sc ys hs->NTs S w sc (xs++ys) (gs++hs)
 | [],_,[],_,_,k=>k
 | _::_,_,_::_,_,h,k=>⟨h.1,Nr h.2 k⟩
 | [],_,_::_,_,h,_=>h.elim
 | _::_,_,[],_,h,_=>h.elim
theorem aEM (h2:gs.length=xs.length) (h3:RowS S w A (gs.map ptr)) (h4:NTs S w sc xs gs):GsOk sc xs w A gs:=by
 refine ⟨h2,h3.rds,λi x g hx hg => ?_⟩;obtain ⟨y,hy,hn⟩:=NTs.at_ h4 hg;rw [hx] at hy;injection hy with hy;subst hy;exact hn.turn (Turn.mono λ_ _ _=>trivial)
theorem Pc (h:NTs S w sc xs gs) (hw:∀ x∈xs,x.wf):Jj 53 #[] w gs (xs.map jC):=by
 intro j g b hj hb wr hwr;obtain ⟨x,hx,hn⟩:=NTs.at_ h hj;rw [List.getElem?_map,hx] at hb;injection hb with hb;subst hb;exact aLJ g _ wr (aAW sc x (hw x (List.mem_of_getElem? hx)) S wr g (hn.below hwr))
theorem Pb {ys:List Lp.X} {bx c:Nat} (h:NTs S w sc xs gs) (hw:∀ x∈xs,x.wf∧eW sc x) (hy:∀ y∈ys,y.wf∧eW sc y) (hly:ys.length≤100) (hG:GsOk sc ys w A hs)
 (hx:w.heap[bx]? = some (.cells #[ptr q] 76 (0,0))) (hq:w.heap[q]? = some (.cells (eO nm it on wh (.slice A hs.length c) od ds lm gd) 84 (0,0))):Jj 55 #[bx] w gs (xs.map λx => !setX sc ys x):=by
 intro j g b hj hb wr hwr;obtain ⟨x,hx2,hn⟩:=NTs.at_ h hj;rw [List.getElem?_map,hx2] at hb;injection hb with hb;subst hb;obtain ⟨h1,h2⟩:=hw x (List.mem_of_getElem? hx2);exact aLI g bx q nm it on wh od ds lm gd A hs.length c _ wr (aA hx hwr) (aA hq hwr) (aEP sc ys hy hly x h1 h2 S wr g A c hs (hn.below hwr) (hG.below hwr))
theorem Pa {gi go:List Nat} (h1:NTs S w sc ((aY sc s).map (·.1)) gi) (h2:NTs S w sc (s.order.map (·.1)) go):NTs S w sc (dJ sc s) (gi++go):=Nr h1 h2
theorem aJI {α:Type} (l:List α) (f:α->Bool):(l.map f).any id=l.any f:=EX
theorem aFW {α:Type} (l:List α) (f:α->Bool):(l.map λx => !f x).any id = !l.all f:=FD
structure SelWf (s:Sel):Prop where
 on:∀ x,s.on=some x->x.wf
 wh:∀ x,s.wh=some x->x.wf
 grp:∀ x∈s.group,x.wf
 itm:∀ p∈s.items,p.1.wf
 ord:∀ p∈s.order,p.1.wf
 lg:s.group.length≤10
 li:s.items.length≤20
 lo:s.order.length≤10
theorem Fg (hok:nA sc) (hd:oJ sc=false) (hs:SelWf s):∀ x∈dJ sc s,x.wf:=by
 intro x hx;rcases List.mem_append.1 hx with h|h
 ·obtain ⟨p,hp,rfl⟩:=List.mem_map.1 h;unfold aY at hp
  split at hp
  ·exact (Aw hok hd p hp).2.1
  ·exact hs.itm p hp
 ·obtain ⟨p,hp,rfl⟩:=List.mem_map.1 h;exact hs.ord p hp
theorem Tn (hok:nA sc) (hs:SelWf s):(dJ sc s).length≤30:=by
 have h1:=lW hok;have h2:=hs.li;have h3:=hs.lo;rw [dJ,List.length_append,List.length_map,List.length_map];unfold aY
 split<;>omega
theorem wO (h1:aF sc true ((aY sc s).map (·.1))=0) (h2:aF sc true (s.order.map (·.1))=0):aF sc true (dJ sc s)=0:=by rw [dJ,oF,h1,if_pos rfl,h2]
theorem Dy (h:GrS S w sc xs u):∃ A c gs,u=.slice A gs.length c∧gs.length=xs.length∧RowS S w A (gs.map ptr)∧NTs S w sc xs gs:=by
 obtain ⟨A,c,gs,rfl,h2,h3,h4⟩:=h;exact ⟨A,c,gs,by rw [h2],h2,h3,h4⟩
theorem aEO (h:s.group=[]):mL sc s=(dJ sc s).any jC:=by simp [mL,h]
theorem Yq (h:s.group≠[]):mL sc s=true:=by
 cases hg:s.group with
 | nil=>exact absurd hg h
 | cons=>simp [mL,hg]
def Jk (sc:List Tb) (s:Sel) (w:World) (e:Ending) (w':World):Prop :=
 Below w w w'∧if fO sc s=0 then ∃ q nm it on wh gr od ds,e=.returned (.tuple #[ptr q,.int .i64 0])∧w'.heap[q]? = some (.cells (eO nm it on wh gr od ds (.int .i64 s.limit) (.bool (mL sc s))) 84 (0,0))∧Td sc s on wh gr nm it Any w'∧GrS Any w' sc (s.order.map (·.1)) od∧∃ A c,ds=.slice A s.order.length c∧RowS Any w' A (s.order.map λp=>.bool p.2)
  else e=.returned (.tuple #[.pointer none,.int .i64 (fO sc s)])
theorem Vg (i j:Nat) {xs:ZV} (h:i≠j:=by decide):(xs.setIfInBounds i u).setIfInBounds j v=(xs.setIfInBounds j v).setIfInBounds i u:=Array.setIfInBounds_comm _ _ h
section
attribute [local go_sem] Array.getElem_setIfInBounds Array.size_setIfInBounds
theorem aKG {Q:Exit->Act->World->Prop} (xs:ZV) (df:List _) (q B bi g:Nat) (v:Value) (nm:ZS) (C1 C2:ZT) (n r1 r2:Nat) (w wr w2:World) (sc:List Tb) (x:Lp.X) (cs:ZV) (xl:List Lp.X) (us:ZU) (gs:List Nat) (hn:n≤1000) (hul:us.length=n) (hgl:gs.length=n) (hsz:xs.size=210) (h6:xs[6]=.pointer (some ⟨q+1,0,none⟩)) (hbi:xs[10]=.pointer (some ⟨bi,0,none⟩)) (hg:xs[11]=ptr g)
 (hqB:q<B) (hBi:bi≠q) (hwB:w≤B) (hbut:But q w wr) (hq:wr.heap[q]? = some (.cells cs 84 (0,0))) (hcA:cs[1]? = some (.slice C2 n r2)) (hcB:cs[0]? = some (.slice C1 n r1)) (hp:Pair sc B T0 9 (.slice C1 n r1) (.slice C2 n r2) us gs xl gs wr) (hW:Below wr wr w2) (hx:NT (λk=>wr.heap.size≤k) w2 sc x g)
 (x2:w2.heap[q+1]? = some (.cells #[q] 76 (0,0))) (i2:w2.heap[bi]? = some (.cells #[v,nm] 142 (0,0))) (hwf:x.wf) (hpx:PX 0 w2 x v)
 (h:∀ A5 c5 A7 c7 y1 y2 y3 y4 y5 (w':World),But q w w'->w'.heap[q]? = some (.cells ((cs.setIfInBounds 1 (.slice A5 (n+1) c5)).setIfInBounds 0 (.slice A7 (n+1) c7)) 84 (0,0))->Pair sc B T0 9 (.slice A7 (n+1) c7) (.slice A5 (n+1) c5) (us++[nmV (x,nm)]) (gs++[g]) (xl++[x]) (gs++[g]) w'->Q .normal ⟨(((((((((((((((((((((xs.setIfInBounds 105 (.pointer (some ⟨q,0,none⟩))).setIfInBounds 106 (.pointer (some ⟨q,0,none⟩))).setIfInBounds 107 (.pointer (some ⟨q,0,none⟩))).setIfInBounds 108 (.pointer (some ⟨q,0,none⟩))).setIfInBounds 109 (.pointer (some ⟨q,1,none⟩))).setIfInBounds 110 (.slice C2 n r2)).setIfInBounds 111 (ptr g)).setIfInBounds 114 (.pointer (some ⟨q,0,none⟩))).setIfInBounds 115 (.pointer (some ⟨q,0,none⟩))).setIfInBounds 116 (.pointer (some ⟨q,0,none⟩))).setIfInBounds 117 (.slice C1 n r1)).setIfInBounds 118 (.agg #[v,nm])).setIfInBounds 112 y1).setIfInBounds 113 y2).setIfInBounds 119 y3).setIfInBounds 120 y4).setIfInBounds 121 y5).setIfInBounds 122 (.pointer (some ⟨q,0,none⟩))).setIfInBounds 123 (.pointer (some ⟨q,1,none⟩))).setIfInBounds 124 (.pointer (some ⟨q,0,none⟩))).setIfInBounds 125 (.pointer (some ⟨q,0,none⟩))),df⟩ w'):Code.wp prog (zU Tryz.f17 21) Q ⟨xs,df⟩ w2:=by
 obtain ⟨iN,hiN,hz0,hz1,hz2⟩:=kr;obtain ⟨iS,hiS,hy0,hy1,hy2⟩:=info_parts wX;have q2:=aA hq hW;refine xP ?_
 conv=>arg 2;whnf
 refine eR (S:=λw'=>w'.cell? ⟨q+1,0,none⟩=some (.pointer (some ⟨q,0,none⟩))∧w'.cell? ⟨bi,0,none⟩=some v∧w'.cell? ⟨bi,1,none⟩=some (.string nm)) (λw'=>w'.cell? ⟨q,1,none⟩=some (.slice C2 n r2)∧w'.cell? ⟨q,0,none⟩=some (.slice C1 n r1)) 19 aj ⟨β x2 0,β i2 0,β i2 1⟩ ⟨(β q2 1).trans hcA,(β q2 0).trans hcB⟩ (λhS hT => ?_);refine tkE false 0 105 ?_;refine tkE false 1 106 ?_;refine tkE false 2 107 ?_;refine tkE false 3 108 ?_;refine tkE false 4 109 ?_;refine tkE true 5 110 ?_;refine tkE false 6 111 ?_;refine tkE false 9 114 ?_;refine tkE false 10 115 ?_;refine tkE false 11 116 ?_;refine tkE true 12 117 ?_;refine tkE false 13 118 ?_;have hlx:Below w2 w2 (w2.drew.alloc (.cells #[ptr g] 53)):=(θ).drew.alloc (ν _) _;have hga:=heap_alloc_new w2.drew (.cells #[ptr g] 53);refine stE 7 λK hK => ?_;go_simp;refine hK.out _ _ ⟨β (aB x2 _) 0,β (aB i2 _) 0,β (aB i2 _) 1⟩ ⟨(β (aB q2 _) 1).trans hcA,(β (aB q2 _) 0).trans hcB⟩ (λhS hT => ?_);clear hK K;have hlW:=JC;have hnW:=hx.below hlx;have hp1:=hp.new hlW hnW;have o2:=hp1.o2;rw [hgl] at o2;have x3:=aA x2 hlx;have i3:=aA i2 hlx;have q3:=aA q2 hlx;refine stE 8 λK hK => ?_;refine bL _ rfl (.tmp 110) (.tmp 112) _ rfl B 53 iN _ 1 8 underlying46 hiN hz0 hz1 hz2 rfl ac C2 n r2 (gs.map ptr) oo o2 (some ⟨w2,0,none⟩) 1 1 [ptr g] oo rfl (aS [ptr g] hga) ?_ ?_ ?_ ?_ ?_
 ·simp [Value.oneCell',ptr]
 ·simp only [maxLen];omega
 ·omega
 ·exact hp1.hB
 intro A5 c5 w5 ho5 hb5 hg5 hk5;have x5:=JG;have i5:=JF;have q5:=JE;change K (Act.put _ (some 113) _) _;refine hK.out _ _ ⟨β x5 0,β i5 0,β i5 1⟩ ⟨(β q5 1).trans hcA,(β q5 0).trans hcB⟩ (λhS hT => ?_);have ho5':=JD
 have hp5:=JH;clear hK K hg5 ho5;have hN:=Qv x nm v w5 hwf (PX.keepN (StaysT.keeps o2 am hk5) (PX.keepN (StaysT.below hlx) hpx));refine stE 14 λK hK => ?_;go_simp;go_at_call 49;refine hN.mono ?_;rintro e w6 ⟨rfl,hb6⟩;have x6:=aA x5 hb6;have i6:=aA i5 hb6;have q6:=aA q5 hb6;refine hK.out _ _ ⟨β x6 0,β i6 0,β i6 1⟩ ⟨(β q6 1).trans hcA,(β q6 0).trans hcB⟩ (λhS hT => ?_);have h56:=hb6.trans ((θ).alloc hb6.size (.cells #[nmV (x,nm)] 9));have hp6:=hp5.below h56;have o6:=hp6.o1;rw [hul] at o6;clear hK K hN;refine stE 15 λK hK => ?_;go_simp;refine hK.out _ _ ⟨β (aB x6 _) 0,β (aB i6 _) 0,β (aB i6 _) 1⟩ ⟨(β (aB q6 _) 1).trans hcA,(β (aB q6 _) 0).trans hcB⟩ (λhS hT => ?_);clear hK K;refine stE 16 λK hK => ?_;refine bL _ rfl (.tmp 117) (.tmp 120) _ rfl B 9 iS _ 1 16 underlying81 hiS hy0 hy1 hy2 rfl ac C1 n r1 us oo o6 (some ⟨w6,0,none⟩) 1 1 [nmV (x,nm)] oo rfl (aS [nmV (x,nm)] (heap_alloc_new w6 _)) ?_ ?_ ?_ ?_ ?_
 ·simp [Value.oneCell',nmV]
 ·simp only [maxLen];omega
 ·omega
 ·exact hp6.hB
 intro A7 c7 w7 ho7 hb7 hg7 hk7;have x7:=JL;have i7:=JK;have q7:=JJ;change K (Act.put _ (some 121) _) _;refine hK.out _ _ ⟨β x7 0,β i7 0,β i7 1⟩ ⟨(β q7 1).trans hcA,(β q7 0).trans hcB⟩ (λhS hT => ?_);have ho7':w7.ownsRow B 9 1 (.slice A7 (n+1) c7) (us.length+1) (us++[nmV (x,nm)]):=JI
 have hS6:=vR (i:=1) (j:=0) hbut hqB hwB hq hp am hlW hnW ho5' hb5 hk5 h56 ho7' hb7 hk7;clear hK K;have q8:=gJ (o:=1) (u:=.slice A5 (n+1) c5) q7;have hk:(cs.setIfInBounds 1 (.slice A5 (n+1) c5))[0]? = some (.slice C1 n r1):=by rw [Array.getElem?_setIfInBounds_ne am];exact hcB
 have d7:=(β q7 1).trans hcA;have d8:=(β q8 0).trans hk;have f7:=JN;have f8:=JM;have bxq:q+1≠q:=ac
 have x8:=cA (o2:=1) x7 bxq (.slice A5 (n+1) c5);have i8:=cA (o2:=1) i7 hBi (.slice A5 (n+1) c5);refine tkE false 17 122 ?_;refine tkE false 18 123 ?_;refine stL 19 λK hK => ?_;go_simp;refine hK.out _ _ ⟨β x8 0,β i8 0,β i8 1⟩ (λhS => ?_);clear hK K;refine tkE false 20 124 ?_;refine tkE false 21 125 ?_;refine stL 22 λK hK => ?_;go_simp;refine hK.out _ _ ⟨β (cA x8 bxq _) 0,β (cA i8 hBi _) 0,β (cA i8 hBi _) 1⟩ (λhS => ?_);clear hK K;refine dY ?_ rfl _;exact h A5 c5 A7 c7 _ _ _ _ _ _ hS6.1 hS6.2.1 hS6.2.2
theorem aKD {Q:Exit->Act->World->Prop} (xs:ZV) (df:List _) (q B bi g:Nat) (v:Value) (bd:Bool) (C1 C2:ZT) (n r1 r2:Nat) (w wr w2:World) (sc:List Tb) (x:Lp.X) (cs:ZV) (xl:List Lp.X) (us:ZU) (gs:List Nat) (hn:n≤1000) (hul:us.length=n) (hgl:gs.length=n) (hsz:xs.size=210) (h6:xs[6]=.pointer (some ⟨q+1,0,none⟩)) (hbi:xs[14]=.pointer (some ⟨bi,0,none⟩)) (hg:xs[15]=ptr g)
 (hqB:q<B) (hBi:bi≠q) (hwB:w≤B) (hbut:But q w wr) (hq:wr.heap[q]? = some (.cells cs 84 (0,0))) (hcA:cs[5]? = some (.slice C2 n r2)) (hcB:cs[6]? = some (.slice C1 n r1)) (hp:Pair sc B T0 4 (.slice C1 n r1) (.slice C2 n r2) us gs xl gs wr) (hW:Below wr wr w2) (hx:NT (λk=>wr.heap.size≤k) w2 sc x g)
 (x2:w2.heap[q+1]? = some (.cells #[q] 76 (0,0))) (i2:w2.heap[bi]? = some (.cells #[v,bd] 147 (0,0)))
 (h:∀ A5 c5 A7 c7 y1 y2 y3 y4 (w':World),But q w w'->w'.heap[q]? = some (.cells ((cs.setIfInBounds 5 (.slice A5 (n+1) c5)).setIfInBounds 6 (.slice A7 (n+1) c7)) 84 (0,0))->Pair sc B T0 4 (.slice A7 (n+1) c7) (.slice A5 (n+1) c5) (us++[.bool bd]) (gs++[g]) (xl++[x]) (gs++[g]) w'->Q .normal ⟨(((((((((((((((((((((xs.setIfInBounds 155 (.pointer (some ⟨q,0,none⟩))).setIfInBounds 156 (.pointer (some ⟨q,0,none⟩))).setIfInBounds 157 (.pointer (some ⟨q,0,none⟩))).setIfInBounds 158 (.pointer (some ⟨q,0,none⟩))).setIfInBounds 159 (.pointer (some ⟨q,5,none⟩))).setIfInBounds 160 (.slice C2 n r2)).setIfInBounds 161 (ptr g)).setIfInBounds 164 (.pointer (some ⟨q,0,none⟩))).setIfInBounds 165 (.pointer (some ⟨q,0,none⟩))).setIfInBounds 166 (.pointer (some ⟨q,6,none⟩))).setIfInBounds 167 (.slice C1 n r1)).setIfInBounds 168 (.pointer (some ⟨bi,1,none⟩))).setIfInBounds 169 (.bool bd)).setIfInBounds 162 y1).setIfInBounds 163 y2).setIfInBounds 170 y3).setIfInBounds 171 y4).setIfInBounds 172 (.pointer (some ⟨q,0,none⟩))).setIfInBounds 173 (.pointer (some ⟨q,5,none⟩))).setIfInBounds 174 (.pointer (some ⟨q,0,none⟩))).setIfInBounds 175 (.pointer (some ⟨q,6,none⟩))),df⟩ w'):Code.wp prog (zU Tryz.f17 31) Q ⟨xs,df⟩ w2:=by
 obtain ⟨iN,hiN,hz0,hz1,hz2⟩:=kr;obtain ⟨iB,hiB,hx0,hx1,hx2⟩:=info_parts Ch;have q2:=aA hq hW;refine xP ?_
 conv=>arg 2;whnf
 refine eR (S:=λw'=>w'.cell? ⟨q+1,0,none⟩=some (.pointer (some ⟨q,0,none⟩))∧w'.cell? ⟨bi,0,none⟩=some v∧w'.cell? ⟨bi,1,none⟩=some (.bool bd)) (λw'=>w'.cell? ⟨q,5,none⟩=some (.slice C2 n r2)∧w'.cell? ⟨q,6,none⟩=some (.slice C1 n r1)) 19 aj ⟨β x2 0,β i2 0,β i2 1⟩ ⟨(β q2 5).trans hcA,(β q2 6).trans hcB⟩ (λhS hT => ?_);refine tkE false 0 155 ?_;refine tkE false 1 156 ?_;refine tkE false 2 157 ?_;refine tkE false 3 158 ?_;refine tkE false 4 159 ?_;refine tkE true 5 160 ?_;refine tkE false 6 161 ?_;refine tkE false 9 164 ?_;refine tkE false 10 165 ?_;refine tkE false 11 166 ?_;refine tkE true 12 167 ?_;refine tkE false 13 168 ?_;refine tkE false 14 169 ?_;refine aCE 7 15 (λK hK => ?_) λK hK => ?_
 ·go_simp;refine hK.out _ _ ⟨β (aB x2 _) 0,β (aB i2 _) 0,β (aB i2 _) 1⟩ ⟨(β (aB q2 _) 5).trans hcA,(β (aB q2 _) 6).trans hcB⟩ (λhS hT => ?_);clear hK K;refine aCE 8 15 (λK hK => ?_) λK hK => ?_
  ·have hlx:Below w2 w2 (w2.alloc (.cells #[ptr g] 53)).drew:=(ρ).drew;have hga:(w2.alloc (.cells #[ptr g] 53)).drew.heap[w2.heap.size]? = some (.cells #[ptr g] 53 (0,0)):=heap_alloc_new w2 _;have hlW:=JC;have hnW:=hx.below hlx;have hp1:=hp.new hlW hnW;have o2:=hp1.o2;rw [hgl] at o2;have x3:=aA x2 hlx;have i3:=aA i2 hlx;have q3:=aA q2 hlx;refine bL _ rfl (.tmp 160) (.tmp 162) _ rfl B 53 iN _ 1 8 underlying46 hiN hz0 hz1 hz2 rfl ac C2 n r2 (gs.map ptr) oo o2 (some ⟨w2,0,none⟩) 1 1 [ptr g] oo rfl (aS [ptr g] hga) ?_ ?_ ?_ ?_ ?_
   ·simp [Value.oneCell',ptr]
   ·simp only [maxLen];omega
   ·omega
   ·exact hp1.hB
   intro A5 c5 w5 ho5 hb5 hg5 hk5;have x5:=JG;have i5:=JF;have q5:=JE;change K (Act.put _ (some 163) _) _;refine hK.out _ _ ⟨β x5 0,β i5 0,β i5 1⟩ ⟨(β q5 5).trans hcA,(β q5 6).trans hcB⟩ (λhS hT => ?_);have ho5':=JD
   have hp5:=JH;clear hK K hg5 ho5;refine stE 15 λK hK => ?_;go_simp;refine hK.out _ _ ⟨β (aB x5 _) 0,β (aB i5 _) 0,β (aB i5 _) 1⟩ ⟨(β (aB q5 _) 5).trans hcA,(β (aB q5 _) 6).trans hcB⟩ (λhS hT => ?_);clear hK K;have h56:Below w5 w5 (w5.alloc (.cells #[bd] 4)):=ρ;have hgb6:=heap_alloc_new w5 (.cells #[bd] 4);have hp6:=hp5.below h56;have o6:=hp6.o1;rw [hul] at o6;refine stE 16 λK hK => ?_;refine bL _ rfl (.tmp 167) (.tmp 170) _ rfl B 4 iB _ 1 1 underlying82 hiB hx0 hx1 hx2 rfl ac C1 n r1 us oo o6 (some ⟨w5,0,none⟩) 1 1 [.bool bd] oo rfl (aS [.bool bd] hgb6) ?_ ?_ ?_ ?_ ?_
   ·simp [Value.oneCell']
   ·simp only [maxLen];omega
   ·omega
   ·exact hp6.hB
   intro A7 c7 w7 ho7 hb7 hg7 hk7;have x7:=JL;have i7:=JK;have q7:=JJ;change K (Act.put _ (some 171) _) _;refine hK.out _ _ ⟨β x7 0,β i7 0,β i7 1⟩ ⟨(β q7 5).trans hcA,(β q7 6).trans hcB⟩ (λhS hT => ?_);have ho7':=JO
   have hS6:=JQ;clear hK K;have q8:=JP;have hk:(cs.setIfInBounds 5 (.slice A5 (n+1) c5))[6]? = some (.slice C1 n r1):=by rw [Array.getElem?_setIfInBounds_ne am];exact hcB
   have d7:=(β q7 5).trans hcA;have d8:=(β q8 6).trans hk;have f7:=JN;have f8:=JM;have bxq:q+1≠q:=ac
   have x8:=JT;have i8:=JS;refine tkE false 17 172 ?_;refine tkE false 18 173 ?_;refine stL 19 λK hK => ?_;go_simp;refine hK.out _ _ ⟨β x8 0,β i8 0,β i8 1⟩ (λhS => ?_);clear hK K;refine tkE false 20 174 ?_;refine tkE false 21 175 ?_;refine stL 22 λK hK => ?_;go_simp;refine hK.out _ _ ⟨β (cA x8 bxq _) 0,β (cA i8 hBi _) 0,β (cA i8 hBi _) 1⟩ (λhS => ?_);clear hK K;refine dY ?_ rfl _;exact JR
  ·go_simp;refine hK.out _ _ ⟨β (aB (aB x2 _) _) 0,β (aB (aB i2 _) _) 0,β (aB (aB i2 _) _) 1⟩ ⟨(β (aB (aB q2 _) _) 5).trans hcA,(β (aB (aB q2 _) _) 6).trans hcB⟩ (λhS hT => ?_);clear hK K;have hlx:Below w2 w2 ((w2.alloc (.cells #[ptr g] 53)).alloc (.cells #[bd] 4)).drew:=((ρ).alloc aa _).drew;have hga:((w2.alloc (.cells #[ptr g] 53)).alloc (.cells #[bd] 4)).drew.heap[w2.heap.size]? = some (.cells #[ptr g] 53 (0,0)):=aB (heap_alloc_new w2 _) _;have hgb:((w2.alloc (.cells #[ptr g] 53)).alloc (.cells #[bd] 4)).drew.heap[w2.heap.size+1]? = some (.cells #[bd] 4 (0,0)):=bG w2 _ _;refine stE 8 λK hK => ?_;have hlW:=JC;have hnW:=hx.below hlx;have hp1:=hp.new hlW hnW;have o2:=hp1.o2;rw [hgl] at o2;have x3:=aA x2 hlx;have i3:=aA i2 hlx;have q3:=aA q2 hlx;refine bL _ rfl (.tmp 160) (.tmp 162) _ rfl B 53 iN _ 1 8 underlying46 hiN hz0 hz1 hz2 rfl ac C2 n r2 (gs.map ptr) oo o2 (some ⟨w2,0,none⟩) 1 1 [ptr g] oo rfl (aS [ptr g] hga) ?_ ?_ ?_ ?_ ?_
   ·simp [Value.oneCell',ptr]
   ·simp only [maxLen];omega
   ·omega
   ·exact hp1.hB
   intro A5 c5 w5 ho5 hb5 hg5 hk5;have x5:=JG;have i5:=JF;have q5:=JE;change K (Act.put _ (some 163) _) _;refine hK.out _ _ ⟨β x5 0,β i5 0,β i5 1⟩ ⟨(β q5 5).trans hcA,(β q5 6).trans hcB⟩ (λhS hT => ?_);have ho5':=JD
   have hp5:=JH;clear hK K hg5 ho5;have h56:=Below.refl w5 w5;have hgb6:=bV hk5 o2 hgb am;have hp6:=hp5.below h56;have o6:=hp6.o1;rw [hul] at o6;refine stE 16 λK hK => ?_;refine bL _ rfl (.tmp 167) (.tmp 170) _ rfl B 4 iB _ 1 1 underlying82 hiB hx0 hx1 hx2 rfl ac C1 n r1 us oo o6 (some ⟨w2+1,0,none⟩) 1 1 [.bool bd] oo rfl (aS [.bool bd] hgb6) ?_ ?_ ?_ ?_ ?_
   ·simp [Value.oneCell']
   ·simp only [maxLen];omega
   ·omega
   ·exact hp6.hB
   intro A7 c7 w7 ho7 hb7 hg7 hk7;have x7:=JL;have i7:=JK;have q7:=JJ;change K (Act.put _ (some 171) _) _;refine hK.out _ _ ⟨β x7 0,β i7 0,β i7 1⟩ ⟨(β q7 5).trans hcA,(β q7 6).trans hcB⟩ (λhS hT => ?_);have ho7':=JO
   have hS6:=JQ;clear hK K;have q8:=JP;have hk:(cs.setIfInBounds 5 (.slice A5 (n+1) c5))[6]? = some (.slice C1 n r1):=by rw [Array.getElem?_setIfInBounds_ne am];exact hcB
   have d7:=(β q7 5).trans hcA;have d8:=(β q8 6).trans hk;have f7:=JN;have f8:=JM;have bxq:q+1≠q:=ac
   have x8:=JT;have i8:=JS;refine tkE false 17 172 ?_;refine tkE false 18 173 ?_;refine stL 19 λK hK => ?_;go_simp;refine hK.out _ _ ⟨β x8 0,β i8 0,β i8 1⟩ (λhS => ?_);clear hK K;refine tkE false 20 174 ?_;refine tkE false 21 175 ?_;refine stL 22 λK hK => ?_;go_simp;refine hK.out _ _ ⟨β (cA x8 bxq _) 0,β (cA i8 hBi _) 0,β (cA i8 hBi _) 1⟩ (λhS => ?_);clear hK K;refine dY ?_ rfl _;rw [Vg 170 163];exact JR
 ·go_simp;refine hK.out _ _ ⟨β (aB x2 _) 0,β (aB i2 _) 0,β (aB i2 _) 1⟩ ⟨(β (aB q2 _) 5).trans hcA,(β (aB q2 _) 6).trans hcB⟩ (λhS hT => ?_);clear hK K;refine stE 7 λK hK => ?_;go_simp;refine hK.out _ _ ⟨β (aB (aB x2 _) _) 0,β (aB (aB i2 _) _) 0,β (aB (aB i2 _) _) 1⟩ ⟨(β (aB (aB q2 _) _) 5).trans hcA,(β (aB (aB q2 _) _) 6).trans hcB⟩ (λhS hT => ?_);clear hK K;have hlx:Below w2 w2 ((w2.alloc (.cells #[bd] 4)).alloc (.cells #[ptr g] 53)).drew:=((ρ).alloc aa _).drew;have hga:((w2.alloc (.cells #[bd] 4)).alloc (.cells #[ptr g] 53)).drew.heap[w2.heap.size+1]? = some (.cells #[ptr g] 53 (0,0)):=bG w2 _ _;have hgb:((w2.alloc (.cells #[bd] 4)).alloc (.cells #[ptr g] 53)).drew.heap[w2.heap.size]? = some (.cells #[bd] 4 (0,0)):=aB (heap_alloc_new w2 _) _;refine stE 8 λK hK => ?_;have hlW:=JC;have hnW:=hx.below hlx;have hp1:=hp.new hlW hnW;have o2:=hp1.o2;rw [hgl] at o2;have x3:=aA x2 hlx;have i3:=aA i2 hlx;have q3:=aA q2 hlx;refine bL _ rfl (.tmp 160) (.tmp 162) _ rfl B 53 iN _ 1 8 underlying46 hiN hz0 hz1 hz2 rfl ac C2 n r2 (gs.map ptr) oo o2 (some ⟨w2+1,0,none⟩) 1 1 [ptr g] oo rfl (aS [ptr g] hga) ?_ ?_ ?_ ?_ ?_
  ·simp [Value.oneCell',ptr]
  ·simp only [maxLen];omega
  ·omega
  ·exact hp1.hB
  intro A5 c5 w5 ho5 hb5 hg5 hk5;have x5:=JG;have i5:=JF;have q5:=JE;change K (Act.put _ (some 163) _) _;refine hK.out _ _ ⟨β x5 0,β i5 0,β i5 1⟩ ⟨(β q5 5).trans hcA,(β q5 6).trans hcB⟩ (λhS hT => ?_);have ho5':=JD
  have hp5:=JH;clear hK K hg5 ho5;have h56:=Below.refl w5 w5;have hgb6:=bV hk5 o2 hgb am;have hp6:=hp5.below h56;have o6:=hp6.o1;rw [hul] at o6;refine stE 16 λK hK => ?_;refine bL _ rfl (.tmp 167) (.tmp 170) _ rfl B 4 iB _ 1 1 underlying82 hiB hx0 hx1 hx2 rfl ac C1 n r1 us oo o6 (some ⟨w2,0,none⟩) 1 1 [.bool bd] oo rfl (aS [.bool bd] hgb6) ?_ ?_ ?_ ?_ ?_
  ·simp [Value.oneCell']
  ·simp only [maxLen];omega
  ·omega
  ·exact hp6.hB
  intro A7 c7 w7 ho7 hb7 hg7 hk7;have x7:=JL;have i7:=JK;have q7:=JJ;change K (Act.put _ (some 171) _) _;refine hK.out _ _ ⟨β x7 0,β i7 0,β i7 1⟩ ⟨(β q7 5).trans hcA,(β q7 6).trans hcB⟩ (λhS hT => ?_);have ho7':=JO
  have hS6:=JQ;clear hK K;have q8:=JP;have hk:(cs.setIfInBounds 5 (.slice A5 (n+1) c5))[6]? = some (.slice C1 n r1):=by rw [Array.getElem?_setIfInBounds_ne am];exact hcB
  have d7:=(β q7 5).trans hcA;have d8:=(β q8 6).trans hk;have f7:=JN;have f8:=JM;have bxq:q+1≠q:=ac
  have x8:=JT;have i8:=JS;refine tkE false 17 172 ?_;refine tkE false 18 173 ?_;refine stL 19 λK hK => ?_;go_simp;refine hK.out _ _ ⟨β x8 0,β i8 0,β i8 1⟩ (λhS => ?_);clear hK K;refine tkE false 20 174 ?_;refine tkE false 21 175 ?_;refine stL 22 λK hK => ?_;go_simp;refine hK.out _ _ ⟨β (cA x8 bxq _) 0,β (cA i8 hBi _) 0,β (cA i8 hBi _) 1⟩ (λhS => ?_);clear hK K;refine dY ?_ rfl _;rw [Vg 170 162,Vg 170 163];exact JR
end
