/-
 Contracts. Conditions: those of each.
-/
import Derived.Test.YtkolcimllghnaaaGreatDoorQdVM
set_option maxRecDepth 100000
set_option maxHeartbeats 8000000
namespace Go.Proofs.YtkolcimllghnaaaGreatDoor
open Lp Go.Proofs.Tryz
open Go.RowKit
variable{d:Bool}{T:ByteArray}{K K':List Nat}{P b c c5 g k n off:Nat}{S S' Z:Nat->Prop}{ob:Obj}{X:Option Lp.X}{rr:RC}{u6 u7:Value}{W w w' w0 w5:World}{s:ZS}{A A5:ZT}{vs:ZU}
def prc (p:RC×ZS×Bool):ZU:=p.1.cells++[.string ⟨p.2.1.toArray⟩,.bool p.2.2]
def prv (l:List (RC×ZS×Bool)):ZU:=l.flatMap prc
def RdS (S:Nat->Prop) (w:World) (A:ZT) (vs:ZU):Prop:=vs=[]∨∃ b off,A=some ⟨b,off,none⟩∧S b∧∀ (j:Nat) u,vs[j]? = some u->w.cell? ⟨b,off+j,none⟩=some u
theorem RdS.rds (h:RdS S w A vs):Rds w A vs:=h.imp id λ⟨b,off,h1,_,h3⟩=>⟨b,off,h1,h3⟩
theorem RdS.turn (ht:∀ g,S g->g<w.heap.size->S' g∧w'.heap[g]? = w.heap[g]?) (h:RdS S w A vs):RdS S' w' A vs:=by
 rcases h with h|⟨b,off,h1,h2,h3⟩
 ·exact .inl h
 ·cases vs with
  | nil=>exact .inl rfl
  | cons v vs =>
    obtain ⟨k1,k2⟩:=ht b h2 (World.block_lt_of_cell? w _ (h3 0 _ rfl));exact .inr ⟨b,off,h1,k1,λj u hu=>(World.cell?_of_block (w:=w) k2).trans (h3 j u hu)⟩
theorem RdS.own {B size:Nat} {e:TypeId} (h:w.ownsRow B e size (.slice A n c) n vs):RdS (λg=>B≤g) w A vs:=by
 rcases Nat.eq_zero_or_pos n with h0|h0
 ·left;exact af
 ·obtain ⟨b,cap,hv,hb, -⟩:=h.form h0;injection hv with hA _ _;subst hA;refine .inr ⟨b,0,rfl,hb,λj u hu => ?_⟩;have h1:=h.cells (g:=b) rfl j u hu;have e:=km
  rwa [e] at h1
def PRl (S:Nat->Prop) (w:World) (l:List (Lp.X×ZS×Bool)) (pr:List (RC×ZS×Bool)):Prop:=pr.map (·.2)=l.map (·.2)∧RXL S w (l.map (·.1)) (pr.map (·.1))
def PR (S:Nat->Prop) (w:World) (l:List (Lp.X×ZS×Bool)) (u:Value):Prop:=∃ A c pr,u=.slice A l.length c∧RdS S w A (prv pr)∧PRl S w l pr
def OXR (S:Nat->Prop) (w:World) (o:Option Lp.X) (u:Value):Prop:=match o with
 | none=>u=.slice none 0 0
 | some x=>∃ g rr,u=.slice (some ⟨g,0,none⟩) 1 1∧S g∧w.heap[g]? = some (.cells (RC.cells rr).toArray 60 (0,0))∧RX S w x rr
def GR (S:Nat->Prop) (w:World) (xs:List Lp.X) (u:Value):Prop:=∃ A c rs,u=.slice A xs.length c∧RdS S w A (rcv rs)∧RXL S w xs rs
def itL (s:Sel):List (Lp.X×ZS×Bool):=s.items.map λp=>(p.1,p.2,false)
def orL (s:Sel):List (Lp.X×ZS×Bool):=s.order.map λp=>(p.1,[],p.2)
def FldR (S:Nat->Prop) (w:World) (s:Sel) (j:Nat) (u:Value):Prop:=match j with
 | 0=>u=.int .u8 8
 | 7=>PR S w (itL s) u
 | 8=>OXR S w s.on u
 | 9=>OXR S w s.wh u
 | 10=>GR S w s.group u
 | 11=>PR S w (orL s) u
 | 12=>u=.int .i64 s.limit
 | _=>True
theorem qM (ht:∀ g,S g->g<w.heap.size->S' g∧w'.heap[g]? = w.heap[g]?) {x:Lp.X} {r:RC} (h:RX S w x r):RX S' w' x r:=RX.turn (λg _ h0 hg=>⟨(ht g h0 (aG hg)).1,(ht g h0 (aG hg)).2.trans hg⟩) h
theorem fZ (ht:∀ g,S g->g<w.heap.size->S' g∧w'.heap[g]? = w.heap[g]?) {xs:List Lp.X} {rs:List RC} (h:RXL S w xs rs):RXL S' w' xs rs:=RXL.turn (λg _ h0 hg=>⟨(ht g h0 (aG hg)).1,(ht g h0 (aG hg)).2.trans hg⟩) h
theorem PR.turn {S S':Nat->Prop} {w w':World} (ht:∀ g,S g->g<w.heap.size->S' g∧w'.heap[g]? = w.heap[g]?) {l:List (Lp.X×ZS×Bool)} {u:Value} (h:PR S w l u):PR S' w' l u:=by
 obtain ⟨A,c,pr,h1,h2,h3,h4⟩:=h;exact ⟨A,c,pr,h1,h2.turn ht,h3,fZ ht h4⟩
theorem OXR.turn (ht:∀ g,S g->g<w.heap.size->S' g∧w'.heap[g]? = w.heap[g]?) {o:Option Lp.X} {u:Value} (h:OXR S w o u):OXR S' w' o u:=by
 cases o with
 | none=>exact h
 | some x =>
   obtain ⟨g,rr,h1,h2,h3,h4⟩:=h;obtain ⟨k1,k2⟩:=ht g h2 (aG h3);exact ⟨g,rr,h1,k1,k2.trans h3,qM ht h4⟩
theorem GR.turn {S S':Nat->Prop} {w w':World} (ht:∀ g,S g->g<w.heap.size->S' g∧w'.heap[g]? = w.heap[g]?) {xs:List Lp.X} {u:Value} (h:GR S w xs u):GR S' w' xs u:=by
 obtain ⟨A,c,rs,h1,h2,h3⟩:=h;exact ⟨A,c,rs,h1,h2.turn ht,fZ ht h3⟩
theorem FldR.turn {S S':Nat->Prop} {w w':World} {s:Sel} (ht:∀ g,S g->g<w.heap.size->S' g∧w'.heap[g]? = w.heap[g]?) {j:Nat} {u:Value} (h:FldR S w s j u):FldR S' w' s j u:=by
 match j,h with
 | 0,h|12,h=>exact h
 | 7,h|11,h=>exact PR.turn ht h
 | 8,h|9,h=>exact OXR.turn ht h
 | 10,h=>exact GR.turn ht h
 | 1,_|2,_|3,_|4,_|5,_|6,_=>trivial
 | _+13,_=>trivial
def Zb (w0:World) (g:Nat):Prop:=w0.heap.size+2≤g
structure XC (P:Nat) (o:Option ZW) (S:Lp.SS) (K:List Nat) (w0 w:World):Prop where
 but:But P w0 w
 ro:RO P w o
 z:w.heap[w0.heap.size]? = some (.cells stZ.toArray 38 (0,0))
 x:∃ cs:ZU,Cs13 cs∧w.heap[w0.heap.size+1]? = some (.cells cs.toArray 38 (0,0))∧(∀ k∈K,cs[k]? = some (.slice none 0 0))∧∀ q,S=some q->∀ j u,cs[j]? = some u->FldR (Zb w0) w q.1 j u
theorem XC.next {o o':Option ZW} {S:Lp.SS} (h:XC P o S K w0 w) (hP:P<w0) (hb:But P w w') (hr:RO P w' o'):XC P o' S K w0 w':=by
 obtain ⟨h1,h2,h3,cs,h4,h5,h6,h7⟩:=h;exact ⟨h1.trans hb,hr,aL hb h3 (h2.box h3 am),cs,h4,aL hb h5 (h2.box h5 am),h6,λq hq j u hu=>(h7 q hq j u hu).turn λg hg hl=>⟨hg,hb.block g hl (by have:w0.heap.size+2≤g:=hg;omega)⟩⟩
theorem XC.below {P:Nat} {o:Option ZW} {S:Lp.SS} {K:List Nat} {w0 w w':World} (h:XC P o S K w0 w) (hb:Below w w w'):XC P o S K w0 w':=by
 obtain ⟨h1,h2,h3,cs,h4,h5,h6,h7⟩:=h;exact ⟨h1.trans (But.of hb),h2.below hb,aA h3 hb,cs,h4,aA h5 hb,h6,λq hq j u hu=>(h7 q hq j u hu).turn λg hg hl=>⟨hg,hb.block g hl⟩⟩
theorem XC.set {P:Nat} {o:Option ZW} {S:Lp.SS} {K:List Nat} {w0 w:World} (h:XC P o S K w0 w) (hP:P<w0) (j:Nat) (hj:j ∉ K) (v:Value) (hv:zL j v) (S':Lp.SS) (hS:∀ q',S'=some q'->∃ q,S=some q∧(∀ i u,i≠j->FldR (Zb w0) w q.1 i u->FldR (Zb w0) w q'.1 i u)∧FldR (Zb w0) w q'.1 j v):XC P o S' K w0 (w.setCell ⟨w0+1,j,none⟩ v):=by
 obtain ⟨h1,h2,h3,cs,h4,h5,h6,h7⟩:=h;have ht:∀ g,Zb w0 g->g<w.heap.size->Zb w0 g∧(w.setCell ⟨w0+1,j,none⟩ v).heap[g]? = w.heap[g]? := λg hg _=>⟨hg,Below.heap_setCell w ⟨w0+1,j,none⟩ v g (by have:w0.heap.size+2≤g:=hg;show g≠w0.heap.size+1;omega)⟩;refine ⟨bP h1 (Nat.le_succ _) _ _,h2.low (B:=w0) hP ((θ).setCell (p:=⟨w0+1,j,none⟩) (Nat.le_succ _) v),(Below.heap_setCell w ⟨w0+1,j,none⟩ v _ IY).trans h3,cs.set j v,h4.set hv, ?_,λk hk => ?_,λq' hq' i u hu => ?_⟩
 ·have:=heap_setCell_same w (w0+1) j _ _ v h5;rwa [List.setIfInBounds_toArray] at this
 ·rw [List.getElem?_set_ne IZ];exact h6 k hk
 ·obtain ⟨q,hq,k1,k2⟩:=hS q' hq'
  by_cases hij:j=i
  ·subst hij;rw [List.getElem?_set_self'] at hu;obtain ⟨_, -,rfl⟩:=Option.map_eq_some_iff.1 hu;exact k2.turn ht
  ·rw [List.getElem?_set_ne hij] at hu;exact (k1 i u (Ne.symm hij) (h7 q hq i u hu)).turn ht
theorem XC.up {o o':Option ZW} {S S':Lp.SS} (h:XC P o S K w0 w) (ho:o=o') (hK:∀ k∈K',k∈K) (hS:∀ q',S'=some q'->∃ q,S=some q∧∀ j u,FldR (Zb w0) w q.1 j u->FldR (Zb w0) w q'.1 j u):XC P o' S' K' w0 w:=by
 subst ho;obtain ⟨h1,h2,h3,cs,h4,h5,h6,h7⟩:=h;refine ⟨h1,h2,h3,cs,h4,h5,λk hk=>h6 k (hK k hk),λq' hq' j u hu => ?_⟩;obtain ⟨q,hq,k1⟩:=hS q' hq';exact k1 j u (h7 q hq j u hu)
theorem XC.at_ {o:Option ZW} {S:Lp.SS} (h:XC P o S K w0 w):(∀ j,w.frozen? ⟨w0+1,j,none⟩=false)∧∀ j,j<13->∃ u,w.cell? ⟨w0+1,j,none⟩=some u:=by
 obtain ⟨-, -, -,cs,h4,h5, -⟩:=h;refine ⟨λj=>frozen_of_row w _ j _ _ h5,λj hj=>⟨cs[j]' JA,(β h5 j).trans ?_⟩⟩;rw [γ,List.getElem?_eq_getElem JA]
structure LX (P k:Nat) (S:Lp.SS) (K:List Nat) (n:Nat) (A:ZT) (c:Nat) (vs:ZU) (M:Option (List (Lp.X×ZS×Bool))) (Z:Nat->Prop) (w0 w:World):Prop where
 but:But P w0 w
 z:w.heap[w0.heap.size]? = some (.cells stZ.toArray 38 (0,0))
 x:∃ cs:ZU,Cs13 cs∧w.heap[w0.heap.size+1]? = some (.cells cs.toArray 38 (0,0))∧cs[k]? = some (.slice A n c)∧(∀ j∈K,cs[j]? = some (.slice none 0 0))∧∀ q,S=some q->∀ j u,j≠k->cs[j]? = some u->FldR Z w q.1 j u
 own:w.ownsRow (w0+2) 72 10 (.slice A n c) n vs
 m:∀ l,M=some l->∃ pr,vs=prv pr∧PRl Z w l pr
 zz:∀ g,Z g->w0.heap.size+2≤g∧some g≠Value.ownBlock (.slice A n c)
theorem XC.lx {o:Option ZW} {S:Lp.SS} (h:XC P o S K w0 w) (hk:k∈K) (hK:∀ j∈K',j∈K):LX P k S K' 0 none 0 [] (some []) (eK (w0+2) (.slice none 0 0)) w0 w:=by
 obtain ⟨h1,h2,h3,cs,h4,h5,h6,h7⟩:=h;exact ⟨h1,h3,⟨cs,h4,h5,h6 k hk,λj hj=>h6 j (hK j hj),λq hq j u _ hu=>(h7 q hq j u hu).turn λg hg _=>⟨⟨hg,λe=>by cases e⟩,rfl⟩⟩,World.ownsRow_nil _ _ _ _,λl hl=>by injection hl with hl;subst hl;exact ⟨[],rfl,rfl,trivial⟩,λg hg=>hg⟩
theorem LX.next {S:Lp.SS} {M:Option (List (Lp.X×ZS×Bool))} {o:Option ZW} (h:LX P k S K n A c vs M Z w0 w) (hP:P<w0) (hr:RO P w o) (hb:But P w w'):LX P k S K n A c vs M Z w0 w':=by
 obtain ⟨h1,h3,⟨cs,h4,h5,h6,h7,h8⟩,h9,h10,h11⟩:=h;have ht:∀ g,Z g->g<w.heap.size->Z g∧w'.heap[g]? = w.heap[g]? := λg hg hl=>⟨hg,hb.block g hl (by have:=(h11 g hg).1;omega)⟩;exact ⟨h1.trans hb,aL hb h3 (hr.box h3 am),⟨cs,h4,aL hb h5 (hr.box h5 am),h6,h7,λq hq j u hj hu=>(h8 q hq j u hj hu).turn ht⟩,hr.own h9 hb am,λl hl=>by
  obtain ⟨pr,k1,k2,k3⟩:=h10 l hl;exact ⟨pr,k1,k2,fZ ht k3⟩,h11⟩
structure PtX (P k:Nat) (S:Lp.SS) (K:List Nat) (n:Nat) (A:ZT) (c:Nat) (vs:ZU) (M:Option (List (Lp.X×ZS×Bool))) (g:Nat) (rr:RC) (s:ZS) (d:Bool) (X:Option Lp.X) (w0 w:World):Prop where
 lx:LX P k S K n A c vs M (λj=>eK (w0+2) (.slice A n c) j∧j≠g) w0 w
 g0:w0.heap.size+2≤g
 gn:some g≠Value.ownBlock (.slice A n c)
 pt:w.heap[g]? = some (.cells (prc (rr,s,d)).toArray 72 (0,0))
 px:∀ x,X=some x->RX (λj=>eK (w0+2) (.slice A n c) j∧j≠g) w x rr
theorem PtX.next {P k:Nat} {S:Lp.SS} {K:List Nat} {n:Nat} {A:ZT} {c:Nat} {vs:ZU} {M:Option (List (Lp.X×ZS×Bool))} {g:Nat} {rr:RC} {s:ZS} {d:Bool} {X:Option Lp.X} {w0 w w':World} {o:Option ZW} (h:PtX P k S K n A c vs M g rr s d X w0 w) (hP:P<w0) (hr:RO P w o) (hb:But P w w'):PtX P k S K n A c vs M g rr s d X w0 w' :=
 ⟨h.lx.next hP hr hb,h.g0,h.gn,aL hb h.pt (hr.box h.pt am),λx hx=>qM (λj hj hl=>⟨hj,hb.block j hl (by have:=hj.1.1;omega)⟩) (h.px x hx)⟩
theorem PtX.new {S:Lp.SS} {M:Option (List (Lp.X×ZS×Bool))} {wr:World} {o:Option ZW} (h:LX P k S K n A c vs M (eK (w0+2) (.slice A n c)) w0 wr) (hP:P<w0) (hr:RO P wr o) (hb:But P wr w) (hx:∀ x,X=some x->RX (λg=>wr.heap.size≤g) w x rr) :
 PtX P k S K n A c vs M w rr s d X w0 (w.alloc (.cells (prc (rr,s,d)).toArray 72)):=by
 have h2:=h.next hP hr hb;have hbA:Below w w (w.alloc (.cells (prc (rr,s,d)).toArray 72)):=ρ;have hz:=h.own.lt;have hs:=h.x;obtain ⟨cs, -,h5, -⟩:=hs;have hl:=aG h5;have hbs:=hb.size;obtain ⟨h1,h3,⟨cs,h4,h5,h6,h7,h8⟩,h9,h10,h11⟩:=h2;have ht:∀ j,eK (w0+2) (.slice A n c) j->j<w.heap.size->(eK (w0+2) (.slice A n c) j∧j≠w.heap.size)∧(w.alloc (.cells (prc (rr,s,d)).toArray 72)).heap[j]? = w.heap[j]? := λj hj hl=>⟨⟨hj,ac⟩,hbA.block j hl⟩;refine ⟨⟨h1.trans (But.of hbA),aA h3 hbA,⟨cs,h4,aA h5 hbA,h6,h7,λq hq j u hj hu=>(h8 q hq j u hj hu).turn ht⟩,aN h9 hbA,λl hl => ?_,λj hj=>h11 j hj.1⟩,ac,λe=>by have:=(h9.lt _ e.symm).2;omega,heap_alloc_new w _,λx hx' => ?_⟩
 ·obtain ⟨pr,k1,k2,k3⟩:=h10 l hl;exact ⟨pr,k1,k2,fZ ht k3⟩
 ·exact qM (λj hj hl2=>⟨⟨⟨by have:wr.heap.size≤j:=hj;omega,λe=>by have:=(hz j e.symm).2;have:wr.heap.size≤j:=hj;omega⟩,ac⟩,hbA.block j hl2⟩) (hx x hx')
theorem PtX.set {P k:Nat} {S:Lp.SS} {K:List Nat} {n:Nat} {A:ZT} {c:Nat} {vs:ZU} {M:Option (List (Lp.X×ZS×Bool))} {g:Nat} {rr:RC} {s:ZS} {d:Bool} {X:Option Lp.X} {w0 w:World} (h:PtX P k S K n A c vs M g rr s d X w0 w) (j:Nat) (v:Value) (s':ZS) (d':Bool) (hv:(prc (rr,s,d)).set j v=prc (rr,s',d')):PtX P k S K n A c vs M g rr s' d' X w0 (w.setCell ⟨g,j,none⟩ v):=by
 obtain ⟨⟨h1,h3,⟨cs,h4,h5,h6,h7,h8⟩,h9,h10,h11⟩,h12,h13,h14,h15⟩:=h;have far:=JB;have ht:∀ i,(eK (w0+2) (.slice A n c) i∧i≠g)->i<w.heap.size->(eK (w0+2) (.slice A n c) i∧i≠g)∧(w.setCell ⟨g,j,none⟩ v).heap[i]? = w.heap[i]? := λi hi _=>⟨hi,far i hi.2⟩;have hs:=heap_setCell_same w g j _ _ v h14;rw [List.setIfInBounds_toArray,hv] at hs;refine ⟨⟨bP h1 ac _ _,(far _ ac).trans h3,⟨cs,h4,(far _ ac).trans h5,h6,h7,λq hq i u hi hu=>(h8 q hq i u hi hu).turn ht⟩,⟨h9.1, ?_⟩,λl hl => ?_,h11⟩,h12,h13,hs,λx hx=>qM ht (h15 x hx)⟩
 ·rcases h9.2 with k2|⟨g',cap,cur,k2,k3,k4,k5⟩
  ·exact .inl k2
  ·refine .inr ⟨g',cap,cur,k2,k3,(far g' ?_).trans k4,k5⟩;intro e;rw [k2] at h13;exact h13 pc
 ·obtain ⟨pr,k1,k2,k3⟩:=h10 l hl;exact ⟨pr,k1,k2,fZ ht k3⟩
theorem Nk {S:Lp.SS} {M M':Option (List (Lp.X×ZS×Bool))} (h:PtX P k S K n A c vs M g rr s d X w0 w) (hk:k ∉ K) (hkj:4≤k∧k≤11) (hM:∀ l',M'=some l'->∃ l x,M=some l∧X=some x∧l'=l++[(x,s,d)])
 (ho5:w5.ownsRow (w0+2) 72 10 (.slice A5 (n+1) c5) (n+1) (vs++prc (rr,s,d))) (hb5:Below (w0+2) (w.alloc ob) w5) (hk5:fL (w.alloc ob) w5 (Value.ownBlock (.slice A n c)) (Value.ownBlock (.slice A5 (n+1) c5))) :
 LX P k S K (n+1) A5 c5 (vs++prc (rr,s,d)) M' (eK (w0+2) (.slice A5 (n+1) c5)) w0 (w5.setCell ⟨w0+1,k,none⟩ (.slice A5 (n+1) c5)):=by
 obtain ⟨⟨h1,h3,⟨cs,h4,h5,h6,h7,h8⟩,h9,h10,h11⟩,h12,h13,h14,h15⟩:=h;have hlt:=aG h5;have hb15:Below (w0+2) w w5:=((Below.refl w w).alloc (ν _) ob |>.mono ac).trans hb5;have e3:=(hk5 _ _ (aB h3 ob) (cU (h9.alloc ob) (aB h3 ob) am)).1;have e5:=(hk5 _ _ (aB h5 ob) (cU (h9.alloc ob) (aB h5 ob) am)).1;have e6:=heap_setCell_same w5 (w0+1) k _ _ (.slice A5 (n+1) c5) e5;rw [List.setIfInBounds_toArray] at e6;have ht:∀ i,(eK (w0+2) (.slice A n c) i∧i≠g)->i<w.heap.size->eK (w0+2) (.slice A5 (n+1) c5) i∧(w5.setCell ⟨w0+1,k,none⟩ (.slice A5 (n+1) c5)).heap[i]? = w.heap[i]? := λi hi hl=>by
  obtain ⟨o,ho⟩:∃ o,w.heap[i]? = some o:=⟨w.heap[i],by simp [hl]⟩;obtain ⟨k1,k2⟩:=hk5 i o (aB ho ob) hi.1.2;refine ⟨⟨hi.1.1,k2⟩,(Below.heap_setCell w5 ⟨w0+1,k,none⟩ _ i ?_).trans (k1.trans ho.symm)⟩;have:=hi.1.1;show i≠w0.heap.size+1;omega
 refine ⟨bP (h1.lowr (hb15.mono ac)) (Nat.le_succ _) _ _,(Below.heap_setCell w5 ⟨w0+1,k,none⟩ _ _ IY).trans e3,⟨cs.set k (.slice A5 (n+1) c5),h4.set (oQ hkj.1 hkj.2 _ _ _),e6, ?_,λj hj => ?_,λq hq j u hj hu => ?_⟩,lJ ho5 e5 am,λl' hl' => ?_,λi hi=>hi⟩
 ·have:k<cs.length:=by
   rcases Nat.lt_or_ge k cs.length with h|h
   ·exact h
   ·rw [List.getElem?_eq_none h] at h6;cases h6
  simp [this]
 ·rw [List.getElem?_set_ne (by rintro rfl;exact hk hj)];exact h7 j hj
 ·rw [List.getElem?_set_ne (Ne.symm hj)] at hu;exact (h8 q hq j u hj hu).turn ht
 ·obtain ⟨l,x,m1,m2,rfl⟩:=hM l' hl';obtain ⟨pr,k1,k2,k3⟩:=h10 l m1;refine ⟨pr++[(rr,s,d)],by rw [k1];simp [prv],by rw [List.map_append,List.map_append,k2];rfl, ?_⟩;rw [List.map_append,List.map_append];exact RXL.app (fZ ht k3) (qM ht (h15 x m2))
theorem LX.row {S:Lp.SS} {M:Option (List (Lp.X×ZS×Bool))} (h:LX P k S K n A c vs M Z w0 w):w.cell? ⟨w0+1,k,none⟩=some (.slice A n c)∧(∀ j,w.frozen? ⟨w0+1,j,none⟩=false)∧∀ o,(w.alloc o).cell? ⟨w0+1,k,none⟩=some (.slice A n c):=by
 obtain ⟨cs, -,h5,h6, -⟩:=h.x;exact ⟨(β h5 k).trans KJ,λj=>frozen_of_row w _ j _ _ h5,λo=>(β (aB h5 o) k).trans KJ⟩
theorem LX.keep {S:Lp.SS} {M:Option (List (Lp.X×ZS×Bool))} (h:LX P k S K n A c vs M Z w0 w) (hk5:fL (w.alloc ob) w5 (Value.ownBlock (.slice A n c)) (Value.ownBlock (.slice A5 (n+1) c5))):w5.cell? ⟨w0+1,k,none⟩=some (.slice A n c)∧∀ j,w5.frozen? ⟨w0+1,j,none⟩=false:=by
 obtain ⟨cs, -,h5,h6, -⟩:=h.x;have e5:=(hk5 _ _ (aB h5 ob) (cU (h.own.alloc ob) (aB h5 ob) am)).1;exact ⟨(β e5 k).trans KJ,λj=>frozen_of_row w5 _ j _ _ e5⟩
theorem LX.xc {S S':Lp.SS} {M:Option (List (Lp.X×ZS×Bool))} {o:Option ZW} (h:LX P k S K n A c vs M Z w0 w) (hr:RO P w o) (hS:∀ q',S'=some q'->∃ q l,S=some q∧M=some l∧l.length=n∧(∀ i u,i≠k->FldR (Zb w0) w q.1 i u->FldR (Zb w0) w q'.1 i u)∧∀ u,PR (Zb w0) w l u->FldR (Zb w0) w q'.1 k u):XC P o S' K w0 w:=by
 obtain ⟨h1,h3,⟨cs,h4,h5,h6,h7,h8⟩,h9,h10,h11⟩:=h;have ht:∀ g,Z g->g<w.heap.size->Zb w0 g∧w.heap[g]? = w.heap[g]? := λg hg _=>⟨(h11 g hg).1,rfl⟩;refine ⟨h1,hr,h3,cs,h4,h5,h7,λq' hq' j u hu => ?_⟩;obtain ⟨q,l,a1,a2,a3,a4,a5⟩:=hS q' hq'
 by_cases hj:j=k
 ·subst hj;rw [h6] at hu;injection hu with hu;subst hu;obtain ⟨pr,k1,k2,k3⟩:=h10 l a2;exact a5 _ ⟨A,c,pr,by rw [a3],k1▸RdS.own h9,k2,fZ ht k3⟩
 ·exact a4 j u hj ((h8 q a1 j u hj hu).turn ht)
def rcT (T:ByteArray):RC:=⟨2,0,0,⟨#[]⟩,false,⟨#[]⟩,T,none,0,0⟩
theorem wT (T:ByteArray) (w:World):Calls prog 41 #[(rcT T).val] w λe w'=>e=.returned (.string T)∧Below w w w':=by
 have HB:=κ (show Below w w (w.alloc (.cells #[.int .u8 2,.int .u8 0,.int .i64 0,(),false,(),T,.slice none 0 0] 60)) from ρ);simp only [RC.val,rcT];go_enter func41,ntmps41;go_wp2;go_ret;exact sm
theorem qJ (T:ByteArray) (w0 W:World) (hb:Below w0 w0 W):Calls prog 41 #[(rcT T).val] W λe w'=>e=.returned (.string T)∧Below w0 w0 w' :=
 (wT T W).mono λ_ _ ⟨h1,h2⟩=>⟨h1,hb.trans (h2.mono hb.size)⟩
theorem Tq (w:World):Calls prog 41 #[(rc0 6 aJ).val] w λe w'=>e=.returned (.string rP)∧Below w w w':=by
 have HB:=κ (show Below w w (w.alloc (.cells #[.int .u8 6,.int .u8 0,.int .i64 0,(),false,(),.string ⟨#[67,79,85,78,84]⟩,.slice none 0 0] 60)) from ρ);simp only [RC.val,rc0,aJ];go_enter func41,ntmps41;go_wp2;go_ret;exact sm
theorem Ju (k i:Int) (s:ZS) (b:Bool) (w:World) (hi:inR i) (hs:s.length≤1000000):Calls prog 41 #[(rcL k i s b).val] w λe w'=>e=.returned (.string (yB k i s b))∧Below w w w':=by
 have hb0:=FR;have hs2:(s:ByteArray).size≤1000000:=by show s.toArray.size≤_;rw [List.size_toArray];exact hs
 have HL:=κ (λW=>Wc k i s b W hi hs2);have hsz:=Hi k i s b hi hs2;obtain ⟨T,hTT⟩:∃ T:ByteArray,T=⟨(Lp.lit ⟨k,i,⟨s.toArray⟩,b⟩).toArray⟩:=cw;rw [<-hTT] at HL hsz;have HTT:=κ hTT;have HB:=sv;simp only [RC.val,rcL];clear hTT hi hs hs2 hb0;generalize (s:ByteArray)=sb at *
 by_cases h1:k=1
 ·have e1:(k==1)=true:=beq_iff_eq.2 h1
  by_cases h2:i<0
  ·have HE:=κ (Hk HTT.o h1 h2);clear h1;go_enter func41,ntmps41;go_wp2_with fail;refine (HL.o _).mono ?_;rintro e w' ⟨rfl,hb⟩;have HB2:=ua;clear hb;go_wp2;go_ret;exact GV
  ·have HE:=κ (sS HTT.o (λh=>h2 h.2));clear h1;go_enter func41,ntmps41;go_wp2_with fail;refine (HL.o _).mono ?_;rintro e w' ⟨rfl,hb⟩;have HB2:=ua;clear hb;go_wp2;go_ret;exact GV
 ·have e1:(k==1)=false:=η h1;have HE:=κ (sS HTT.o (λh=>h1 h.1));clear h1;go_enter func41,ntmps41;go_wp2_with fail;refine (HL.o _).mono ?_;rintro e w' ⟨rfl,hb⟩;have HB2:=ua;clear hb;go_wp2;go_ret;exact GV
def TCell (w:World) (b off:Nat) (T:ByteArray):Prop :=
 w.cell? ⟨b,off,none⟩=some (.int .u8 2)∧w.cell? ⟨b,off+1,none⟩=some (.int .u8 0)∧w.cell? ⟨b,off+2,none⟩=some (.int .i64 0)∧w.cell? ⟨b,off+3,none⟩=some (.string ⟨#[]⟩)∧w.cell? ⟨b,off+4,none⟩=some (.bool false)∧w.cell? ⟨b,off+5,none⟩=some (.string ⟨#[]⟩)∧w.cell? ⟨b,off+6,none⟩=some (.string T)∧w.cell? ⟨b,off+7,none⟩=some (.slice none 0 0)
theorem TCell.below (h:TCell w b off T) (hb:Below w w w'):TCell w' b off T :=
 ⟨bW h.1 hb,bW h.2.1 hb,bW h.2.2.1 hb,bW h.2.2.2.1 hb,bW h.2.2.2.2.1 hb,bW h.2.2.2.2.2.1 hb,bW h.2.2.2.2.2.2.1 hb,bW h.2.2.2.2.2.2.2 hb⟩
theorem oY {Ts:List ByteArray} (h:Rds w A (rcs (Ts.map rcT))) {i:Nat} (hi:i<Ts.length):∃ b off,A=some ⟨b,off,none⟩∧TCell w b (off+i*8) Ts[i]:=by
 obtain ⟨b,off,hA,q0,q1,q2,q3,q4,q5,q6,q7⟩:=iW h (i:=i) mq;simp only [List.getElem_map,rcT] at q0 q1 q2 q3 q4 q5 q6 q7;exact ⟨b,off,hA,q0,q1,q2,q3,q4,q5,q6,q7⟩
theorem wS (hb:Below w w W) (h6:w.cell? ⟨g,6,none⟩=some u6) (h7:w.cell? ⟨g,7,none⟩=some u7) (h:TCell w b off T) :
 W.cell? ⟨g,6,none⟩=some u6∧W.cell? ⟨g,7,none⟩=some u7∧W.cell? ⟨b,off,none⟩=some (.int .u8 2)∧W.cell? ⟨b,off+1,none⟩=some (.int .u8 0)∧W.cell? ⟨b,off+2,none⟩=some (.int .i64 0)∧W.cell? ⟨b,off+3,none⟩=some (.string ⟨#[]⟩)∧W.cell? ⟨b,off+4,none⟩=some (.bool false)∧W.cell? ⟨b,off+5,none⟩=some (.string ⟨#[]⟩)∧W.cell? ⟨b,off+6,none⟩=some (.string T)∧W.cell? ⟨b,off+7,none⟩=some (.slice none 0 0):=⟨bW h6 hb,bW h7 hb,h.below hb⟩
theorem aBT (op:ZS) (hop:op.length≤10) (T:ByteArray) (hT:T.size≤50000000) (A:ZT) (c:Nat) (w:World) (h:Rds w A (rcs [rcT T])) :
 Calls prog 41 #[.agg #[.int .u8 3,.int .u8 0,.int .i64 0,(),false,(),op,.slice A 1 c]] w λe w'=>e=.returned (.string (⟨#[40]⟩++⟨op.toArray⟩++⟨#[32]⟩++T++⟨#[41]⟩))∧Below w w w':=by
 have hb0:Below w w (w.alloc (.cells #[.int .u8 3,.int .u8 0,.int .i64 0,(),false,(),op,.slice A 1 c] 60)):=ρ;obtain ⟨b,off,hA,ht⟩:=GX;subst hA;have hc:=β (heap_alloc_new w (.cells #[.int .u8 3,.int .u8 0,.int .i64 0,(),false,(),op,.slice (some ⟨b,off,none⟩) 1 c] 60));have hsO:=GW
 obtain ⟨Y1,y1,z1,A1⟩:=dG ⟨#[40]⟩ op (ν _) hsO am;obtain ⟨Y2,y2,z2,A2⟩:=ET;obtain ⟨Y3,y3,z3,A3⟩:=dG Y2 T z2 hT am;obtain ⟨Y4,y4,z4,A4⟩:=dG Y3 ⟨#[41]⟩ z3 (ν _) am;rw [y1,y2,y3,y4];have HB:=sv;clear hb0 h hsO y1 y2 y3 y4 z1 z2 z3 z4 hT hop;simp only [Nat.zero_mul,Nat.add_zero,List.getElem_cons_zero] at ht;have HX:=κ (qJ T (w.alloc (.cells #[.int .u8 3,.int .u8 0,.int .i64 0,(),false,(),op,.slice (some ⟨b,off,none⟩) 1 c] 60)));generalize (op:ByteArray)=O at *;have c0:=hc 0;have c6:=hc 6;have c7:=hc 7;simp only [γ,δ,ε] at c0 c6 c7;have t0:=ht;obtain ⟨q0,q1,q2,q3,q4,q5,q6,q7⟩:=ht;clear hc;go_enter func41,ntmps41;go_wp2_with fail
 go_region_held3 (λw'=>w'.cell? ⟨w,6,none⟩=some (.string O)∧w'.cell? ⟨w,7,none⟩=some (.slice (some ⟨b,off,none⟩) 1 c)∧w'.cell? ⟨b,off,none⟩=some (.int .u8 2)∧w'.cell? ⟨b,off+1,none⟩=some (.int .u8 0)∧w'.cell? ⟨b,off+2,none⟩=some (.int .i64 0)∧w'.cell? ⟨b,off+3,none⟩=some (.string ⟨#[]⟩)∧w'.cell? ⟨b,off+4,none⟩=some (.bool false)∧w'.cell? ⟨b,off+5,none⟩=some (.string ⟨#[]⟩)∧w'.cell? ⟨b,off+6,none⟩=some (.string T)∧w'.cell? ⟨b,off+7,none⟩=some (.slice none 0 0))
  (first|go_keep|exact hd2)
  ((go_at_call 41;refine (HX.o _ EU).mono ?_;rintro e w2 ⟨rfl,hb⟩;have hd2:=wS hb c6 c7 t0))
 all_goals
  go_wp2;go_ret;exact EP
theorem wR {T2:ByteArray} (hb:Below w w W) (h6:w.cell? ⟨g,6,none⟩=some u6) (h7:w.cell? ⟨g,7,none⟩=some u7) (h:TCell w b off T) (h2:TCell w b (off+8) T2) :
 W.cell? ⟨g,6,none⟩=some u6∧W.cell? ⟨g,7,none⟩=some u7∧(W.cell? ⟨b,off,none⟩=some (.int .u8 2)∧W.cell? ⟨b,off+1,none⟩=some (.int .u8 0)∧W.cell? ⟨b,off+2,none⟩=some (.int .i64 0)∧W.cell? ⟨b,off+3,none⟩=some (.string ⟨#[]⟩)∧W.cell? ⟨b,off+4,none⟩=some (.bool false)∧W.cell? ⟨b,off+5,none⟩=some (.string ⟨#[]⟩)∧W.cell? ⟨b,off+6,none⟩=some (.string T)∧W.cell? ⟨b,off+7,none⟩=some (.slice none 0 0))∧W.cell? ⟨b,off+8,none⟩=some (.int .u8 2)∧W.cell? ⟨b,off+8+1,none⟩=some (.int .u8 0)∧W.cell? ⟨b,off+8+2,none⟩=some (.int .i64 0)∧W.cell? ⟨b,off+8+3,none⟩=some (.string ⟨#[]⟩)∧W.cell? ⟨b,off+8+4,none⟩=some (.bool false)∧W.cell? ⟨b,off+8+5,none⟩=some (.string ⟨#[]⟩)∧W.cell? ⟨b,off+8+6,none⟩=some (.string T2)∧W.cell? ⟨b,off+8+7,none⟩=some (.slice none 0 0):=⟨bW h6 hb,bW h7 hb,h.below hb,h2.below hb⟩
theorem Tt (op:ZS) (hop:op.length≤10) (T:ByteArray) (hT:T.size≤50000000) (A:ZT) (c:Nat) (w:World) (h:Rds w A (rcs [rcT T])) :
 Calls prog 41 #[.agg #[.int .u8 6,.int .u8 0,.int .i64 0,(),false,(),op,.slice A 1 c]] w λe w'=>e=.returned (.string (⟨op.toArray⟩++⟨#[40]⟩++T++⟨#[41]⟩))∧Below w w w':=by
 have hb0:Below w w (w.alloc (.cells #[.int .u8 6,.int .u8 0,.int .i64 0,(),false,(),op,.slice A 1 c] 60)):=ρ;obtain ⟨b,off,hA,ht⟩:=GX;subst hA;have hc:=β (heap_alloc_new w (.cells #[.int .u8 6,.int .u8 0,.int .i64 0,(),false,(),op,.slice (some ⟨b,off,none⟩) 1 c] 60));have hsO:=GW
 obtain ⟨Y1,y1,z1,A1⟩:=dG op ⟨#[40]⟩ hsO (ν _) am;obtain ⟨Y2,y2,z2,A2⟩:=dG Y1 T z1 hT am;obtain ⟨Y3,y3,z3,A3⟩:=dG Y2 ⟨#[41]⟩ z2 (ν _) am;rw [y1,y2,y3];have HB:=sv;clear hb0 h hsO y1 y2 y3 z1 z2 z3 hT hop;simp only [Nat.zero_mul,Nat.add_zero,List.getElem_cons_zero] at ht;have HX:=κ (qJ T (w.alloc (.cells #[.int .u8 6,.int .u8 0,.int .i64 0,(),false,(),op,.slice (some ⟨b,off,none⟩) 1 c] 60)));generalize (op:ByteArray)=O at *;have c0:=hc 0;have c6:=hc 6;have c7:=hc 7;simp only [γ,δ,ε] at c0 c6 c7;have t0:=ht;obtain ⟨q0,q1,q2,q3,q4,q5,q6,q7⟩:=ht;clear hc;go_enter func41,ntmps41;go_wp2_with fail
 go_region_held3 (λw'=>w'.cell? ⟨w,6,none⟩=some (.string O)∧w'.cell? ⟨w,7,none⟩=some (.slice (some ⟨b,off,none⟩) 1 c)∧w'.cell? ⟨b,off,none⟩=some (.int .u8 2)∧w'.cell? ⟨b,off+1,none⟩=some (.int .u8 0)∧w'.cell? ⟨b,off+2,none⟩=some (.int .i64 0)∧w'.cell? ⟨b,off+3,none⟩=some (.string ⟨#[]⟩)∧w'.cell? ⟨b,off+4,none⟩=some (.bool false)∧w'.cell? ⟨b,off+5,none⟩=some (.string ⟨#[]⟩)∧w'.cell? ⟨b,off+6,none⟩=some (.string T)∧w'.cell? ⟨b,off+7,none⟩=some (.slice none 0 0))
  (first|go_keep|exact hd2)
  ((go_at_call 41;refine (HX.o _ EU).mono ?_;rintro e w2 ⟨rfl,hb⟩;have hd2:=wS hb c6 c7 t0))
 all_goals
  go_wp2;go_ret;exact EP
theorem Tp (n:Bool) (T:ByteArray) (hT:T.size≤50000000) (A:ZT) (c:Nat) (w:World) (h:Rds w A (rcs [rcT T])) :
 Calls prog 41 #[.agg #[.int .u8 5,.int .u8 0,.int .i64 0,(),false,(),.string ⟨(if n then fG else []).toArray⟩,.slice A 1 c]] w λe w'=>e=.returned (.string (⟨#[40]⟩++T++⟨(32::(isN n++[41])).toArray⟩))∧Below w w w':=by
 have key:∀ (op:ZS) (bb:Bool) (V:ByteArray),(op==[78,79,84])=bb->V=(if bb then ⟨#[32,73,83,32,78,79,84,32,78,85,76,76,41]⟩ else ⟨#[32,73,83,32,78,85,76,76,41]⟩)->Calls prog 41 #[.agg #[.int .u8 5,.int .u8 0,.int .i64 0,(),false,(),op,.slice A 1 c]] w λe w'=>e=.returned (.string (⟨#[40]⟩++T++V))∧Below w w w':=by
  intro op bb V ho hV;have hb0:Below w w (w.alloc (.cells #[.int .u8 5,.int .u8 0,.int .i64 0,(),false,(),op,.slice A 1 c] 60)):=ρ;obtain ⟨b,off,hA,ht⟩:=GX;subst hA;have hc:=β (heap_alloc_new w (.cells #[.int .u8 5,.int .u8 0,.int .i64 0,(),false,(),op,.slice (some ⟨b,off,none⟩) 1 c] 60));have HB:=sv;simp only [Nat.zero_mul,Nat.add_zero,List.getElem_cons_zero] at ht;obtain ⟨q0,q1,q2,q3,q4,q5,q6,q7⟩:=ht;obtain ⟨Y1,y1,z1,A1⟩:=dG ⟨#[40]⟩ T (ν _) hT am;clear hb0 h hT;cases bb
  all_goals
   simp only [φ,if_false,if_true] at hV;obtain ⟨Y2,y2,z2,A2⟩:=dG Y1 V (n:=20) z1 (by rw [hV];decide) am;rw [y1,y2];subst hV;clear y1 y2 z1 z2;go_enter func41,ntmps41;go_wp2_with fail;refine (wT T _).mono ?_;rintro e w2 ⟨rfl,hb⟩;have HQ:=ua;clear hb;go_wp2;go_ret;exact ⟨rfl,HQ.o⟩
 cases n
 ·exact key [] false _ am rfl
 ·exact key fG true _ am rfl
theorem Tr (op:ZS) (hop:op.length≤10) (T T2:ByteArray) (hT:T.size≤50000000) (hT2:T2.size≤50000000) (A:ZT) (c:Nat) (w:World) (h:Rds w A (rcs [rcT T,rcT T2])) :
 Calls prog 41 #[.agg #[.int .u8 4,.int .u8 0,.int .i64 0,(),false,(),op,.slice A 2 c]] w λe w'=>e=.returned (.string (⟨#[40]⟩++T++⟨#[32]⟩++⟨op.toArray⟩++⟨#[32]⟩++T2++⟨#[41]⟩))∧Below w w w':=by
 have hb0:Below w w (w.alloc (.cells #[.int .u8 4,.int .u8 0,.int .i64 0,(),false,(),op,.slice A 2 c] 60)):=ρ;obtain ⟨b,off,hA,ht⟩:=oY (Ts:=[T,T2]) (h.below hb0) (i:=0) aa;obtain ⟨b',off',hA',ht2⟩:=oY (Ts:=[T,T2]) (h.below hb0) (i:=1) aa;subst hA;simp only [Option.some.injEq,Addr.mk.injEq,and_true] at hA';obtain ⟨rfl,rfl⟩:=hA';have hc:=β (heap_alloc_new w (.cells #[.int .u8 4,.int .u8 0,.int .i64 0,(),false,(),op,.slice (some ⟨b,off,none⟩) 2 c] 60));have hsO:=GW
 obtain ⟨Y1,y1,z1,A1⟩:=dG ⟨#[40]⟩ T (ν _) hT am;obtain ⟨Y2,y2,z2,A2⟩:=ET;obtain ⟨Y3,y3,z3,A3⟩:=dG Y2 op z2 hsO am;obtain ⟨Y4,y4,z4,A4⟩:=dG Y3 ⟨#[32]⟩ z3 (ν _) am;obtain ⟨Y5,y5,z5,A5⟩:=dG Y4 T2 z4 hT2 am;obtain ⟨Y6,y6,z6,A6⟩:=dG Y5 ⟨#[41]⟩ z5 (ν _) am;rw [y1,y2,y3,y4,y5,y6];have HB:=sv;clear hb0 h hsO y1 y2 y3 y4 y5 y6 z1 z2 z3 z4 z5 z6 hT hT2 hop;simp only [Nat.zero_mul,Nat.one_mul,Nat.add_zero,List.getElem_cons_zero,List.getElem_cons_succ] at ht ht2;have HX:=κ (qJ T (w.alloc (.cells #[.int .u8 4,.int .u8 0,.int .i64 0,(),false,(),op,.slice (some ⟨b,off,none⟩) 2 c] 60)));have HX2:=κ (qJ T2 (w.alloc (.cells #[.int .u8 4,.int .u8 0,.int .i64 0,(),false,(),op,.slice (some ⟨b,off,none⟩) 2 c] 60)));generalize (op:ByteArray)=O at *;have c0:=hc 0;have c6:=hc 6;have c7:=hc 7;simp only [γ,δ,ε] at c0 c6 c7;have t0:=ht;have t2:=ht2;obtain ⟨q0,q1,q2,q3,q4,q5,q6,q7⟩:=ht;obtain ⟨r0,r1,r2,r3,r4,r5,r6,r7⟩:=ht2;clear hc;go_enter func41,ntmps41;go_wp2_with fail
 go_region_held3 (λw'=>w'.cell? ⟨w,6,none⟩=some (.string O)∧w'.cell? ⟨w,7,none⟩=some (.slice (some ⟨b,off,none⟩) 2 c)∧(w'.cell? ⟨b,off,none⟩=some (.int .u8 2)∧w'.cell? ⟨b,off+1,none⟩=some (.int .u8 0)∧w'.cell? ⟨b,off+2,none⟩=some (.int .i64 0)∧w'.cell? ⟨b,off+3,none⟩=some (.string ⟨#[]⟩)∧w'.cell? ⟨b,off+4,none⟩=some (.bool false)∧w'.cell? ⟨b,off+5,none⟩=some (.string ⟨#[]⟩)∧w'.cell? ⟨b,off+6,none⟩=some (.string T)∧w'.cell? ⟨b,off+7,none⟩=some (.slice none 0 0))∧w'.cell? ⟨b,off+8,none⟩=some (.int .u8 2)∧w'.cell? ⟨b,off+8+1,none⟩=some (.int .u8 0)∧w'.cell? ⟨b,off+8+2,none⟩=some (.int .i64 0)∧w'.cell? ⟨b,off+8+3,none⟩=some (.string ⟨#[]⟩)∧w'.cell? ⟨b,off+8+4,none⟩=some (.bool false)∧w'.cell? ⟨b,off+8+5,none⟩=some (.string ⟨#[]⟩)∧w'.cell? ⟨b,off+8+6,none⟩=some (.string T2)∧w'.cell? ⟨b,off+8+7,none⟩=some (.slice none 0 0))
  (first|go_keep|exact hd2)
  ((first
    | (go_at_call_of 41 (Value.agg #[.int .u8 2,.int .u8 0,.int .i64 0,(),false,(),T,.slice none 0 0]);refine (HX.o _ EU).mono ?_;rintro e w2 ⟨rfl,hb⟩;have hd2:=wR hb c6 c7 t0 t2)
    | (go_at_call_of 41 (Value.agg #[.int .u8 2,.int .u8 0,.int .i64 0,(),false,(),T2,.slice none 0 0]);refine (HX2.o _ EU).mono ?_;rintro e w2 ⟨rfl,hb⟩;have hd2:=wR hb c6 c7 t0 t2)))
 all_goals
  go_wp2;go_ret;exact EP
