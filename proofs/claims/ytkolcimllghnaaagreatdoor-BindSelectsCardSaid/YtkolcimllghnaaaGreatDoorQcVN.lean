/-
 Contracts. Conditions: those of each.
-/
import Derived.Test.YtkolcimllghnaaaGreatDoorQcVM
import Derived.ProofKit
import Derived.OpenShut
import Derived.ShutString
import Derived.ChangeOld
import Derived.ChangeArms
import Derived.ChangeSame
import Derived.Deep.Slices
import Derived.Deep.Fields
set_option maxRecDepth 100000
set_option maxHeartbeats 8000000
namespace Go.Proofs.YtkolcimllghnaaaGreatDoor
open Lp
open Go.RowKit
variable{d:Bool}{K K':List Nat}{P c c5 k n:Nat}{S S' Z:Nat->Prop}{ob:Obj}{X:Option Lp.X}{rr:RC}{w w' w0 w5:World}{s:ZS}{A A5:ZT}{vs:ZU}
def prc (p:RC×ZS×Bool):ZU:=p.1.cells++[.string ⟨p.2.1.toArray⟩,.bool p.2.2]
def prv (l:List (RC×ZS×Bool)):ZU:=l.flatMap prc
def RdS (S:Nat->Prop) (w:World) (A:ZT) (vs:ZU):Prop:=vs=[]\/∃ b off,A=some ⟨b,off,none⟩/\S b/\∀ (j:Nat) u,vs[j]? = some u->w.cell? ⟨b,off+j,none⟩=some u
theorem RdS.rds (h:RdS S w A vs):Rds w A vs:=h.imp id λ⟨b,off,h1,_,h3⟩=>⟨b,off,h1,h3⟩
theorem RdS.turn (ht:∀ g,S g->g<w.heap.size->S' g/\w'.heap[g]? = w.heap[g]?) (h:RdS S w A vs):RdS S' w' A vs:=by
 rcases h with h|⟨b,off,h1,h2,h3⟩
 ·exact .inl h
 ·cases vs with
  | nil=>exact .inl rfl
  | cons v vs =>
    obtain ⟨k1,k2⟩:=ht b h2 (World.block_lt_of_cell? w _ (h3 0 _ rfl));exact .inr ⟨b,off,h1,k1,λj u hu=>(World.cell?_of_block (w:=w) k2).trans (h3 j u hu)⟩
theorem RdS.own {B size:Nat} {e:TypeId} (h:w.ownsRow B e size (.slice A n c) n vs):RdS (λg=>B<=g) w A vs:=by
 rcases Nat.eq_zero_or_pos n with h0|h0
 ·left;exact af
 ·obtain ⟨b,cap,hv,hb, -⟩:=h.form h0;injection hv with hA _ _;subst hA;refine .inr ⟨b,0,rfl,hb,λj u hu => ?_⟩;have h1:=h.cells (g:=b) rfl j u hu;have e:=ra
  rwa [e] at h1
def PRl (S:Nat->Prop) (w:World) (l:List (Lp.X×ZS×Bool)) (pr:List (RC×ZS×Bool)):Prop:=pr.map (·.2)=l.map (·.2)/\RXL S w (l.map (·.1)) (pr.map (·.1))
def PR (S:Nat->Prop) (w:World) (l:List (Lp.X×ZS×Bool)) (u:Value):Prop:=∃ A c pr,u=.slice A l.length c/\RdS S w A (prv pr)/\PRl S w l pr
def OXR (S:Nat->Prop) (w:World) (o:Option Lp.X) (u:Value):Prop:=match o with
 | none=>u=.slice none 0 0
 | some x=>∃ g rr,u=.slice (some ⟨g,0,none⟩) 1 1/\S g/\w.heap[g]? = some (.cells (RC.cells rr).toArray 60 (0,0))/\RX S w x rr
def GR (S:Nat->Prop) (w:World) (xs:List Lp.X) (u:Value):Prop:=∃ A c rs,u=.slice A xs.length c/\RdS S w A (rcv rs)/\RXL S w xs rs
def itL (s:Sel):List (Lp.X×ZS×Bool):=s.items.map λp=>(p.1,p.2,false)
def orL (s:Sel):List (Lp.X×ZS×Bool):=s.order.map λp=>(p.1,[],p.2)
def FldR (S:Nat->Prop) (w:World) (s:Sel) (j:Nat) (u:Value):Prop:=match j with
 | 0=>u=.int .u8 8
 | 7=>PR S w (itL s) u
 | 8=>OXR S w s.on u
 | 9=>OXR S w s.wh u
 | 10=>GR S w s.group u
 | 11=>PR S w (orL s) u
 | 12=>u=.int .i64 s.limit
 | _=>True
theorem qM (ht:∀ g,S g->g<w.heap.size->S' g/\w'.heap[g]? = w.heap[g]?) {x:Lp.X} {r:RC} (h:RX S w x r):RX S' w' x r:=RX.turn (λg _ h0 hg=>⟨(ht g h0 (aG hg)).1,(ht g h0 (aG hg)).2.trans hg⟩) h
theorem fZ (ht:∀ g,S g->g<w.heap.size->S' g/\w'.heap[g]? = w.heap[g]?) {xs:List Lp.X} {rs:List RC} (h:RXL S w xs rs):RXL S' w' xs rs:=RXL.turn (λg _ h0 hg=>⟨(ht g h0 (aG hg)).1,(ht g h0 (aG hg)).2.trans hg⟩) h
theorem PR.turn {S S':Nat->Prop} {w w':World} (ht:∀ g,S g->g<w.heap.size->S' g/\w'.heap[g]? = w.heap[g]?) {l:List (Lp.X×ZS×Bool)} {u:Value} (h:PR S w l u):PR S' w' l u:=by
 obtain ⟨A,c,pr,h1,h2,h3,h4⟩:=h;exact ⟨A,c,pr,h1,h2.turn ht,h3,fZ ht h4⟩
theorem OXR.turn (ht:∀ g,S g->g<w.heap.size->S' g/\w'.heap[g]? = w.heap[g]?) {o:Option Lp.X} {u:Value} (h:OXR S w o u):OXR S' w' o u:=by
 cases o with
 | none=>exact h
 | some x =>
   obtain ⟨g,rr,h1,h2,h3,h4⟩:=h;obtain ⟨k1,k2⟩:=ht g h2 (aG h3);exact ⟨g,rr,h1,k1,k2.trans h3,qM ht h4⟩
theorem GR.turn {S S':Nat->Prop} {w w':World} (ht:∀ g,S g->g<w.heap.size->S' g/\w'.heap[g]? = w.heap[g]?) {xs:List Lp.X} {u:Value} (h:GR S w xs u):GR S' w' xs u:=by
 obtain ⟨A,c,rs,h1,h2,h3⟩:=h;exact ⟨A,c,rs,h1,h2.turn ht,fZ ht h3⟩
theorem FldR.turn {S S':Nat->Prop} {w w':World} {s:Sel} (ht:∀ g,S g->g<w.heap.size->S' g/\w'.heap[g]? = w.heap[g]?) {j:Nat} {u:Value} (h:FldR S w s j u):FldR S' w' s j u:=by
 match j,h with
 | 0,h|12,h=>exact h
 | 7,h|11,h=>exact PR.turn ht h
 | 8,h|9,h=>exact OXR.turn ht h
 | 10,h=>exact GR.turn ht h
 | 1,_|2,_|3,_|4,_|5,_|6,_=>trivial
 | _+13,_=>trivial
def Zb (w0:World) (g:Nat):Prop:=w0.heap.size+2<=g
structure XC (P:Nat) (o:Option ZW) (S:Lp.SS) (K:List Nat) (w0 w:World):Prop where
 but:But P w0 w
 ro:RO P w o
 z:w.heap[w0.heap.size]? = some (.cells stZ.toArray 38 (0,0))
 x:∃ cs:ZU,Cs13 cs/\w.heap[w0.heap.size+1]? = some (.cells cs.toArray 38 (0,0))/\(∀ k∈K,cs[k]? = some (.slice none 0 0))/\∀ q,S=some q->∀ j u,cs[j]? = some u->FldR (Zb w0) w q.1 j u
theorem XC.next {o o':Option ZW} {S:Lp.SS} (h:XC P o S K w0 w) (hP:P<w0) (hb:But P w w') (hr:RO P w' o'):XC P o' S K w0 w':=by
 obtain ⟨h1,h2,h3,cs,h4,h5,h6,h7⟩:=h;exact ⟨h1.trans hb,hr,aL hb h3 (h2.box h3 am),cs,h4,aL hb h5 (h2.box h5 am),h6,λq hq j u hu=>(h7 q hq j u hu).turn λg hg hl=>⟨hg,hb.block g hl (by have:w0.heap.size+2<=g:=hg;omega)⟩⟩
theorem XC.below {P:Nat} {o:Option ZW} {S:Lp.SS} {K:List Nat} {w0 w w':World} (h:XC P o S K w0 w) (hb:Below w w w'):XC P o S K w0 w':=by
 obtain ⟨h1,h2,h3,cs,h4,h5,h6,h7⟩:=h;exact ⟨h1.trans (But.of hb),h2.below hb,aA h3 hb,cs,h4,aA h5 hb,h6,λq hq j u hu=>(h7 q hq j u hu).turn λg hg hl=>⟨hg,hb.block g hl⟩⟩
theorem XC.set {P:Nat} {o:Option ZW} {S:Lp.SS} {K:List Nat} {w0 w:World} (h:XC P o S K w0 w) (hP:P<w0) (j:Nat) (hj:j ∉ K) (v:Value) (hv:zL j v) (S':Lp.SS) (hS:∀ q',S'=some q'->∃ q,S=some q/\(∀ i u,i≠j->FldR (Zb w0) w q.1 i u->FldR (Zb w0) w q'.1 i u)/\FldR (Zb w0) w q'.1 j v):XC P o S' K w0 (w.setCell ⟨w0+1,j,none⟩ v):=by
 obtain ⟨h1,h2,h3,cs,h4,h5,h6,h7⟩:=h;have ht:∀ g,Zb w0 g->g<w.heap.size->Zb w0 g/\(w.setCell ⟨w0+1,j,none⟩ v).heap[g]? = w.heap[g]? := λg hg _=>⟨hg,Below.heap_setCell w ⟨w0+1,j,none⟩ v g (by have:w0.heap.size+2<=g:=hg;show g≠w0.heap.size+1;omega)⟩;refine ⟨bP h1 (Nat.le_succ _) _ _,h2.low (B:=w0) hP ((θ).setCell (p:=⟨w0+1,j,none⟩) (Nat.le_succ _) v),(Below.heap_setCell w ⟨w0+1,j,none⟩ v _ GV).trans h3,cs.set j v,h4.set hv, ?_,λk hk => ?_,λq' hq' i u hu => ?_⟩
 ·have:=heap_setCell_same w (w0+1) j _ _ v h5;rwa [List.setIfInBounds_toArray] at this
 ·rw [List.getElem?_set_ne GW];exact h6 k hk
 ·obtain ⟨q,hq,k1,k2⟩:=hS q' hq'
  by_cases hij:j=i
  ·subst hij;rw [List.getElem?_set_self'] at hu;obtain ⟨_, -,rfl⟩:=Option.map_eq_some_iff.1 hu;exact k2.turn ht
  ·rw [List.getElem?_set_ne hij] at hu;exact (k1 i u (Ne.symm hij) (h7 q hq i u hu)).turn ht
theorem XC.up {o o':Option ZW} {S S':Lp.SS} (h:XC P o S K w0 w) (ho:o=o') (hK:∀ k∈K',k∈K) (hS:∀ q',S'=some q'->∃ q,S=some q/\∀ j u,FldR (Zb w0) w q.1 j u->FldR (Zb w0) w q'.1 j u):XC P o' S' K' w0 w:=by
 subst ho;obtain ⟨h1,h2,h3,cs,h4,h5,h6,h7⟩:=h;refine ⟨h1,h2,h3,cs,h4,h5,λk hk=>h6 k (hK k hk),λq' hq' j u hu => ?_⟩;obtain ⟨q,hq,k1⟩:=hS q' hq';exact k1 j u (h7 q hq j u hu)
theorem XC.at_ {o:Option ZW} {S:Lp.SS} (h:XC P o S K w0 w):(∀ j,w.frozen? ⟨w0+1,j,none⟩=false)/\∀ j,j<13->∃ u,w.cell? ⟨w0+1,j,none⟩=some u:=by
 obtain ⟨-, -, -,cs,h4,h5, -⟩:=h;refine ⟨λj=>frozen_of_row w _ j _ _ h5,λj hj=>⟨cs[j]' GX,(β h5 j).trans ?_⟩⟩;rw [γ,List.getElem?_eq_getElem GX]
structure LX (P k:Nat) (S:Lp.SS) (K:List Nat) (n:Nat) (A:ZT) (c:Nat) (vs:ZU) (M:Option (List (Lp.X×ZS×Bool))) (Z:Nat->Prop) (w0 w:World):Prop where
 but:But P w0 w
 z:w.heap[w0.heap.size]? = some (.cells stZ.toArray 38 (0,0))
 x:∃ cs:ZU,Cs13 cs/\w.heap[w0.heap.size+1]? = some (.cells cs.toArray 38 (0,0))/\cs[k]? = some (.slice A n c)/\(∀ j∈K,cs[j]? = some (.slice none 0 0))/\∀ q,S=some q->∀ j u,j≠k->cs[j]? = some u->FldR Z w q.1 j u
 own:w.ownsRow (w0+2) 72 10 (.slice A n c) n vs
 m:∀ l,M=some l->∃ pr,vs=prv pr/\PRl Z w l pr
 zz:∀ g,Z g->w0.heap.size+2<=g/\some g≠Value.ownBlock (.slice A n c)
theorem XC.lx {o:Option ZW} {S:Lp.SS} (h:XC P o S K w0 w) (hk:k∈K) (hK:∀ j∈K',j∈K):LX P k S K' 0 none 0 [] (some []) (eK (w0+2) (.slice none 0 0)) w0 w:=by
 obtain ⟨h1,h2,h3,cs,h4,h5,h6,h7⟩:=h;exact ⟨h1,h3,⟨cs,h4,h5,h6 k hk,λj hj=>h6 j (hK j hj),λq hq j u _ hu=>(h7 q hq j u hu).turn λg hg _=>⟨⟨hg,λe=>by cases e⟩,rfl⟩⟩,World.ownsRow_nil _ _ _ _,λl hl=>by injection hl with hl;subst hl;exact ⟨[],rfl,rfl,trivial⟩,λg hg=>hg⟩
theorem LX.next {S:Lp.SS} {M:Option (List (Lp.X×ZS×Bool))} {o:Option ZW} (h:LX P k S K n A c vs M Z w0 w) (hP:P<w0) (hr:RO P w o) (hb:But P w w'):LX P k S K n A c vs M Z w0 w':=by
 obtain ⟨h1,h3,⟨cs,h4,h5,h6,h7,h8⟩,h9,h10,h11⟩:=h;have ht:∀ g,Z g->g<w.heap.size->Z g/\w'.heap[g]? = w.heap[g]? := λg hg hl=>⟨hg,hb.block g hl (by have:=(h11 g hg).1;omega)⟩;exact ⟨h1.trans hb,aL hb h3 (hr.box h3 am),⟨cs,h4,aL hb h5 (hr.box h5 am),h6,h7,λq hq j u hj hu=>(h8 q hq j u hj hu).turn ht⟩,hr.own h9 hb am,λl hl=>by
  obtain ⟨pr,k1,k2,k3⟩:=h10 l hl;exact ⟨pr,k1,k2,fZ ht k3⟩,h11⟩
structure PtX (P k:Nat) (S:Lp.SS) (K:List Nat) (n:Nat) (A:ZT) (c:Nat) (vs:ZU) (M:Option (List (Lp.X×ZS×Bool))) (g:Nat) (rr:RC) (s:ZS) (d:Bool) (X:Option Lp.X) (w0 w:World):Prop where
 lx:LX P k S K n A c vs M (λj=>eK (w0+2) (.slice A n c) j/\j≠g) w0 w
 g0:w0.heap.size+2<=g
 gn:some g≠Value.ownBlock (.slice A n c)
 pt:w.heap[g]? = some (.cells (prc (rr,s,d)).toArray 72 (0,0))
 px:∀ x,X=some x->RX (λj=>eK (w0+2) (.slice A n c) j/\j≠g) w x rr
theorem PtX.next {P k:Nat} {S:Lp.SS} {K:List Nat} {n:Nat} {A:ZT} {c:Nat} {vs:ZU} {M:Option (List (Lp.X×ZS×Bool))} {g:Nat} {rr:RC} {s:ZS} {d:Bool} {X:Option Lp.X} {w0 w w':World} {o:Option ZW} (h:PtX P k S K n A c vs M g rr s d X w0 w) (hP:P<w0) (hr:RO P w o) (hb:But P w w'):PtX P k S K n A c vs M g rr s d X w0 w' :=
 ⟨h.lx.next hP hr hb,h.g0,h.gn,aL hb h.pt (hr.box h.pt am),λx hx=>qM (λj hj hl=>⟨hj,hb.block j hl (by have:=hj.1.1;omega)⟩) (h.px x hx)⟩
theorem PtX.new {S:Lp.SS} {M:Option (List (Lp.X×ZS×Bool))} {wr:World} {o:Option ZW} (h:LX P k S K n A c vs M (eK (w0+2) (.slice A n c)) w0 wr) (hP:P<w0) (hr:RO P wr o) (hb:But P wr w) (hx:∀ x,X=some x->RX (λg=>wr.heap.size<=g) w x rr) :
 PtX P k S K n A c vs M w rr s d X w0 (w.alloc (.cells (prc (rr,s,d)).toArray 72)):=by
 have h2:=h.next hP hr hb;have hbA:Below w w (w.alloc (.cells (prc (rr,s,d)).toArray 72)):=ρ;have hz:=h.own.lt;have hs:=h.x;obtain ⟨cs, -,h5, -⟩:=hs;have hl:=aG h5;have hbs:=hb.size;obtain ⟨h1,h3,⟨cs,h4,h5,h6,h7,h8⟩,h9,h10,h11⟩:=h2;have ht:∀ j,eK (w0+2) (.slice A n c) j->j<w.heap.size->(eK (w0+2) (.slice A n c) j/\j≠w.heap.size)/\(w.alloc (.cells (prc (rr,s,d)).toArray 72)).heap[j]? = w.heap[j]? := λj hj hl=>⟨⟨hj,ac⟩,hbA.block j hl⟩;refine ⟨⟨h1.trans (But.of hbA),aA h3 hbA,⟨cs,h4,aA h5 hbA,h6,h7,λq hq j u hj hu=>(h8 q hq j u hj hu).turn ht⟩,aN h9 hbA,λl hl => ?_,λj hj=>h11 j hj.1⟩,ac,λe=>by have:=(h9.lt _ e.symm).2;omega,heap_alloc_new w _,λx hx' => ?_⟩
 ·obtain ⟨pr,k1,k2,k3⟩:=h10 l hl;exact ⟨pr,k1,k2,fZ ht k3⟩
 ·exact qM (λj hj hl2=>⟨⟨⟨by have:wr.heap.size<=j:=hj;omega,λe=>by have:=(hz j e.symm).2;have:wr.heap.size<=j:=hj;omega⟩,ac⟩,hbA.block j hl2⟩) (hx x hx')
theorem PtX.set {P k:Nat} {S:Lp.SS} {K:List Nat} {n:Nat} {A:ZT} {c:Nat} {vs:ZU} {M:Option (List (Lp.X×ZS×Bool))} {g:Nat} {rr:RC} {s:ZS} {d:Bool} {X:Option Lp.X} {w0 w:World} (h:PtX P k S K n A c vs M g rr s d X w0 w) (j:Nat) (v:Value) (s':ZS) (d':Bool) (hv:(prc (rr,s,d)).set j v=prc (rr,s',d')):PtX P k S K n A c vs M g rr s' d' X w0 (w.setCell ⟨g,j,none⟩ v):=by
 obtain ⟨⟨h1,h3,⟨cs,h4,h5,h6,h7,h8⟩,h9,h10,h11⟩,h12,h13,h14,h15⟩:=h;have far:=GY;have ht:∀ i,(eK (w0+2) (.slice A n c) i/\i≠g)->i<w.heap.size->(eK (w0+2) (.slice A n c) i/\i≠g)/\(w.setCell ⟨g,j,none⟩ v).heap[i]? = w.heap[i]? := λi hi _=>⟨hi,far i hi.2⟩;have hs:=heap_setCell_same w g j _ _ v h14;rw [List.setIfInBounds_toArray,hv] at hs;refine ⟨⟨bP h1 ac _ _,(far _ ac).trans h3,⟨cs,h4,(far _ ac).trans h5,h6,h7,λq hq i u hi hu=>(h8 q hq i u hi hu).turn ht⟩,⟨h9.1, ?_⟩,λl hl => ?_,h11⟩,h12,h13,hs,λx hx=>qM ht (h15 x hx)⟩
 ·rcases h9.2 with k2|⟨g',cap,cur,k2,k3,k4,k5⟩
  ·exact .inl k2
  ·refine .inr ⟨g',cap,cur,k2,k3,(far g' ?_).trans k4,k5⟩;intro e;rw [k2] at h13;exact h13 mf
 ·obtain ⟨pr,k1,k2,k3⟩:=h10 l hl;exact ⟨pr,k1,k2,fZ ht k3⟩
theorem Nk {S:Lp.SS} {M M':Option (List (Lp.X×ZS×Bool))} {g:Nat} (h:PtX P k S K n A c vs M g rr s d X w0 w) (hk:k ∉ K) (hkj:4<=k/\k<=11) (hM:∀ l',M'=some l'->∃ l x,M=some l/\X=some x/\l'=l++[(x,s,d)])
 (ho5:w5.ownsRow (w0+2) 72 10 (.slice A5 (n+1) c5) (n+1) (vs++prc (rr,s,d))) (hb5:Below (w0+2) (w.alloc ob) w5) (hk5:fL (w.alloc ob) w5 (Value.ownBlock (.slice A n c)) (Value.ownBlock (.slice A5 (n+1) c5))) :
 LX P k S K (n+1) A5 c5 (vs++prc (rr,s,d)) M' (eK (w0+2) (.slice A5 (n+1) c5)) w0 (w5.setCell ⟨w0+1,k,none⟩ (.slice A5 (n+1) c5)):=by
 obtain ⟨⟨h1,h3,⟨cs,h4,h5,h6,h7,h8⟩,h9,h10,h11⟩,h12,h13,h14,h15⟩:=h;have hlt:=aG h5;have hb15:Below (w0+2) w w5:=((Below.refl w w).alloc (ν _) ob |>.mono ac).trans hb5;have e3:=(hk5 _ _ (aB h3 ob) (cU (h9.alloc ob) (aB h3 ob) am)).1;have e5:=(hk5 _ _ (aB h5 ob) (cU (h9.alloc ob) (aB h5 ob) am)).1;have e6:=heap_setCell_same w5 (w0+1) k _ _ (.slice A5 (n+1) c5) e5;rw [List.setIfInBounds_toArray] at e6;have ht:∀ i,(eK (w0+2) (.slice A n c) i/\i≠g)->i<w.heap.size->eK (w0+2) (.slice A5 (n+1) c5) i/\(w5.setCell ⟨w0+1,k,none⟩ (.slice A5 (n+1) c5)).heap[i]? = w.heap[i]? := λi hi hl=>by
  obtain ⟨o,ho⟩:∃ o,w.heap[i]? = some o:=⟨w.heap[i],by simp [hl]⟩;obtain ⟨k1,k2⟩:=hk5 i o (aB ho ob) hi.1.2;refine ⟨⟨hi.1.1,k2⟩,(Below.heap_setCell w5 ⟨w0+1,k,none⟩ _ i ?_).trans (k1.trans ho.symm)⟩;have:=hi.1.1;show i≠w0.heap.size+1;omega
 refine ⟨bP (h1.lowr (hb15.mono ac)) (Nat.le_succ _) _ _,(Below.heap_setCell w5 ⟨w0+1,k,none⟩ _ _ GV).trans e3,⟨cs.set k (.slice A5 (n+1) c5),h4.set (oQ hkj.1 hkj.2 _ _ _),e6, ?_,λj hj => ?_,λq hq j u hj hu => ?_⟩,lJ ho5 e5 am,λl' hl' => ?_,λi hi=>hi⟩
 ·have:k<cs.length:=by
   rcases Nat.lt_or_ge k cs.length with h|h
   ·exact h
   ·rw [List.getElem?_eq_none h] at h6;cases h6
  simp [this]
 ·rw [List.getElem?_set_ne (by rintro rfl;exact hk hj)];exact h7 j hj
 ·rw [List.getElem?_set_ne (Ne.symm hj)] at hu;exact (h8 q hq j u hj hu).turn ht
 ·obtain ⟨l,x,m1,m2,rfl⟩:=hM l' hl';obtain ⟨pr,k1,k2,k3⟩:=h10 l m1;refine ⟨pr++[(rr,s,d)],by rw [k1];simp [prv],by rw [List.map_append,List.map_append,k2];rfl, ?_⟩;rw [List.map_append,List.map_append];exact RXL.app (fZ ht k3) (qM ht (h15 x m2))
theorem LX.row {S:Lp.SS} {M:Option (List (Lp.X×ZS×Bool))} (h:LX P k S K n A c vs M Z w0 w):w.cell? ⟨w0+1,k,none⟩=some (.slice A n c)/\(∀ j,w.frozen? ⟨w0+1,j,none⟩=false)/\∀ o,(w.alloc o).cell? ⟨w0+1,k,none⟩=some (.slice A n c):=by
 obtain ⟨cs, -,h5,h6, -⟩:=h.x;exact ⟨(β h5 k).trans GZ,λj=>frozen_of_row w _ j _ _ h5,λo=>(β (aB h5 o) k).trans GZ⟩
theorem LX.keep {S:Lp.SS} {M:Option (List (Lp.X×ZS×Bool))} (h:LX P k S K n A c vs M Z w0 w) (hk5:fL (w.alloc ob) w5 (Value.ownBlock (.slice A n c)) (Value.ownBlock (.slice A5 (n+1) c5))):w5.cell? ⟨w0+1,k,none⟩=some (.slice A n c)/\∀ j,w5.frozen? ⟨w0+1,j,none⟩=false:=by
 obtain ⟨cs, -,h5,h6, -⟩:=h.x;have e5:=(hk5 _ _ (aB h5 ob) (cU (h.own.alloc ob) (aB h5 ob) am)).1;exact ⟨(β e5 k).trans GZ,λj=>frozen_of_row w5 _ j _ _ e5⟩
theorem LX.xc {S S':Lp.SS} {M:Option (List (Lp.X×ZS×Bool))} {o:Option ZW} (h:LX P k S K n A c vs M Z w0 w) (hr:RO P w o) (hS:∀ q',S'=some q'->∃ q l,S=some q/\M=some l/\l.length=n/\(∀ i u,i≠k->FldR (Zb w0) w q.1 i u->FldR (Zb w0) w q'.1 i u)/\∀ u,PR (Zb w0) w l u->FldR (Zb w0) w q'.1 k u):XC P o S' K w0 w:=by
 obtain ⟨h1,h3,⟨cs,h4,h5,h6,h7,h8⟩,h9,h10,h11⟩:=h;have ht:∀ g,Z g->g<w.heap.size->Zb w0 g/\w.heap[g]? = w.heap[g]? := λg hg _=>⟨(h11 g hg).1,rfl⟩;refine ⟨h1,hr,h3,cs,h4,h5,h7,λq' hq' j u hu => ?_⟩;obtain ⟨q,l,a1,a2,a3,a4,a5⟩:=hS q' hq'
 by_cases hj:j=k
 ·subst hj;rw [h6] at hu;injection hu with hu;subst hu;obtain ⟨pr,k1,k2,k3⟩:=h10 l a2;exact a5 _ ⟨A,c,pr,by rw [a3],k1▸RdS.own h9,k2,fZ ht k3⟩
 ·exact a4 j u hj ((h8 q a1 j u hj hu).turn ht)
end Go.Proofs.YtkolcimllghnaaaGreatDoor

namespace Go.Proofs.YtkolcimllghnaaaGreatDoor
open Lp Go.Proofs.Tryz
open Go.ChangeShapes Go.WideShapes Go.ChangeAt Go.RowKit Go.Deep
open Go.ChangeMaps (open_string shut_string)
variable{W:World}
theorem aBB (b off j:Nat):(⟨b,off,none⟩:Addr).add j=⟨b,off+j,none⟩:=ai
theorem pW {E:Type} {n:Nat} {f:E->ZU} (hf:∀ e,(f e).length=n):∀ l:List E,(l.flatMap f).length=l.length*n
 | []=>aa
 | e::l=>by rw [List.flatMap_cons,List.length_append,hf,pW hf l,List.length_cons,Nat.succ_mul,Nat.add_comm]
theorem vZ {E:Type} {n:Nat} {f:E->ZU} (hf:∀ e,(f e).length=n):∀ (l:List E) (i j:Nat) (hi:i<l.length),j<n->(l.flatMap f)[i*n+j]? = (f l[i])[j]?
 | [],i,j,hi,_=>by simp at hi
 | e::l,0,j,_,hj=>by
   rw [List.flatMap_cons,Nat.zero_mul,Nat.zero_add,List.getElem?_append_left (by rw [hf];exact hj)];rfl
 | e::l,i+1,j,hi,hj=>by
   have h:=vZ hf l i j IA hj;rw [List.flatMap_cons,List.getElem?_append_right (by rw [hf,Nat.succ_mul];omega),hf,show (i+1)*n+j-n=i*n+j by rw [Nat.succ_mul];omega,h];rfl
theorem Ng {E:Type} {n:Nat} {f:E->ZU} (hf:∀ e,(f e).length=n) (hn:0<n) (hne:∀ e,∃ v,(f e)[0]? = some v) {P:E->Prop} {a:Addr} {len:Nat}
 (hv:∀ i,i<len->∃ u:E,P u/\∀ j,j<n->W.cell? ((a.add (i*n)).add j)=(f u)[j]?):∃ l:List E,l.length=len/\Rds W (some a) (l.flatMap f)/\∀ u∈l,P u:=by
 let g:Fin len->E:=λi=>Classical.choose (hv i.1 i.2)
 have hg:∀ i:Fin len,P (g i)/\∀ j,j<n->W.cell? ((a.add (i.1*n)).add j)=(f (g i))[j]? := λi=>Classical.choose_spec (hv i.1 i.2);have hlen:(List.ofFn g).length=len:=List.length_ofFn;refine ⟨List.ofFn g,hlen, ?_, ?_⟩
 ·rcases Nat.eq_zero_or_pos len with h0|h0
  ·left
   have:((List.ofFn g).flatMap f).length=0:=by rw [pW hf,hlen,h0,Nat.zero_mul]
   exact List.eq_nil_of_length_eq_zero this
  ·have hz:=(hg ⟨0,h0⟩).2 0 hn;obtain ⟨b,off,spot⟩:=a;have hspot:spot=none:=by
    obtain ⟨v,hv0⟩:=hne (g ⟨0,h0⟩);have hz':W.cell? ⟨b,off,spot⟩=some v:=by rw [<-hv0, <-hz];simp [Addr.add]
    simpa using World.cell?_spot hz'
   subst hspot;refine .inr ⟨b,off,rfl,λq u hu => ?_⟩;have hq:q<((List.ofFn g).flatMap f).length:=(List.getElem?_eq_some_iff.1 hu).1;rw [pW hf,hlen] at hq;have hi2:q / n<len:=Nat.div_lt_of_lt_mul (by rw [Nat.mul_comm];exact hq);have hq2:q=(q / n)*n+q % n:=by rw [Nat.mul_comm];exact (Nat.div_add_mod q n).symm
   have hat:=(hg ⟨q / n,hi2⟩).2 (q % n) (Nat.mod_lt _ hn);have e:((⟨b,off,none⟩:Addr).add (q / n*n)).add (q % n)=⟨b,off+q,none⟩:=by
    rw [Go.Deep.add_add, <-hq2];exact aBB b off q
   rw [e] at hat;have h2:=vZ hf (List.ofFn g) (q / n) (q % n) (by rw [hlen];exact hi2) (Nat.mod_lt _ hn);rw [<-hq2,hu,List.getElem_ofFn] at h2;rw [hat];exact h2.symm
 ·intro u hu;obtain ⟨i,rfl⟩:=(List.mem_ofFn).1 hu;exact (hg i).1
def aJC (c:Col):ZU:=[.string ⟨c.n.toArray⟩,.int .u8 c.k]
def rL (c:Col):Prop:=c.n.length<=maxLen/\0<=c.k/\c.k<=255
abbrev dW:=Tb×ZT×Nat
def aJV (p:dW):ZU:=[.string ⟨p.1.n.toArray⟩,.slice p.2.1 p.1.cs.length p.2.2]
def TabOk (W:World) (p:dW):Prop:=p.1.n.length<=maxLen/\Rds W p.2.1 (jD p.1.cs)/\p.1.cs.length<=p.2.2/\∀ c∈p.1.cs,rL c
theorem aFG:prog.cellsOf 116=2:=aj
theorem aBW:prog.cellsOf 52=2:=aj
theorem Fl:prog.cellsOf 9=1:=aj
theorem Rb:prog.cellsOf 56=1:=aj
theorem Se:prog.cellsOf 33=1:=aj
section
variable {H:Type} {enc:TypeId×Value->H} {W:World} {base:Nat} {spare:Nat->Bool} {held:Bool}
theorem Eg {fuel:Nat} {cs:ZU} {x:DataW H×List MemPlace} (hlen:cs.length=2) (h:DataW.trod enc prog W base spare held fuel 116 cs=some x):∃ u:Col,cs=aJC u/\rL u:=by
 match cs,hlen with
 | [c0,c1],_ =>
   obtain ⟨ys,n',hn',hy,hl2,hyl,hf⟩:=DataW.trod_struct underlying116 h;have h0:=hf 0 _ rfl;have h1:=hf 1 _ rfl;simp [Fl,Rb] at h0 h1
   match ys,hyl with
   | [y0,y1],_ =>
     simp at h0 h1;obtain ⟨s,es,_,ws⟩:=DataW.trod_string underlying9 h0;obtain ⟨k,ek,_,wk⟩:=DataW.trod_int underlying56 h1;simp only [List.cons.injEq,and_true] at ek es;subst ek es;simp [Lit.wf,IntKind.min,IntKind.max,IntKind.bits,IntKind.signed] at wk;refine ⟨⟨s.data.toList,k⟩,rfl, ?_,wk.1,by simp only;omega⟩;have:s.data.toList.length=s.size:=jy
     simp only;omega
theorem Ef {fuel:Nat} {cs:ZU} {x:DataW H×List MemPlace} (h:DataW.trod enc prog W base spare held fuel 33 cs=some x) :
 ∃ (A:ZT) (c:Nat) (l:List Col),cs=[.slice A l.length c]/\Rds W A (jD l)/\l.length<=c/\∀ u∈l,rL u:=by
 rcases open_slice underlying33 h with ⟨hcs,_⟩|⟨a,len,cap,m,n,D,Pl,hcs,_,hl,_,hm,_,hi⟩
 ·exact IB
 ·have hlm:len<=m:=by rw [hm];split<;>omega
  obtain ⟨l,h1,h2,h3⟩:=Ng (f:=aJC) (n:=2) (P:=rL) (W:=W) (a:=a) (len:=len) (λ_=>rfl) ac (λe=>⟨_,rfl⟩) (λi hlt=>by
   obtain ⟨cs',hc,ht⟩:=hi i ac;rw [aFG] at hc;obtain ⟨_,hcl,hat⟩:=World.cells?_some hc;obtain ⟨u,hu,hok⟩:=Eg hcl ht;exact ⟨u,hok,λj hj=>by rw [<-hu];exact hat j hj⟩)
  exact IC
theorem Cy {fuel:Nat} {cs:ZU} {x:DataW H×List MemPlace} (hlen:cs.length=2) (h:DataW.trod enc prog W base spare held fuel 52 cs=some x):∃ u:dW,cs=aJV u/\TabOk W u:=by
 match cs,hlen with
 | [c0,c1],_ =>
   obtain ⟨ys,n',hn',hy,hl2,hyl,hf⟩:=DataW.trod_struct underlying52 h;have h0:=hf 0 _ rfl;have h1:=hf 1 _ rfl;simp [Fl,Se] at h0 h1
   match ys,hyl with
   | [y0,y1],_ =>
     simp at h0 h1;obtain ⟨s,es,_,ws⟩:=DataW.trod_string underlying9 h0;obtain ⟨A,c,l,ek,g1,g2,g3⟩:=Ef h1;simp only [List.cons.injEq,and_true] at ek es;subst ek es;refine ⟨(⟨s.data.toList,l⟩,A,c),rfl, ?_,g1,g2,g3⟩;have:s.data.toList.length=s.size:=jy
     simp only;omega
theorem Cx {fuel:Nat} {cs:ZU} {x:DataW H×List MemPlace} (h:DataW.trod enc prog W base spare held fuel 22 cs=some x) :
 ∃ (A:ZT) (c:Nat) (l:List dW),cs=[.slice A l.length c]/\Rds W A (tbv l)/\l.length<=c/\∀ u∈l,TabOk W u:=by
 rcases open_slice underlying22 h with ⟨hcs,_⟩|⟨a,len,cap,m,n,D,Pl,hcs,_,hl,_,hm,_,hi⟩
 ·exact IB
 ·have hlm:len<=m:=by rw [hm];split<;>omega
  obtain ⟨l,h1,h2,h3⟩:=Ng (f:=aJV) (n:=2) (P:=TabOk W) (W:=W) (a:=a) (len:=len) (λ_=>rfl) ac (λe=>⟨_,rfl⟩) (λi hlt=>by
   obtain ⟨cs',hc,ht⟩:=hi i ac;rw [aBW] at hc;obtain ⟨_,hcl,hat⟩:=World.cells?_some hc;obtain ⟨u,hu,hok⟩:=Cy hcl ht;exact ⟨u,hok,λj hj=>by rw [<-hu];exact hat j hj⟩)
  exact IC
end
def ScA (W:World) (A:ZT) (l:List dW):Prop:=Rds W A (tbv l)/\∀ u∈l,TabOk W u
theorem TabOk.below {W W':World} {u:dW} (h:TabOk W u) (hb:Below W W W'):TabOk W' u:=⟨h.1,h.2.1.below hb,h.2.2⟩
theorem ScA.below {W W':World} {A:ZT} {l:List dW} (h:ScA W A l) (hb:Below W W W'):ScA W' A l:=⟨h.1.below hb,λu hu=>(h.2 u hu).below hb⟩
theorem Qr {H:Type} {enc:TypeId×Value->H} {base:Nat} {v:Value} {d:DataW H} {p:List MemPlace} {r:Reach}
 (hv:Value.okWide prog W r base 22 v) (h:DataW.Trod enc prog W 0 (λ_=>true) true 22 v d p) :
 ∃ (A:ZT) (c:Nat) (l:List dW),v=.slice A l.length c/\ScA W A l/\l.length<=c:=by
 obtain ⟨a0,aKN,cap0,rfl⟩:=okWide_slice underlying22 hv;obtain ⟨fuel,hf⟩:=h;obtain ⟨A,c,l,hcs,h1,h2,h3⟩:=Cx hf;simp [Value.cells] at hcs;obtain ⟨rfl,rfl,rfl⟩:=hcs;exact ⟨_,_,l,rfl,⟨h1,h3⟩,h2⟩
theorem bal {w w':World} (h:Below w w w') (o:Obj):Below w w (w'.alloc o):=h.alloc h.size o
def NmP (s:ByteArray) (e:Ending):Prop:=∃ b,e=.returned (.bool b)/\(b=true->1<=s.size/\s.size<=20)
theorem NmP.no (s:ByteArray):NmP s (.returned (.bool false)):=⟨false,rfl,λh=>ao⟩
theorem NmP.of {s:ByteArray} (h:Hd0 (1<=s.size/\s.size<=20)) (b:Bool):NmP s (.returned (.bool b)):=⟨b,rfl,λ_=>h.o⟩
def SomeB (e:Ending):Prop:=∃ b,e=.returned (.bool b)
theorem SomeB.mk (b:Bool):SomeB (.returned (.bool b)):=⟨b,rfl⟩
theorem xV (s:ByteArray) (w:World) (hs:s.size<=9223372036854775807) :
 Calls prog 26 #[s] w λe w'=>NmP s e/\w=w':=by
 have hsI:(s.size:Int)<=9223372036854775807:=ac
 by_cases h1:s.size<1
 ·go_enter func26,ntmps26;go_wp2;go_ret;exact ⟨NmP.no _,rfl⟩
 ·by_cases h2:20<s.size
  ·go_enter func26,ntmps26;go_wp2;go_ret;exact ⟨NmP.no _,rfl⟩
  ·have hb:s.size<=20:=ac
   have hp:0<s.size:=ac
   have HN:=κ (show 1<=s.size/\s.size<=20 by omega);go_enter func26,ntmps26;go_wp2_with fail
   all_goals first
    | (go_ret;exact ⟨NmP.of HN _,rfl⟩)
    | skip
   all_goals
    go_loop [3,4] (λs3 _=>∃ i:Nat,i<=s.size/\s3=.int .i64 i) (λs3 _=>s.size-(intOf s3).toNat)
    case atStart=>exact ⟨0,ac,rfl⟩
    case round =>
     obtain ⟨i,hi,rfl⟩:=de
     by_cases hlt:i<s.size
     ·go_wp2
      all_goals first
       | (go_ret;exact ⟨NmP.of HN _,rfl⟩)
       | skip
      all_goals
       go_round
       case rel=>exact ⟨i+1,ac,dg⟩
       case measure=>simp [intOf];omega
     ·go_wp2;go_ret;exact ⟨NmP.of HN _,rfl⟩
