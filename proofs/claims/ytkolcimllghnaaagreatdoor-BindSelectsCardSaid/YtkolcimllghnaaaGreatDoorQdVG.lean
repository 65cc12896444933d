/-
 Contracts. Conditions: those of each.
-/
import Derived.Test.YtkolcimllghnaaaGreatDoorQdVB
import Derived.Test.YtkolcimllghnaaaGreatDoorQdGI
import Derived.Deep.RegionHeldLaw
set_option maxRecDepth 100000
set_option maxHeartbeats 8000000
namespace Go.Proofs.YtkolcimllghnaaaGreatDoor
open Lp Go.Proofs.Tryz
open Go.RowKit
variable{acc:List Lp.X}{x:Lp.X}{B P bp bx c d g gi gr n o size:Nat}{e:TypeId}{u v:Value}{w w' w0 w2:World}{t:ZS}{A:ZT}{vs xs:ZU}{cs:ZV}{l r:ZW}
def PXs (B:Nat) (w:World):List Lp.X->ZU->Prop
 | [],[]=>True
 | x::xs,v::vs=>(∃ T g,v=.iface T (.pointer (some ⟨g,0,none⟩)))∧PX B w x v∧PXs B w xs vs
 | _,_=>False
theorem PXs.keep {B:Nat} {w w':World} (hs:Stays w w'):∀ {xs:List Lp.X} {vs:ZU},PXs B w xs vs->PXs B w' xs vs
 | [],[],_=>trivial
 | [],_::_,h=>h.elim
 | _::_,[],h=>h.elim
 | _::_,_::_,⟨h1,h2,h3⟩=>⟨h1,PX.keep hs h2,PXs.keep hs h3⟩
theorem PXs.mono {B B':Nat} {w:World} (hB:B'≤B):∀ {xs:List Lp.X} {vs:ZU},PXs B w xs vs->PXs B' w xs vs
 | [],[],_=>trivial
 | [],_::_,h=>h.elim
 | _::_,[],h=>h.elim
 | _::_,_::_,⟨h1,h2,h3⟩=>⟨h1,PX.mono hB h2,PXs.mono hB h3⟩
theorem PXs.app {B:Nat} {w:World}:∀ {xs:List Lp.X} {vs:ZU} {x:Lp.X} {v:Value},PXs B w xs vs->(∃ T g,v=.iface T (.pointer (some ⟨g,0,none⟩)))->PX B w x v->PXs B w (xs++[x]) (vs++[v])
 | [],[],_,_,_,h2,h3=>⟨h2,h3,trivial⟩
 | [],_::_,_,_,h,_,_=>h.elim
 | _::_,[],_,_,h,_,_=>h.elim
 | _::_,_::_,_,_,⟨a,b,c⟩,h2,h3=>⟨a,b,PXs.app c h2 h3⟩
theorem PXs.len {B:Nat} {w:World}:∀ {xs:List Lp.X} {vs:ZU},PXs B w xs vs->vs.length=xs.length
 | [],[],_=>rfl
 | [],_::_,h=>h.elim
 | _::_,[],h=>h.elim
 | _::_,_::_,h=>by simp [PXs.len h.2.2]
theorem mU (h:w.ownsRow B e size v n xs) (hb:But P w w') (hp:PS w P l d) (he:e≠100):w'.ownsRow B e size v n xs:=by
 refine ⟨h.1, ?_⟩;rcases h.2 with h2|⟨g,cap,cur,h2,h3,h4,h5⟩
 ·exact .inl h2
 ·exact .inr ⟨g,cap,cur,h2,h3,aM h4 hb hp he,h5⟩
def Gz (t:TypeId):Bool:=t==123||t==206||t==196||t==247||t==200||t==208
def StaysT (p:TypeId->Bool) (w w':World):Prop:=∀ (g:Nat) (cs:ZV) (t:TypeId),w.heap[g]? = some (.cells cs t (0,0))->p t=true->w'.heap[g]? = some (.cells cs t (0,0))
abbrev fU:=StaysT Gz
def Ha (t:TypeId):Bool:=Gz t||t==66
theorem StaysT.trans {p:TypeId->Bool} {a b c:World} (h:StaysT p a b) (k:StaysT p b c):StaysT p a c:=λg cs t hg ht=>k g cs t (h g cs t hg ht) ht
theorem StaysT.below {p:TypeId->Bool} (hb:Below w w w'):StaysT p w w':=λ_ _ _ h _=>aA h hb
theorem StaysT.but {p:TypeId->Bool} (hb:But P w w') (hp:PS w P l d) (hn:p 100=false):StaysT p w w':=λg cs t h ht=>cT hb hp g cs t h (by rintro rfl;rw [hn] at ht;cases ht)
theorem StaysT.keeps {p:TypeId->Bool} {r':Option Nat} (ho:w.ownsRow B e size v n xs) (he:p e=false) (hk:fL w w' v.ownBlock r'):StaysT p w w' :=
 λg cs t h ht=>(hk g _ h (cU ho h (by rintro rfl;rw [he] at ht;cases ht))).1
theorem StaysT.set {p:TypeId->Bool} {t:TypeId} (hg:w.heap[g]? = some (.cells cs t (0,0))) (ht:p t=false):StaysT p w (w.setCell ⟨g,o,none⟩ v):=by
 intro g2 cs2 t2 h2 ht2;refine (Below.heap_setCell w ⟨g,o,none⟩ v g2 ?_).trans h2;rintro rfl;rw [h2] at hg;injection hg with hg;injection hg with _ hg;rw [hg,ht] at ht2;cases ht2
theorem StaysT.nodes (h:StaysT Ha w w'):fU w w':=λg cs t hg ht=>h g cs t hg (by simp [Ha,ht])
theorem qR {p:TypeId->Bool} (h:w.ownsRow B e size v n xs) (hs:StaysT p w w') (he:p e=true):w'.ownsRow B e size v n xs:=by
 refine ⟨h.1, ?_⟩;rcases h.2 with h2|⟨g,cap,cur,h2,h3,h4,h5⟩
 ·exact .inl h2
 ·exact .inr ⟨g,cap,cur,h2,h3,hs _ _ _ h4 he,h5⟩
theorem PX.keepN {B:Nat} {w w':World} (hs:fU w w'):∀ {e:Lp.X} {v:Value},PX B w e v->PX B w' e v
 | .lit ..,v,h=>dv
 | .col ..,v,h=>dv
 | .un _ x,v,h=>oz
 | .bin _ a b,v,h=>by obtain ⟨g,u1,u2,h0,h1,h2,h3,h4⟩:=h;exact ⟨g,u1,u2,h0,h1,hs _ _ _ h2 am,PX.keepN hs h3,PX.keepN hs h4⟩
 | .isn _ x,v,h=>oz
 | .agg _ x,v,h=>oz
 | .cnt,v,h=>dv
theorem PXs.keepN {B:Nat} {w w':World} (hs:fU w w'):∀ {xs:List Lp.X} {vs:ZU},PXs B w xs vs->PXs B w' xs vs
 | [],[],_=>trivial
 | [],_::_,h=>h.elim
 | _::_,[],h=>h.elim
 | _::_,_::_,⟨h1,h2,h3⟩=>⟨h1,PX.keepN hs h2,PXs.keepN hs h3⟩
theorem But.low (h:But P w0 w) (hb:Below w0 w w'):But P w0 w' :=
 ⟨hb.os.trans h.os,hb.tape.trans h.tape,hb.output.trans h.output,Nat.le_trans h.size hb.size,λk hk hn=>(hb.block k hk).trans (h.block k hk hn)⟩
theorem PS.low (h:PS w P l d) (hP:P<B) (hb:Below B w w'):PS w' P l d:=by
 obtain ⟨A,c,h1,h2,h3⟩:=h;refine ⟨A,c,(hb.block P hP).trans h1,h2, ?_⟩;rcases h3 with h3|⟨b,off,hA,hlt,hc⟩
 ·exact .inl h3
 ·exact .inr ⟨b,off,hA,hlt,λj u hu=>(hb.cell (p:=⟨b,off+j,none⟩) (Nat.lt_trans hlt hP)).trans (hc j u hu)⟩
theorem lJ {t:TypeId} (h:w.ownsRow B e size v n xs) (hg:w.heap[g]? = some (.cells cs t (0,0))) (hne:e≠t):(w.setCell ⟨g,o,none⟩ u).ownsRow B e size v n xs:=by
 have hn:=cU h hg hne;refine ⟨h.1, ?_⟩;rcases h.2 with h2|⟨g',cap,cur,rfl,h3,h4,h5⟩
 ·exact .inl h2
 ·refine .inr ⟨g',cap,cur,rfl,h3,(Below.heap_setCell w ⟨g,o,none⟩ u g' ?_).trans h4,h5⟩;intro e;exact hn pc
structure RI (P bp gr:Nat) (w0:World) (acc:List Lp.X) (w:World):Prop where
 but:But P w0 w
 hbp:w.heap[bp]? = some (.cells #[P] 98 (0,0))
 row:∃ A c vs,w.heap[gr]? = some (.cells #[.slice A acc.length c] 45 (0,0))∧w.ownsRow w0 66 1 (.slice A acc.length c) acc.length vs∧PXs w0 w acc vs
theorem RI.next (h:RI P bp gr w0 acc w) (hp:PS w P l d) (hb:But P w w'):RI P bp gr w0 acc w':=by
 obtain ⟨A,c,vs,h1,h2,h3⟩:=h.row;exact ⟨h.but.trans hb,aM h.hbp hb hp am,A,c,vs,aM h1 hb hp am,mU h2 hb hp am,PXs.keep (cT hb hp) h3⟩
def RJ (P:Nat) (w0 w:World):Prop:=But P w0 w
theorem Az:(prog.info? 66).map (λi=>(i.zero,i.size,i.bytes))=some (some .nilIface,1,16):=aj
theorem Vy {c5:Nat} {w5:World} {A A5:ZT} {c:Nat} {ob:Obj} (hP0:P<w0) (hgr:w0.heap.size≤gr) (hne:gr≠bp)
 (hi:RI P bp gr w0 acc w) (hp:PS w P l d) (hb2:But P w w2) (h3:PXs w0 w acc vs) (hv:∃ T g,v=.iface T (.pointer (some ⟨g,0,none⟩))) (hx:PX w w2 x v) (hp2:PS w2 P r 0)
 (hx5:w5.heap[gr]? = some (.cells #[.slice A acc.length c] 45 (0,0))) (ho5:w5.ownsRow w0 66 1 (.slice A5 (acc.length+1) c5) (acc.length+1) (vs++[v])) (hb5:Below w0 (w2.alloc ob) w5)
 (hk5:fL (w2.alloc ob) w5 (Value.ownBlock (.slice A acc.length c)) (Value.ownBlock (.slice A5 (acc.length+1) c5))) (k2:w2.ownsRow w0 66 1 (.slice A acc.length c) acc.length vs) :
 PS (w5.setCell ⟨gr,0,none⟩ (.slice A5 (acc.length+1) c5)) P r 0∧RI P bp gr w0 (acc++[x]) (w5.setCell ⟨gr,0,none⟩ (.slice A5 (acc.length+1) c5)):=by
 have hb25:Below w0 w2 w5:=((Below.refl w2 w2).alloc (ν _) ob |>.mono (Nat.le_trans hi.but.size hb2.size)).trans hb5;have hbut5:But P w0 (w5.setCell ⟨gr,0,none⟩ (.slice A5 (acc.length+1) c5)):=((hi.but.trans hb2).low hb25).setNew hgr _;have hp5:PS (w5.setCell ⟨gr,0,none⟩ (.slice A5 (acc.length+1) c5)) P r 0:=(hp2.low hP0 hb25).setNew (Nat.lt_of_lt_of_le hP0 hgr) _;have hsN:fU w2 (w5.setCell ⟨gr,0,none⟩ (.slice A5 (acc.length+1) c5)) :=
  (StaysT.below ((θ).alloc (ν _) ob)).trans ((StaysT.keeps (k2.alloc ob) am hk5).trans (StaysT.set hx5 am))
 refine ⟨hp5,hbut5, ?_,A5,c5,vs++[v], ?_, ?_, ?_⟩
 ·have hbp2:=aM hi.hbp hb2 hp am;have hbp5:=(hk5 _ _ (aB hbp2 ob) (cU (k2.alloc ob) (aB hbp2 ob) am)).1;exact (Below.heap_setCell w5 ⟨gr,0,none⟩ _ bp (λe=>hne e.symm)).trans hbp5
 ·have:=heap_setCell_same w5 gr 0 _ _ (.slice A5 (acc.length+1) c5) hx5
  simpa using this
 ·rw [List.length_append];exact lJ ho5 hx5 am
 ·exact PXs.app (PXs.keepN ((StaysT.but hb2 hp am).trans hsN) h3) hv (PX.keepN hsN (hx.mono hi.but.size))
theorem Vz (P bp gr d0:Nat) (l0:ZW) (w0:World) (hR0:Resv w0) (hp0:PS w0 P l0 d0) (hP0:P<w0) (hgr:w0.heap.size≤gr) (hne:gr≠bp) (acc:List Lp.X) (l:ZW) (w:World) (hacc:acc.length≤8) (hi:RI P bp gr w0 acc w) (hp:PS w P l 0) (hs:Lsane l) :
 Calls prog 123 #[gr,bp] w (lA P (RI P bp gr w0) (RJ P w0) acc (pX 1 0 l)):=by
 obtain ⟨iE,hiE,hz0,hz1,hz2⟩:=info_parts Az;have HC:=pf;obtain ⟨A,c,vs,h1,h2,h3⟩:=hi.row;have c0:=cq;have c1:=pd;have f0:=λj=>frozen_of_row w gr j _ _ h1;have HP:=κ (show PS w.drew P l 0 from hp);have HR:=κ (show w.drew.heap[gr]? = some (.cells #[.slice A acc.length c] 45 (0,0))∧w.drew.ownsRow w0 66 1 (.slice A acc.length c) acc.length vs∧PXs w0 w.drew acc vs from ⟨h1,h2.drew,PXs.keep (aP (θ).drew) h3⟩);have HI:=κ (show RI P bp gr w0 acc w.drew from ⟨hi.but.drew,hi.hbp,A,c,vs,h1,h2.drew,PXs.keep (aP (θ).drew) h3⟩);have hng:some gr≠Value.ownBlock (.slice A acc.length c):=cU h2 h1 am;have hgl:=aG h1;have hbl:=aG hi.hbp;clear hp hs hi h1 h2 h3;go_enter func123,ntmps123;generalize hq:pX 1 0 l=q at *;rcases q with _|⟨x,r⟩
 ·have HC0:=pg;clear HC;go_wp2_with fail;refine wp_region_held_drew (S:=λw'=>w'.cell? ⟨gr,0,none⟩=some (.slice A acc.length c)∧w'.cell? ⟨bp,0,none⟩=some (.pointer (some ⟨P,0,none⟩))) aj ⟨c0,c1⟩ (λhHeld => ?_);refine wpAnyH_take (i:=0) (v:=.slice A acc.length c) rfl aj aj aj (λ_ _ _ h=>h) (Or.inl ⟨eh,λw hSw=>oq⟩) hHeld ?_;refine wpAnyH_take (i:=1) (v:=.pointer (some ⟨P,0,none⟩)) rfl aj aj aj (λ_ _ _ h=>h) (Or.inl ⟨eh,λw hSw=>oq⟩) hHeld ?_;refine wpAnyH_ready (rs:=[2]) aj aa ?_;refine AllReadyH.cons rfl (λK hK => ?_) AllReadyH.nil;go_simp;refine μ HC0 ?_;rintro e w2 ⟨hb2,ce,rfl,hc⟩;unfold aT;go_wp2;exact ⟨rfl,ce,rfl,hc,HI.o.but.trans hb2⟩
 ·have HC0:=ph;clear HC;go_wp2_with fail
  go_region_law (first
   | (go_simp;go_at_call 124;refine μ HC0 ?_;rintro e w2 ⟨hb2,T,g,rfl,hx,hp2⟩;have k1:=aM HR.o.1 hb2 HP.o am;have k2:=mU HR.o.2.1 hb2 HP.o am;have d0:w2.cell? ⟨gr,0,none⟩=some (.slice A acc.length c):=β k1 0;have d1:∀ o,(w2.alloc o).cell? ⟨gr,0,none⟩=some (.slice A acc.length c):=λo=>β (aB k1 o) 0;have hsz:=Nat.le_trans HI.o.but.size hb2.size)
   | (refine bL _ rfl (.tmp 2) (.tmp 5) _ rfl w0.heap.size 66 iE _ 1 16 underlying45 hiE hz0 hz1 hz2 rfl (by omega) A acc.length c vs rfl ?_ _ 1 1 [.iface T (.pointer (some ⟨g,0,none⟩))] rfl rfl ?_ ?_ ?_ ?_ ?_ ?_
      ·exact k2.alloc _
      ·exact aS [.iface T g] (heap_alloc_new _ _)
      ·simp [Value.oneCell']
      ·simp only [maxLen];omega
      ·omega
      ·rw [World.size_alloc];omega
      intro A5 c5 w5 ho5 hb5 hg5 hk5;have hx5:=(hk5 _ _ (aB k1 _) hng).1;have d5:=β hx5 0;have f5:=λj=>frozen_of_row w5 gr j _ _ hx5)
   | fail)
  all_goals
   have hw5:=Vy hP0 hgr hne HI.o HP.o hb2 (HR.o.2.2) ⟨_,_,rfl⟩ hx hp2 hx5 ho5 hb5 hk5 k2;clear HR HI HP HC0 hx hp2 hx5 ho5 hb5 hg5 hk5 k1 k2 hb2;go_wp2;go_end0;exact pj
theorem cA {g2 o2:Nat} {o:Obj} (h:w.heap[g]? = some o) (hne:g≠g2) (v:Value):(w.setCell ⟨g2,o2,none⟩ v).heap[g]? = some o:=(Below.heap_setCell w ⟨g2,o2,none⟩ v g hne).trans h
def RowX (B:Nat) (w:World) (xs:List Lp.X) (v:Value):Prop:=∃ A c vs,v=.slice A xs.length c∧w.ownsRow B 66 1 (.slice A xs.length c) xs.length vs∧PXs B w xs vs
def RowsX (B:Nat) (w:World):List (List Lp.X)->ZU->Prop
 | [],[]=>True
 | x::xs,v::vs=>RowX B w x v∧RowsX B w xs vs
 | _,_=>False
theorem RowX.stays {xs:List Lp.X} (h:RowX B w xs v) (hs:StaysT Ha w w'):RowX B w' xs v:=by
 obtain ⟨A,c,vs,h1,h2,h3⟩:=h;exact ⟨A,c,vs,h1,qR h2 hs am,PXs.keepN hs.nodes h3⟩
theorem RowX.mono {B B':Nat} (hB:B'≤B) {w:World} {xs:List Lp.X} {v:Value} (h:RowX B w xs v):RowX B' w xs v:=by
 obtain ⟨A,c,vs,h1,h2,h3⟩:=h;refine ⟨A,c,vs,h1,⟨h2.1, ?_⟩,PXs.mono hB h3⟩;rcases h2.2 with k|⟨g,cap,cur,k1,k2,k3⟩
 ·exact .inl k
 ·exact .inr ⟨g,cap,cur,k1,Nat.le_trans hB k2,k3⟩
theorem RowsX.stays {B:Nat} {w w':World} (hs:StaysT Ha w w'):∀ {xs:List (List Lp.X)} {vs:ZU},RowsX B w xs vs->RowsX B w' xs vs
 | [],[],_=>trivial
 | [],_::_,h=>h.elim
 | _::_,[],h=>h.elim
 | _::_,_::_,⟨h1,h2⟩=>⟨h1.stays hs,RowsX.stays hs h2⟩
theorem RowsX.app {B:Nat} {w:World}:∀ {xs:List (List Lp.X)} {vs:ZU} {x:List Lp.X} {v:Value},RowsX B w xs vs->RowX B w x v->RowsX B w (xs++[x]) (vs++[v])
 | [],[],_,_,_,h2=>⟨h2,trivial⟩
 | [],_::_,_,_,h,_=>h.elim
 | _::_,[],_,_,h,_=>h.elim
 | _::_,_::_,_,_,⟨a,b⟩,h2=>⟨a,RowsX.app b h2⟩
structure II (P bp bx gi:Nat) (t:ZS) (w0:World) (acc:List (List Lp.X)) (w:World):Prop where
 but:But P w0 w
 hbp:w.heap[bp]? = some (.cells #[P] 98 (0,0))
 hbx:w.heap[bx]? = some (.cells #[gi] 41 (0,0))
 rows:∃ A c vs,w.heap[gi]? = some (.cells #[t,.slice A acc.length c] 44 (0,0))∧w.ownsRow w0 45 1 (.slice A acc.length c) acc.length vs∧RowsX w0 w acc vs
theorem II.next {acc:List (List Lp.X)} (h:II P bp bx gi t w0 acc w) (hp:PS w P l d) (hb:But P w w'):II P bp bx gi t w0 acc w':=by
 obtain ⟨A,c,vs,h1,h2,h3⟩:=h.rows;exact ⟨h.but.trans hb,aM h.hbp hb hp am,aM h.hbx hb hp am,A,c,vs,aM h1 hb hp am,mU h2 hb hp am,RowsX.stays (StaysT.but hb hp am) h3⟩
theorem aCS:(prog.info? 45).map (λi=>(i.zero,i.size,i.bytes))=some (some (.slice none 0 0),1,24):=aj
theorem Zg:Am rB:=by
 intro l x r h;unfold rB at h;rcases h1:aD uR l with _|r1
 ·rw [h1] at h;cases h
 ·rw [h1] at h;simp only at h;rcases h2:dO (pX 1 0) 8 r1 with _|⟨xs,r2⟩
  ·rw [h2] at h;cases h
  ·rw [h2] at h;simp only at h;rcases h3:aD uQ r2 with _|r3
   ·rw [h3] at h;cases h
   ·rw [h3] at h;simp only [Option.map_some,Option.some.injEq,Prod.mk.injEq] at h;obtain ⟨rfl,rfl⟩:=h;obtain ⟨a1,a2⟩:=lQ (wB 1 0) 8 _ _ _ _ _ h2;have b1:=(aU h1).length_le;have b2:=(aU h3).length_le;exact ⟨ac,((aU h3).trans a2).trans (aU h1)⟩
theorem aCR:rB []=none:=rfl
theorem Vu {c5:Nat} {w5:World} {acc:List (List Lp.X)} {xs:List Lp.X} {A A5:ZT} {c:Nat} {ob:Obj} (hP0:P<w0) (hgi:w0.heap.size≤gi) (hne:gi≠bp) (hnx:gi≠bx)
 (hi:II P bp bx gi t w0 acc w) (hp:PS w P l d) (hb2:But P w w2) (h3:RowsX w0 w acc vs) (hv:RowX w0 w2 xs v) (hp2:PS w2 P r 0)
 (hx5:w5.heap[gi]? = some (.cells #[t,.slice A acc.length c] 44 (0,0))) (ho5:w5.ownsRow w0 45 1 (.slice A5 (acc.length+1) c5) (acc.length+1) (vs++[v])) (hb5:Below w0 (w2.alloc ob).drew w5)
 (hk5:fL (w2.alloc ob).drew w5 (Value.ownBlock (.slice A acc.length c)) (Value.ownBlock (.slice A5 (acc.length+1) c5))) (k2:w2.ownsRow w0 45 1 (.slice A acc.length c) acc.length vs) :
 PS (w5.setCell ⟨gi,1,none⟩ (.slice A5 (acc.length+1) c5)) P r 0∧II P bp bx gi t w0 (acc++[xs]) (w5.setCell ⟨gi,1,none⟩ (.slice A5 (acc.length+1) c5)):=by
 have hb25:Below w0 w2 w5:=(((Below.refl w2 w2).alloc (ν _) ob).drew |>.mono (Nat.le_trans hi.but.size hb2.size)).trans hb5;have hbut5:But P w0 (w5.setCell ⟨gi,1,none⟩ (.slice A5 (acc.length+1) c5)):=((hi.but.trans hb2).low hb25).setNew hgi _;have hp5:PS (w5.setCell ⟨gi,1,none⟩ (.slice A5 (acc.length+1) c5)) P r 0:=(hp2.low hP0 hb25).setNew (Nat.lt_of_lt_of_le hP0 hgi) _;have k2d:(w2.alloc ob).drew.ownsRow w0 45 1 (.slice A acc.length c) acc.length vs:=(k2.alloc ob).drew;have hsN:StaysT Ha w2 (w5.setCell ⟨gi,1,none⟩ (.slice A5 (acc.length+1) c5)) :=
  (StaysT.below ((θ).alloc (ν _) ob).drew).trans ((StaysT.keeps k2d am hk5).trans (StaysT.set hx5 am))
 have old:∀ (g:Nat) (cs:ZV) (ty:TypeId),w.heap[g]? = some (.cells cs ty (0,0))->ty≠100->45≠ty->gi≠g->(w5.setCell ⟨gi,1,none⟩ (.slice A5 (acc.length+1) c5)).heap[g]? = some (.cells cs ty (0,0)):=by
  intro g cs ty hg h1 h2 h3;have hg2:=aM hg hb2 hp h1;have hg5:=(hk5 _ _ (bX (aB hg2 ob)) (cU k2d (bX (aB hg2 ob)) h2)).1;exact pk
 refine ⟨hp5,hbut5,old _ _ _ hi.hbp am am hne,old _ _ _ hi.hbx am am hnx,A5,c5,vs++[v], ?_, ?_, ?_⟩
 ·have:=heap_setCell_same w5 gi 1 _ _ (.slice A5 (acc.length+1) c5) hx5
  simpa using this
 ·rw [List.length_append];exact lJ ho5 hx5 am
 ·exact RowsX.app (RowsX.stays ((StaysT.but hb2 hp am).trans hsN) h3) (hv.stays hsN)
theorem aEV:∀ args w,Sem.run prog (callFunc 123 args) w=.ok (.enter 123 args) w:=λ_ _=>rfl
theorem Zh (P bp d0:Nat) (l:ZW) (w:World) (hR:Resv w) (hp:PS w P l 0) (hs:Lsane l) (hbp:w.heap[bp]? = some (.cells #[P] 98 (0,0))) (_:d0=0) :
 Calls prog 120 #[P,.int .i64 8,.func (.func 123) #[] #[w,bp]]
  (w.alloc (.cells #[.slice none 0 0] 45)) (EachPost P (RI P bp w w) (RJ P w) (dO (pX 1 0) 8 l)):=by
 have hb:Below w w (w.alloc (.cells #[.slice none 0 0] 45)):=ρ;have hne:w.heap.size≠bp:=Nat.ne_of_gt (aG hbp);exact mE (pX 1 0) (wB 1 0) (xM 1 0) 8 ac ac _ aEV #[w,bp] P (RI P bp w w) (RJ P w) (λ_ _ h=>h.but) (λ_ _ h k=>But.trans h k) (λ_ _ _ _ h hp hb=>h.next hp hb)
  (λacc l' w' ha hi hp' hs'=>Vz P bp w 0 l w hR hp hp.lt (ν _) hne acc l' w' ha hi hp' hs') l _
  ⟨But.of hb,aA hbp hb,none,0,[],heap_alloc_new w _,World.ownsRow_nil _ _ _ _,trivial⟩ (hp.below hb) hs
theorem Vw (P bp bx gi d0:Nat) (t:ZS) (l0:ZW) (w0:World) (hR0:Resv w0) (hp0:PS w0 P l0 d0) (hgi:w0.heap.size≤gi) (hne:gi≠bp) (hnx:gi≠bx) (acc:List (List Lp.X)) (l:ZW) (w:World) (hacc:acc.length≤64) (hi:II P bp bx gi t w0 acc w) (hp:PS w P l 0) (hs:Lsane l) :
 Calls prog 122 #[bp,bx] w (lA P (II P bp bx gi t w0) (RJ P w0) acc (rB l)):=by
 obtain ⟨iE,hiE,hz0,hz1,hz2⟩:=info_parts aCS;have HNe:=κ (bQ P 0 uR l w hp);have HI:=κ (ι hi (ι hp hs));have H0:=pm;have cb:=pd;clear hi hp hs hR0 hp0 hgi hne hnx;go_enter func122,ntmps122;go_wp2_with fail;refine μ HNe ?_;rintro e w1 hn;rcases hq1:aD uR l with _|r1
 ·obtain ⟨rfl,hb1⟩:=hn.no hq1;have HN:=κ (show rB l=none by rw [rB,hq1]);have HB:=κ (HI.o.1.but.trans hb1);clear hq1 hn HNe hb1;unfold aT;go_wp2;refine ⟨rfl, ?_⟩;rw [HN.o];exact pn
 ·obtain ⟨rfl,hb1,hp1⟩:=hn.yes hq1;have hi1:=HI.o.1.next HI.o.2.1 hb1;have hR1:=H0.o.1.but H0.o.2.1 hi1.but;have hs1:=HI.o.2.2.sfx (aU hq1);have HE:=κ (Zh P bp 0 r1 w1 hR1 hp1 hs1 hi1.hbp rfl);obtain ⟨A,c,vs,h1,h2,h3⟩:=hi1.rows;have hnr:some w1.heap.size≠Value.ownBlock (.slice A acc.length c):=λe=>by have:=(h2.lt _ e.symm).2;omega
  have HR1:=κ (ι h1 (ι h2 h3));have hne2:w1.heap.size≠gi:=Nat.ne_of_gt (aG h1);have hne1:bx≠gi:=λe=>H0.o.2.2.2.2 e.symm;have H1:=κ (ι hi1 (ι hp1 (ι hs1 hq1)));have c1:∀ o,(w1.alloc o).cell? ⟨bp,0,none⟩=some (.pointer (some ⟨P,0,none⟩)):=λo=>β (aB hi1.hbp o) 0;clear hn hq1 hi1 hR1 hs1 hp1 hb1 cb HNe HI h1 h2 h3;go_wp2_with fail;refine μ HE ?_;rintro e w2 hn;rcases hq2:dO (pX 1 0) 8 r1 with _|⟨xs,r2⟩
  ·rw [hq2] at hn;obtain ⟨ce,rfl,hc,hj⟩:=hn;have HN:=κ (show rB l=none by rw [rB,H1.o.2.2.2];simp only [hq2]);have HB:=κ (ι hc (H1.o.1.but.trans hj));clear hq2 hc hj HE;unfold aT;go_wp2;refine ⟨rfl, ?_⟩;rw [HN.o];exact po
  ·rw [hq2] at hn;obtain ⟨rfl,hp2,hri⟩:=hn;have hi2:=H1.o.1.next H1.o.2.1 hri.but;have cb2:=β hi2.hbp 0;have HN2:=κ (bQ P 0 uQ r2 w2 hp2);have H2:=κ (ι hi2 (ι hri (ι hp2 hq2)));have hsz:=H1.o.1.but.size;clear hq2 hi2 hri hp2 c1 HE;go_wp2_with fail;refine μ HN2 ?_;rintro e w3 hn;rcases hq3:aD uQ r2 with _|r3
   ·obtain ⟨rfl,hb3⟩:=hn.no hq3;have HN:=κ (show rB l=none by rw [rB,H1.o.2.2.2];simp only [H2.o.2.2.2,hq3];rfl);have HB:=κ (H2.o.1.but.trans hb3);clear hq3 hn HN2 hb3;unfold aT;go_wp2;refine ⟨rfl, ?_⟩;rw [HN.o];exact pn
   ·obtain ⟨rfl,hb3,hp3⟩:=hn.yes hq3;have HN:=κ (show rB l=some (xs,r3) by rw [rB,H1.o.2.2.2];simp only [H2.o.2.2.2,hq3];rfl);have hi3:=H2.o.1.next H2.o.2.2.1 hb3;have hri3:=H2.o.2.1.next H2.o.2.2.1 hb3;obtain ⟨Ar,cr,vr,hr1,hr2,hr3⟩:=hri3.row;have hb13:But P w1 w3:=H2.o.2.1.but.trans hb3;have h1:=aM HR1.o.1 hb13 H1.o.2.1 am;have h2:=mU HR1.o.2.1 hb13 H1.o.2.1 am;have h3:=RowsX.stays (StaysT.but hb13 H1.o.2.1 am) HR1.o.2.2;have hrow:RowX w0 w3 xs (.slice Ar xs.length cr):=RowX.mono hsz ⟨Ar,cr,vr,rfl,hr2,hr3⟩;have hng:=pp;have hnb:some bx≠Value.ownBlock (.slice A acc.length c):=cU h2 hi3.hbx am;have H3:=κ (ι hi3 (ι hp3 (ι h1 (ι h2 (ι h3 (ι hrow (ι hng (ι hi3.hbx (ι hr1 hnb)))))))));have cx:w3.cell? ⟨bx,0,none⟩=some (.pointer (some ⟨gi,0,none⟩)):=β hi3.hbx 0;have ci:w3.cell? ⟨gi,1,none⟩=some (.slice A acc.length c):=β h1 1;have ci2:∀ o,(w3.alloc o).cell? ⟨gi,1,none⟩=some (.slice A acc.length c):=λo=>β (aB h1 o) 1;have cx2:∀ o,(w3.alloc o).cell? ⟨bx,0,none⟩=some (.pointer (some ⟨gi,0,none⟩)):=λo=>β (aB hi3.hbx o) 0;have cr1:w3.cell? ⟨w1,0,none⟩=some (.slice Ar xs.length cr):=β hr1 0;have hl1:=aG hi3.hbx;have hl2:=aG hr1;have hl3:=aG h1;have hz3:=hi3.but.size;clear hn hq3 hi3 hri3 hr1 hr2 hr3 h1 h2 h3 hrow hp3 hb3 hb13 cb2 HN2 hng;go_wp2_with fail
    go_region_law (first
     | (refine bL _ rfl (.tmp 16) (.tmp 18) _ rfl w0.heap.size 45 iE _ 1 24 underlying42 hiE hz0 hz1 hz2 rfl (by omega) A acc.length c vs rfl ?_ _ 1 1 [.slice Ar xs.length cr] rfl rfl ?_ ?_ ?_ ?_ ?_ ?_
        ·exact (H3.o.2.2.2.1.alloc _).drew
        ·exact aS [.slice Ar xs.length cr] (bX (heap_alloc_new _ _))
        ·simp [Value.oneCell']
        ·simp only [maxLen];omega
        ·omega
        ·show w0.heap.size≤(w3.alloc _).heap.size;rw [World.size_alloc];omega
        intro A5 c5 w5 ho5 hb5 hg5 hk5;have hx5:=(hk5 _ _ (bX (aB H3.o.2.2.1 _)) H3.o.2.2.2.2.2.2.1).1;have hx6:=(hk5 _ _ (bX (aB H3.o.2.2.2.2.2.2.2.1 _)) H3.o.2.2.2.2.2.2.2.2.2).1;have d5:=β hx5 1;have f5:=pq;have hd5:w5.cell? ⟨bx,0,none⟩=some (.pointer (some ⟨gi,0,none⟩)):=β hx6 0)
     | fail)
    all_goals
     have hw5:=Vu H0.o.2.1.lt H0.o.2.2.1 H0.o.2.2.2.1 H0.o.2.2.2.2 H3.o.1 H3.o.2.1 (But.refl _ _) H3.o.2.2.2.2.1 H3.o.2.2.2.2.2.1 H3.o.2.1 hx5 ho5 hb5 hk5 H3.o.2.2.2.1;clear H3 H2 H1 hx5 hx6 ho5 hb5 hg5 hk5 hd5;go_wp2;go_end0;rw [HN.o];exact pj
def SetsX (B:Nat) (w:World):List (ZS×Lp.X)->ZU->Prop
 | [],[]=>True
 | s::ss,a::v::vs=>a=.string ⟨s.1.toArray⟩∧((∃ T g,v=.iface T (.pointer (some ⟨g,0,none⟩)))∧PX B w s.2 v)∧SetsX B w ss vs
 | _,_=>False
theorem SetsX.stays {B:Nat} {w w':World} (hs:fU w w'):∀ {xs:List (ZS×Lp.X)} {vs:ZU},SetsX B w xs vs->SetsX B w' xs vs
 | [],[],_=>trivial
 | [],_::_,h=>h.elim
 | _::_,[],h=>h.elim
 | _::_,[_],h=>h.elim
 | _::_,_::_::_,⟨h1,h2,h3⟩=>⟨h1,⟨h2.1,PX.keepN hs h2.2⟩,SetsX.stays hs h3⟩
theorem SetsX.app {B:Nat} {w:World}:∀ {xs:List (ZS×Lp.X)} {vs:ZU} {c:ZS} {x:Lp.X} {v:Value},SetsX B w xs vs->(∃ T g,v=.iface T (.pointer (some ⟨g,0,none⟩)))->PX B w x v->SetsX B w (xs++[(c,x)]) (vs++[.string ⟨c.toArray⟩,v])
 | [],[],_,_,_,_,h2,h3=>⟨rfl,⟨h2,h3⟩,trivial⟩
 | [],_::_,_,_,_,h,_,_=>h.elim
 | _::_,[],_,_,_,h,_,_=>h.elim
 | _::_,[_],_,_,_,h,_,_=>h.elim
 | _::_,_::_::_,_,_,_,⟨a,b,c⟩,h2,h3=>⟨a,b,SetsX.app c h2 h3⟩
structure UI (P bp bx gi:Nat) (t:ZS) (w0:World) (acc:List (ZS×Lp.X)) (w:World):Prop where
 but:But P w0 w
 hbp:w.heap[bp]? = some (.cells #[P] 98 (0,0))
 hbx:w.heap[bx]? = some (.cells #[gi] 61 (0,0))
 sets:∃ A c vs,w.heap[gi]? = some (.cells #[t,.slice A acc.length c,.nilIface] 68 (0,0))∧w.ownsRow w0 129 2 (.slice A acc.length c) acc.length vs∧SetsX w0 w acc vs
theorem UI.next {acc:List (ZS×Lp.X)} (h:UI P bp bx gi t w0 acc w) (hp:PS w P l d) (hb:But P w w'):UI P bp bx gi t w0 acc w':=by
 obtain ⟨A,c,vs,h1,h2,h3⟩:=h.sets;exact ⟨h.but.trans hb,aM h.hbp hb hp am,aM h.hbx hb hp am,A,c,vs,aM h1 hb hp am,mU h2 hb hp am,SetsX.stays (StaysT.but hb hp am) h3⟩
def UE (gi:Nat) (t:ZS) (w0:World) (acc:List (ZS×Lp.X)) (A:ZT) (c:Nat) (vs:ZU) (w:World):Prop :=
 w.heap[gi]? = some (.cells #[t,.slice A acc.length c,.nilIface] 68 (0,0))∧w.ownsRow w0 129 2 (.slice A acc.length c) acc.length vs∧SetsX w0 w acc vs
theorem UE.next {acc:List (ZS×Lp.X)} (h:UE gi t w0 acc A c vs w) (hp:PS w P l d) (hb:But P w w'):UE gi t w0 acc A c vs w' :=
 ⟨aM h.1 hb hp am,mU h.2.1 hb hp am,SetsX.stays (StaysT.but hb hp am) h.2.2⟩
theorem Gv (h:w.ownsRow B e size v n xs) (hn:some g≠v.ownBlock):(w.setCell ⟨g,o,none⟩ u).ownsRow B e size v n xs:=by
 refine ⟨h.1, ?_⟩;rcases h.2 with h2|⟨g',cap,cur,rfl,h3,h4,h5⟩
 ·exact .inl h2
 ·refine .inr ⟨g',cap,cur,rfl,h3,(Below.heap_setCell w ⟨g,o,none⟩ u g' ?_).trans h4,h5⟩;intro e;exact hn pc
theorem aHK {gs:Nat} {acc:List (ZS×Lp.X)} (hi:UI P bp bx gi t w0 acc w) (h:UE gi t w0 acc A c vs w) (hg:w0.heap.size≤gs) (hgs:w.heap[gs]? = some (.cells cs 129 (0,0))) (hn:some gs≠Value.ownBlock (.slice A acc.length c)) (v:Value) :
 UI P bp bx gi t w0 acc (w.setCell ⟨gs,1,none⟩ v)∧UE gi t w0 acc A c vs (w.setCell ⟨gs,1,none⟩ v):=by
 have ne:∀ (g:Nat) (cs':ZV) (ty:TypeId),w.heap[g]? = some (.cells cs' ty (0,0))->ty≠129->g≠gs:=by
  rintro g cs' ty h1 h2 rfl;rw [hgs] at h1;injection h1 with h1;injection h1 with _ h1;exact h2 h1.symm
 have hu:UE gi t w0 acc A c vs (w.setCell ⟨gs,1,none⟩ v):=⟨cA h.1 (ne _ _ _ h.1 am) v,Gv h.2.1 hn,SetsX.stays (StaysT.set hgs am) h.2.2⟩;exact ⟨⟨hi.but.setNew hg v,cA hi.hbp (ne _ _ _ hi.hbp am) v,cA hi.hbx (ne _ _ _ hi.hbx am) v,A,c,vs,hu⟩,hu⟩
theorem aCH:(prog.info? 129).map (λi=>(i.zero,i.size,i.bytes))=some (some (.agg #[(),.nilIface]),2,32):=aj
theorem Ik:Am qZ:=by
 intro l x r h;unfold qZ at h;rcases h1:bB l with _|⟨c,r1⟩
 ·rw [h1] at h;cases h
 ·rw [h1] at h;simp only at h;rcases h2:aD wEq r1 with _|r2
  ·rw [h2] at h;cases h
  ·rw [h2] at h;simp only at h;rcases h3:pX 1 0 r2 with _|⟨y,r3⟩
   ·rw [h3] at h;cases h
   ·rw [h3] at h;simp only [Option.map_some,Option.some.injEq,Prod.mk.injEq] at h;obtain ⟨rfl,rfl⟩:=h;have b1:=(bZ h1).length_le;have b2:=(aU h2).length_le;have b3:=iL h3;exact ⟨ac,((iJ h3).trans (aU h2)).trans (bZ h1)⟩
theorem aCG:qZ []=none:=rfl
theorem Vb {c5:Nat} {cn:ZS} {w5:World} {acc:List (ZS×Lp.X)} {A A5:ZT} {c:Nat} {ob:Obj} (hP0:P<w0) (hgi:w0.heap.size≤gi) (hne:gi≠bp) (hnx:gi≠bx)
 (hi:UI P bp bx gi t w0 acc w) (hp:PS w P r d) (h3:SetsX w0 w acc vs) (hvf:∃ T g,v=.iface T (.pointer (some ⟨g,0,none⟩))) (hv:PX w0 w x v)
 (hx5:w5.heap[gi]? = some (.cells #[t,.slice A acc.length c,.nilIface] 68 (0,0))) (ho5:w5.ownsRow w0 129 2 (.slice A5 (acc.length+1) c5) (acc.length+1) (vs++[.string ⟨cn.toArray⟩,v])) (hb5:Below w0 (w.alloc ob).drew w5)
 (hk5:fL (w.alloc ob).drew w5 (Value.ownBlock (.slice A acc.length c)) (Value.ownBlock (.slice A5 (acc.length+1) c5))) (k2:w.ownsRow w0 129 2 (.slice A acc.length c) acc.length vs) :
 PS (w5.setCell ⟨gi,1,none⟩ (.slice A5 (acc.length+1) c5)) P r d∧UI P bp bx gi t w0 (acc++[(cn,x)]) (w5.setCell ⟨gi,1,none⟩ (.slice A5 (acc.length+1) c5)):=by
 have hb25:=qi;have hbut5:But P w0 (w5.setCell ⟨gi,1,none⟩ (.slice A5 (acc.length+1) c5)):=(hi.but.low hb25).setNew hgi _;have hp5:PS (w5.setCell ⟨gi,1,none⟩ (.slice A5 (acc.length+1) c5)) P r d:=(hp.low hP0 hb25).setNew (Nat.lt_of_lt_of_le hP0 hgi) _;have k2d:(w.alloc ob).drew.ownsRow w0 129 2 (.slice A acc.length c) acc.length vs:=(k2.alloc ob).drew;have hsN:fU w (w5.setCell ⟨gi,1,none⟩ (.slice A5 (acc.length+1) c5)) :=
  (StaysT.below ((θ).alloc (ν _) ob).drew).trans ((StaysT.keeps k2d am hk5).trans (StaysT.set hx5 am))
 have old:∀ (g:Nat) (cs:ZV) (ty:TypeId),w.heap[g]? = some (.cells cs ty (0,0))->129≠ty->gi≠g->(w5.setCell ⟨gi,1,none⟩ (.slice A5 (acc.length+1) c5)).heap[g]? = some (.cells cs ty (0,0)):=by
  intro g cs ty hg h2 h3;have hg5:=qj;exact pk
 refine ⟨hp5,hbut5,old _ _ _ hi.hbp am hne,old _ _ _ hi.hbx am hnx,A5,c5,vs++[.string ⟨cn.toArray⟩,v], ?_, ?_, ?_⟩
 ·have:=heap_setCell_same w5 gi 1 _ _ (.slice A5 (acc.length+1) c5) hx5
  simpa using this
 ·rw [List.length_append];exact lJ ho5 hx5 am
 ·exact SetsX.app (SetsX.stays hsN h3) hvf (PX.keepN hsN hv)
theorem Vc (P bp bx gi d0:Nat) (t:ZS) (l0:ZW) (w0:World) (hR0:Resv w0) (hp0:PS w0 P l0 d0) (hgi:w0.heap.size≤gi) (hne:gi≠bp) (hnx:gi≠bx) (acc:List (ZS×Lp.X)) (l:ZW) (w:World) (hacc:acc.length≤8) (hi:UI P bp bx gi t w0 acc w) (hp:PS w P l 0) (hs:Lsane l) :
 Calls prog 125 #[bp,bx] w (lA P (UI P bp bx gi t w0) (RJ P w0) acc (qZ l)):=by
 obtain ⟨iE,hiE,hz0,hz1,hz2⟩:=info_parts aCH;have HNm:=κ (eD P 0 l w hp (hR0.but hp0 hi.but));obtain ⟨A,c,vs,hue⟩:=hi.sets;have hue:UE gi t w0 acc A c vs w:=hue;have hrl:=hue.2.1.lt;have HU:=κ (ι hue hrl);have HI:=κ (ι hi (ι hp hs));have H0:=pm;have cb:=pd;clear hi hp hs hR0 hp0 hgi hne hnx hue hrl;go_enter func125,ntmps125;go_wp2_with fail;refine μ HNm ?_;rintro e w1 ⟨hb1,hq1⟩;rcases hq:bB l with _|⟨cn,r1⟩
 ·rw [hq] at hq1;obtain ⟨ce,rfl,hce⟩:=hq1;have HN:=κ (show qZ l=none by rw [qZ,hq]);have HB:=qk;clear hq hb1 HNm;unfold aT;go_wp2;refine ⟨rfl, ?_⟩;rw [HN.o];exact po
 ·rw [hq] at hq1;obtain ⟨rfl,hp1⟩:=hq1;have hbA:Below w1 w1 (w1.alloc (.cells #[cn,.nilIface] 129)):=ρ;have hxA:=heap_alloc_new w1 (.cells #[cn,.nilIface] 129);have hi1:=(HI.o.1.next HI.o.2.1 hb1).next hp1 (But.of hbA);have hs1:=HI.o.2.2.sfx (bZ hq);have HNe:=κ (bQ P 0 wEq r1 _ (hp1.below hbA));have cbA:=β hi1.hbp 0;have hueA:=(HU.o.1.next HI.o.2.1 hb1).next hp1 (But.of hbA);have hgs:some w1.heap.size≠Value.ownBlock (.slice A acc.length c):=λe=>by have:=(HU.o.2 _ e.symm).2;have:=hb1.size;omega
  have hgz:w0≤w1.heap.size:=Nat.le_trans HI.o.1.but.size hb1.size;have hPz:=hp1.lt;have HV:=κ (ι hueA (ι hgs (ι hgz hPz)));have H1:=κ (ι hi1 (ι (hp1.below hbA) (ι hxA (ι hs1 hq))));clear hq hb1 hp1 hbA hxA hi1 hs1 HNm cb HI hueA hgs hgz hPz HU;rw [World.size_alloc] at HNe;go_wp2_with fail;refine μ HNe ?_;rintro e w2 hn;rcases hq2:aD wEq r1 with _|r2
  ·obtain ⟨rfl,hb2⟩:=hn.no hq2;have HN:=κ (show qZ l=none by rw [qZ,H1.o.2.2.2.2];simp only [hq2]);have HB:=κ (H1.o.1.but.trans hb2);clear hq2 hn HNe hb2;unfold aT;go_wp2;refine ⟨rfl, ?_⟩;rw [HN.o];exact pn
  ·obtain ⟨rfl,hb2,hp2⟩:=hn.yes hq2;have hi2:=H1.o.1.next H1.o.2.1 hb2;have hx2:=aM H1.o.2.2.1 hb2 H1.o.2.1 am;have hs2:=H1.o.2.2.2.1.sfx (aU hq2);have cb2:=β hi2.hbp 0;have HC:=κ ((iQ P r2.length 0 (by have:=hs2.1;omega)).e w2 r2 (ν _) hp2 hs2 (H0.o.1.but H0.o.2.1 hi2.but));have hue2:=HV.o.1.next H1.o.2.1 hb2;have H2:=κ (ι hi2 (ι hp2 (ι hx2 (ι hq2 hue2))));clear hn hq2 hb2 hp2 hi2 hx2 hs2 HNe cbA hue2;go_wp2_with fail;refine μ HC ?_;rintro e w3 ⟨hb3,hq3⟩;rcases hq:pX 1 0 r2 with _|⟨x,r3⟩
   ·rw [hq] at hq3;obtain ⟨ce,rfl,hce⟩:=hq3;have HN:=κ (show qZ l=none by rw [qZ,H1.o.2.2.2.2];simp only [H2.o.2.2.2.1,hq];rfl);have HB:=κ (ι hce (H2.o.1.but.trans hb3));clear hq hb3 HC;unfold aT;go_wp2;refine ⟨rfl, ?_⟩;rw [HN.o];exact po
   ·rw [hq] at hq3;obtain ⟨T,g,rfl,hx,hp3⟩:=hq3;have HN:=κ (show qZ l=some ((cn,x),r3) by rw [qZ,H1.o.2.2.2.2];simp only [H2.o.2.2.2.1,hq];rfl);have hx3:=aM H2.o.2.2.1 hb3 H2.o.2.1 am;have hi3:=H2.o.1.next H2.o.2.1 hb3;have hue3:=H2.o.2.2.2.2.next H2.o.2.1 hb3;obtain ⟨hi4,hue4⟩:=aHK hi3 hue3 HV.o.2.2.1 hx3 HV.o.2.1 (.iface T g);have hx4:(w3.setCell ⟨w1,1,none⟩ (.iface T g)).heap[w1.heap.size]? = some (.cells #[cn,.iface T g] 129 (0,0)):=by
     have:=heap_setCell_same w3 w1 1 _ _ (.iface T g) hx3
     simpa using this
    have hp4:PS (w3.setCell ⟨w1,1,none⟩ (.iface T g)) P r3 0:=hp3.setNew HV.o.2.2.2 _;have hpx4:PX w0 (w3.setCell ⟨w1,1,none⟩ (.iface T g)) x (.iface T g):=PX.keepN (StaysT.set hx3 am) (hx.mono H2.o.1.but.size);have c3:=β hx3 1;have f3:=λj=>frozen_of_row w3 w1 j _ _ hx3;obtain ⟨w4,hw4⟩:∃ w4,w3.setCell ⟨w1,1,none⟩ (.iface T g)=w4:=cw;have HW:=κ hw4;rw [hw4] at hi4 hue4 hx4 hp4 hpx4;have hng:some gi≠Value.ownBlock (.slice A acc.length c):=cU hue4.2.1 hue4.1 am;have hnb:some bx≠Value.ownBlock (.slice A acc.length c):=cU hue4.2.1 hi4.hbx am;have H4:=κ (ι hi4 (ι hue4 (ι hp4 (ι hpx4 (ι hng hnb)))));clear hq hb3 hx hp3 hue3 hi3 hx3 HC cb2 hng hnb hw4;go_upto_region 3 with fail;rw [HW.o];clear c3 f3;have cx:w4.cell? ⟨bx,0,none⟩=some (.pointer (some ⟨gi,0,none⟩)):=β hi4.hbx 0;have cx2:∀ o,(w4.alloc o).cell? ⟨bx,0,none⟩=some (.pointer (some ⟨gi,0,none⟩)):=λo=>β (aB hi4.hbx o) 0;have ci:w4.cell? ⟨gi,1,none⟩=some (.slice A acc.length c):=β hue4.1 1;have ci2:∀ o,(w4.alloc o).cell? ⟨gi,1,none⟩=some (.slice A acc.length c):=λo=>β (aB hue4.1 o) 1;have cs0:w4.cell? ⟨w1,0,none⟩=some (.string cn):=β hx4 0;have cs1:w4.cell? ⟨w1,1,none⟩=some (.iface T g):=β hx4 1;have hl1:=aG hi4.hbx;have hl2:=aG hx4;have hl3:=aG hue4.1
    have hz3:=hi4.but.size;clear hi4 hue4 hx4 hp4 hpx4
    go_region_law (first
     | (refine bL _ rfl (.tmp 16) (.tmp 18) _ rfl w0.heap.size 129 iE _ 2 32 underlying65 hiE hz0 hz1 hz2 rfl (by omega) A acc.length c vs rfl ?_ _ 1 1 [.string ⟨cn.toArray⟩,.iface T (.pointer (some ⟨g,0,none⟩))] rfl rfl ?_ ?_ ?_ ?_ ?_ ?_
        ·exact (H4.o.2.1.2.1.alloc _).drew
        ·exact aS [.string ⟨cn.toArray⟩,.iface T g] (bX (heap_alloc_new _ _))
        ·simp [Value.oneCell']
        ·simp only [maxLen];omega
        ·omega
        ·show w0.heap.size≤(w4.alloc _).heap.size;rw [World.size_alloc];omega
        intro A5 c5 w5 ho5 hb5 hg5 hk5;have hx5:=(hk5 _ _ (bX (aB H4.o.2.1.1 _)) H4.o.2.2.2.2.1).1;have hx6:=(hk5 _ _ (bX (aB H4.o.1.hbx _)) H4.o.2.2.2.2.2).1;have d5:=β hx5 1;have f5:=pq;have hd5:w5.cell? ⟨bx,0,none⟩=some (.pointer (some ⟨gi,0,none⟩)):=β hx6 0)
     | fail)
    all_goals
     have hw5:=Vb (cn:=cn) H0.o.2.1.lt H0.o.2.2.1 H0.o.2.2.2.1 H0.o.2.2.2.2 H4.o.1 H4.o.2.2.1 H4.o.2.1.2.2 ⟨_,_,rfl⟩ H4.o.2.2.2.1 hx5 ho5 hb5 hk5 H4.o.2.1.2.1;clear H4 H2 H1 hx5 hx6 ho5 hb5 hg5 hk5 hd5;go_wp2;go_end0;rw [HN.o];exact pj
