/-
 Contracts. Conditions: those of each.
-/
import Derived.Test.YtkolcimllghnaaaGreatDoorQcVB
set_option maxRecDepth 100000
set_option maxHeartbeats 8000000
namespace Go.Proofs.YtkolcimllghnaaaGreatDoor
open Lp Go.Proofs.Tryz
open Go.RowKit
variable{P bp bx c d gi:Nat}{v:Value}{w w' w0:World}{t:ZS}{A:ZT}{vs:ZU}{l r:ZW}
def SetsX (B:Nat) (w:World):List (ZS×Lp.X)->ZU->Prop
 | [],[]=>True
 | s::ss,a::v::vs=>a=.string ⟨s.1.toArray⟩/\((∃ T g,v=.iface T (.pointer (some ⟨g,0,none⟩)))/\PX B w s.2 v)/\SetsX B w ss vs
 | _,_=>False
theorem SetsX.stays {B:Nat} {w w':World} (hs:fU w w'):∀ {xs:List (ZS×Lp.X)} {vs:ZU},SetsX B w xs vs->SetsX B w' xs vs
 | [],[],_=>trivial
 | [],_::_,h=>h.elim
 | _::_,[],h=>h.elim
 | _::_,[_],h=>h.elim
 | _::_,_::_::_,⟨h1,h2,h3⟩=>⟨h1,⟨h2.1,PX.keepN hs h2.2⟩,SetsX.stays hs h3⟩
theorem SetsX.app {B:Nat} {w:World}:∀ {xs:List (ZS×Lp.X)} {vs:ZU} {c:ZS} {x:Lp.X} {v:Value},SetsX B w xs vs->(∃ T g,v=.iface T (.pointer (some ⟨g,0,none⟩)))->PX B w x v->SetsX B w (xs++[(c,x)]) (vs++[.string ⟨c.toArray⟩,v])
 | [],[],_,_,_,_,h2,h3=>⟨rfl,⟨h2,h3⟩,trivial⟩
 | [],_::_,_,_,_,h,_,_=>h.elim
 | _::_,[],_,_,_,h,_,_=>h.elim
 | _::_,[_],_,_,_,h,_,_=>h.elim
 | _::_,_::_::_,_,_,_,⟨a,b,c⟩,h2,h3=>⟨a,b,SetsX.app c h2 h3⟩
structure UI (P bp bx gi:Nat) (t:ZS) (w0:World) (acc:List (ZS×Lp.X)) (w:World):Prop where
 but:But P w0 w
 hbp:w.heap[bp]? = some (.cells #[P] 98 (0,0))
 hbx:w.heap[bx]? = some (.cells #[gi] 61 (0,0))
 sets:∃ A c vs,w.heap[gi]? = some (.cells #[t,.slice A acc.length c,.nilIface] 68 (0,0))/\w.ownsRow w0 129 2 (.slice A acc.length c) acc.length vs/\SetsX w0 w acc vs
theorem UI.next {acc:List (ZS×Lp.X)} (h:UI P bp bx gi t w0 acc w) (hp:PS w P l d) (hb:But P w w'):UI P bp bx gi t w0 acc w':=by
 obtain ⟨A,c,vs,h1,h2,h3⟩:=h.sets;exact ⟨h.but.trans hb,aM h.hbp hb hp am,aM h.hbx hb hp am,A,c,vs,aM h1 hb hp am,mU h2 hb hp am,SetsX.stays (StaysT.but hb hp am) h3⟩
def UE (gi:Nat) (t:ZS) (w0:World) (acc:List (ZS×Lp.X)) (A:ZT) (c:Nat) (vs:ZU) (w:World):Prop :=
 w.heap[gi]? = some (.cells #[t,.slice A acc.length c,.nilIface] 68 (0,0))/\w.ownsRow w0 129 2 (.slice A acc.length c) acc.length vs/\SetsX w0 w acc vs
theorem UE.next {acc:List (ZS×Lp.X)} (h:UE gi t w0 acc A c vs w) (hp:PS w P l d) (hb:But P w w'):UE gi t w0 acc A c vs w' :=
 ⟨aM h.1 hb hp am,mU h.2.1 hb hp am,SetsX.stays (StaysT.but hb hp am) h.2.2⟩
theorem Gv {B n size g o:Nat} {e:TypeId} {u:Value} {xs:ZU} (h:w.ownsRow B e size v n xs) (hn:some g≠v.ownBlock):(w.setCell ⟨g,o,none⟩ u).ownsRow B e size v n xs:=by
 refine ⟨h.1, ?_⟩;rcases h.2 with h2|⟨g',cap,cur,rfl,h3,h4,h5⟩
 ·exact .inl h2
 ·refine .inr ⟨g',cap,cur,rfl,h3,(Below.heap_setCell w ⟨g,o,none⟩ u g' ?_).trans h4,h5⟩;intro e;exact hn mf
theorem aHK {gs:Nat} {acc:List (ZS×Lp.X)} {cs:ZV} (hi:UI P bp bx gi t w0 acc w) (h:UE gi t w0 acc A c vs w) (hg:w0.heap.size<=gs) (hgs:w.heap[gs]? = some (.cells cs 129 (0,0))) (hn:some gs≠Value.ownBlock (.slice A acc.length c)) (v:Value) :
 UI P bp bx gi t w0 acc (w.setCell ⟨gs,1,none⟩ v)/\UE gi t w0 acc A c vs (w.setCell ⟨gs,1,none⟩ v):=by
 have ne:∀ (g:Nat) (cs':ZV) (ty:TypeId),w.heap[g]? = some (.cells cs' ty (0,0))->ty≠129->g≠gs:=by
  rintro g cs' ty h1 h2 rfl;rw [hgs] at h1;injection h1 with h1;injection h1 with _ h1;exact h2 h1.symm
 have hu:UE gi t w0 acc A c vs (w.setCell ⟨gs,1,none⟩ v):=⟨cA h.1 (ne _ _ _ h.1 am) v,Gv h.2.1 hn,SetsX.stays (StaysT.set hgs am) h.2.2⟩;exact ⟨⟨hi.but.setNew hg v,cA hi.hbp (ne _ _ _ hi.hbp am) v,cA hi.hbx (ne _ _ _ hi.hbx am) v,A,c,vs,hu⟩,hu⟩
theorem aCH:(prog.info? 129).map (λi=>(i.zero,i.size,i.bytes))=some (some (.agg #[(),.nilIface]),2,32):=aj
theorem Ik:Am qZ:=by
 intro l x r h;unfold qZ at h;rcases h1:bB l with _|⟨c,r1⟩
 ·rw [h1] at h;cases h
 ·rw [h1] at h;simp only at h;rcases h2:aD wEq r1 with _|r2
  ·rw [h2] at h;cases h
  ·rw [h2] at h;simp only at h;rcases h3:pX 1 0 r2 with _|⟨y,r3⟩
   ·rw [h3] at h;cases h
   ·rw [h3] at h;simp only [Option.map_some,Option.some.injEq,Prod.mk.injEq] at h;obtain ⟨rfl,rfl⟩:=h;have b1:=(bZ h1).length_le;have b2:=(aU h2).length_le;have b3:=iL h3;exact ⟨ac,((iJ h3).trans (aU h2)).trans (bZ h1)⟩
theorem aCG:qZ []=none:=rfl
theorem Vb {c5:Nat} {cn:ZS} {w5:World} {acc:List (ZS×Lp.X)} {x:Lp.X} {A A5:ZT} {c:Nat} {ob:Obj} (hP0:P<w0) (hgi:w0.heap.size<=gi) (hne:gi≠bp) (hnx:gi≠bx)
 (hi:UI P bp bx gi t w0 acc w) (hp:PS w P r d) (h3:SetsX w0 w acc vs) (hvf:∃ T g,v=.iface T (.pointer (some ⟨g,0,none⟩))) (hv:PX w0 w x v)
 (hx5:w5.heap[gi]? = some (.cells #[t,.slice A acc.length c,.nilIface] 68 (0,0))) (ho5:w5.ownsRow w0 129 2 (.slice A5 (acc.length+1) c5) (acc.length+1) (vs++[.string ⟨cn.toArray⟩,v])) (hb5:Below w0 (w.alloc ob).drew w5)
 (hk5:fL (w.alloc ob).drew w5 (Value.ownBlock (.slice A acc.length c)) (Value.ownBlock (.slice A5 (acc.length+1) c5))) (k2:w.ownsRow w0 129 2 (.slice A acc.length c) acc.length vs) :
 PS (w5.setCell ⟨gi,1,none⟩ (.slice A5 (acc.length+1) c5)) P r d/\UI P bp bx gi t w0 (acc++[(cn,x)]) (w5.setCell ⟨gi,1,none⟩ (.slice A5 (acc.length+1) c5)):=by
 have hb25:=mw;have hbut5:But P w0 (w5.setCell ⟨gi,1,none⟩ (.slice A5 (acc.length+1) c5)):=(hi.but.low hb25).setNew hgi _;have hp5:PS (w5.setCell ⟨gi,1,none⟩ (.slice A5 (acc.length+1) c5)) P r d:=(hp.low hP0 hb25).setNew (Nat.lt_of_lt_of_le hP0 hgi) _;have k2d:(w.alloc ob).drew.ownsRow w0 129 2 (.slice A acc.length c) acc.length vs:=(k2.alloc ob).drew;have hsN:fU w (w5.setCell ⟨gi,1,none⟩ (.slice A5 (acc.length+1) c5)) :=
  (StaysT.below ((θ).alloc (ν _) ob).drew).trans ((StaysT.keeps k2d am hk5).trans (StaysT.set hx5 am))
 have old:∀ (g:Nat) (cs:ZV) (ty:TypeId),w.heap[g]? = some (.cells cs ty (0,0))->129≠ty->gi≠g->(w5.setCell ⟨gi,1,none⟩ (.slice A5 (acc.length+1) c5)).heap[g]? = some (.cells cs ty (0,0)):=by
  intro g cs ty hg h2 h3;have hg5:=mx;exact mm
 refine ⟨hp5,hbut5,old _ _ _ hi.hbp am hne,old _ _ _ hi.hbx am hnx,A5,c5,vs++[.string ⟨cn.toArray⟩,v], ?_, ?_, ?_⟩
 ·have:=heap_setCell_same w5 gi 1 _ _ (.slice A5 (acc.length+1) c5) hx5
  simpa using this
 ·rw [List.length_append];exact lJ ho5 hx5 am
 ·exact SetsX.app (SetsX.stays hsN h3) hvf (PX.keepN hsN hv)
theorem Vc (P bp bx gi d0:Nat) (t:ZS) (l0:ZW) (w0:World) (hR0:Resv w0) (hp0:PS w0 P l0 d0) (hgi:w0.heap.size<=gi) (hne:gi≠bp) (hnx:gi≠bx) (acc:List (ZS×Lp.X)) (l:ZW) (w:World) (hacc:acc.length<=8) (hi:UI P bp bx gi t w0 acc w) (hp:PS w P l 0) (hs:Lsane l) :
 Calls prog 125 #[bp,bx] w (lA P (UI P bp bx gi t w0) (RJ P w0) acc (qZ l)):=by
 obtain ⟨iE,hiE,hz0,hz1,hz2⟩:=info_parts aCH;have HNm:=κ (eD P 0 l w hp (hR0.but hp0 hi.but));obtain ⟨A,c,vs,hue⟩:=hi.sets;have hue:UE gi t w0 acc A c vs w:=hue;have hrl:=hue.2.1.lt;have HU:=κ (ι hue hrl);have HI:=κ (ι hi (ι hp hs));have H0:=mn;have cb:=mg;clear hi hp hs hR0 hp0 hgi hne hnx hue hrl;go_enter func125,ntmps125;go_wp2_with fail;refine μ HNm ?_;rintro e w1 ⟨hb1,hq1⟩;rcases hq:bB l with _|⟨cn,r1⟩
 ·rw [hq] at hq1;obtain ⟨ce,rfl,hce⟩:=hq1;have HN:=κ (show qZ l=none by rw [qZ,hq]);have HB:=my;clear hq hb1 HNm;unfold aT;go_wp2;refine ⟨rfl, ?_⟩;rw [HN.o];exact mp
 ·rw [hq] at hq1;obtain ⟨rfl,hp1⟩:=hq1;have hbA:Below w1 w1 (w1.alloc (.cells #[cn,.nilIface] 129)):=ρ;have hxA:=heap_alloc_new w1 (.cells #[cn,.nilIface] 129);have hi1:=(HI.o.1.next HI.o.2.1 hb1).next hp1 (But.of hbA);have hs1:=HI.o.2.2.sfx (bZ hq);have HNe:=κ (bQ P 0 wEq r1 _ (hp1.below hbA));have cbA:=β hi1.hbp 0;have hueA:=(HU.o.1.next HI.o.2.1 hb1).next hp1 (But.of hbA);have hgs:some w1.heap.size≠Value.ownBlock (.slice A acc.length c):=λe=>by have:=(HU.o.2 _ e.symm).2;have:=hb1.size;omega
  have hgz:w0<=w1.heap.size:=Nat.le_trans HI.o.1.but.size hb1.size;have hPz:=hp1.lt;have HV:=κ (ι hueA (ι hgs (ι hgz hPz)));have H1:=κ (ι hi1 (ι (hp1.below hbA) (ι hxA (ι hs1 hq))));clear hq hb1 hp1 hbA hxA hi1 hs1 HNm cb HI hueA hgs hgz hPz HU;rw [World.size_alloc] at HNe;go_wp2_with fail;refine μ HNe ?_;rintro e w2 hn;rcases hq2:aD wEq r1 with _|r2
  ·obtain ⟨rfl,hb2⟩:=hn.no hq2;have HN:=κ (show qZ l=none by rw [qZ,H1.o.2.2.2.2];simp only [hq2]);have HB:=κ (H1.o.1.but.trans hb2);clear hq2 hn HNe hb2;unfold aT;go_wp2;refine ⟨rfl, ?_⟩;rw [HN.o];exact mo
  ·obtain ⟨rfl,hb2,hp2⟩:=hn.yes hq2;have hi2:=H1.o.1.next H1.o.2.1 hb2;have hx2:=aM H1.o.2.2.1 hb2 H1.o.2.1 am;have hs2:=H1.o.2.2.2.1.sfx (aU hq2);have cb2:=β hi2.hbp 0;have HC:=κ ((iQ P r2.length 0 (by have:=hs2.1;omega)).e w2 r2 (ν _) hp2 hs2 (H0.o.1.but H0.o.2.1 hi2.but));have hue2:=HV.o.1.next H1.o.2.1 hb2;have H2:=κ (ι hi2 (ι hp2 (ι hx2 (ι hq2 hue2))));clear hn hq2 hb2 hp2 hi2 hx2 hs2 HNe cbA hue2;go_wp2_with fail;refine μ HC ?_;rintro e w3 ⟨hb3,hq3⟩;rcases hq:pX 1 0 r2 with _|⟨x,r3⟩
   ·rw [hq] at hq3;obtain ⟨ce,rfl,hce⟩:=hq3;have HN:=κ (show qZ l=none by rw [qZ,H1.o.2.2.2.2];simp only [H2.o.2.2.2.1,hq];rfl);have HB:=κ (ι hce (H2.o.1.but.trans hb3));clear hq hb3 HC;unfold aT;go_wp2;refine ⟨rfl, ?_⟩;rw [HN.o];exact mp
   ·rw [hq] at hq3;obtain ⟨T,g,rfl,hx,hp3⟩:=hq3;have HN:=κ (show qZ l=some ((cn,x),r3) by rw [qZ,H1.o.2.2.2.2];simp only [H2.o.2.2.2.1,hq];rfl);have hx3:=aM H2.o.2.2.1 hb3 H2.o.2.1 am;have hi3:=H2.o.1.next H2.o.2.1 hb3;have hue3:=H2.o.2.2.2.2.next H2.o.2.1 hb3;obtain ⟨hi4,hue4⟩:=aHK hi3 hue3 HV.o.2.2.1 hx3 HV.o.2.1 (.iface T g);have hx4:(w3.setCell ⟨w1,1,none⟩ (.iface T g)).heap[w1.heap.size]? = some (.cells #[cn,.iface T g] 129 (0,0)):=by
     have:=heap_setCell_same w3 w1 1 _ _ (.iface T g) hx3
     simpa using this
    have hp4:PS (w3.setCell ⟨w1,1,none⟩ (.iface T g)) P r3 0:=hp3.setNew HV.o.2.2.2 _;have hpx4:PX w0 (w3.setCell ⟨w1,1,none⟩ (.iface T g)) x (.iface T g):=PX.keepN (StaysT.set hx3 am) (hx.mono H2.o.1.but.size);have c3:=β hx3 1;have f3:=λj=>frozen_of_row w3 w1 j _ _ hx3;obtain ⟨w4,hw4⟩:∃ w4,w3.setCell ⟨w1,1,none⟩ (.iface T g)=w4:=da;have HW:=κ hw4;rw [hw4] at hi4 hue4 hx4 hp4 hpx4;have hng:some gi≠Value.ownBlock (.slice A acc.length c):=cU hue4.2.1 hue4.1 am;have hnb:some bx≠Value.ownBlock (.slice A acc.length c):=cU hue4.2.1 hi4.hbx am;have H4:=κ (ι hi4 (ι hue4 (ι hp4 (ι hpx4 (ι hng hnb)))));clear hq hb3 hx hp3 hue3 hi3 hx3 HC cb2 hng hnb hw4;go_upto_region 3 with fail;rw [HW.o];clear c3 f3;have cx:w4.cell? ⟨bx,0,none⟩=some (.pointer (some ⟨gi,0,none⟩)):=β hi4.hbx 0;have cx2:∀ o,(w4.alloc o).cell? ⟨bx,0,none⟩=some (.pointer (some ⟨gi,0,none⟩)):=λo=>β (aB hi4.hbx o) 0;have ci:w4.cell? ⟨gi,1,none⟩=some (.slice A acc.length c):=β hue4.1 1;have ci2:∀ o,(w4.alloc o).cell? ⟨gi,1,none⟩=some (.slice A acc.length c):=λo=>β (aB hue4.1 o) 1;have cs0:w4.cell? ⟨w1,0,none⟩=some (.string cn):=β hx4 0;have cs1:w4.cell? ⟨w1,1,none⟩=some (.iface T g):=β hx4 1;have hl1:=aG hi4.hbx;have hl2:=aG hx4;have hl3:=aG hue4.1
    have hz3:=hi4.but.size;clear hi4 hue4 hx4 hp4 hpx4
    go_region_law (first
     | (refine bL _ rfl (.tmp 16) (.tmp 18) _ rfl w0.heap.size 129 iE _ 2 32 underlying65 hiE hz0 hz1 hz2 rfl (by omega) A acc.length c vs rfl ?_ _ 1 1 [.string ⟨cn.toArray⟩,.iface T (.pointer (some ⟨g,0,none⟩))] rfl rfl ?_ ?_ ?_ ?_ ?_ ?_
        ·exact (H4.o.2.1.2.1.alloc _).drew
        ·exact aS [.string ⟨cn.toArray⟩,.iface T g] (bX (heap_alloc_new _ _))
        ·simp [Value.oneCell']
        ·simp only [maxLen];omega
        ·omega
        ·show w0.heap.size<=(w4.alloc _).heap.size;rw [World.size_alloc];omega
        intro A5 c5 w5 ho5 hb5 hg5 hk5;have hx5:=(hk5 _ _ (bX (aB H4.o.2.1.1 _)) H4.o.2.2.2.2.1).1;have hx6:=(hk5 _ _ (bX (aB H4.o.1.hbx _)) H4.o.2.2.2.2.2).1;have d5:=β hx5 1;have f5:=mr;have hd5:w5.cell? ⟨bx,0,none⟩=some (.pointer (some ⟨gi,0,none⟩)):=β hx6 0)
     | fail)
    all_goals
     have hw5:=Vb (cn:=cn) H0.o.2.1.lt H0.o.2.2.1 H0.o.2.2.2.1 H0.o.2.2.2.2 H4.o.1 H4.o.2.2.1 H4.o.2.1.2.2 ⟨_,_,rfl⟩ H4.o.2.2.2.1 hx5 ho5 hb5 hk5 H4.o.2.1.2.1;clear H4 H2 H1 hx5 hx6 ho5 hb5 hg5 hk5 hd5;go_wp2;go_end0;rw [HN.o];exact ml
def Eo (P:Nat) (w:World) (q:Option (ZS×List (ZS×Lp.X)×Option Lp.X×ZW)) (e:Ending) (w':World):Prop :=
 But P w w'/\match q with
 | none=>∃ c,e=aT c/\c≠0
 | some (t,ss,_,r)=>∃ gi A c vs v,e=.returned (.iface 61 (.pointer (some ⟨gi,0,none⟩)))/\w.heap.size<=gi/\w'.heap[gi]? = some (.cells #[t,.slice A ss.length c,v] 68 (0,0)) /\
  w'.ownsRow w 129 2 (.slice A ss.length c) ss.length vs/\SetsX w w' ss vs/\PS w' P r 0
theorem sC {q:Option (ZS×List (ZS×Lp.X)×Option Lp.X×ZW)} {c:Int} (hb:But P w w') (hq:q=none) (hc:c≠0):Eo P w q (aT c) w':=by
 subst hq;exact fl
theorem Mr {acc:List (ZS×Lp.X)} (hi:UI P bp bx gi t w0 acc w) (hn:bx≠gi) (v:Value):(w.setCell ⟨gi,2,none⟩ v).cell? ⟨bx,0,none⟩=some (.pointer (some ⟨gi,0,none⟩)):=β (cA hi.hbx hn v) 0
theorem Mq {ss:List (ZS×Lp.X)} (hi:UI P bp bx gi t w0 ss w) (hp:PS w P r 0) (hP0:P<w0) (hgi:w0.heap.size<=gi) (hu:UE gi t w0 ss A c vs w) (v:Value) :
 But P w0 (w.setCell ⟨gi,2,none⟩ v)/\∃ gi' A c vs v',Ending.returned (.iface 61 gi)=.returned (.iface 61 (.pointer (some ⟨gi',0,none⟩)))/\w0.heap.size<=gi'/\(w.setCell ⟨gi,2,none⟩ v).heap[gi']? = some (.cells #[t,.slice A ss.length c,v'] 68 (0,0)) /\
  (w.setCell ⟨gi,2,none⟩ v).ownsRow w0 129 2 (.slice A ss.length c) ss.length vs/\SetsX w0 (w.setCell ⟨gi,2,none⟩ v) ss vs/\PS (w.setCell ⟨gi,2,none⟩ v) P r 0:=by
 have h2:=heap_setCell_same w gi 2 _ _ v hu.1;refine ⟨hi.but.setNew hgi v,gi,A,c,vs,v,rfl,hgi,dc,lJ hu.2.1 hu.1 am,SetsX.stays (StaysT.set hu.1 am) hu.2.2,hp.setNew (Nat.lt_of_lt_of_le hP0 hgi) v⟩
theorem aET:∀ args w,Sem.run prog (callFunc 125 args) w=.ok (.enter 125 args) w:=λ_ _=>rfl
theorem Ru (P bp bx gi:Nat) (t:ZS) (l0 l:ZW) (w0 w:World) (hR0:Resv w0) (hp0:PS w0 P l0 0) (hgi:w0.heap.size<=gi) (hne:gi≠bp) (hnx:gi≠bx) (hi:UI P bp bx gi t w0 [] w) (hp:PS w P l 0) (hs:Lsane l) :
 Calls prog 120 #[P,.int .i64 8,.func (.func 125) #[] #[bp,bx]]
  w (EachPost P (UI P bp bx gi t w0) (RJ P w0) (dO qZ 8 l)) :=
 mE qZ Ik aCG 8 ac ac _ aET #[bp,bx] P (UI P bp bx gi t w0) (RJ P w0) (λ_ _ h=>h.but) (λ_ _ h k=>But.trans h k) (λ_ _ _ _ h hp hb=>h.next hp hb)
  (λacc l' w' ha hi hp' hs'=>Vc P bp bx gi 0 t l0 w0 hR0 hp0 hgi hne hnx acc l' w' ha hi hp' hs') l w hi hp hs
theorem Jn (P:Nat) (l:ZW) (w:World) (h:PS w P l 0) (hs:Lsane l) (hR:Resv w) :
 Calls prog 67 #[P] w (Eo P w (wJ l)):=by
 have hb0:=gm;have hx0:=gy;have HNm:=κ (eD P 0 l _ (h.below hb0) (cC hR hb0));have H0:=ms;clear h hs hR hb0 hx0;go_enter func67,ntmps67;go_wp2_with fail;refine μ HNm ?_;rintro e w2 ⟨hb2,hq2⟩;rcases hq:bB l with _|⟨t,r2⟩
 ·rw [hq] at hq2;obtain ⟨ce,rfl,hce⟩:=hq2;have HN:=κ (show wJ l=none by rw [wJ,hq]);have HB:=κ (H0.o.2.2.2.1.trans hb2);clear hq hb2 HNm;unfold aT;go_wp2;exact ⟨rfl,sC HB.o HN.o hce⟩
 ·rw [hq] at hq2;obtain ⟨rfl,hp2⟩:=hq2;have hx2:=aM H0.o.2.2.2.2.1 hb2 H0.o.2.2.2.2.2 am;have hs2:=H0.o.2.1.sfx (bZ hq);have hb3:Below w2 w2 ((w2.alloc (.cells #[t,.slice none 0 0,.nilIface] 68)).alloc (.cells #[w2] 61)):=(ρ).alloc aa _;have hg3:=aB (heap_alloc_new w2 (.cells #[t,.slice none 0 0,.nilIface] 68)) (.cells #[w2] 61);have hv3:=bG w2 (.cells #[t,.slice none 0 0,.nilIface] 68) (.cells #[w2] 61);have hbx3:=aA hx2 hb3;have c3:=β hbx3 0;have hz:=(H0.o.2.2.2.1.trans hb2).size;have hlt2:=aG hx2;have HN3:=κ (bQ P 0 aHG r2 _ (hp2.below hb3));have H3:=κ (ι ((H0.o.2.2.2.1.trans hb2).trans (But.of hb3)) (ι hg3 (ι hv3 (ι hbx3 (ι (hp2.below hb3) (ι hs2 (ι hq (ι hz hlt2))))))));clear hq hb2 hp2 hx2 hs2 hb3 hg3 hv3 hbx3 HNm hlt2 hz;rw [World.size_alloc,World.size_alloc] at HN3;go_wp2_with fail;refine μ HN3 ?_;rintro e w4 hn;rcases hq4:aD aHG r2 with _|r3
  ·obtain ⟨rfl,hb4⟩:=hn.no hq4;have HN:=κ (show wJ l=none by rw [wJ,H3.o.2.2.2.2.2.2.1];simp only [hq4]);have HB:=κ (H3.o.1.trans hb4);clear hq4 hn HN3 hb4;unfold aT;go_wp2;exact ⟨rfl,sC HB.o HN.o am⟩
  ·obtain ⟨rfl,hb4,hp4⟩:=hn.yes hq4;have hbp4:=mv;have hi4:UI P w (w2+1) w2 t w [] w4:=⟨H3.o.1.trans hb4,hbp4,aM H3.o.2.2.1 hb4 H3.o.2.2.2.2.1 am,none,0,[],aM H3.o.2.1 hb4 H3.o.2.2.2.2.1 am,World.ownsRow_nil _ _ _ _,trivial⟩;have hs4:=H3.o.2.2.2.2.2.1.sfx (aU hq4);have HE:=κ (Ru P w (w2+1) w2 t l r3 w w4 H0.o.2.2.1 H0.o.1 H3.o.2.2.2.2.2.2.2.1 (Nat.ne_of_gt H3.o.2.2.2.2.2.2.2.2) ac hi4 hp4 hs4);have c4:=β hbp4 0;have HQ4:=κ (ι hq4 hs4);clear hn hq4 hb4 hp4 hbp4 hi4 HN3 c3 hs4;go_wp2_with fail;refine μ HE ?_;rintro e w5 hn;rcases hq5:dO qZ 8 r3 with _|⟨ss,r4⟩
   ·rw [hq5] at hn;obtain ⟨ce,rfl,hc,hj⟩:=hn;have HN:=κ (show wJ l=none by rw [wJ,H3.o.2.2.2.2.2.2.1];simp only [HQ4.o.1,hq5]);have HB:=κ (ι hc hj);clear hq5 hc hj HE;unfold aT;go_wp2;exact ⟨rfl,sC HB.o.2 HN.o HB.o.1⟩
   ·rw [hq5] at hn;obtain ⟨rfl,hp5,hi5⟩:=hn;have hs5:=HQ4.o.2.sfx (lQ Ik 8 _ _ _ _ _ hq5).2;have HWh:=κ (tQ P r4 w5.drew hp5 hs5 (show Resv w5.drew from H0.o.2.2.1.but H0.o.1 hi5.but.drew));have HP5:=κ (show PS w5.drew P r4 0 from hp5);have HI5:=κ (ι hi5 hq5);have c5:w5.cell? ⟨w2+1,0,none⟩=some (.pointer (some ⟨w2,0,none⟩)):=β hi5.hbx 0;have c6:w5.cell? ⟨w,0,none⟩=some (.pointer (some ⟨P,0,none⟩)):=β hi5.hbp 0;have hl5:=aG hi5.hbx;clear hq5 hp5 hi5 HE hs5;generalize hqw:lB r4=qw at *;rcases qw with _|⟨x,r5⟩
    ·have HC0:=κ (HWh.o.mono (λe w2 (hx:nY P w5.drew none e w2)=>(show But P w5.drew w2/\∃ c,e=aT c/\c≠0 from hx)));have HN:=κ (show wJ l=none by rw [wJ,H3.o.2.2.2.2.2.2.1];simp only [HQ4.o.1,HI5.o.2];exact (congrArg (Option.map _) hqw));clear HWh hqw;go_wp2_with fail;refine wp_region_held_drew (S:=λw'=>w'.cell? ⟨w2+1,0,none⟩=some (.pointer (some ⟨w2,0,none⟩))/\w'.cell? ⟨w.heap.size,0,none⟩=some (.pointer (some ⟨P,0,none⟩))) aj ⟨c5,c6⟩ (λhHeld => ?_);refine wpAnyH_take (i:=0) (v:=.pointer (some ⟨w2,0,none⟩)) rfl aj aj aj (λ_ _ _ h=>h) (Or.inl ⟨ej,λw hSw=>ip⟩) hHeld ?_;refine wpAnyH_take (i:=1) (v:=.pointer (some ⟨P,0,none⟩)) rfl aj aj aj (λ_ _ _ h=>h) (Or.inl ⟨ej,λw hSw=>ip⟩) hHeld ?_;refine wpAnyH_ready (rs:=[2]) aj aa ?_;refine AllReadyH.cons rfl (λK hK => ?_) AllReadyH.nil;go_simp;refine μ HC0 ?_;rintro e w6 ⟨hb6,ce,rfl,hc⟩;have HB:=κ (HI5.o.1.but.drew.trans hb6);clear hb6 c5 c6;unfold aT;go_wp2;exact ⟨rfl,sC HB.o HN.o hc⟩
    ·have HN:=κ (show wJ l=some (t,ss,x,r5) by rw [wJ,H3.o.2.2.2.2.2.2.1];simp only [HQ4.o.1,HI5.o.2];exact (congrArg (Option.map _) hqw));have HI6:=κ (show UI P w (w2+1) w2 t w ss w5.drew from ⟨HI5.o.1.but.drew,HI5.o.1.hbp,HI5.o.1.hbx,(HI5.o.1.next (w':=w5.drew) HP5.o (But.refl _ _).drew).sets⟩);clear hqw;rcases x with _|x
     ·have HC0:=κ (HWh.o.mono (λe w2 (hx:nY P w5.drew (some (none,r5)) e w2)=>(show But P w5.drew w2/\e=.returned .nilIface/\PS w2 P r5 0 from by obtain ⟨h1,v,h2,h3,h4⟩:=hx;exact ⟨h1,by rw [h2,show v=.nilIface from h3],h4⟩)));clear HWh;go_wp2_with fail
      go_region_law (first
       | (go_simp;go_at_call 126;refine μ HC0 ?_;rintro e w6 ⟨hb6,rfl,hp6⟩;have hi6:=HI6.o.next HP5.o hb6;obtain ⟨A6,c6',vs6,k1,k2,k3⟩:=hi6.sets;have d5:w6.cell? ⟨w2+1,0,none⟩=some (.pointer (some ⟨w2,0,none⟩)):=β hi6.hbx 0;have d6:w6.cell? ⟨w2,2,none⟩=some .nilIface:=β k1 2;have f6:=λj=>frozen_of_row w6 w2 j _ _ k1)
       | fail)
      all_goals
       have hE:=Mq hi6 hp6 H0.o.1.lt H3.o.2.2.2.2.2.2.2.1 ⟨k1,k2,k3⟩ (.nilIface);have d7:=Mr hi6 ac (.nilIface);clear HI6 HI5 HP5 HC0 hi6 hp6 k1 k2 k3 hb6 HQ4 H3;go_wp2;go_ret;refine ⟨hE.1, ?_⟩;rw [HN.o];exact hE.2
     ·have HC0:=κ (HWh.o.mono (λe w2 (hx:nY P w5.drew (some (some x,r5)) e w2)=>(show But P w5.drew w2/\∃ T g,e=.returned (.iface T (.pointer (some ⟨g,0,none⟩)))/\PS w2 P r5 0 from by obtain ⟨h1,v,h2,⟨⟨T,g,h3⟩,_⟩,h4⟩:=hx;exact ⟨h1,T,g,by rw [h2,h3],h4⟩)));clear HWh;go_wp2_with fail
      go_region_law (first
       | (go_simp;go_at_call 126;refine μ HC0 ?_;rintro e w6 ⟨hb6,T,g,rfl,hp6⟩;have hi6:=HI6.o.next HP5.o hb6;obtain ⟨A6,c6',vs6,k1,k2,k3⟩:=hi6.sets;have d5:w6.cell? ⟨w2+1,0,none⟩=some (.pointer (some ⟨w2,0,none⟩)):=β hi6.hbx 0;have d6:w6.cell? ⟨w2,2,none⟩=some .nilIface:=β k1 2;have f6:=λj=>frozen_of_row w6 w2 j _ _ k1)
       | fail)
      all_goals
       have hE:=Mq hi6 hp6 H0.o.1.lt H3.o.2.2.2.2.2.2.2.1 ⟨k1,k2,k3⟩ (.iface T g);have d7:=Mr hi6 ac (.iface T g);clear HI6 HI5 HP5 HC0 hi6 hp6 k1 k2 k3 hb6 HQ4 H3;go_wp2;go_ret;refine ⟨hE.1, ?_⟩;rw [HN.o];exact hE.2
