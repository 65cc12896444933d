/-
 Contracts. Conditions: those of each.
-/
import Derived.Test.YtkolcimllghnaaaGreatDoorQcVA
set_option maxRecDepth 100000
set_option maxHeartbeats 8000000
namespace Go.Proofs.YtkolcimllghnaaaGreatDoor
open Lp Go.Proofs.Tryz
open Go.RowKit
variable{xs:List Lp.X}{P bp bx d gi:Nat}{v:Value}{w w' w0:World}{t:ZS}{l:ZW}
theorem cA {g g2 o2:Nat} {o:Obj} (h:w.heap[g]? = some o) (hne:g≠g2) (v:Value):(w.setCell ⟨g2,o2,none⟩ v).heap[g]? = some o:=(Below.heap_setCell w ⟨g2,o2,none⟩ v g hne).trans h
def RowX (B:Nat) (w:World) (xs:List Lp.X) (v:Value):Prop:=∃ A c vs,v=.slice A xs.length c/\w.ownsRow B 66 1 (.slice A xs.length c) xs.length vs/\PXs B w xs vs
def RowsX (B:Nat) (w:World):List (List Lp.X)->ZU->Prop
 | [],[]=>True
 | x::xs,v::vs=>RowX B w x v/\RowsX B w xs vs
 | _,_=>False
theorem RowX.stays {B:Nat} (h:RowX B w xs v) (hs:StaysT Ha w w'):RowX B w' xs v:=by
 obtain ⟨A,c,vs,h1,h2,h3⟩:=h;exact ⟨A,c,vs,h1,qR h2 hs am,PXs.keepN hs.nodes h3⟩
theorem RowX.mono {B B':Nat} (hB:B'<=B) {w:World} {xs:List Lp.X} {v:Value} (h:RowX B w xs v):RowX B' w xs v:=by
 obtain ⟨A,c,vs,h1,h2,h3⟩:=h;refine ⟨A,c,vs,h1,⟨h2.1, ?_⟩,PXs.mono hB h3⟩;rcases h2.2 with k|⟨g,cap,cur,k1,k2,k3⟩
 ·exact .inl k
 ·exact .inr ⟨g,cap,cur,k1,Nat.le_trans hB k2,k3⟩
theorem RowsX.stays {B:Nat} {w w':World} (hs:StaysT Ha w w'):∀ {xs:List (List Lp.X)} {vs:ZU},RowsX B w xs vs->RowsX B w' xs vs
 | [],[],_=>trivial
 | [],_::_,h=>h.elim
 | _::_,[],h=>h.elim
 | _::_,_::_,⟨h1,h2⟩=>⟨h1.stays hs,RowsX.stays hs h2⟩
theorem RowsX.app {B:Nat} {w:World}:∀ {xs:List (List Lp.X)} {vs:ZU} {x:List Lp.X} {v:Value},RowsX B w xs vs->RowX B w x v->RowsX B w (xs++[x]) (vs++[v])
 | [],[],_,_,_,h2=>⟨h2,trivial⟩
 | [],_::_,_,_,h,_=>h.elim
 | _::_,[],_,_,h,_=>h.elim
 | _::_,_::_,_,_,⟨a,b⟩,h2=>⟨a,RowsX.app b h2⟩
structure II (P bp bx gi:Nat) (t:ZS) (w0:World) (acc:List (List Lp.X)) (w:World):Prop where
 but:But P w0 w
 hbp:w.heap[bp]? = some (.cells #[P] 98 (0,0))
 hbx:w.heap[bx]? = some (.cells #[gi] 41 (0,0))
 rows:∃ A c vs,w.heap[gi]? = some (.cells #[t,.slice A acc.length c] 44 (0,0))/\w.ownsRow w0 45 1 (.slice A acc.length c) acc.length vs/\RowsX w0 w acc vs
theorem II.next {acc:List (List Lp.X)} (h:II P bp bx gi t w0 acc w) (hp:PS w P l d) (hb:But P w w'):II P bp bx gi t w0 acc w':=by
 obtain ⟨A,c,vs,h1,h2,h3⟩:=h.rows;exact ⟨h.but.trans hb,aM h.hbp hb hp am,aM h.hbx hb hp am,A,c,vs,aM h1 hb hp am,mU h2 hb hp am,RowsX.stays (StaysT.but hb hp am) h3⟩
theorem aCS:(prog.info? 45).map (λi=>(i.zero,i.size,i.bytes))=some (some (.slice none 0 0),1,24):=aj
theorem Zg:Am rB:=by
 intro l x r h;unfold rB at h;rcases h1:aD uR l with _|r1
 ·rw [h1] at h;cases h
 ·rw [h1] at h;simp only at h;rcases h2:dO (pX 1 0) 8 r1 with _|⟨xs,r2⟩
  ·rw [h2] at h;cases h
  ·rw [h2] at h;simp only at h;rcases h3:aD uQ r2 with _|r3
   ·rw [h3] at h;cases h
   ·rw [h3] at h;simp only [Option.map_some,Option.some.injEq,Prod.mk.injEq] at h;obtain ⟨rfl,rfl⟩:=h;obtain ⟨a1,a2⟩:=lQ (wB 1 0) 8 _ _ _ _ _ h2;have b1:=(aU h1).length_le;have b2:=(aU h3).length_le;exact ⟨ac,((aU h3).trans a2).trans (aU h1)⟩
theorem aCR:rB []=none:=rfl
theorem Vu {c5:Nat} {w2 w5:World} {acc:List (List Lp.X)} {r:ZW} {A A5:ZT} {c:Nat} {vs:ZU} {ob:Obj} (hP0:P<w0) (hgi:w0.heap.size<=gi) (hne:gi≠bp) (hnx:gi≠bx)
 (hi:II P bp bx gi t w0 acc w) (hp:PS w P l d) (hb2:But P w w2) (h3:RowsX w0 w acc vs) (hv:RowX w0 w2 xs v) (hp2:PS w2 P r 0)
 (hx5:w5.heap[gi]? = some (.cells #[t,.slice A acc.length c] 44 (0,0))) (ho5:w5.ownsRow w0 45 1 (.slice A5 (acc.length+1) c5) (acc.length+1) (vs++[v])) (hb5:Below w0 (w2.alloc ob).drew w5)
 (hk5:fL (w2.alloc ob).drew w5 (Value.ownBlock (.slice A acc.length c)) (Value.ownBlock (.slice A5 (acc.length+1) c5))) (k2:w2.ownsRow w0 45 1 (.slice A acc.length c) acc.length vs) :
 PS (w5.setCell ⟨gi,1,none⟩ (.slice A5 (acc.length+1) c5)) P r 0/\II P bp bx gi t w0 (acc++[xs]) (w5.setCell ⟨gi,1,none⟩ (.slice A5 (acc.length+1) c5)):=by
 have hb25:Below w0 w2 w5:=(((Below.refl w2 w2).alloc (ν _) ob).drew |>.mono (Nat.le_trans hi.but.size hb2.size)).trans hb5;have hbut5:But P w0 (w5.setCell ⟨gi,1,none⟩ (.slice A5 (acc.length+1) c5)):=((hi.but.trans hb2).low hb25).setNew hgi _;have hp5:PS (w5.setCell ⟨gi,1,none⟩ (.slice A5 (acc.length+1) c5)) P r 0:=(hp2.low hP0 hb25).setNew (Nat.lt_of_lt_of_le hP0 hgi) _;have k2d:(w2.alloc ob).drew.ownsRow w0 45 1 (.slice A acc.length c) acc.length vs:=(k2.alloc ob).drew;have hsN:StaysT Ha w2 (w5.setCell ⟨gi,1,none⟩ (.slice A5 (acc.length+1) c5)) :=
  (StaysT.below ((θ).alloc (ν _) ob).drew).trans ((StaysT.keeps k2d am hk5).trans (StaysT.set hx5 am))
 have old:∀ (g:Nat) (cs:ZV) (ty:TypeId),w.heap[g]? = some (.cells cs ty (0,0))->ty≠100->45≠ty->gi≠g->(w5.setCell ⟨gi,1,none⟩ (.slice A5 (acc.length+1) c5)).heap[g]? = some (.cells cs ty (0,0)):=by
  intro g cs ty hg h1 h2 h3;have hg2:=aM hg hb2 hp h1;have hg5:=(hk5 _ _ (bX (aB hg2 ob)) (cU k2d (bX (aB hg2 ob)) h2)).1;exact mm
 refine ⟨hp5,hbut5,old _ _ _ hi.hbp am am hne,old _ _ _ hi.hbx am am hnx,A5,c5,vs++[v], ?_, ?_, ?_⟩
 ·have:=heap_setCell_same w5 gi 1 _ _ (.slice A5 (acc.length+1) c5) hx5
  simpa using this
 ·rw [List.length_append];exact lJ ho5 hx5 am
 ·exact RowsX.app (RowsX.stays ((StaysT.but hb2 hp am).trans hsN) h3) (hv.stays hsN)
theorem aEV:∀ args w,Sem.run prog (callFunc 123 args) w=.ok (.enter 123 args) w:=λ_ _=>rfl
theorem Zh (P bp d0:Nat) (l:ZW) (w:World) (hR:Resv w) (hp:PS w P l 0) (hs:Lsane l) (hbp:w.heap[bp]? = some (.cells #[P] 98 (0,0))) (_:d0=0) :
 Calls prog 120 #[P,.int .i64 8,.func (.func 123) #[] #[w,bp]]
  (w.alloc (.cells #[.slice none 0 0] 45)) (EachPost P (RI P bp w w) (RJ P w) (dO (pX 1 0) 8 l)):=by
 have hb:Below w w (w.alloc (.cells #[.slice none 0 0] 45)):=ρ;have hne:w.heap.size≠bp:=Nat.ne_of_gt (aG hbp);exact mE (pX 1 0) (wB 1 0) (xM 1 0) 8 ac ac _ aEV #[w,bp] P (RI P bp w w) (RJ P w) (λ_ _ h=>h.but) (λ_ _ h k=>But.trans h k) (λ_ _ _ _ h hp hb=>h.next hp hb)
  (λacc l' w' ha hi hp' hs'=>Vz P bp w 0 l w hR hp hp.lt (ν _) hne acc l' w' ha hi hp' hs') l _
  ⟨But.of hb,aA hbp hb,none,0,[],heap_alloc_new w _,World.ownsRow_nil _ _ _ _,trivial⟩ (hp.below hb) hs
theorem Vw (P bp bx gi d0:Nat) (t:ZS) (l0:ZW) (w0:World) (hR0:Resv w0) (hp0:PS w0 P l0 d0) (hgi:w0.heap.size<=gi) (hne:gi≠bp) (hnx:gi≠bx) (acc:List (List Lp.X)) (l:ZW) (w:World) (hacc:acc.length<=64) (hi:II P bp bx gi t w0 acc w) (hp:PS w P l 0) (hs:Lsane l) :
 Calls prog 122 #[bp,bx] w (lA P (II P bp bx gi t w0) (RJ P w0) acc (rB l)):=by
 obtain ⟨iE,hiE,hz0,hz1,hz2⟩:=info_parts aCS;have HNe:=κ (bQ P 0 uR l w hp);have HI:=κ (ι hi (ι hp hs));have H0:=mn;have cb:=mg;clear hi hp hs hR0 hp0 hgi hne hnx;go_enter func122,ntmps122;go_wp2_with fail;refine μ HNe ?_;rintro e w1 hn;rcases hq1:aD uR l with _|r1
 ·obtain ⟨rfl,hb1⟩:=hn.no hq1;have HN:=κ (show rB l=none by rw [rB,hq1]);have HB:=κ (HI.o.1.but.trans hb1);clear hq1 hn HNe hb1;unfold aT;go_wp2;refine ⟨rfl, ?_⟩;rw [HN.o];exact mo
 ·obtain ⟨rfl,hb1,hp1⟩:=hn.yes hq1;have hi1:=HI.o.1.next HI.o.2.1 hb1;have hR1:=H0.o.1.but H0.o.2.1 hi1.but;have hs1:=HI.o.2.2.sfx (aU hq1);have HE:=κ (Zh P bp 0 r1 w1 hR1 hp1 hs1 hi1.hbp rfl);obtain ⟨A,c,vs,h1,h2,h3⟩:=hi1.rows;have hnr:some w1.heap.size≠Value.ownBlock (.slice A acc.length c):=λe=>by have:=(h2.lt _ e.symm).2;omega
  have HR1:=κ (ι h1 (ι h2 h3));have hne2:w1.heap.size≠gi:=Nat.ne_of_gt (aG h1);have hne1:bx≠gi:=λe=>H0.o.2.2.2.2 e.symm;have H1:=κ (ι hi1 (ι hp1 (ι hs1 hq1)));have c1:∀ o,(w1.alloc o).cell? ⟨bp,0,none⟩=some (.pointer (some ⟨P,0,none⟩)):=λo=>β (aB hi1.hbp o) 0;clear hn hq1 hi1 hR1 hs1 hp1 hb1 cb HNe HI h1 h2 h3;go_wp2_with fail;refine μ HE ?_;rintro e w2 hn;rcases hq2:dO (pX 1 0) 8 r1 with _|⟨xs,r2⟩
  ·rw [hq2] at hn;obtain ⟨ce,rfl,hc,hj⟩:=hn;have HN:=κ (show rB l=none by rw [rB,H1.o.2.2.2];simp only [hq2]);have HB:=κ (ι hc (H1.o.1.but.trans hj));clear hq2 hc hj HE;unfold aT;go_wp2;refine ⟨rfl, ?_⟩;rw [HN.o];exact mp
  ·rw [hq2] at hn;obtain ⟨rfl,hp2,hri⟩:=hn;have hi2:=H1.o.1.next H1.o.2.1 hri.but;have cb2:=β hi2.hbp 0;have HN2:=κ (bQ P 0 uQ r2 w2 hp2);have H2:=κ (ι hi2 (ι hri (ι hp2 hq2)));have hsz:=H1.o.1.but.size;clear hq2 hi2 hri hp2 c1 HE;go_wp2_with fail;refine μ HN2 ?_;rintro e w3 hn;rcases hq3:aD uQ r2 with _|r3
   ·obtain ⟨rfl,hb3⟩:=hn.no hq3;have HN:=κ (show rB l=none by rw [rB,H1.o.2.2.2];simp only [H2.o.2.2.2,hq3];rfl);have HB:=κ (H2.o.1.but.trans hb3);clear hq3 hn HN2 hb3;unfold aT;go_wp2;refine ⟨rfl, ?_⟩;rw [HN.o];exact mo
   ·obtain ⟨rfl,hb3,hp3⟩:=hn.yes hq3;have HN:=κ (show rB l=some (xs,r3) by rw [rB,H1.o.2.2.2];simp only [H2.o.2.2.2,hq3];rfl);have hi3:=H2.o.1.next H2.o.2.2.1 hb3;have hri3:=H2.o.2.1.next H2.o.2.2.1 hb3;obtain ⟨Ar,cr,vr,hr1,hr2,hr3⟩:=hri3.row;have hb13:But P w1 w3:=H2.o.2.1.but.trans hb3;have h1:=aM HR1.o.1 hb13 H1.o.2.1 am;have h2:=mU HR1.o.2.1 hb13 H1.o.2.1 am;have h3:=RowsX.stays (StaysT.but hb13 H1.o.2.1 am) HR1.o.2.2;have hrow:RowX w0 w3 xs (.slice Ar xs.length cr):=RowX.mono hsz ⟨Ar,cr,vr,rfl,hr2,hr3⟩;have hng:=mq;have hnb:some bx≠Value.ownBlock (.slice A acc.length c):=cU h2 hi3.hbx am;have H3:=κ (ι hi3 (ι hp3 (ι h1 (ι h2 (ι h3 (ι hrow (ι hng (ι hi3.hbx (ι hr1 hnb)))))))));have cx:w3.cell? ⟨bx,0,none⟩=some (.pointer (some ⟨gi,0,none⟩)):=β hi3.hbx 0;have ci:w3.cell? ⟨gi,1,none⟩=some (.slice A acc.length c):=β h1 1;have ci2:∀ o,(w3.alloc o).cell? ⟨gi,1,none⟩=some (.slice A acc.length c):=λo=>β (aB h1 o) 1;have cx2:∀ o,(w3.alloc o).cell? ⟨bx,0,none⟩=some (.pointer (some ⟨gi,0,none⟩)):=λo=>β (aB hi3.hbx o) 0;have cr1:w3.cell? ⟨w1,0,none⟩=some (.slice Ar xs.length cr):=β hr1 0;have hl1:=aG hi3.hbx;have hl2:=aG hr1;have hl3:=aG h1;have hz3:=hi3.but.size;clear hn hq3 hi3 hri3 hr1 hr2 hr3 h1 h2 h3 hrow hp3 hb3 hb13 cb2 HN2 hng;go_wp2_with fail
    go_region_law (first
     | (refine bL _ rfl (.tmp 16) (.tmp 18) _ rfl w0.heap.size 45 iE _ 1 24 underlying42 hiE hz0 hz1 hz2 rfl (by omega) A acc.length c vs rfl ?_ _ 1 1 [.slice Ar xs.length cr] rfl rfl ?_ ?_ ?_ ?_ ?_ ?_
        ·exact (H3.o.2.2.2.1.alloc _).drew
        ·exact aS [.slice Ar xs.length cr] (bX (heap_alloc_new _ _))
        ·simp [Value.oneCell']
        ·simp only [maxLen];omega
        ·omega
        ·show w0.heap.size<=(w3.alloc _).heap.size;rw [World.size_alloc];omega
        intro A5 c5 w5 ho5 hb5 hg5 hk5;have hx5:=(hk5 _ _ (bX (aB H3.o.2.2.1 _)) H3.o.2.2.2.2.2.2.1).1;have hx6:=(hk5 _ _ (bX (aB H3.o.2.2.2.2.2.2.2.1 _)) H3.o.2.2.2.2.2.2.2.2.2).1;have d5:=β hx5 1;have f5:=mr;have hd5:w5.cell? ⟨bx,0,none⟩=some (.pointer (some ⟨gi,0,none⟩)):=β hx6 0)
     | fail)
    all_goals
     have hw5:=Vu H0.o.2.1.lt H0.o.2.2.1 H0.o.2.2.2.1 H0.o.2.2.2.2 H3.o.1 H3.o.2.1 (But.refl _ _) H3.o.2.2.2.2.1 H3.o.2.2.2.2.2.1 H3.o.2.1 hx5 ho5 hb5 hk5 H3.o.2.2.2.1;clear H3 H2 H1 hx5 hx6 ho5 hb5 hg5 hk5 hd5;go_wp2;go_end0;rw [HN.o];exact ml
def Et (P:Nat) (w:World) (q:Option (ZS×List (List Lp.X)×ZW)) (e:Ending) (w':World):Prop :=
 But P w w'/\match q with
 | none=>∃ c,e=aT c/\c≠0
 | some (t,rows,r)=>∃ gi A c vs,e=.returned (.iface 41 (.pointer (some ⟨gi,0,none⟩)))/\w.heap.size<=gi/\w'.heap[gi]? = some (.cells #[t,.slice A rows.length c] 44 (0,0)) /\
  w'.ownsRow w 45 1 (.slice A rows.length c) rows.length vs/\RowsX w w' rows vs/\PS w' P r 0
theorem tA {q:Option (ZS×List (List Lp.X)×ZW)} {c:Int} (hb:But P w w') (hq:q=none) (hc:c≠0):Et P w q (aT c) w':=by
 subst hq;exact fl
theorem aEU:∀ args w,Sem.run prog (callFunc 122 args) w=.ok (.enter 122 args) w:=λ_ _=>rfl
theorem Rv (P bp bx gi:Nat) (t:ZS) (l0 l:ZW) (w0 w:World) (hR0:Resv w0) (hp0:PS w0 P l0 0) (hgi:w0.heap.size<=gi) (hne:gi≠bp) (hnx:gi≠bx) (hi:II P bp bx gi t w0 [] w) (hp:PS w P l 0) (hs:Lsane l) :
 Calls prog 120 #[P,.int .i64 64,.func (.func 122) #[] #[bp,bx]]
  w (EachPost P (II P bp bx gi t w0) (RJ P w0) (dO rB 64 l)) :=
 mE rB Zg aCR 64 ac ac _ aEU #[bp,bx] P (II P bp bx gi t w0) (RJ P w0) (λ_ _ h=>h.but) (λ_ _ h k=>But.trans h k) (λ_ _ _ _ h hp hb=>h.next hp hb)
  (λacc l' w' ha hi hp' hs'=>Vw P bp bx gi 0 t l0 w0 hR0 hp0 hgi hne hnx acc l' w' ha hi hp' hs') l w hi hp hs
theorem Ln (P:Nat) (l:ZW) (w:World) (h:PS w P l 0) (hs:Lsane l) (hR:Resv w) :
 Calls prog 66 #[P] w (Et P w (yH l)):=by
 have hb0:=gm;have hx0:=gy;have HNe:=κ (bQ P 0 Ti l _ (h.below hb0));have H0:=ms;clear h hs hR hb0 hx0;go_enter func66,ntmps66;go_wp2_with fail;rw [World.size_alloc] at HNe;refine μ HNe ?_;rintro e w1 hn;rcases hq1:aD Ti l with _|r1
 ·obtain ⟨rfl,hb1⟩:=hn.no hq1;have HN:=κ (show yH l=none by rw [yH,hq1]);have HB:=κ (H0.o.2.2.2.1.trans hb1);clear hq1 hn HNe hb1;unfold aT;go_wp2;exact ⟨rfl,tA HB.o HN.o am⟩
 ·obtain ⟨rfl,hb1,hp1⟩:=hn.yes hq1;have hbw1:=H0.o.2.2.2.1.trans hb1;have hx1:=mt;have hR1:=H0.o.2.2.1.but H0.o.1 hbw1;have hs1:=H0.o.2.1.sfx (aU hq1);have c1:=ii;have HNm:=κ (eD P 0 r1 w1 hp1 hR1);have H1:=κ (ι hbw1 (ι hx1 (ι hs1 (ι hp1 hq1))));clear hn hq1 hb1 hbw1 hx1 hR1 hs1 hp1 HNe;go_wp2_with fail;refine μ HNm ?_;rintro e w2 ⟨hb2,hq2⟩;rcases hq:bB r1 with _|⟨t,r2⟩
  ·rw [hq] at hq2;obtain ⟨ce,rfl,hce⟩:=hq2;have HN:=κ (show yH l=none by rw [yH,H1.o.2.2.2.2];simp only [hq]);have HB:=mu;clear hq hb2;unfold aT;go_wp2;exact ⟨rfl,tA HB.o HN.o hce⟩
  ·rw [hq] at hq2;obtain ⟨rfl,hp2⟩:=hq2;have hx2:=aM H1.o.2.1 hb2 H1.o.2.2.2.1 am;have hs2:=H1.o.2.2.1.sfx (bZ hq);have hb3:Below w2 w2 ((w2.alloc (.cells #[t,.slice none 0 0] 44)).alloc (.cells #[w2] 41)):=(ρ).alloc aa _;have hg3:=aB (heap_alloc_new w2 (.cells #[t,.slice none 0 0] 44)) (.cells #[w2] 41);have hv3:=bG w2 (.cells #[t,.slice none 0 0] 44) (.cells #[w2] 41);have hbx3:=aA hx2 hb3;have c3:=β hbx3 0;have hz:=(H1.o.1.trans hb2).size;have hlt2:=aG hx2;have HN3:=κ (bQ P 0 Cl r2 _ (hp2.below hb3));have H3:=κ (ι ((H1.o.1.trans hb2).trans (But.of hb3)) (ι hg3 (ι hv3 (ι hbx3 (ι (hp2.below hb3) (ι hs2 (ι hq (ι hz hlt2))))))));clear hq hb2 hp2 hx2 hs2 hb3 hg3 hv3 hbx3 HNm hlt2 hz;rw [World.size_alloc,World.size_alloc] at HN3;go_wp2_with fail;refine μ HN3 ?_;rintro e w4 hn;rcases hq4:aD Cl r2 with _|r3
   ·obtain ⟨rfl,hb4⟩:=hn.no hq4;have HN:=κ (show yH l=none by rw [yH,H1.o.2.2.2.2];simp only [H3.o.2.2.2.2.2.2.1,hq4]);have HB:=κ (H3.o.1.trans hb4);clear hq4 hn HN3 hb4;unfold aT;go_wp2;exact ⟨rfl,tA HB.o HN.o am⟩
   ·obtain ⟨rfl,hb4,hp4⟩:=hn.yes hq4;have hbp4:=mv;have hi4:II P w (w2+1) w2 t w [] w4:=⟨H3.o.1.trans hb4,hbp4,aM H3.o.2.2.1 hb4 H3.o.2.2.2.2.1 am,none,0,[],aM H3.o.2.1 hb4 H3.o.2.2.2.2.1 am,World.ownsRow_nil _ _ _ _,trivial⟩;have HE:=κ (Rv P w (w2+1) w2 t l r3 w w4 H0.o.2.2.1 H0.o.1 H3.o.2.2.2.2.2.2.2.1 (Nat.ne_of_gt H3.o.2.2.2.2.2.2.2.2) ac hi4 hp4 (H3.o.2.2.2.2.2.1.sfx (aU hq4)));have c4:=β hbp4 0;have HQ4:=κ hq4;clear hn hq4 hb4 hp4 hbp4 hi4 HN3 c3 c1;go_wp2_with fail;refine μ HE ?_;rintro e w5 hn;rcases hq5:dO rB 64 r3 with _|⟨rows,r4⟩
    ·rw [hq5] at hn;obtain ⟨ce,rfl,hc,hj⟩:=hn;have HN:=κ (show yH l=none by rw [yH,H1.o.2.2.2.2];simp only [H3.o.2.2.2.2.2.2.1,HQ4.o,hq5];rfl);have HB:=κ (ι hc hj);clear hq5 hc hj HE;unfold aT;go_wp2;exact ⟨rfl,tA HB.o.2 HN.o HB.o.1⟩
    ·rw [hq5] at hn;obtain ⟨rfl,hp5,hi5⟩:=hn;have HN:=κ (show yH l=some (t,rows,r4) by rw [yH,H1.o.2.2.2.2];simp only [H3.o.2.2.2.2.2.2.1,HQ4.o,hq5];rfl);obtain ⟨A,c,vs,k1,k2,k3⟩:=hi5.rows;have HB:=κ (ι hi5.but (ι H3.o.2.2.2.2.2.2.2.1 (ι k1 (ι k2 (ι k3 hp5)))));have c5:=β hi5.hbx 0;clear hq5 hp5 hi5 k1 k2 k3 HE;go_wp2;go_ret;refine ⟨HB.o.1, ?_⟩;rw [HN.o];exact ⟨_,A,c,vs,rfl,HB.o.2.1,HB.o.2.2.1,HB.o.2.2.2.1,HB.o.2.2.2.2.1,HB.o.2.2.2.2.2⟩
