/-
 Contracts. Conditions: those of each.
-/
import Derived.Test.YtkolcimllghnaaaGreatDoorQdGC
import Derived.Test.YtkolcimllghnaaaGreatDoorQdShelf
import Derived.Deep.LoopGhost
import Derived.Deep.RegionHeld3
set_option maxRecDepth 100000
set_option maxHeartbeats 8000000
namespace Go.Proofs.YtkolcimllghnaaaGreatDoor
open Lp Go.Proofs.Tryz
open Go.RowKit
variable{e:Ending}{P d:Nat}{t:Tok}{w w':World}{s:ZS}{l r:ZW}
theorem aHI:∀ lev:Nat,lev=1∨lev=2∨lev=5∨lev=6->∀ s∈bM lev,Lib.toUpperA s=upW s∧(∀ c∈s,c.toNat<128)∧s.length≤10:=by
 rintro lev (rfl|rfl|rfl|rfl)<;>decide
theorem Jo (s:ZS) (w:World) (u:ZS) (h:Lib.toUpperA s=u) (h2:∀ c∈s,c.toNat<128) (h3:s.length≤10) :
 Calls prog 169 #[s] w λe w'=>e=.returned (.string u)∧Below w w w':=by
 subst h;have:=Tryz.strings_ToUpper_ascii s w (by show s.toArray.size≤_;simp;omega) (λj b hb=>h2 b (List.mem_of_getElem? (by simpa using hb)))
 simpa using this
theorem nZ (w:World) (ws:List ZS) (t:TypeId):WdsAt (w.alloc (.cells (wv ws).toArray t)) w ws:=by
 intro j u hu;rw [β (heap_alloc_new w (.cells (wv ws).toArray t))]
 simpa using hu
theorem sW (fi:FuncId) (hfi:∀ args w,Sem.run prog (callFunc fi args) w=.ok (.enter fi args) w) (lev:Nat) (hlev:lev=1∨lev=2∨lev=5∨lev=6)
 (P d g c:Nat) (l:ZW) (w:World) (h:PS w P l d) (hs:Lsane l) (hR:Resv w) (hg:g≠P) (hw:WdsAt w g (bM lev))
 (HF:∀ (w':World) (l':ZW),l'.length≤l.length->PS w' P l' d->Lsane l'->Resv w'->Calls prog fi #[P] w' (XPost P w' d (pX (lev+1) d l'))) :
 Calls prog 156 #[P,.func (.func fi) #[P] #[],.slice (some ⟨g,0,none⟩) (bM lev).length c] w (XPost P w d (pX lev d l)):=by
 have HX:=κ (@rT lev d l ac ac);have HUP:=κ (aHI lev hlev);have hn:(bM lev).length≤10:=by rcases hlev with rfl|rfl|rfl|rfl<;>decide
 have hl4:(lev==4)=false:=by rcases hlev with rfl|rfl|rfl|rfl<;>rfl
 have hl7:lev≤7:=ac
 have hl4':lev≠4:=ac
 have HF':=κ HF;have HC:=κ (HF w l (ν _) h hs hR);have HW:=κ hw;have HR:=κ hR;have HL4:=κ hl4;have hne:0<(bM lev).length:=by rcases hlev with rfl|rfl|rfl|rfl<;>decide
 have hnI:((bM lev).length:Int)≤10:=ac
 clear HF hw hlev hR hl4;generalize hO:bM lev=ops at *;have HO:=κ hO;clear hO;go_enter func156,ntmps156;go_wp2_with fail;refine μ HC ?_;rintro e w1 ⟨hb1,hq1⟩;rcases hq:pX (lev+1) d l with _|⟨x,r⟩
 ·rw [hq] at hq1;obtain ⟨ce,rfl,hce⟩:=hq1;have HN:=κ (show pX lev d l=none by rw [HX.o,hq]);clear hq;unfold aT;go_wp2;refine ⟨rfl,hb1, ?_⟩;rw [HN.o];exact dy
 ·rw [hq] at hq1;obtain ⟨T,g1,rfl,hx,hp1⟩:=hq1;have HN:=κ (show pX lev d l=pL lev d x false r by rw [HX.o,hq]);have hrl:=iL hq;have hsr:=hs.sfx (iJ hq);clear hq;go_wp2_with fail
  go_loopg [6,7,8,11,12] (r.length+1) (λgk _ s7 _ _ _ wr=>∃ (x:Lp.X) (r:ZW) (T:TypeId) (g1:Nat),gk=r.length+1∧s7=.iface T g1∧PX w wr x s7∧But P w wr∧PS wr P r d∧Lsane r∧r.length≤l.length∧pX lev d l=pL lev d x false r)
  case atStart=>exact ⟨x,r,T,g1,rfl,rfl,hx,hb1,hp1,hsr,ac,HN.o⟩
  case round =>
   clear hx hp1 hsr HN hb1 hrl HX;obtain ⟨x,r,T,g1,rfl,rfl,hx,hb1,hp1,hsr,hrl,hN⟩:=dd;have HN:=κ hN;have HI:=κ (aEK P d g c ops r wr hp1 (HW.o.but hb1 hg) hg hn);have HRr:=κ (HR.o.but h hb1);have HP1:=κ hp1;have HSR:=κ hsr;clear hN hp1 hsr;go_wp2_with fail;refine μ HI ?_;rintro e w2 ⟨hb2,⟨k,s,hk,rfl,hf,hu,hp2⟩|⟨rfl,hu,hp2⟩⟩
   ·have hsg:cP lev r=some s:=by unfold cP;rw [HO.o];exact mY hk hf hu
    have hNN:=(HN.o).trans (oD hsg hl7);rw [HL4.o] at hNN;have hup:=HUP.o s (List.mem_of_getElem? hk);have HU:=κ (λw=>Jo s w _ hup.1 hup.2.1 hup.2.2);have hlt:=(List.getElem?_eq_some_iff.1 hk).1;have hcs:=(HW.o.but hb1 hg).but hb2 hg k (.string s) (by rw [wv,List.getElem?_map,hk];rfl);simp only [if_true] at hp2;have htl:r.tail.length≤l.length:=by have:=iH hsg;omega
    have htl2:r.tail.length+1=r.length:=iH hsg;have hHF:=HF'.o;have hx2:=PX.keep (cT hb2 HP1.o) hx;have HRR:=κ (HRr.o.but HP1.o hb2);have hkI:(k:Int)<((ops.length:Nat):Int):=ac
    clear hk hf hu hsg HN hup hx HI;have HNN:=κ hNN;have HHF:=κ hHF;clear hNN hHF;go_wp2_with fail;refine (HU.o _).mono ?_;rintro e w3 ⟨rfl,hb3⟩;have hp3:=hp2.below hb3;have HC3:=κ (HHF.o w3 r.tail htl hp3 HSR.o.tl (cC HRR.o hb3));have hx3:=PX.keep (aP hb3) hx2;have hb3':=hb1.trans (hb2.trans (But.of hb3));clear hx2 hp2 hb2 hb1 HU HHF HRR hcs hlt hkI hb3;go_wp2_with fail;refine μ HC3 ?_;rintro e w4 ⟨hb4,hq4⟩;rcases hq:pX (lev+1) d r.tail with _|⟨y,r2⟩
    ·rw [hq] at hq4;obtain ⟨ce,rfl,hce⟩:=hq4;have HN:=κ (show pX lev d l=none by rw [HNN.o,hq]);clear hq;unfold aT;go_wp2;refine ⟨rfl,hb3'.trans hb4, ?_⟩;rw [HN.o];exact dy
    ·rw [hq] at hq4;obtain ⟨T4,g4,rfl,hy,hp4⟩:=hq4;have hy:=hy.mono hb3'.size;have HN:=κ (show pX lev d l=pL lev d (.bin (upW s) x y) false r2 by rw [HNN.o,hq]);have hrl2:=iL hq;have hs2:=(HSR.o.tl).sfx (iJ hq);have hx4:=PX.keep (cT hb4 hp3) hx3;have hb5:Below w4 w4 (w4.alloc (.cells #[.string ⟨(upW s).toArray⟩,.iface T g1,.iface T4 g4] 247)):=ρ;have HB:=κ (show PX w (w4.alloc (.cells #[.string ⟨(upW s).toArray⟩,.iface T g1,.iface T4 g4] 247)) (.bin (upW s) x y) (.iface 201 w4) from
      ⟨_,_,_,(hb3'.trans hb4).size,rfl,heap_alloc_new w4 _,PX.keep (aP hb5) hx4,PX.keep (aP hb5) hy⟩)
     have HP5:=κ (hp4.below hb5);have HB5:=κ ((hb3'.trans hb4).trans (But.of hb5));have HS2:=κ hs2;clear hq hx3 hy hp4 hx4 hb5 hs2 HC3 hb3' hb4 HNN hp3;go_wp2
     go_roundg (r2.length+1)
     case measure=>omega
     case rel=>exact ⟨_,r2,_,_,rfl,rfl,HB.o,HB5.o,HP5.o,HS2.o,ac,HN.o⟩
   ·have hsg:cP lev r=none:=by unfold cP;rw [HO.o];exact oG hu
    have HNN:=κ ((HN.o).trans (pM (by simpa using hsg) (.inl hl4')));have hx2:=PX.keep (cT hb2 HP1.o) hx;clear hsg hu HN hx;go_wp2;go_ret;refine ⟨hb1.trans hb2, ?_⟩;rw [HNN.o];exact ⟨_,_,rfl,hx2,hp2⟩
def LvOk (fi:FuncId) (lev P d n:Nat):Prop :=
 ∀ (w':World) (l':ZW),l'.length≤n->PS w' P l' d->Lsane l'->Resv w'->Calls prog fi #[P] w' (XPost P w' d (pX lev d l'))
theorem LvOk.le {fi:FuncId} {lev n m:Nat} (h:LvOk fi lev P d n) (hm:m≤n):LvOk fi lev P d m:=λw' l' hl=>h w' l' ac
theorem XPost.pre {a:World} {q:Option (Lp.X×ZW)} (hb:But P a w) (h:XPost P w d q e w'):XPost P a d q e w':=by
 refine ⟨hb.trans h.1, ?_⟩;obtain ⟨-,h⟩:=h;cases q with
 | none=>exact h
 | some p=>obtain ⟨T,g,h1,h2,h3⟩:=h;exact ⟨T,g,h1,h2.mono hb.size,h3⟩
theorem XPost.form {q:Option (Lp.X×ZW)} (h:XPost P w d q e w'):(∃ T g,e=.returned (.iface T (.pointer (some ⟨g,0,none⟩))))∨∃ c,e=aT c:=by
 obtain ⟨-,h⟩:=h;cases q with
 | none=>obtain ⟨c,h, -⟩:=h;exact .inr ⟨c,h⟩
 | some p=>obtain ⟨T,g,h, -⟩:=h;exact .inl ⟨T,g,h⟩
theorem Za (P d n:Nat) (HF:LvOk 157 2 P d n):LvOk 124 1 P d n:=by
 intro w l hl h hs hR;have hb:Below w w (w.alloc (.cells (wv (bM 1)).toArray 9)):=ρ;have hw:=nZ w (bM 1) 9;have HC:=κ (show Calls prog 156 #[P,.func (.func 157) #[P] #[],.slice (some ⟨w,0,none⟩) 1 1] (w.alloc (.cells #[.string ⟨#[111,114]⟩] 9)) (XPost P (w.alloc (.cells (wv (bM 1)).toArray 9)) d (pX 1 d l)) from
  sW 157 (λ_ _=>rfl) 1 ac P d w 1 l _ (h.below hb) hs (cC hR hb) (rM hw (h.below hb)) hw (λw' l' h1=>HF w' l' ac))
 have HB:=ea;clear hb hw h hs hR;go_enter func124,ntmps124;go_wp2_with fail;refine μ HC ?_;rintro e w' hx;replace hx:=dz;rcases hx.form with ⟨T,g,rfl⟩|⟨c,rfl⟩
 ·go_wp2;go_ret;exact hx
 ·unfold aT at *;go_wp2;exact ec
theorem aAN (P d n:Nat) (HF:LvOk 170 3 P d n):LvOk 157 2 P d n:=by
 intro w l hl h hs hR;have hb:Below w w (w.alloc (.cells (wv (bM 2)).toArray 9)):=ρ;have hw:=nZ w (bM 2) 9;have HC:=κ (show Calls prog 156 #[P,.func (.func 170) #[P] #[],.slice (some ⟨w,0,none⟩) 1 1] (w.alloc (.cells #[.string ⟨#[97,110,100]⟩] 9)) (XPost P (w.alloc (.cells (wv (bM 2)).toArray 9)) d (pX 2 d l)) from
  sW 170 (λ_ _=>rfl) 2 ac P d w 1 l _ (h.below hb) hs (cC hR hb) (rM hw (h.below hb)) hw (λw' l' h1=>HF w' l' ac))
 have HB:=ea;clear hb hw h hs hR;go_enter func157,ntmps157;go_wp2_with fail;refine μ HC ?_;rintro e w' hx;replace hx:=dz;rcases hx.form with ⟨T,g,rfl⟩|⟨c,rfl⟩
 ·go_wp2;go_ret;exact hx
 ·unfold aT at *;go_wp2;exact ec
theorem aBY (P d n:Nat) (HF:LvOk 202 6 P d n):LvOk 193 5 P d n:=by
 intro w l hl h hs hR;have hb:Below w w (w.alloc (.cells (wv (bM 5)).toArray 9)):=ρ;have hw:=nZ w (bM 5) 9;have HC:=κ (show Calls prog 156 #[P,.func (.func 202) #[P] #[],.slice (some ⟨w,0,none⟩) 2 2] (w.alloc (.cells #[.string ⟨#[43]⟩,.string ⟨#[45]⟩] 9)) (XPost P (w.alloc (.cells (wv (bM 5)).toArray 9)) d (pX 5 d l)) from
  sW 202 (λ_ _=>rfl) 5 ac P d w 2 l _ (h.below hb) hs (cC hR hb) (rM hw (h.below hb)) hw (λw' l' h1=>HF w' l' ac))
 have HB:=ea;clear hb hw h hs hR;go_enter func193,ntmps193;go_wp2_with fail;refine μ HC ?_;rintro e w' hx;replace hx:=dz;rcases hx.form with ⟨T,g,rfl⟩|⟨c,rfl⟩
 ·go_wp2;go_ret;exact hx
 ·unfold aT at *;go_wp2;exact ec
theorem Gn (P d n:Nat) (HF:LvOk 206 7 P d n):LvOk 202 6 P d n:=by
 intro w l hl h hs hR;have hb:Below w w (w.alloc (.cells (wv (bM 6)).toArray 9)):=ρ;have hw:=nZ w (bM 6) 9;have HC:=κ (show Calls prog 156 #[P,.func (.func 206) #[P] #[],.slice (some ⟨w,0,none⟩) 3 3] (w.alloc (.cells #[.string ⟨#[42]⟩,.string ⟨#[47]⟩,.string ⟨#[37]⟩] 9)) (XPost P (w.alloc (.cells (wv (bM 6)).toArray 9)) d (pX 6 d l)) from
  sW 206 (λ_ _=>rfl) 6 ac P d w 3 l _ (h.below hb) hs (cC hR hb) (rM hw (h.below hb)) hw (λw' l' h1=>HF w' l' ac))
 have HB:=ea;clear hb hw h hs hR;go_enter func202,ntmps202;go_wp2_with fail;refine μ HC ?_;rintro e w' hx;replace hx:=dz;rcases hx.form with ⟨T,g,rfl⟩|⟨c,rfl⟩
 ·go_wp2;go_ret;exact hx
 ·unfold aT at *;go_wp2;exact ec
def dwn (d:Nat) (q:Option (Lp.X×ZW)):Option (Lp.X×ZW):=if d+1≤40 then q else none
theorem yV (fi:FuncId) (hfi:∀ args w,Sem.run prog (callFunc fi args) w=.ok (.enter fi args) w) (caps:ZV) (P d:Nat) (l:ZW) (w:World) (h:PS w P l d) (hd:d≤100000) (q:Option (Lp.X×ZW))
 (HF:∀ w',But P w w'->PS w' P l (d+1)->Calls prog fi caps w' (XPost P w' (d+1) q)) :
 Calls prog 191 #[P,.func (.func fi) #[] caps] w (XPost P w d (dwn d q)):=by
 obtain ⟨A,c,h1,h2,h3⟩:=h;have hc0:=cq;have hc1:=ee;have hfz:=ed;have h1':=heap_setCell_same w P 1 _ _ (.int .i64 ((d:Int)+1)) h1;have hcs:=β h1' 1;have hp1:PS (w.setCell ⟨P,1,none⟩ (.int .i64 ((d:Int)+1))) P l (d+1):=⟨A,c,by simpa using h1',h2,h3.but (But.set _ _ _ _)⟩;have HB1:=κ (But.set P 1 w (.int .i64 ((d:Int)+1)));have hdI:(d:Int)≤100000:=ac
 clear h1 h1' h2 h3
 by_cases h40:d+1≤40
 ·have HQ:=κ (show dwn d q=q from if_pos h40);have HC:=κ (HF _ HB1.o hp1);have h40':¬((40:Int)<(d:Int)+1):=ac
  clear h40 HF hp1;go_enter func191,ntmps191;go_wp2_with fail;refine μ HC ?_;rintro e w' hx;clear hc0 hc1 hcs hfz;rcases hx.form with ⟨T,g,rfl⟩|⟨c,rfl⟩
  ·obtain ⟨hb,hx⟩:=hx;rcases q with _|⟨x,r⟩
   ·obtain ⟨c,hc, -⟩:=hx;cases hc
   ·obtain ⟨T',g',he,hx,hp⟩:=hx;have hp0:=ef;injection he with he;injection he with he1 he2;subst he1;injection he2 with he2;injection he2 with he2;injection he2 with he2 _ _;subst he2;obtain ⟨A,c,h1,h2,h3⟩:=hp;have hc1:=ee;have hfz:=λj=>frozen_of_row w' P j _ _ h1;have h1':=κ (heap_setCell_same w' P 1 _ _ (.int .i64 (d:Int)) h1);have HX:=κ (PX.mono (Nat.le_trans HB1.o.size (ν _)) (PX.keep (cT (But.set P 1 w' (.int .i64 (d:Int))) hp0.o) hx));have H23:=κ (ι h2 (h3.but (But.set P 1 w' (.int .i64 (d:Int)))));clear h1 h2 h3 hx;go_wp2;go_ret;refine ⟨(HB1.o.trans hb).trans (But.set _ _ _ _), ?_⟩;rw [HQ.o];exact ⟨_,_,rfl,HX.o,A,c,by simpa using h1'.o,H23.o.1,H23.o.2⟩
  ·obtain ⟨hb,hx⟩:=hx;rcases q with _|⟨x,r⟩
   ·obtain ⟨c,hc,hc0⟩:=hx;unfold aT at *;go_wp2;refine ⟨rfl,HB1.o.trans hb, ?_⟩;rw [HQ.o];exact ⟨_,hc,hc0⟩
   ·obtain ⟨T',g',he, -⟩:=hx;cases he
 ·have HQ:=κ (show dwn d q=none from if_neg h40);have h40':(40:Int)<(d:Int)+1:=ac
  clear h40 HF hp1;go_enter func191,ntmps191;go_wp2_with fail;refine (tD 5 _).mono ?_;rintro e w1 ⟨rfl,rfl⟩;unfold aT;go_wp2;refine ⟨rfl,HB1.o, ?_⟩;rw [HQ.o];exact ⟨5,rfl,am⟩
theorem aM {b:Nat} {t:TypeId} {cs:ZV} (h:w.heap[b]? = some (.cells cs t (0,0))) (hb:But P w w') (hp:PS w P l d) (ht:t≠100):w'.heap[b]? = some (.cells cs t (0,0)) :=
 cT hb hp b cs t h ht
theorem bQ (P d:Nat) (s:ZS) (l:ZW) (w:World) (h:PS w P l d) :
 Calls prog 70 #[P,.slice (some ⟨w,0,none⟩) 1 1] (w.alloc (.cells #[s] 9)) (NeedPost P w d (aD s l)):=by
 have hb:Below w w (w.alloc (.cells #[s] 9)):=ρ;have hw:WdsAt (w.alloc (.cells #[s] 9)) w [s]:=nZ w [s] 9;refine (Hc P d w 1 [s] l _ (h.below hb) (rM hw (h.below hb)) hw aa).mono ?_;rintro e w' ⟨h1,h2⟩;refine ⟨(But.of hb).trans h1, ?_⟩;have e1:jP [s] l=aD s l:=by
  show (match aD s l with|none=>none|some r=>some r)=_;cases aD s l<;>rfl
 rw [e1] at h2;exact h2
theorem NeedPost.yes {q:Option ZW} (h:NeedPost P w d q e w') (hq:q=some r):e=.returned (.tuple #[])∧But P w w'∧PS w' P r d:=by
 subst hq;exact ⟨h.2.1,h.1,h.2.2⟩
theorem NeedPost.no {q:Option ZW} (h:NeedPost P w d q e w') (hq:q=none):e=aT 4∧But P w w':=by
 subst hq;exact ⟨h.2,h.1⟩
def unq (op:ZS) (q:Option (Lp.X×ZW)):Option (Lp.X×ZW):=q.map λp=>(.un op p.1,p.2)
theorem Gp (fi:FuncId) (hfi:∀ args w,Sem.run prog (callFunc fi args) w=.ok (.enter fi args) w) (P d lev b0 b1 b2 b3:Nat) (word op:ZS) (l:ZW) (w:World) (h:PS w P l d) (hs:Lsane l) (hR:Resv w)
 (h0:w.heap[b0]? = some (.cells #[P] 98 (0,0))) (h1:w.heap[b1]? = some (.cells #[word] 9 (0,0))) (h2:w.heap[b2]? = some (.cells #[op] 9 (0,0))) (h3:w.heap[b3]? = some (.cells #[.func (.func fi) #[P] #[]] 239 (0,0)))
 (hf:isF word l=true) (HF:LvOk fi lev P d l.tail.length) :
 Calls prog 192 #[b0,b1,b2,b3] w (XPost P w d (unq op (pX lev d l.tail))):=by
 have c0:=β h0 0;have c1:=cq;have HN:=κ (bQ P d word l w h);have HNF:=κ (show aD word l=some l.tail by simp [aD,hf]);have HB:=κ (λw' (hb:But P w w')=>ι (aM h2 hb h am) (ι (aM h3 hb h am) (hR.but h hb)));have HS:=κ hs.tl;clear h0 h1 h2 h3 hs hR hf h;go_enter func192,ntmps192;go_wp2_with fail;refine μ HN ?_;rintro e w1 hn;obtain ⟨rfl,hb1,hp1⟩:=hn.yes HNF.o;obtain ⟨k2,k3,hR1⟩:=HB.o w1 hb1;have c2:=β k2 0;have c3:=β k3 0;have HC:=κ (HF w1.drew l.tail (ν _) hp1 HS.o hR1);have hp1d:PS w1.drew P l.tail d:=hp1;have k2d:w1.drew.heap[b2]? = some (.cells #[op] 9 (0,0)):=k2;have k3d:w1.drew.heap[b3]? = some (.cells #[.func (.func fi) #[P] #[]] 239 (0,0)):=k3;have HK:=κ (λw' (hb:But P w1.drew w')=>ι (β (aM k2d hb hp1d am) 0) (β (aM k3d hb hp1d am) 0));have HB1:=κ hb1;have HP1:=κ hp1d;clear hn k2 k3 hR1 HF HN HB HS hp1 c0 c1 hb1 hp1d k2d k3d;generalize pX lev d l.tail=q at *;rcases q with _|⟨x,r⟩
 ·have HC0:=κ (HC.o.mono (λe w2 (hx:XPost P w1.drew d none e w2)=>(show But P w1.drew w2∧∃ c,e=aT c∧c≠0 from hx)));clear HC HK;go_wp2_with fail;refine wp_region_held_drew (S:=λw'=>w'.cell? ⟨b2,0,none⟩=some (.string op)∧w'.cell? ⟨b3,0,none⟩=some (.func (.func fi) #[P] #[])) aj ⟨c2,c3⟩ (λhHeld => ?_);refine wpAnyH_take (i:=0) (v:=.string op) rfl aj aj aj (λ_ _ _ h=>h) (Or.inl ⟨eh, ?_⟩) hHeld ?_
  ·intro w hSw;obtain ⟨s1,s2⟩:=hSw;go_simp
  refine wpAnyH_take (i:=1) (v:=.func (.func fi) #[P] #[]) rfl aj aj aj (λ_ _ _ h=>h) (Or.inl ⟨eh, ?_⟩) hHeld ?_
  ·intro w hSw;obtain ⟨s1,s2⟩:=hSw;go_simp
  refine wpAnyH_ready (rs:=[2]) aj aa ?_;refine AllReadyH.cons rfl (λK hK => ?_) AllReadyH.nil;go_simp;refine μ HC0 ?_;rintro e w2 ⟨hb2,ce,rfl,hc⟩;unfold aT;go_wp2;exact ⟨rfl,(HB1.o.trans (But.refl _ _).drew).trans hb2,ce,rfl,hc⟩
 ·have HC0:=κ (HC.o.mono (λe w2 (hx:XPost P w1.drew d (some (x,r)) e w2)=>(show But P w1.drew w2∧∃ T g,e=.returned (.iface T (.pointer (some ⟨g,0,none⟩)))∧PX w1.drew w2 x (.iface T (.pointer (some ⟨g,0,none⟩)))∧PS w2 P r d from hx)));clear HC;go_wp2_with fail
  go_region_held3 (λw'=>w'.cell? ⟨b2,0,none⟩=some (.string op)∧w'.cell? ⟨b3,0,none⟩=some (.func (.func fi) #[P] #[]))
   (first|go_keep|exact ⟨hd2,hd3⟩)
   ((refine μ HC0 ?_;rintro e w2 ⟨hb2,T,g,rfl,hx,hp2⟩;obtain ⟨hd2,hd3⟩:=HK.o w2 hb2))
  have hb5:Below w2 w2 (w2.alloc (.cells #[op,.iface T g] 196)):=ρ;have hBs:=((HB1.o.trans (But.refl _ _).drew).trans hb2).size;have hx:=hx.mono (HB1.o.trans (But.refl _ _).drew).size;have HX:=κ (show PX w (w2.alloc (.cells #[op,.iface T g] 196)) (.un op x) (.iface 194 w2) from ⟨_,_,hBs,rfl,heap_alloc_new w2 _,PX.keep (aP hb5) hx⟩);have HE:=κ (ι (((HB1.o.trans (But.refl _ _).drew).trans hb2).trans (But.of hb5)) (hp2.below hb5));clear hx hp2 hb5 hb2 hBs;go_wp2;go_ret;exact ⟨HE.o.1,_,_,rfl,HX.o,HE.o.2⟩
theorem xJ (fi:FuncId) (hfi:∀ args w,Sem.run prog (callFunc fi args) w=.ok (.enter fi args) w) (P d lev:Nat) (word op:ZS) (l:ZW) (w:World) (h:PS w P l d) (hs:Lsane l) (hR:Resv w) (hd:d≤100000)
 (hf:isF word l=true) (HF:LvOk fi lev P (d+1) l.tail.length) :
 Calls prog 180 #[P,word,op,.func (.func fi) #[P] #[]] w (XPost P w d (dwn d (unq op (pX lev (d+1) l.tail)))):=by
 obtain ⟨W,hW⟩:∃ W,W=(((w.alloc (.cells #[P] 98)).alloc (.cells #[word] 9)).alloc (.cells #[op] 9)).alloc (.cells #[.func (.func fi) #[P] #[]] 239):=cw;have hb:Below w w W:=by rw [hW];exact (((ρ).alloc aa _).alloc bl _).alloc bl _
 have b0:W.heap[w.heap.size]? = some (.cells #[P] 98 (0,0)):=by rw [hW];exact aB (aB (aB (heap_alloc_new w _) _) _) _
 have b1:W.heap[w.heap.size+1]? = some (.cells #[word] 9 (0,0)):=by rw [hW];exact aB (aB (bG w _ _) _) _
 have b2:W.heap[w.heap.size+1+1]? = some (.cells #[op] 9 (0,0)):=by
  rw [hW];refine aB ?_ _;have:=bG (w.alloc (.cells #[P] 98)) (.cells #[word] 9) (.cells #[op] 9);rwa [World.size_alloc] at this
 have b3:W.heap[w.heap.size+1+1+1]? = some (.cells #[.func (.func fi) #[P] #[]] 239 (0,0)):=by
  rw [hW];have:=bG ((w.alloc (.cells #[P] 98)).alloc (.cells #[word] 9)) (.cells #[op] 9) (.cells #[.func (.func fi) #[P] #[]] 239);rwa [World.size_alloc,World.size_alloc] at this
 have hpW:=h.below hb;have hRW:=cC hR hb;have HC:=κ (yV 192 (λ_ _=>rfl) #[w,(w.heap.size+1:Nat),(w.heap.size+1+1:Nat),(w.heap.size+1+1+1:Nat)] P d l W hpW hd (unq op (pX lev (d+1) l.tail))
  (λw' hb' hp'=>Gp fi hfi P (d+1) lev _ _ _ _ word op l w' hp' hs (hRW.but hpW hb') (aM b0 hb' hpW am) (aM b1 hb' hpW am) (aM b2 hb' hpW am) (aM b3 hb' hpW am) hf HF))
 have HB:=ea;clear b0 b1 b2 b3 hpW hRW HF hf hs hR h hb;subst hW;go_enter func180,ntmps180;have hmf:=ej;go_wp2_with fail;refine μ HC ?_;rintro e w' hx;replace hx:=dz;rcases hx.form with ⟨T,g,rfl⟩|⟨c,rfl⟩
 ·go_wp2;go_ret;exact hx
 ·unfold aT at *;go_wp2;exact ec
theorem Of (d lev:Nat) (op:ZS) (l:ZW):dwn d (unq op (pX lev (d+1) l.tail))=if d+1≤40 then (pX lev (d+1) l.tail).map (λp=>(.un op p.1,p.2)) else none:=rfl
theorem aDQ (P d n:Nat) (hd:d≤100000) (HF:LvOk 181 4 P d n) (HN:∀ m,m<n->LvOk 170 3 P (d+1) m):LvOk 170 3 P d n:=by
 intro w l hl h hs hR;cases hf:isF oV l
 ·have HI:=κ (oM P d l ⟨#[110,111,116]⟩ w h false hf);have HC:=κ (HF w l hl h hs hR);have HQ:=κ (Bn (d:=d) hf);clear hf HF HN h hs hR;go_enter func170,ntmps170;go_wp2_with fail;refine μ HI ?_;rintro e w' ⟨rfl,rfl⟩;go_wp2_with fail;refine μ HC ?_;rintro e w' hx;rw [<-HQ.o] at hx;rcases hx.form with ⟨T,g,rfl⟩|⟨c,rfl⟩
  ·go_wp2;go_ret;exact hx
  ·unfold aT at *;go_wp2;exact ec
 ·have HI:=κ (oM P d l ⟨#[110,111,116]⟩ w h true hf);have hlt:=bD hf;have HC:=κ (xJ 170 (λ_ _=>rfl) P d 3 oV fG l w h hs hR hd hf (HN _ ac));have HQ:=κ ((xL (d:=d) hf).trans (Of d 3 fG l).symm);clear hf HF HN h hs hR;go_enter func170,ntmps170;have hmf:=ej;go_wp2_with fail;refine μ HI ?_;rintro e w' ⟨rfl,rfl⟩;go_wp2_with fail;refine μ HC ?_;rintro e w' hx;rw [<-HQ.o] at hx;rcases hx.form with ⟨T,g,rfl⟩|⟨c,rfl⟩
  ·go_wp2;go_ret;exact hx
  ·unfold aT at *;go_wp2;exact ec
theorem Qy (P d n:Nat) (hd:d≤100000) (HF:LvOk 207 8 P d n) (HN:∀ m,m<n->LvOk 206 7 P (d+1) m):LvOk 206 7 P d n:=by
 intro w l hl h hs hR;cases hf:isF [45] l
 ·have HI:=κ (oM P d l ⟨#[45]⟩ w h false hf);have HC:=κ (HF w l hl h hs hR);have HQ:=κ (Bo (d:=d) hf);clear hf HF HN h hs hR;go_enter func206,ntmps206;go_wp2_with fail;refine μ HI ?_;rintro e w' ⟨rfl,rfl⟩;go_wp2_with fail;refine μ HC ?_;rintro e w' hx;rw [<-HQ.o] at hx;rcases hx.form with ⟨T,g,rfl⟩|⟨c,rfl⟩
  ·go_wp2;go_ret;exact hx
  ·unfold aT at *;go_wp2;exact ec
 ·have HI:=κ (oM P d l ⟨#[45]⟩ w h true hf);have hlt:=bD hf;have HC:=κ (xJ 206 (λ_ _=>rfl) P d 7 [45] [45] l w h hs hR hd hf (HN _ ac));have HQ:=κ ((xN (d:=d) hf).trans (Of d 7 [45] l).symm);clear hf HF HN h hs hR;go_enter func206,ntmps206;have hmf:=ej;go_wp2_with fail;refine μ HI ?_;rintro e w' ⟨rfl,rfl⟩;go_wp2_with fail;refine μ HC ?_;rintro e w' hx;rw [<-HQ.o] at hx;rcases hx.form with ⟨T,g,rfl⟩|⟨c,rfl⟩
  ·go_wp2;go_ret;exact hx
  ·unfold aT at *;go_wp2;exact ec
attribute [local go_sem] To My
theorem Qq:∀ s∈bM 4,upW s=s∧s≠wIs∧∃ c r,s=c::r∧gP c=false:=by
 intro s hs;have hs:s=[61]∨s=[60,62]∨s=[60]∨s=[60,61]∨s=[62]∨s=[62,61]:=by simpa [bM] using hs
 rcases hs with rfl|rfl|rfl|rfl|rfl|rfl<;>exact ⟨am,am,_,_,rfl,am⟩
theorem sZ :isF s (t::r)=(t.s==s&&(t.k==4||t.k==1)):=rfl
theorem Yk (h:isF s (t::r)=true):t.s=s∧(t.k=4∨t.k=1):=by
 rw [sZ,Bool.and_eq_true,Bool.or_eq_true,beq_iff_eq,beq_iff_eq,beq_iff_eq] at h;exact h
theorem Ur (ht:vA t) (h:isF s (t::r)=true) (hs:∃ c r,s=c::r∧gP c=false):t.k=4∧t.s=s:=by
 obtain ⟨h1,h2⟩:=Yk h;refine ⟨?_,h1⟩;rcases h2 with h2|h2
 ·exact h2
 ·obtain ⟨c,q,e1,e2⟩:=ht.2.2.1 h2;obtain ⟨c',q',e3,e4⟩:=hs;rw [h1,e3] at e1;injection e1 with e1 _;rw [e1,e2] at e4;cases e4
theorem Cb {u:ZS} (h:isF s l=true) (hne:s≠u):isF u l=false:=by
 obtain ⟨t,r,rfl⟩:=pT h;obtain ⟨h1,h2⟩:=Yk h;rw [sZ,h1];have:(s==u)=false:=by simpa using hne
 rw [this];rfl
def aBK (P d:Nat) (w:World) (l:ZW) (done:Bool) (r:ZW) (s3:Value) (wr:World):Prop :=
 ∃ (x:Lp.X) (T:TypeId) (g1:Nat),s3=.iface T g1∧PX w wr x s3∧But P w wr∧PS wr P r d∧Lsane r∧r.length≤l.length∧pX 4 d l=pL 4 d x done r
theorem Wv (P d n:Nat) (HF:LvOk 193 5 P d n):LvOk 181 4 P d n:=by
 intro w l hl h hs hR;have HX:=κ (@rT 4 d l ac ac);have HF':=κ HF;have HC:=κ (HF w l hl h hs hR);have HR:=κ hR;clear HF hR;go_enter func181,ntmps181;have hmf:=ej;have hnot:∀ (x:Bool) (w:World),(Op.unary .not (.bool x)).run prog w=.ok (.bool (!x)) w:=λ_ _=>rfl;go_wp2_with fail;refine μ HC ?_;rintro e w1 ⟨hb1,hq1⟩;rcases hq:pX 5 d l with _|⟨x,r⟩
 ·rw [hq] at hq1;obtain ⟨ce,rfl,hce⟩:=hq1;have HN:=κ (show pX 4 d l=none by rw [HX.o,hq]);clear hq;unfold aT;go_wp2;refine ⟨rfl,hb1, ?_⟩;rw [HN.o];exact dy
 ·rw [hq] at hq1;obtain ⟨T,g1,rfl,hx,hp1⟩:=hq1;have HN:=κ (show pX 4 d l=pL 4 d x false r by rw [HX.o,hq]);have hrl:=iL hq;have hsr:=hs.sfx (iJ hq);clear hq;go_wp2_with fail
  go_loopg [2,3,4,5,6,7,10,11] (r.length+1) (λgk _ s3 s4 _ _ _ _ _ wr=>∃ (r:ZW) (done:Bool),gk=r.length+1∧s4=.bool done∧aBK P d w l done r s3 wr)
  case atStart=>exact ⟨r,false,rfl,rfl,x,T,g1,rfl,hx,hb1,hp1,hsr,ac,HN.o⟩
  case round =>
   clear hx hp1 hsr HN hb1 hrl HX;obtain ⟨r,done,rfl,rfl,x,T,g1,rfl,hx,hb1,hp1,hsr,hrl,hN⟩:=dd;have hba:Below wr wr (wr.alloc (.cells (wv (bM 4)).toArray 9)):=ρ;have HN:=κ hN;have HI:=κ (show Calls prog 168 #[.slice (some ⟨wr,0,none⟩) 6 6,.func (.func 71) #[P] #[]] (wr.alloc (.cells #[.string ⟨#[61]⟩,.string ⟨#[60,62]⟩,.string ⟨#[60]⟩,.string ⟨#[60,61]⟩,.string ⟨#[62]⟩,.string ⟨#[62,61]⟩] 9)) (Eu P (wr.alloc (.cells (wv (bM 4)).toArray 9)) d (bM 4) r false) from
    aIN P d wr 6 (bM 4) r _ (hp1.below hba) (nZ wr (bM 4) 9) am)
   have HRr:=κ (cC (HR.o.but h hb1) hba);have HP1:=κ (hp1.below hba);have HB1:=κ (hb1.trans (But.of hba));have HX1:=κ (PX.keep (aP hba) hx);have HSR:=κ hsr;clear hN hp1 hsr hx hb1 hba;go_wp2_with fail;refine μ HI ?_;rintro e w2 ⟨hb2,⟨k,s,hk,rfl,hf,hu,hp2⟩|⟨rfl,hu,hp2⟩⟩
   ·have hsg:cP 4 r=some s:=mY hk hf hu;obtain ⟨hup,hne,hsn⟩:=Qq s (List.mem_of_getElem? hk);have hp2:PS w2 P r d:=hp2;have hx2:=PX.keep (cT hb2 HP1.o) HX1.o;have hB2:=HB1.o.trans hb2;have hR2:=HRr.o.but HP1.o hb2;cases done
    ·obtain ⟨t,r',rfl⟩:=pT hf;obtain ⟨hk4,rfl⟩:=Ur (HSR.o.2 t aa) hf hsn;have hNN:=(HN.o).trans (oD hsg am);rw [hup] at hNN;have HNN:=κ (show pX 4 d l=match pX 5 d r' with|none=>none|some (y,r2)=>pL 4 d (.bin t.s x y) true r2 from hNN);have HT:=κ (sJ P d t r' 4 w2 hp2 hk4);have hrl':r'.length+1≤l.length:=by simpa using hrl
     have HK:=κ (ι hx2 (ι hB2 (ι hR2 hp2)));clear hk hf hu hsg hne hsn hp2 hx2 hB2 hR2 hNN hk4 hup HN hb2 HI;go_wp2_with fail;refine μ HT ?_;rintro e w3 ⟨rfl,hb3,hp3⟩;obtain ⟨hx2,hB2,hR2,hp2⟩:=HK.o;have hx3:=el;have HC3:=κ (HF'.o w3 r' ac hp3 HSR.o.tail (hR2.but hp2 hb3));have hB3:=hB2.trans hb3;have HP3:=κ hp3;clear hx2 hB2 hR2 hp2 HK hb3 hp3;go_wp2_with fail;refine μ HC3 ?_;rintro e w4 ⟨hb4,hq4⟩;rcases hq:pX 5 d r' with _|⟨y,r2⟩
     ·rw [hq] at hq4;obtain ⟨ce,rfl,hce⟩:=hq4;have HN:=κ (show pX 4 d l=none by rw [HNN.o,hq]);clear hq;unfold aT;go_wp2;refine ⟨rfl,hB3.trans hb4, ?_⟩;rw [HN.o];exact dy
     ·rw [hq] at hq4;obtain ⟨T4,g4,rfl,hy,hp4⟩:=hq4;have hy:=hy.mono hB3.size;have HN:=κ (show pX 4 d l=pL 4 d (.bin t.s x y) true r2 by rw [HNN.o,hq]);have hrl2:=iL hq;have hs2:=(HSR.o.tail).sfx (iJ hq);have hx4:=PX.keep (cT hb4 HP3.o) hx3;have hb5:Below w4 w4 (w4.alloc (.cells #[t.s,.iface T g1,.iface T4 g4] 247)):=ρ;have HS:=κ (show aBK P d w l true r2 (.iface 201 w4) (w4.alloc (.cells #[t.s,.iface T g1,.iface T4 g4] 247)) from
       ⟨.bin t.s x y,_,_,rfl,⟨_,_,_,(hB3.trans hb4).size,rfl,heap_alloc_new w4 _,PX.keep (aP hb5) hx4,PX.keep (aP hb5) hy⟩,(hB3.trans hb4).trans (But.of hb5),hp4.below hb5,hs2,ac,HN.o⟩)
      clear hq hx3 hy hp4 hx4 hb5 hs2 HC3 hB3 hb4 HNN HP3 HN;go_wp2
      go_roundg (r2.length+1)
      case measure=>simp;omega
      case rel=>exact ⟨r2,true,rfl,rfl,HS.o⟩
    ·have hnis:isF wIs r=false:=Cb hf hne;have HNN:=κ ((HN.o).trans (pM eh (.inr hnis)));have HI2:=κ (bS P d r ⟨#[105,115]⟩ w2 hp2 false hnis);have HK:=em;clear hk hf hu hsg hne hsn hp2 hx2 hB2 hR2 hup HN hb2 HI hnis;go_wp2_with fail;refine μ HI2 ?_;rintro e w3 ⟨rfl,hb3,hp3⟩;obtain ⟨hx2,hB2,hp2⟩:=HK.o;have hx3:=el;clear HK;go_wp2;go_ret;refine ⟨hB2.trans hb3, ?_⟩;rw [HNN.o];exact ⟨_,_,rfl,hx3,hp3⟩
   ·have hsg:cP 4 r=none:=oG hu;have hx2:=PX.keep (cT hb2 HP1.o) HX1.o;have hB2:=HB1.o.trans hb2;have hR2:=HRr.o.but HP1.o hb2;have hdn:(if done then none else cP 4 r)=none:=by cases done<;>simp [hsg]
    cases hi:isF wIs r
    ·have HNN:=κ ((HN.o).trans (pM hdn (.inr hi)));have HI2:=κ (bS P d r ⟨#[105,115]⟩ w2 hp2 false hi);have HK:=em;clear hu hsg hp2 hx2 hB2 hR2 HN hb2 HI hi hdn;go_wp2_with fail;refine μ HI2 ?_;rintro e w3 ⟨rfl,hb3,hp3⟩;obtain ⟨hx2,hB2,hp2⟩:=HK.o;have hx3:=el;clear HK;go_wp2;go_ret;refine ⟨hB2.trans hb3, ?_⟩;rw [HNN.o];exact ⟨_,_,rfl,hx3,hp3⟩
    ·have HNN:=κ ((HN.o).trans (aGT hdn hi));have HI2:=κ (bS P d r ⟨#[105,115]⟩ w2 hp2 true hi);have HK:=em;have htl:=bD hi;clear hu hsg hp2 hx2 hB2 hR2 HN hb2 HI hi hdn;go_wp2_with fail;refine μ HI2 ?_;rintro e w3 ⟨rfl,hb3,hp3⟩;simp only [if_true] at hp3;obtain ⟨hx2,hB2,hp2⟩:=HK.o;have hx3:=el;have hB3:=hB2.trans hb3;clear HK hx2 hB2 hp2 hb3 HI2;obtain ⟨nb,hnb⟩:∃ nb,isF oV r.tail=nb:=cw;have HI3:=κ (bS P d r.tail ⟨#[110,111,116]⟩ w3 hp3 nb hnb);have HP3:=κ hp3;have HNB:=κ hnb;clear hp3 hnb;go_wp2_with fail;refine μ HI3 ?_;rintro e w4 ⟨rfl,hb4,hp4⟩;have hx4:=PX.keep (cT hb4 HP3.o) hx3;have hB4:=hB3.trans hb4;obtain ⟨r3,hr3⟩:∃ r3,r3=(if nb then r.tail.tail else r.tail):=cw;rw [<-hr3] at hp4;have HNu:fP r.tail=(aD cE r3).map λz=>(nb,z):=by
      rw [hr3,fP,HNB.o];cases nb<;>rfl
     have hr3l:r3.length≤r.tail.length:=by rw [hr3];split<;>simp
     have hr3s:r3 <:+ r:=by rw [hr3];split;exact (aV _).trans (aV _);exact aV _
     have HNe:=κ (bQ P d cE r3 w4 hp4);have HNu':=κ HNu;have HP4:=κ hp4;have HR3:=κ hr3s;clear hr3 HNu hp4 hx3 hB3 hb4 HP3 HI3 HNB hr3s;go_wp2_with fail;refine μ HNe ?_;rintro e w5 hn;rcases hq:aD cE r3 with _|r4
     ·obtain ⟨rfl,hb5⟩:=er;have HN:=κ (show pX 4 d l=none by rw [HNN.o,HNu'.o,hq];rfl);clear hq hn;unfold aT;go_wp2;refine ⟨rfl,hB4.trans hb5, ?_⟩;rw [HN.o];exact dn
     ·obtain ⟨rfl,hb5,hp5⟩:=eu;have HN:=κ (show pX 4 d l=pL 4 d (.isn nb x) done r4 by rw [HNN.o,HNu'.o,hq];rfl);have hr4:=dQ hq;have hx5:=PX.keep (cT hb5 HP4.o) hx4;have hs4:=HSR.o.sfx ((aU hq).trans HR3.o);have hb6:Below w5 w5 (w5.alloc (.cells #[.iface T g1,nb] 200)):=ρ;have HS:=κ (show aBK P d w l done r4 (.iface 198 w5) (w5.alloc (.cells #[.iface T g1,nb] 200)) from
       ⟨.isn nb x,_,_,rfl,⟨_,_,(hB4.trans hb5).size,rfl,heap_alloc_new w5 _,PX.keep (aP hb6) hx5⟩,(hB4.trans hb5).trans (But.of hb6),hp5.below hb6,hs4,ac,HN.o⟩)
      clear hq hn hx4 hp5 hx5 hb6 hs4 hB4 hb5 HNN HP4 HN HNe HNu' HR3;go_wp2
      go_roundg (r4.length+1)
      case measure=>omega
      case rel=>exact ⟨r4,done,rfl,rfl,HS.o⟩
