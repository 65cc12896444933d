/-
 Contracts. Conditions: those of each.
-/
import Derived.Test.YtkolcimllghnaaaGreatDoorQdGP
import Derived.Test.YtkolcimllghnaaaGreatDoorQdGR
import Derived.Test.YtkolcimllghnaaaGreatDoorQdGI
set_option maxRecDepth 100000
set_option maxHeartbeats 8000000
namespace Go.Proofs.YtkolcimllghnaaaGreatDoor
open Lp Go.Proofs.Tryz
open Go.RowKit
variable{x:Lp.X}{B G P g:Nat}{q:Option Lp.X}{r rr:RC}{a v w w' w0:World}
def aBG (w:World) (q:Option Lp.X) (e:Ending) (w':World):Prop :=
 Below w w w'∧match q with
 | none=>∃ c:Int,c≠0∧e=.returned (.tuple #[stV 0 [] none 0,.int .i64 c])
 | some x=>∃ g rr,e=.returned (.tuple #[stV 7 [116] (some ⟨g,0,none⟩) 1,.int .i64 0])∧w.heap.size≤g∧w'.heap[g]? = some (.cells rr.cells.toArray 60 (0,0))∧RX (λk=>w.heap.size≤k) w' x rr
theorem vT {c:Int} (hq:q=none) (hc:c≠0) (hb:Below w w w'):aBG w q (.returned (.tuple #[stV 0 [] none 0,.int .i64 c])) w':=by
 subst hq;exact ⟨hb,c,hc,rfl⟩
theorem kX {k:Int} {tb:ZS} {A:ZT} {n:Nat} (h:Below B a w) (hg:B≤g):Below B a (eM w g k tb A n):=by
 unfold eM;exact ((((((((((((h.setCell (p:=⟨g,0,none⟩) hg _).setCell (p:=⟨g,1,none⟩) hg _).setCell (p:=⟨g,2,none⟩) hg _).setCell (p:=⟨g,3,none⟩) hg _).setCell (p:=⟨g,4,none⟩) hg _).setCell (p:=⟨g,5,none⟩) hg _).setCell (p:=⟨g,6,none⟩) hg _).setCell (p:=⟨g,7,none⟩) hg _).setCell (p:=⟨g,8,none⟩) hg _).setCell (p:=⟨g,9,none⟩) hg _).setCell (p:=⟨g,10,none⟩) hg _).setCell (p:=⟨g,11,none⟩) hg _).setCell (p:=⟨g,12,none⟩) hg _
theorem xB (s:ByteArray) (w:World) (hs:s.size≤9223372036854775807) (L:ZW) (E:Int) (hL:eL s.data.toList=(L,E)) (hE:E≠0) :
 Calls prog 9 #[s] w (aBG w none):=by
 have hb0:=OX;have hz0:=OW;have hl:=OV;unfold kK at hl;rw [hL] at hl;have HL:=κ hl;have H0:=OU;have e1:(E==0)=false:=η hE;have e2:=ku
 have HE:=κ hE;clear hb0 hz0 hl hL hE;go_enter func9,ntmps9;go_wp2_with fail;refine μ HL ?_;rintro e w1 ⟨hb1,A,c,rfl, -, -⟩;have hz1:=aA H0.o.2 hb1;have HZ:=κ (kX (g:=w) (k:=0) (tb:=[]) (A:=none) (n:=0) (H0.o.1.trans (hb1.mono H0.o.1.size)) (ν _));have c0:=β hz1;have z0:=λj=>frozen_of_row w1 _ j _ _ hz1;have hcE:=β (jW 0 [] none 0 hz1);simp only [stC,stZ] at c0;clear hz1 hb1 HL;go_wp2;change bodyPost _ _ _ _ _ (eM w1 w 0 [] none 0);generalize eM w1 w 0 [] none 0=WE at *;simp only [stC] at hcE;exact bodyPost_ret (v:=.tuple #[stV 0 [] none 0,.int .i64 E]) OY rfl (vT rfl HE.o HZ.o)
structure PrS (B P G g:Nat) (w0 w:World):Prop where
 b:But P w0 w
 z:w.heap[B]? = some (.cells stZ.toArray 38 (0,0))
 x:w.heap[G]? = some (.cells (stC 7 [116] (some ⟨g,0,none⟩) 1).toArray 38 (0,0))
theorem PrS.but (h:PrS B P G g w0 w) (hb:But P w w') (hP:B<P) (hG:P<G):PrS B P G g w0 w' :=
 ⟨h.b.trans hb,aL hb h.z ac,aL hb h.x ac⟩
theorem PrS.cells (h:PrS B P G g w0 w):(∀ j,w.cell? ⟨B,j,none⟩=stZ.toArray[j]?)∧(∀ j,w.cell? ⟨G,j,none⟩=(stC 7 [116] (some ⟨g,0,none⟩) 1).toArray[j]?)∧(∀ j,w.frozen? ⟨B,j,none⟩=false) :=
 ⟨β h.z,β h.x,λj=>frozen_of_row w _ j _ _ h.z⟩
theorem But.new (h:But P w w') (hP:w≤P):Below w w w':=⟨h.os,h.tape,h.output,h.size,λk hk=>h.block k hk ac⟩
theorem uY (m:Nat) (h:Below B a w):Below B a (w.drewN m):=⟨h.os,h.tape,h.output,h.size,h.block⟩
theorem Vq (hq:q=some x) (hb:Below w w w') (hg:w.heap.size≤g) (hx:w'.heap[g]? = some (.cells rr.cells.toArray 60 (0,0))) (hr:RX (λk=>w.heap.size≤k) w' x rr) :
 aBG w q (.returned (.tuple #[stV 7 [116] (some ⟨g,0,none⟩) 1,.int .i64 0])) w':=by
 subst hq;exact ⟨hb,g,rr,rfl,hg,hx,hr⟩
theorem aDC {m:Nat} {w2:World} (hBP:w<P) (hP2:P<w2) (hS:PrS w P G g w v) (hg:w2.heap.size≤g) (hx:RX (λk=>w2.heap.size≤k) v x rr) (hgx:v.heap[g]? = some (.cells rr.cells.toArray 60 (0,0))) :
 Below w w (eM (v.drewN m) w 7 [116] (some ⟨g,0,none⟩) 1)∧w.heap.size≤g∧(eM (v.drewN m) w 7 [116] (some ⟨g,0,none⟩) 1).heap[g]? = some (.cells rr.cells.toArray 60 (0,0)) ∧
  RX (λk=>w.heap.size≤k) (eM (v.drewN m) w 7 [116] (some ⟨g,0,none⟩) 1) x rr∧(eM (v.drewN m) w 7 [116] (some ⟨g,0,none⟩) 1).heap[w.heap.size]? = some (.cells (stC 7 [116] (some ⟨g,0,none⟩) 1).toArray 38 (0,0)):=by
 have hz:(v.drewN m).heap[w.heap.size]? = some (.cells stZ.toArray 38 (0,0)):=hS.z;refine ⟨kX (uY m (hS.b.new ac)) (ν _),ac, ?_, ?_,jW 7 [116] _ 1 hz⟩
 ·rw [jV ac];exact hgx
 ·refine RX.turn (w:=v) (λk cs hk hc=>⟨?_, ?_⟩) hx
  ·have:w2.heap.size≤k:=hk;show w.heap.size≤k;omega
  ·have:w2.heap.size≤k:=hk;rw [jV ac];exact hc
theorem Qa (s:ByteArray) (w:World) (hs:s.size≤9223372036854775807) (L:ZW) (hL:eL s.data.toList=(rC++L,0)) :
 Calls prog 9 #[s] w (aBG w (mI L)):=by
 obtain ⟨T,hT⟩:∃ T,rC++L=T:=cw;rw [hT] at hL;have HT:=κ hT;have hb0:=OX;have hz0:=OW;have hl:=OV;unfold kK at hl;have hsn:=(tZ s.data.toList).1;rw [hL] at hl hsn;have HL:=κ hl;have H0:=OU;have HN:=κ hsn;clear hb0 hz0 hl hL hsn;go_enter func9,ntmps9;go_wp2_with fail;refine μ HL ?_;rintro e w1 ⟨hb1,A,c,rfl, -,hown⟩;have hz1:=aA H0.o.2 hb1;have hBP:=OZ
 have hb2:Below w1 w1 (w1.alloc (.cells #[.slice A T.length c,.int .i64 0,.int .i64 0,.int .i64 0] 108)):=ρ;have hp2:RS (w1.alloc (.cells #[.slice A T.length c,.int .i64 0,.int .i64 0,.int .i64 0] 108)) w1 T 0 0:=by
  refine ⟨A,c,0, ?_, ?_,by rw [Nat.zero_add];exact HN.o⟩
  ·rw [Nat.zero_add];exact heap_alloc_new w1 _
  ·obtain ⟨b,cap,hv, -⟩:=hown.form (by rw [<-hT];simp [rC]);injection hv with hA _ _;subst hA;have hlt:=hown.lt b rfl;refine .inr ⟨b,0,rfl,hlt.2,λj u hu => ?_⟩;have h1:=kn;have e:=km
   rw [e] at h1;exact cN fu hb2
 have HS:=κ (Px w1 L _ (by rw [hT];exact hp2));have HW:=PA;have hP2:w1.heap.size<(w1.alloc (.cells #[.slice A T.length c,.int .i64 0,.int .i64 0,.int .i64 0] 108)).heap.size:=FO
 clear hz1 hb2 hp2 hown hb1 HL hT;go_wp2_with fail;generalize (w1.alloc (.cells #[.slice A T.length c,.int .i64 0,.int .i64 0,.int .i64 0] 108))=w2 at *;generalize w1.heap.size=P at *;refine μ HS ?_;rintro e w3 ⟨g,rr,rfl,hw⟩;simp only [stV];have hb4:Below w3 w3 (w3.alloc (.cells (stC 7 [116] (some ⟨g,0,none⟩) 1).toArray 38)):=ρ;have hPG:P<w3:=by have:=hw.1.size;omega
 have hS4:PrS w P w3 g w (w3.alloc (.cells (stC 7 [116] (some ⟨g,0,none⟩) 1).toArray 38)) :=
  ⟨((But.of HW.o.1).trans hw.1).trans (But.of hb4),aA (aL hw.1 HW.o.2 ac) hb4,heap_alloc_new w3 _⟩
 obtain ⟨hw1,hw2,hw3,hw4⟩:=hw;have hg3:=aA hw3 hb4;have HS4:=κ hS4;clear hS4 HS;rcases hpx:pX 1 0 L with _|⟨x,r⟩
 ·rw [hpx] at hw4;have HQ:=κ (show mI L=none by rw [mI,hpx]);have hbad:RBad P w3 0:=hw4;have HPs:=κ (xK ⟨#[59]⟩ P 0 _ (hbad.below hb4));simp only [stC] at HPs;clear hpx hw4 hbad hb4 hw1 hw2 hw3 hg3;go_wp2_with fail;refine μ HPs ?_;rintro e v1 ⟨rfl,hbv,hbadv⟩;have hS5:=HS4.o.but hbv hBP hPG;clear hbv HPs HS4;obtain ⟨l',d',b',hb',hpb, -, -⟩:=hbadv;have hS:=hS5;clear hS5;cases l' with
  | nil =>
    obtain ⟨A0,c00,i0,q1, -, -⟩:=hpb;have p0:=β q1 0;have p1:=β q1 1;have hI:¬((i0:Int)<((i0+([]:ZW).length:Nat):Int)):=aa
    obtain ⟨nn0,hnn⟩:∃ nn0,i0+([]:ZW).length=nn0:=cw;rw [hnn] at p0 hI;have HS6:=lf;have HQ1:=κ q1;clear q1 hnn hS;go_wp2_with fail;go_quiet (fail);have hS:=HS6.o;have q1:=HQ1.o;clear HS6 HQ1 p0 p1;have p3:=vt;have eb:=wd;have eb2:=yy
    obtain ⟨c0,c1,z0⟩:=sq;have HSE:=lf;have HBE:=κ hb';simp only [stC,stZ] at c0 c1;clear q1 hb' hS;go_wp2_with fail
    go_region
    have hzF:(v1.drewN (nq+1)).heap[w.heap.size]? = some (.cells stZ.toArray 38 (0,0)):=HSE.o.z;have hbx:=jW (w:=(v1.drewN (nq+1))) 0 [] none 0 hzF;have hbl:=(kX (g:=w) (k:=0) (tb:=[]) (A:=none) (n:=0) (uY (nq+1) (HSE.o.b.new ac)) (ν _));obtain ⟨V,hV⟩:∃ V,eM (v1.drewN (nq+1)) w 0 [] none 0=V:=cw;rw [hV] at hbx hbl;have hcE:=β (w:=V) hbx;have HZ:=κ (show Below w w V from hbl);have HV:=κ hV;clear hzF c0 c1 z0 p3 hbx hbl hV;go_wp2;change bodyPost _ _ _ _ _ (eM (v1.drewN (nq+1)) w 0 [] none 0);rw [HV.o];simp only [stC] at hcE;exact bodyPost_ret (v:=.tuple #[stV 0 [] none 0,.int .i64 (b')]) OY rfl (vT HQ.o HBE.o HZ.o)
  | cons t' q' =>
    have HPb:=κ hpb;have HF:=κ (λ(W:World) (hp:RS W P (t'::q') d' b')=>fH P d' b' 4 (t'::q') W hp);obtain ⟨A0,c00,i0,q1, -, -⟩:=hpb;have p0:=β q1 0;have p1:=β q1 1;have hI:(i0:Int)<((i0+(t'::q').length:Nat):Int):=bl
    obtain ⟨nn0,hnn⟩:∃ nn0,i0+(t'::q').length=nn0:=cw;rw [hnn] at p0 hI;have HS6:=lf;clear q1 hnn hS;go_wp2_with fail;go_quiet (fail);go_wp2_with fail;refine (HF.o _ (HPb.o.drawn ⟨nq,rfl⟩)).mono ?_;rintro e v2 ⟨rfl,hbv2,hpb2⟩;have hS:=PC;obtain ⟨b2,hb2e⟩:∃ b2,tK b' 4=b2:=cw;have hb':b2≠0:=PB
    rw [hb2e] at hpb2;obtain ⟨A1,c01,i1,q1, -, -⟩:=hpb2;clear hbv2 HS6 hb2e HF HPb p0 p1 hI;have p3:=vt;have eb:(b2==0)=false:=η hb';have eb2:(b2 !=0)=true:=PD
    obtain ⟨c0,c1,z0⟩:=sq;have HSE:=lf;have HBE:=κ hb';simp only [stC,stZ] at c0 c1;clear q1 hb' hS;go_wp2_with fail
    go_region
    have hzF:=PH;have hbx:=jW (w:=v2) 0 [] none 0 hzF;have hbl:=PG;obtain ⟨V,hV⟩:∃ V,eM v2 w 0 [] none 0=V:=cw;rw [hV] at hbx hbl;have hcE:=β (w:=V.drew) hbx;have HZ:=PF;have HV:=κ hV;clear hzF c0 c1 z0 p3 hbx hbl hV;go_wp2;change bodyPost _ _ _ _ _ (eM v2 w 0 [] none 0).drew;rw [HV.o];simp only [stC] at hcE;exact PE
 ·rw [hpx] at hw4;obtain ⟨hx3,hp3⟩:=hw4;obtain ⟨fb,hfb⟩:∃ fb,isF [59] r=fb:=cw;obtain ⟨r',hr'⟩:∃ r',r'=(if fb then r.tail else r):=cw;have hq:mI L=if r'=[] then some x else none:=by rw [mI,hpx,hr', <-hfb]
  have hp4:=hp3.below hb4;have HPs:=κ (aH P 0 0 r ⟨#[59]⟩ _ hp4 fb (by rw [show (⟨#[59]⟩:ByteArray).data.toList=[59] from rfl,hfb];rfl));have HRb:=κ hr';have HX:=κ (ι (RX.below hb4 hx3) (ι hp4 hg3));have HQ0:=mi;simp only [stC] at HPs;clear hpx hx3 hp3 hb4 hw1 hw3 hg3 hfb hr' hq hp4;go_wp2_with fail;refine μ HPs ?_;rintro e v1 ⟨rfl,hbv,hpb⟩;rw [<-HRb.o] at hpb;have hS:=HS4.o.but hbv hBP hPG;have hxv:=RX.but hbv HX.o.2.1 HX.o.1;have hgv:=aL hbv HX.o.2.2 ac;clear hbv HPs HS4 HX HRb;cases r' with
  | nil =>
    have HQ:=κ (HQ0.o.trans (if_pos rfl));obtain ⟨A0,c00,i0,q1, -, -⟩:=hpb;have p0:=β q1 0;have p1:=β q1 1;have hI:¬((i0:Int)<((i0+([]:ZW).length:Nat):Int)):=aa
    obtain ⟨nn0,hnn⟩:∃ nn0,i0+([]:ZW).length=nn0:=cw;rw [hnn] at p0 hI;have p3:=vt;obtain ⟨c0,c1,z0⟩:=sq;clear q1;have HSE:=lf;have HXE:=κ (ι hxv hgv);simp only [stC,stZ] at c0 c1;clear hnn hS hxv hgv HQ0;go_wp2_with fail;go_quiet (fail);have hend:=aDC (m:=nq) hBP hP2 HSE.o hw2 HXE.o.1 HXE.o.2;obtain ⟨V,hV⟩:∃ V,eM (v1.drewN nq) w 7 [116] (some ⟨g,0,none⟩) 1=V:=cw;rw [hV] at hend;have hcE:=β hend.2.2.2.2;have HE:=κ hend;have HV:=κ hV;clear hend hV;go_wp2;change bodyPost _ _ _ _ _ (eM (v1.drewN nq) w 7 [116] (some ⟨g,0,none⟩) 1);rw [HV.o];simp only [stC] at hcE;exact bodyPost_ret (v:=.tuple #[stV 7 [116] (some ⟨g,0,none⟩) 1,.int .i64 0]) OY rfl (Vq HQ.o HE.o.1 HE.o.2.1 HE.o.2.2.1 HE.o.2.2.2.1)
  | cons t' q' =>
    have HQ:=κ (HQ0.o.trans (if_neg aa));clear HQ0 hxv hgv;have HPb:=κ hpb;have HF:=κ (λ(W:World) (hp:RS W P (t'::q') 0 0)=>fH P 0 0 4 (t'::q') W hp);obtain ⟨A0,c00,i0,q1, -, -⟩:=hpb;have p0:=β q1 0;have p1:=β q1 1;have hI:(i0:Int)<((i0+(t'::q').length:Nat):Int):=bl
    obtain ⟨nn0,hnn⟩:∃ nn0,i0+(t'::q').length=nn0:=cw;rw [hnn] at p0 hI;have HS6:=lf;clear q1 hnn hS;go_wp2_with fail;go_quiet (fail);go_wp2_with fail;refine (HF.o _ (HPb.o.drawn ⟨nq,rfl⟩)).mono ?_;rintro e v2 ⟨rfl,hbv2,hpb2⟩;have hS:=PC;obtain ⟨b2,hb2e⟩:∃ b2,tK 0 4=b2:=cw;have hb':b2≠0:=PB
    rw [hb2e] at hpb2;obtain ⟨A1,c01,i1,q1, -, -⟩:=hpb2;clear hbv2 HS6 hb2e HF HPb p0 p1 hI;have p3:=vt;have eb:(b2==0)=false:=η hb';have eb2:(b2 !=0)=true:=PD
    obtain ⟨c0,c1,z0⟩:=sq;have HSE:=lf;have HBE:=κ hb';simp only [stC,stZ] at c0 c1;clear q1 hb' hS;go_wp2_with fail
    go_region
    have hzF:=PH;have hbx:=jW (w:=v2) 0 [] none 0 hzF;have hbl:=PG;obtain ⟨V,hV⟩:∃ V,eM v2 w 0 [] none 0=V:=cw;rw [hV] at hbx hbl;have hcE:=β (w:=V.drew) hbx;have HZ:=PF;have HV:=κ hV;clear hzF c0 c1 z0 p3 hbx hbl hV;go_wp2;change bodyPost _ _ _ _ _ (eM v2 w 0 [] none 0).drew;rw [HV.o];simp only [stC] at hcE;exact PE
theorem Km (s:ByteArray) (u:ZS) (w:World) (hs:s.data.toList=Lp.pre++32::u) (hu:u.length≤1000) :
 Calls prog 9 #[s] w (aBG w (eN u)):=by
 have hsz:s.size≤9223372036854775807:=by
  have h1:=PJ
  rw [h1,hs];simp [Lp.pre];omega
 have ht:=wP u hu;rw [<-hs] at ht
 by_cases h0:(dN [] u).2=0
 ·rw [if_pos h0] at ht;rw [show eN u=mI (dN [] u).1 from if_pos h0];exact Qa s w hsz _ ht
 ·rw [if_neg h0] at ht;rw [show eN u=none from if_neg h0];exact xB s w hsz _ _ ht h0
theorem Gq (s:ByteArray):((⟨#[68,69,76,69,84,69,32,70,82,79,77,32,116,32,87,72,69,82,69,32]⟩:ByteArray)++s).data.toList=Lp.pre++32::s.data.toList:=by
 rw [ByteArray.data_append,Array.toList_append];rfl
def Er (w:World) (q:Option Lp.X) (e:Ending) (w':World):Prop :=
 Below w w w'∧match q with
 | none=>e=.returned (.tuple #[rcZ.val,false])
 | some x=>∃ rr:RC,e=.returned (.tuple #[rr.val,true])∧RX (λk=>w.heap.size≤k) w' x rr
theorem aIF (hq:q=none) (hb:Below w w w'):Er w q (.returned (.tuple #[rcZ.val,false])) w':=by
 subst hq;exact ⟨hb,rfl⟩
theorem aDN (rr:RC) (hq:q=some x) (hb:Below w w w') (hx:RX (λk=>w.heap.size≤k) w' x rr):Er w q (.returned (.tuple #[rr.val,true])) w':=by
 subst hq;exact ⟨hb,rr,rfl,hx⟩
theorem oK (h:Below B a w) (hg:B≤g):Below B a (put8 w g r):=by
 unfold put8;exact ((((((((h.setCell (p:=⟨g,0,none⟩) hg _).setCell (p:=⟨g,1,none⟩) hg _).setCell (p:=⟨g,2,none⟩) hg _).setCell (p:=⟨g,3,none⟩) hg _).setCell (p:=⟨g,4,none⟩) hg _).setCell (p:=⟨g,5,none⟩) hg _).setCell (p:=⟨g,6,none⟩) hg _).setCell (p:=⟨g,7,none⟩) hg _)
theorem Wa (s:ByteArray) (w:World) (hs:s.size≤1000) :
 Calls prog 105 #[s] w (Er w (eN s.data.toList)):=by
 have hb0:=vw;have hz0:=vu;have hW:=World.size_alloc w (.cells rcZ.cells.toArray 60);have HP:=κ (Km _ s.data.toList (w.alloc (.cells rcZ.cells.toArray 60)) (Gq s) (by rw [Array.length_toList];exact hs));have H0:=κ (ι hb0 (ι hz0 hW));clear hb0 hz0 hW;go_enter func105,ntmps105;go_wp2_with fail;refine μ HP ?_;rintro e w1 ⟨hb1,hq⟩;have hz1:=aA H0.o.2.1 hb1;have hbw:=ln;have hBw:w<w1.heap.size:=aG hz1;rcases hc:eN s.data.toList with _|x
 ·rw [hc] at hq;obtain ⟨c,hc0,rfl⟩:=hq;have HQ:=κ hc;have e1:(c==0)=false:=η hc0;have e2:(c !=0)=true:=kf
  simp only [stV];have hb2:Below w1 w1 (w1.alloc (.cells (stC 0 [] none 0).toArray 38)):=ρ;have hz2:=aA hz1 hb2;have c0:=β hz2;have z0:=λj=>frozen_of_row _ _ j _ _ hz2;have hbx:=aK rcZ hz2;have hbl:=oK (g:=w) (r:=rcZ) (hbw.trans (hb2.mono (Nat.le_of_lt hBw))) (ν _);obtain ⟨V,hV⟩:∃ V,put8 (w1.alloc (.cells (stC 0 [] none 0).toArray 38)) w rcZ=V:=cw;rw [hV] at hbx hbl;have hcE:=β hbx;have HV:=κ hV;have HE:=κ hbl;simp only [RC.cells,rcZ,stC] at c0 z0;clear hb1 hz1 hbw hc hc0 hb2 hz2 hbx hbl hV HP H0 hBw;go_wp2;change bodyPost _ _ _ _ _ (put8 (w1.alloc (.cells (stC 0 [] none 0).toArray 38)) w rcZ);rw [HV.o];simp only [RC.cells,rcZ] at hcE;exact bodyPost_ret (v:=.tuple #[rcZ.val,false]) (by simp [results,results105,go_sem,hcE,RC.val,rcZ]) rfl (aIF HQ.o HE.o)
 ·rw [hc] at hq;obtain ⟨g,⟨k,vk,vi,vs,vb,tt,ss,A,nn,c⟩,rfl,hg,hgx,hx⟩:=hq;have HQ:=κ hc;simp only [stV];have hb2:Below w1 w1 (w1.alloc (.cells (stC 7 [116] (some ⟨g,0,none⟩) 1).toArray 38)):=ρ;have hz2:=aA hz1 hb2;have hg2:=aA hgx hb2;have hst:=heap_alloc_new w1 (.cells (stC 7 [116] (some ⟨g,0,none⟩) 1).toArray 38);have c0:=β hz2;have cg:=β hg2;have cs:=β hst;have z0:=λj=>frozen_of_row _ _ j _ _ hz2;have hbx:=aK ⟨k,vk,vi,vs,vb,tt,ss,A,nn,c⟩ hz2;have hbl:=oK (g:=w) (r:=⟨k,vk,vi,vs,vb,tt,ss,A,nn,c⟩) (hbw.trans (hb2.mono (Nat.le_of_lt hBw))) (ν _);have hgw:w.heap.size+1≤g:=by rw [<-H0.o.2.2];exact hg
  have hxl:RX (λk=>w.heap.size<k) _ x ⟨k,vk,vi,vs,vb,tt,ss,A,nn,c⟩:=RX.mono (λk hk _=>by have h2:(w.alloc (.cells rcZ.cells.toArray 60)).heap.size≤k:=hk;rw [H0.o.2.2] at h2;exact h2) (RX.below hb2 hx);have hx2:=lI (g:=w) (r:=⟨k,vk,vi,vs,vb,tt,ss,A,nn,c⟩) (λj (hj:w.heap.size<j)=>ac) hxl;obtain ⟨V,hV⟩:∃ V,put8 (w1.alloc (.cells (stC 7 [116] (some ⟨g,0,none⟩) 1).toArray 38)) w ⟨k,vk,vi,vs,vb,tt,ss,A,nn,c⟩=V:=cw;rw [hV] at hbx hbl hx2;have hcE:=β hbx;have HV:=κ hV;have HE:=κ (ι hbl (RX.mono (S':=λk=>w.heap.size≤k) (λ_ hk _=>Nat.le_of_lt hk) hx2));simp only [RC.cells,rcZ,stC] at c0 z0 cg cs;clear hb1 hz1 hbw hc hb2 hz2 hbx hbl hV HP H0 hx hx2 hxl hgx hg2 hst hBw hgw;go_wp2;change bodyPost _ _ _ _ _ (put8 (w1.alloc (.cells (stC 7 [116] (some ⟨g,0,none⟩) 1).toArray 38)) w ⟨k,vk,vi,vs,vb,tt,ss,A,nn,c⟩);rw [HV.o];simp only [RC.cells] at hcE;exact bodyPost_ret (v:=.tuple #[RC.val ⟨k,vk,vi,vs,vb,tt,ss,A,nn,c⟩,true]) (by simp [results,results105,go_sem,hcE,RC.val]) rfl (aDN _ HQ.o HE.o.1 HE.o.2)
def vL (s:ByteArray):ByteArray:=s.extract 0 (min s.size 600)
theorem yR (s:ByteArray):(vL s).data.toList=s.data.toList.take 600:=by
 have h:s.data.size=s.size:=rfl;simp [vL,ByteArray.data_extract,Array.toList_extract];omega
theorem yQ (s:ByteArray):(vL s).size≤600:=by
 simp [vL,ByteArray.size_extract];omega
theorem nT (s:ByteArray) (w:World) :
 Calls prog 8 #[s] w λe w'=>e=.returned (.string (vL s))∧w=w':=by
 have hm:(min (s.size:Int) 600).toNat=min s.size 600:=ac
 have h0:(0:Int)≤min (s.size:Int) 600:=ac
 have h1:min (s.size:Int) 600≤(s.size:Int):=ac
 have HM:=κ hm;clear hm;go_enter func8,ntmps8;go_wp2;go_ret;refine ⟨?_,rfl⟩;show Ending.returned (.string (s.extract 0 (min (s.size:Int) 600).toNat))=_;rw [HM.o];rfl
theorem Wx (L:ZW):aDG (rC++L)=(mI L).map λx=>([116],some x):=by
 have hw:lB (⟨1,[119,104,101,114,101],0⟩::L)=(pX 1 0 L).map λp=>(some p.1,p.2):=rfl;have hd:oU (rC++L).tail=match lB (⟨1,[119,104,101,114,101],0⟩::L) with|none=>none|some (x,r3)=>some ([116],x,r3):=rfl;unfold aDG;rw [hd,hw];unfold mI;cases pX 1 0 L with
 | none=>rfl
 | some p =>
   obtain ⟨x,r⟩:=p;show (if (if isF [59] r then r.tail else r)=[] then some (([116]:ZS),some x) else none)=Option.map _ (if (if isF [59] r then r.tail else r)=[] then some x else none);generalize (if isF [59] r then r.tail else r)=q
   by_cases hq:q=[]<;>simp [hq]
def aJQ (w:World) (q:Option Lp.X) (e:Ending) (w':World):Prop :=
 Below w w w'∧match q with
 | none=>∃ c:Int,c≠0∧e=.returned (.tuple #[.nilIface,.int .i64 c])
 | some x=>∃ g T g2,e=.returned (.tuple #[.iface 213 (.pointer (some ⟨g,0,none⟩)),.int .i64 0])∧w'.heap[g]? = some (.cells #[.string ⟨#[116]⟩,.iface T (.pointer (some ⟨g2,0,none⟩))] 216 (0,0))∧PX w w' x (.iface T (.pointer (some ⟨g2,0,none⟩)))
theorem Qp (s:ByteArray) (u:ZS) (w:World) (hT:eQ w) (hR:Resv w) (hs:s.data.toList=Lp.pre++32::u) (hu:u.length≤1000) :
 Calls prog 7 #[s] w (aJQ w (eN u)):=by
 have hsz:s.size≤9223372036854775807:=by
  have h1:=PJ
  rw [h1,hs];simp [Lp.pre];omega
 have ht:=wP u hu;rw [<-hs] at ht
 by_cases h0:(dN [] u).2=0
 ·rw [if_pos h0] at ht;rw [show eN u=mI (dN [] u).1 from if_pos h0];refine (Qo s w hT hR hsz _ ht rfl).mono ?_;rintro e w' ⟨h1,h2⟩;refine ⟨h1, ?_⟩;rw [Wx] at h2;cases hc:mI (dN [] u).1 with
  | none=>rw [hc] at h2;exact h2
  | some x =>
    rw [hc] at h2;obtain ⟨g,v,h3, -,h4,⟨⟨T,g2,h5⟩,h6⟩⟩:=h2;subst h5;exact ⟨g,T,g2,h3,h4,h6⟩
 ·rw [if_neg h0] at ht;rw [show eN u=none from if_neg h0];refine (Bm s w hT hsz _ _ ht h0).mono ?_;rintro e w' ⟨h1,h2⟩;exact ⟨h1,_,h0,h2⟩
def zJ (w:World) (q:Option Lp.X) (e:Ending) (w':World):Prop :=
 Below w w w'∧match q with
 | none=>∃ rr:RC,e=.returned (.tuple #[.nilIface,rr.val,false])
 | some x=>∃ T g rr,e=.returned (.tuple #[.iface T (.pointer (some ⟨g,0,none⟩)),RC.val rr,true])∧PX w w' x (.iface T (.pointer (some ⟨g,0,none⟩)))∧RX (λk=>w.heap.size≤k) w' x rr
theorem aFB (rr:RC) (hq:q=none) (hb:Below w w w'):zJ w q (.returned (.tuple #[.nilIface,rr.val,false])) w':=by
 subst hq;exact ⟨hb,rr,rfl⟩
theorem Zr {T:TypeId} (rr:RC) (hq:q=some x) (hb:Below w w w') (hp:PX w w' x (.iface T g)) (hx:RX (λk=>w.heap.size≤k) w' x rr):zJ w q (.returned (.tuple #[.iface T g,rr.val,true])) w':=by
 subst hq;exact ⟨hb,T,g,rr,rfl,hp,hx⟩
theorem Zt {u:Value} {r0:RC} (hz:v.heap[w.heap.size]? = some (.cells r0.cells.toArray 60 (0,0))) (hb:Below w w v) (hp:PX (w+1) v x u) (hx:RX (λj=>w.heap.size<j) v x r) :
 (put8 v w r).heap[w.heap.size]? = some (.cells r.cells.toArray 60 (0,0))∧Below w w (put8 v w r)∧PX w (put8 v w r) x u∧RX (λj=>w.heap.size≤j) (put8 v w r) x r :=
 ⟨aK r hz,oK hb (ν _),PX.mono (Nat.le_succ _) (PX.keepB (λk o hk ho=>(kQ ac).trans ho) hp),RX.mono (λ_ hk _=>Nat.le_of_lt hk) (lI (λj (hj:w.heap.size<j)=>ac) hx)⟩
theorem aHO (p:ZT) (w:World):(Instr.typeAssert (.iface 213 (.pointer p)) 28 213 true).run prog w=.ok (.tuple #[.pointer p,true]) w:=aj
theorem aLM (s:ByteArray):((⟨#[68,69,76,69,84,69,32,70,82,79,77,32,116,32,87,72,69,82,69,32]⟩:ByteArray)++vL s).data.toList=Lp.pre++32::(s.data.toList.take 600):=by
 rw [Gq,yR]
attribute [local go_sem] aHO
theorem Aa (s:ByteArray) (w:World) (hT:eQ w) (hR:Resv w) :
 Calls prog 60 #[s] w (zJ w (eN (s.data.toList.take 600))):=by
 have hb0:=vw;have hz0:=vu;have hl:(s.data.toList.take 600).length≤1000:=rx
 have HP:=κ (Qp _ (s.data.toList.take 600) _ (aQ hT hb0) (cC hR hb0) (aLM s) hl);have HO:=κ (λW=>(yR s)▸Wa (vL s) W (by have:=yQ s;omega));have H0:=OU;have hfs:=yQ s;clear hb0 hz0 hl hT hR;go_enter func60,ntmps60;go_wp2_with fail;refine (nT s _).mono ?_;rintro e w1 ⟨rfl,rfl⟩;go_wp2_with fail;refine μ HP ?_;rintro e w1 ⟨hb1,hq1⟩;have hz1:=aA H0.o.2 hb1;have hbw1:=ln;rcases hc:eN (s.data.toList.take 600) with _|x
 ·rw [hc] at hq1;obtain ⟨c,hc0,rfl⟩:=hq1;have HQ:=κ hc;have e1:(c==0)=false:=η hc0;have e2:(c !=0)=true:=kf
  rw [hc] at HO;have HZ:=κ (ι hz1 hbw1);clear hc hc0 hb1 hz1 hbw1 HP H0;go_wp2_with fail;refine (nT s _).mono ?_;rintro e w2 ⟨rfl,rfl⟩;go_wp2_with fail;refine (HO.o _).mono ?_;rintro e w2 ⟨hb2,rfl⟩;simp only [RC.val,rcZ];have hb3:Below w2 w2 (w2.alloc (.cells rcZ.cells.toArray 60)):=ρ;have hz2:=aA HZ.o.1 hb2;have hz3:=aA hz2 hb3;have hy3:=heap_alloc_new w2 (.cells rcZ.cells.toArray 60);have hbw3:=(HZ.o.2.trans (hb2.mono HZ.o.2.size)).trans (hb3.mono (Nat.le_of_lt (aG hz2)));have c0:=β hz3;have cy:=β hy3;have z0:=λj=>frozen_of_row _ _ j _ _ hz3;simp only [RC.cells,rcZ] at c0 cy z0;have HZ3:=κ (ι hz3 hbw3);clear hb2 hb3 hz2 hz3 hy3 hbw3 HZ HO;go_wp2_with fail
  go_region
  have hbx:=aK rcZ HZ3.o.1;have hbl:=oK (g:=w) (r:=rcZ) HZ3.o.2 (ν _);obtain ⟨V,hV⟩:∃ V,put8 (w2.alloc (.cells rcZ.cells.toArray 60)) w rcZ=V:=cw;rw [hV] at hbx hbl;have hcE:=β (w:=V.drew) hbx;have HE:=PF;have HV:=κ hV;clear c0 cy z0 hbx hbl hV HZ3;go_wp2;change bodyPost _ _ _ _ _ (put8 (w2.alloc (.cells rcZ.cells.toArray 60)) w rcZ).drew;rw [HV.o];simp only [RC.cells,rcZ] at hcE;exact bodyPost_ret (v:=.tuple #[.nilIface,rcZ.val,false]) (by simp [results,results60,go_sem,hcE,RC.val,rcZ]) rfl (aFB rcZ HQ.o HE.o)
 ·rw [hc] at hq1;obtain ⟨g,T,g2,rfl,hg,hx1⟩:=hq1;have HQ:=κ hc;rw [hc] at HO;have HZ:=κ (ι hz1 (ι hbw1 (ι hg (PX.mono (B':=w.heap.size+1) (by rw [World.size_alloc];exact ν _) hx1))));clear hc hb1 hz1 hbw1 HP H0 hg hx1;go_wp2_with fail;refine (nT s _).mono ?_;rintro e w2 ⟨rfl,rfl⟩;go_wp2_with fail;refine (HO.o _).mono ?_;rintro e w2 ⟨hb2,⟨k,vk,vi,vs,vb,tt,ss,A,nn,c⟩,rfl,hrx⟩;simp only [RC.val];have hb3:Below w2 w2 (w2.alloc (.cells #[.int .u8 k,.int .u8 vk,vi,vs,vb,tt,ss,.slice A nn c] 60)):=ρ;have hz2:=aA HZ.o.1 hb2;have hz3:=aA hz2 hb3;have hg3:=aA (aA HZ.o.2.2.1 hb2) hb3;have hy3:=heap_alloc_new w2 (.cells #[.int .u8 k,.int .u8 vk,vi,vs,vb,tt,ss,.slice A nn c] 60);have hbw3:=(HZ.o.2.1.trans (hb2.mono HZ.o.2.1.size)).trans (hb3.mono (Nat.le_of_lt (aG hz2)));have hlt1:=aG HZ.o.1;have hpx3:=PX.keep (aP hb3) (PX.keep (aP hb2) HZ.o.2.2.2);have hrx3:=RX.mono (S':=λj=>w.heap.size<j) (λj hj _=>by have h:w1.heap.size≤j:=hj;omega) (RX.below hb3 hrx);have hne:w.heap.size≠g:=by
   rintro rfl;have:=hz3.symm.trans hg3;simp at this
  have hne2:=hne.symm;have c0:=β hz3;have cg:=β hg3;have cy:=β hy3;have z0:=λj=>frozen_of_row _ _ j _ _ hz3;simp only [RC.cells,rcZ] at c0;have HZ3:=κ (ι hz3 (ι hbw3 (ι hpx3 hrx3)));clear hb2 hb3 hz2 hz3 hg3 hy3 hbw3 HZ HO hpx3 hrx3 hrx hlt1;go_wp2_with fail
  go_region
  have hend:=Zt (r:=⟨k,vk,vi,vs,vb,tt,ss,A,nn,c⟩) HZ3.o.1 HZ3.o.2.1 HZ3.o.2.2.1 HZ3.o.2.2.2;obtain ⟨V,hV⟩:∃ V,put8 (w2.alloc (.cells #[.int .u8 k,.int .u8 vk,vi,vs,vb,tt,ss,.slice A nn c] 60)) w ⟨k,vk,vi,vs,vb,tt,ss,A,nn,c⟩=V:=cw;rw [hV] at hend;have hcE:=β (w:=V.drew) hend.1;have HE:=κ hend.2;have HV:=κ hV;clear c0 cy cg z0 hend hV HZ3;go_wp2;change bodyPost _ _ _ _ _ (put8 (w2.alloc (.cells #[.int .u8 k,.int .u8 vk,vi,vs,vb,tt,ss,.slice A nn c] 60)) w ⟨k,vk,vi,vs,vb,tt,ss,A,nn,c⟩).drew;rw [HV.o];simp only [RC.cells] at hcE;exact bodyPost_ret (v:=.tuple #[.iface T g2,RC.val ⟨k,vk,vi,vs,vb,tt,ss,A,nn,c⟩,true]) (by simp [results,results60,go_sem,hcE,RC.val]) rfl (Zr ⟨k,vk,vi,vs,vb,tt,ss,A,nn,c⟩ HQ.o HE.o.1.drew (PX.keepB (w:=V) (w':=V.drew) (λ_ _ _ h=>h) HE.o.2.1) (RX.drew HE.o.2.2))
