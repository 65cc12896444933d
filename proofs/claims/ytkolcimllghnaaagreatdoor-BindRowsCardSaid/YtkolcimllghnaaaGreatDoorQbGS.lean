/-
 Contracts. Conditions: those of each.
-/
import Derived.Test.YtkolcimllghnaaaGreatDoorQbGP
import Derived.Test.YtkolcimllghnaaaGreatDoorQbGR
import Derived.Test.YtkolcimllghnaaaGreatDoorQbGI
set_option maxRecDepth 100000
set_option maxHeartbeats 8000000
namespace Go.Proofs.YtkolcimllghnaaaGreatDoor
open Lp Go.Proofs.Tryz
open Go.RowKit
def Sk (w:World) (q:Option Lp.X) (e:Ending) (w':World):Prop :=
 Below w.heap.size w w'∧match q with
 | none=>∃ c:Int,c≠0∧e=.returned (.tuple #[stV 0 [] none 0,.int .i64 c])
 | some x=>∃ g rr,e=.returned (.tuple #[stV 7 [116] (some ⟨g,0,none⟩) 1,.int .i64 0])∧w.heap.size≤g∧w'.heap[g]? = some (.cells rr.cells.toArray 60 (0,0))∧RX (fun k=>w.heap.size≤k) w' x rr
theorem sA {w w':World} {q:Option Lp.X} {c:Int} (hq:q=none) (hc:c≠0) (hb:Below w.heap.size w w'):Sk w q (.returned (.tuple #[stV 0 [] none 0,.int .i64 c])) w':=by
 subst hq;exact ⟨hb,c,hc,rfl⟩
theorem jH {B:Nat} {a w:World} {g:Nat} {k:Int} {tb:List UInt8} {A:Option Addr} {n:Nat} (h:Below B a w) (hg:B≤g):Below B a (dW w g k tb A n):=by
 unfold dW
 exact ((((((((((((h.setCell (p:=⟨g,0,none⟩) hg _).setCell (p:=⟨g,1,none⟩) hg _).setCell (p:=⟨g,2,none⟩) hg _).setCell (p:=⟨g,3,none⟩) hg _).setCell (p:=⟨g,4,none⟩) hg _).setCell (p:=⟨g,5,none⟩) hg _).setCell (p:=⟨g,6,none⟩) hg _).setCell (p:=⟨g,7,none⟩) hg _).setCell (p:=⟨g,8,none⟩) hg _).setCell (p:=⟨g,9,none⟩) hg _).setCell (p:=⟨g,10,none⟩) hg _).setCell (p:=⟨g,11,none⟩) hg _).setCell (p:=⟨g,12,none⟩) hg _
theorem tE (s:ByteArray) (w:World) (hs:s.size≤9223372036854775807) (L:List Tok) (E:Int) (hL:dT s.data.toList=(L,E)) (hE:E≠0) :
 Calls prog 9 #[.string s] w (Sk w none):=by
 have hb0:Below w.heap.size w (w.alloc (.cells stZ.toArray 38)):=ρ
 have hz0:=heap_alloc_new w (.cells stZ.toArray 38)
 have hl:=oO s (w.alloc (.cells stZ.toArray 38)) hs
 unfold iW at hl
 rw [hL] at hl
 have HL:=κ hl
 have H0:=κ (ι hb0 hz0)
 have e1:(E==0)=false:=η hE
 have e2:(E !=0)=true:=by rw [bne,e1];rfl
 have HE:=κ hE
 clear hb0 hz0 hl hL hE
 go_enter func9,ntmps9
 go_wp2_with fail
 refine μ HL ?_
 rintro e w1 ⟨hb1,A,c,rfl, -, -⟩
 have hz1:=aA H0.out.2 hb1
 have HZ:=κ (jH (g:=w.heap.size) (k:=0) (tb:=[]) (A:=none) (n:=0) (H0.out.1.trans (hb1.mono H0.out.1.size)) (ν _))
 have c0:=β hz1
 have z0:=fun j=>frozen_of_row w1 _ j _ _ hz1
 have hcE:=β (iH 0 [] none 0 hz1)
 simp only [stC,stZ] at c0
 clear hz1 hb1 HL
 go_wp2
 change bodyPost _ _ _ _ _ (dW w1 w.heap.size 0 [] none 0)
 generalize dW w1 w.heap.size 0 [] none 0=WE at *
 simp only [stC] at hcE
 exact bodyPost_ret (v:=.tuple #[stV 0 [] none 0,.int .i64 E]) (by simp [results,results9,go_sem,hcE,stV]) rfl (sA rfl HE.out HZ.out)
structure PrS (B P G g:Nat) (w0 w:World):Prop where
 b:But P w0 w
 z:w.heap[B]? = some (.cells stZ.toArray 38 (0,0))
 x:w.heap[G]? = some (.cells (stC 7 [116] (some ⟨g,0,none⟩) 1).toArray 38 (0,0))
theorem PrS.but {B P G g:Nat} {w0 w w':World} (h:PrS B P G g w0 w) (hb:But P w w') (hP:B<P) (hG:P<G):PrS B P G g w0 w' :=
 ⟨h.b.trans hb,aO hb h.z (by omega),aO hb h.x (by omega)⟩
theorem PrS.cells {B P G g:Nat} {w0 w:World} (h:PrS B P G g w0 w):(∀ j,w.cell? ⟨B,j,none⟩=stZ.toArray[j]?)∧(∀ j,w.cell? ⟨G,j,none⟩=(stC 7 [116] (some ⟨g,0,none⟩) 1).toArray[j]?)∧(∀ j,w.frozen? ⟨B,j,none⟩=false) :=
 ⟨β h.z,β h.x,fun j=>frozen_of_row w _ j _ _ h.z⟩
theorem But.new {P:Nat} {w w':World} (h:But P w w') (hP:w.heap.size≤P):Below w.heap.size w w':=⟨h.os,h.tape,h.output,h.size,fun k hk=>h.block k hk (by omega)⟩
theorem rL {B:Nat} {a w:World} (m:Nat) (h:Below B a w):Below B a (w.drewN m):=⟨h.os,h.tape,h.output,h.size,h.block⟩
theorem Ng {w w':World} {q:Option Lp.X} {x:Lp.X} {g:Nat} {rr:RC} (hq:q=some x) (hb:Below w.heap.size w w') (hg:w.heap.size≤g) (hx:w'.heap[g]? = some (.cells rr.cells.toArray 60 (0,0))) (hr:RX (fun k=>w.heap.size≤k) w' x rr) :
 Sk w q (.returned (.tuple #[stV 7 [116] (some ⟨g,0,none⟩) 1,.int .i64 0])) w':=by
 subst hq;exact ⟨hb,g,rr,rfl,hg,hx,hr⟩
theorem Ua {P G g m:Nat} {w w2 v:World} {x:Lp.X} {rr:RC} (hBP:w.heap.size<P) (hP2:P<w2.heap.size) (hS:PrS w.heap.size P G g w v) (hg:w2.heap.size≤g) (hx:RX (fun k=>w2.heap.size≤k) v x rr) (hgx:v.heap[g]? = some (.cells rr.cells.toArray 60 (0,0))) :
 Below w.heap.size w (dW (v.drewN m) w.heap.size 7 [116] (some ⟨g,0,none⟩) 1)∧w.heap.size≤g∧(dW (v.drewN m) w.heap.size 7 [116] (some ⟨g,0,none⟩) 1).heap[g]? = some (.cells rr.cells.toArray 60 (0,0)) ∧
  RX (fun k=>w.heap.size≤k) (dW (v.drewN m) w.heap.size 7 [116] (some ⟨g,0,none⟩) 1) x rr∧(dW (v.drewN m) w.heap.size 7 [116] (some ⟨g,0,none⟩) 1).heap[w.heap.size]? = some (.cells (stC 7 [116] (some ⟨g,0,none⟩) 1).toArray 38 (0,0)):=by
 have hz:(v.drewN m).heap[w.heap.size]? = some (.cells stZ.toArray 38 (0,0)):=hS.z
 refine ⟨jH (rL m (hS.b.new (by omega))) (ν _),by omega, ?_, ?_,iH 7 [116] _ 1 hz⟩
 ·rw [iG (by omega)];exact hgx
 ·refine RX.turn (w:=v) (fun k cs hk hc=>⟨?_, ?_⟩) hx
  ·have:w2.heap.size≤k:=hk
   show w.heap.size≤k
   omega
  ·have:w2.heap.size≤k:=hk
   rw [iG (by omega)]
   exact hc
theorem Ih (s:ByteArray) (w:World) (hs:s.size≤9223372036854775807) (L:List Tok) (hL:dT s.data.toList=(oA++L,0)) :
 Calls prog 9 #[.string s] w (Sk w (kN L)):=by
 obtain ⟨T,hT⟩:∃ T,oA++L=T:=⟨_,rfl⟩
 rw [hT] at hL
 have HT:=κ hT
 have hb0:Below w.heap.size w (w.alloc (.cells stZ.toArray 38)):=ρ
 have hz0:=heap_alloc_new w (.cells stZ.toArray 38)
 have hl:=oO s (w.alloc (.cells stZ.toArray 38)) hs
 unfold iW at hl
 have hsn:=(qL s.data.toList).1
 rw [hL] at hl hsn
 have HL:=κ hl
 have H0:=κ (ι hb0 hz0)
 have HN:=κ hsn
 clear hb0 hz0 hl hL hsn
 go_enter func9,ntmps9
 go_wp2_with fail
 refine μ HL ?_
 rintro e w1 ⟨hb1,A,c,rfl, -,hown⟩
 have hz1:=aA H0.out.2 hb1
 have hBP:w.heap.size<w1.heap.size:=by have:=hb1.size;rw [World.size_alloc] at this;omega
 have hb2:Below w1.heap.size w1 (w1.alloc (.cells #[.slice A T.length c,.int .i64 0,.int .i64 0,.int .i64 0] 108)):=ρ
 have hp2:RS (w1.alloc (.cells #[.slice A T.length c,.int .i64 0,.int .i64 0,.int .i64 0] 108)) w1.heap.size T 0 0:=by
  refine ⟨A,c,0, ?_, ?_,by rw [Nat.zero_add];exact HN.out⟩
  ·rw [Nat.zero_add];exact heap_alloc_new w1 _
  ·obtain ⟨b,cap,hv, -⟩:=hown.form (by rw [←hT];simp [oA])
   injection hv with hA _ _
   subst hA
   have hlt:=hown.lt b rfl
   refine .inr ⟨b,0,rfl,hlt.2,fun j u hu => ?_⟩
   have h1:=hown.cells (g:=b) rfl j u hu
   have e:(⟨b,0,none⟩:Addr).add j=⟨b,0+j,none⟩:=by unfold Addr.add;split<;>simp_all
   rw [e] at h1
   exact bZ (by simpa using h1) hb2
 have HS:=κ (Ic w1.heap.size L _ (by rw [hT];exact hp2))
 have HW:=κ (ι ((H0.out.1.trans (hb1.mono H0.out.1.size)).trans (hb2.mono (Nat.le_of_lt hBP))) (aA hz1 hb2))
 have hP2:w1.heap.size<(w1.alloc (.cells #[.slice A T.length c,.int .i64 0,.int .i64 0,.int .i64 0] 108)).heap.size:=by rw [World.size_alloc];omega
 clear hz1 hb2 hp2 hown hb1 HL hT
 go_wp2_with fail
 generalize (w1.alloc (.cells #[.slice A T.length c,.int .i64 0,.int .i64 0,.int .i64 0] 108))=w2 at *
 generalize w1.heap.size=P at *
 refine μ HS ?_
 rintro e w3 ⟨g,rr,rfl,hw⟩
 simp only [stV]
 have hb4:Below w3.heap.size w3 (w3.alloc (.cells (stC 7 [116] (some ⟨g,0,none⟩) 1).toArray 38)):=ρ
 have hPG:P<w3.heap.size:=by have:=hw.1.size;omega
 have hS4:PrS w.heap.size P w3.heap.size g w (w3.alloc (.cells (stC 7 [116] (some ⟨g,0,none⟩) 1).toArray 38)) :=
  ⟨((But.of HW.out.1).trans hw.1).trans (But.of hb4),aA (aO hw.1 HW.out.2 (by omega)) hb4,heap_alloc_new w3 _⟩
 obtain ⟨hw1,hw2,hw3,hw4⟩:=hw
 have hg3:=aA hw3 hb4
 have HS4:=κ hS4
 clear hS4 HS
 rcases hpx:pX 1 0 L with _|⟨x,r⟩
 ·rw [hpx] at hw4
  have HQ:=κ (show kN L=none by rw [kN,hpx])
  have hbad:RBad P w3 0:=hw4
  have HPs:=κ (tN ⟨#[59]⟩ P 0 _ (hbad.below hb4))
  simp only [stC] at HPs
  clear hpx hw4 hbad hb4 hw1 hw2 hw3 hg3
  go_wp2_with fail
  refine μ HPs ?_
  rintro e v1 ⟨rfl,hbv,hbadv⟩
  have hS5:=HS4.out.but hbv hBP hPG
  clear hbv HPs HS4
  obtain ⟨l',d',b',hb',hpb, -, -⟩:=hbadv
  have hS:=hS5
  clear hS5
  cases l' with
  | nil =>
    obtain ⟨A0,c00,i0,q1, -, -⟩:=hpb
    have p0:=β q1 0
    have p1:=β q1 1
    have hI:¬((i0:Int)<((i0+([]:List Tok).length:Nat):Int)):=by simp
    obtain ⟨nn0,hnn⟩:∃ nn0,i0+([]:List Tok).length=nn0:=⟨_,rfl⟩
    rw [hnn] at p0 hI
    have HS6:=κ hS
    have HQ1:=κ q1
    clear q1 hnn hS
    go_wp2_with fail
    go_quiet (fail)
    have hS:=HS6.out
    have q1:=HQ1.out
    clear HS6 HQ1 p0 p1
    have p3:=β q1 3
    have eb:(b'==0)=false:=η hb'
    have eb2:(b' !=0)=true:=by rw [bne,eb];rfl
    obtain ⟨c0,c1,z0⟩:=hS.cells
    have HSE:=κ hS
    have HBE:=κ hb'
    simp only [stC,stZ] at c0 c1
    clear q1 hb' hS
    go_wp2_with fail
    go_region
    have hzF:(v1.drewN (nq+1)).heap[w.heap.size]? = some (.cells stZ.toArray 38 (0,0)):=HSE.out.z
    have hbx:=iH (w:=(v1.drewN (nq+1))) 0 [] none 0 hzF
    have hbl:=(jH (g:=w.heap.size) (k:=0) (tb:=[]) (A:=none) (n:=0) (rL (nq+1) (HSE.out.b.new (by omega))) (ν _))
    obtain ⟨V,hV⟩:∃ V,dW (v1.drewN (nq+1)) w.heap.size 0 [] none 0=V:=⟨_,rfl⟩
    rw [hV] at hbx hbl
    have hcE:=β (w:=V) hbx
    have HZ:=κ (show Below w.heap.size w V from hbl)
    have HV:=κ hV
    clear hzF c0 c1 z0 p3 hbx hbl hV
    go_wp2
    change bodyPost _ _ _ _ _ (dW (v1.drewN (nq+1)) w.heap.size 0 [] none 0)
    rw [HV.out]
    simp only [stC] at hcE
    exact bodyPost_ret (v:=.tuple #[stV 0 [] none 0,.int .i64 (b')]) (by simp [results,results9,go_sem,hcE,stV]) rfl (sA HQ.out HBE.out HZ.out)
  | cons t' q' =>
    have HPb:=κ hpb
    have HF:=κ (fun (W:World) (hp:RS W P (t'::q') d' b')=>eL P d' b' 4 (t'::q') W hp)
    obtain ⟨A0,c00,i0,q1, -, -⟩:=hpb
    have p0:=β q1 0
    have p1:=β q1 1
    have hI:(i0:Int)<((i0+(t'::q').length:Nat):Int):=by simp;omega
    obtain ⟨nn0,hnn⟩:∃ nn0,i0+(t'::q').length=nn0:=⟨_,rfl⟩
    rw [hnn] at p0 hI
    have HS6:=κ hS
    clear q1 hnn hS
    go_wp2_with fail
    go_quiet (fail)
    go_wp2_with fail
    refine (HF.out _ (HPb.out.drawn ⟨nq,rfl⟩)).mono ?_
    rintro e v2 ⟨rfl,hbv2,hpb2⟩
    have hS:=(HS6.out.but (Drawn.but (P:=P) (w':=v1.drewN nq) ⟨nq,rfl⟩) hBP hPG).but hbv2 hBP hPG
    obtain ⟨b2,hb2e⟩:∃ b2,qB b' 4=b2:=⟨_,rfl⟩
    have hb':b2≠0:=by rw [←hb2e];exact gY (by decide)
    rw [hb2e] at hpb2
    obtain ⟨A1,c01,i1,q1, -, -⟩:=hpb2
    clear hbv2 HS6 hb2e HF HPb p0 p1 hI
    have p3:=β q1 3
    have eb:(b2==0)=false:=η hb'
    have eb2:(b2 !=0)=true:=by rw [bne,eb];rfl
    obtain ⟨c0,c1,z0⟩:=hS.cells
    have HSE:=κ hS
    have HBE:=κ hb'
    simp only [stC,stZ] at c0 c1
    clear q1 hb' hS
    go_wp2_with fail
    go_region
    have hzF:v2.heap[w.heap.size]? = some (.cells stZ.toArray 38 (0,0)):=HSE.out.z
    have hbx:=iH (w:=v2) 0 [] none 0 hzF
    have hbl:=(jH (g:=w.heap.size) (k:=0) (tb:=[]) (A:=none) (n:=0) (HSE.out.b.new (by omega)) (ν _))
    obtain ⟨V,hV⟩:∃ V,dW v2 w.heap.size 0 [] none 0=V:=⟨_,rfl⟩
    rw [hV] at hbx hbl
    have hcE:=β (w:=V.drew) hbx
    have HZ:=κ (show Below w.heap.size w V.drew from hbl.drew)
    have HV:=κ hV
    clear hzF c0 c1 z0 p3 hbx hbl hV
    go_wp2
    change bodyPost _ _ _ _ _ (dW v2 w.heap.size 0 [] none 0).drew
    rw [HV.out]
    simp only [stC] at hcE
    exact bodyPost_ret (v:=.tuple #[stV 0 [] none 0,.int .i64 (b2)]) (by simp [results,results9,go_sem,hcE,stV]) rfl (sA HQ.out HBE.out HZ.out)
 ·rw [hpx] at hw4
  obtain ⟨hx3,hp3⟩:=hw4
  obtain ⟨fb,hfb⟩:∃ fb,isF [59] r=fb:=⟨_,rfl⟩
  obtain ⟨r',hr'⟩:∃ r',r'=(if fb then r.tail else r):=⟨_,rfl⟩
  have hq:kN L=if r'=[] then some x else none:=by rw [kN,hpx,hr', ←hfb]
  have hp4:=hp3.below hb4
  have HPs:=κ (aJ P 0 0 r ⟨#[59]⟩ _ hp4 fb (by rw [show (⟨#[59]⟩:ByteArray).data.toList=[59] from rfl,hfb];rfl))
  have HRb:=κ hr'
  have HX:=κ (ι (RX.below hb4 hx3) (ι hp4 hg3))
  have HQ0:=κ hq
  simp only [stC] at HPs
  clear hpx hx3 hp3 hb4 hw1 hw3 hg3 hfb hr' hq hp4
  go_wp2_with fail
  refine μ HPs ?_
  rintro e v1 ⟨rfl,hbv,hpb⟩
  rw [←HRb.out] at hpb
  have hS:=HS4.out.but hbv hBP hPG
  have hxv:=RX.but hbv HX.out.2.1 HX.out.1
  have hgv:=aO hbv HX.out.2.2 (by omega)
  clear hbv HPs HS4 HX HRb
  cases r' with
  | nil =>
    have HQ:=κ (HQ0.out.trans (if_pos rfl))
    obtain ⟨A0,c00,i0,q1, -, -⟩:=hpb
    have p0:=β q1 0
    have p1:=β q1 1
    have hI:¬((i0:Int)<((i0+([]:List Tok).length:Nat):Int)):=by simp
    obtain ⟨nn0,hnn⟩:∃ nn0,i0+([]:List Tok).length=nn0:=⟨_,rfl⟩
    rw [hnn] at p0 hI
    have p3:=β q1 3
    obtain ⟨c0,c1,z0⟩:=hS.cells
    clear q1
    have HSE:=κ hS
    have HXE:=κ (ι hxv hgv)
    simp only [stC,stZ] at c0 c1
    clear hnn hS hxv hgv HQ0
    go_wp2_with fail
    go_quiet (fail)
    have hend:=Ua (m:=nq) hBP hP2 HSE.out hw2 HXE.out.1 HXE.out.2
    obtain ⟨V,hV⟩:∃ V,dW (v1.drewN nq) w.heap.size 7 [116] (some ⟨g,0,none⟩) 1=V:=⟨_,rfl⟩
    rw [hV] at hend
    have hcE:=β hend.2.2.2.2
    have HE:=κ hend
    have HV:=κ hV
    clear hend hV
    go_wp2
    change bodyPost _ _ _ _ _ (dW (v1.drewN nq) w.heap.size 7 [116] (some ⟨g,0,none⟩) 1)
    rw [HV.out]
    simp only [stC] at hcE
    exact bodyPost_ret (v:=.tuple #[stV 7 [116] (some ⟨g,0,none⟩) 1,.int .i64 0]) (by simp [results,results9,go_sem,hcE,stV]) rfl (Ng HQ.out HE.out.1 HE.out.2.1 HE.out.2.2.1 HE.out.2.2.2.1)
  | cons t' q' =>
    have HQ:=κ (HQ0.out.trans (if_neg (by simp)))
    clear HQ0 hxv hgv
    have HPb:=κ hpb
    have HF:=κ (fun (W:World) (hp:RS W P (t'::q') 0 0)=>eL P 0 0 4 (t'::q') W hp)
    obtain ⟨A0,c00,i0,q1, -, -⟩:=hpb
    have p0:=β q1 0
    have p1:=β q1 1
    have hI:(i0:Int)<((i0+(t'::q').length:Nat):Int):=by simp;omega
    obtain ⟨nn0,hnn⟩:∃ nn0,i0+(t'::q').length=nn0:=⟨_,rfl⟩
    rw [hnn] at p0 hI
    have HS6:=κ hS
    clear q1 hnn hS
    go_wp2_with fail
    go_quiet (fail)
    go_wp2_with fail
    refine (HF.out _ (HPb.out.drawn ⟨nq,rfl⟩)).mono ?_
    rintro e v2 ⟨rfl,hbv2,hpb2⟩
    have hS:=(HS6.out.but (Drawn.but (P:=P) (w':=v1.drewN nq) ⟨nq,rfl⟩) hBP hPG).but hbv2 hBP hPG
    obtain ⟨b2,hb2e⟩:∃ b2,qB 0 4=b2:=⟨_,rfl⟩
    have hb':b2≠0:=by rw [←hb2e];exact gY (by decide)
    rw [hb2e] at hpb2
    obtain ⟨A1,c01,i1,q1, -, -⟩:=hpb2
    clear hbv2 HS6 hb2e HF HPb p0 p1 hI
    have p3:=β q1 3
    have eb:(b2==0)=false:=η hb'
    have eb2:(b2 !=0)=true:=by rw [bne,eb];rfl
    obtain ⟨c0,c1,z0⟩:=hS.cells
    have HSE:=κ hS
    have HBE:=κ hb'
    simp only [stC,stZ] at c0 c1
    clear q1 hb' hS
    go_wp2_with fail
    go_region
    have hzF:v2.heap[w.heap.size]? = some (.cells stZ.toArray 38 (0,0)):=HSE.out.z
    have hbx:=iH (w:=v2) 0 [] none 0 hzF
    have hbl:=(jH (g:=w.heap.size) (k:=0) (tb:=[]) (A:=none) (n:=0) (HSE.out.b.new (by omega)) (ν _))
    obtain ⟨V,hV⟩:∃ V,dW v2 w.heap.size 0 [] none 0=V:=⟨_,rfl⟩
    rw [hV] at hbx hbl
    have hcE:=β (w:=V.drew) hbx
    have HZ:=κ (show Below w.heap.size w V.drew from hbl.drew)
    have HV:=κ hV
    clear hzF c0 c1 z0 p3 hbx hbl hV
    go_wp2
    change bodyPost _ _ _ _ _ (dW v2 w.heap.size 0 [] none 0).drew
    rw [HV.out]
    simp only [stC] at hcE
    exact bodyPost_ret (v:=.tuple #[stV 0 [] none 0,.int .i64 (b2)]) (by simp [results,results9,go_sem,hcE,stV]) rfl (sA HQ.out HBE.out HZ.out)
theorem Ee (s:ByteArray) (u:List UInt8) (w:World) (hs:s.data.toList=Lp.pre++32::u) (hu:u.length≤1000) :
 Calls prog 9 #[.string s] w (Sk w (dX u)):=by
 have hsz:s.size≤9223372036854775807:=by
  have h1:s.size=s.data.toList.length:=by rw [Array.length_toList];rfl
  rw [h1,hs];simp [Lp.pre];omega
 have ht:=sO u hu
 rw [←hs] at ht
 by_cases h0:(dF [] u).2=0
 ·rw [if_pos h0] at ht
  rw [show dX u=kN (dF [] u).1 from if_pos h0]
  exact Ih s w hsz _ ht
 ·rw [if_neg h0] at ht
  rw [show dX u=none from if_neg h0]
  exact tE s w hsz _ _ ht h0
theorem Bg (s:ByteArray):((⟨#[68,69,76,69,84,69,32,70,82,79,77,32,116,32,87,72,69,82,69,32]⟩:ByteArray)++s).data.toList=Lp.pre++32::s.data.toList:=by
 rw [ByteArray.data_append,Array.toList_append]
 rfl
def zL (w:World) (q:Option Lp.X) (e:Ending) (w':World):Prop :=
 Below w.heap.size w w'∧match q with
 | none=>e=.returned (.tuple #[rcZ.val,.bool false])
 | some x=>∃ rr:RC,e=.returned (.tuple #[rr.val,.bool true])∧RX (fun k=>w.heap.size≤k) w' x rr
theorem Yq {w w':World} {q:Option Lp.X} (hq:q=none) (hb:Below w.heap.size w w'):zL w q (.returned (.tuple #[rcZ.val,.bool false])) w':=by
 subst hq;exact ⟨hb,rfl⟩
theorem Uk {w w':World} {q:Option Lp.X} {x:Lp.X} (rr:RC) (hq:q=some x) (hb:Below w.heap.size w w') (hx:RX (fun k=>w.heap.size≤k) w' x rr):zL w q (.returned (.tuple #[rr.val,.bool true])) w':=by
 subst hq;exact ⟨hb,rr,rfl,hx⟩
theorem mC {B:Nat} {a w:World} {g:Nat} {r:RC} (h:Below B a w) (hg:B≤g):Below B a (put8 w g r):=by
 unfold put8
 exact ((((((((h.setCell (p:=⟨g,0,none⟩) hg _).setCell (p:=⟨g,1,none⟩) hg _).setCell (p:=⟨g,2,none⟩) hg _).setCell (p:=⟨g,3,none⟩) hg _).setCell (p:=⟨g,4,none⟩) hg _).setCell (p:=⟨g,5,none⟩) hg _).setCell (p:=⟨g,6,none⟩) hg _).setCell (p:=⟨g,7,none⟩) hg _)
theorem Nr (s:ByteArray) (w:World) (hs:s.size≤1000) :
 Calls prog 105 #[.string s] w (zL w (dX s.data.toList)):=by
 have hb0:Below w.heap.size w (w.alloc (.cells rcZ.cells.toArray 60)):=ρ
 have hz0:=heap_alloc_new w (.cells rcZ.cells.toArray 60)
 have hW:=World.size_alloc w (.cells rcZ.cells.toArray 60)
 have HP:=κ (Ee _ s.data.toList (w.alloc (.cells rcZ.cells.toArray 60)) (Bg s) (by rw [Array.length_toList];exact hs))
 have H0:=κ (ι hb0 (ι hz0 hW))
 clear hb0 hz0 hW
 go_enter func105,ntmps105
 go_wp2_with fail
 refine μ HP ?_
 rintro e w1 ⟨hb1,hq⟩
 have hz1:=aA H0.out.2.1 hb1
 have hbw:=H0.out.1.trans (hb1.mono H0.out.1.size)
 have hBw:w.heap.size<w1.heap.size:=aL hz1
 rcases hc:dX s.data.toList with _|x
 ·rw [hc] at hq
  obtain ⟨c,hc0,rfl⟩:=hq
  have HQ:=κ hc
  have e1:(c==0)=false:=η hc0
  have e2:(c !=0)=true:=by rw [bne,e1];rfl
  simp only [stV]
  have hb2:Below w1.heap.size w1 (w1.alloc (.cells (stC 0 [] none 0).toArray 38)):=ρ
  have hz2:=aA hz1 hb2
  have c0:=β hz2
  have z0:=fun j=>frozen_of_row _ _ j _ _ hz2
  have hbx:=aM rcZ hz2
  have hbl:=mC (g:=w.heap.size) (r:=rcZ) (hbw.trans (hb2.mono (Nat.le_of_lt hBw))) (ν _)
  obtain ⟨V,hV⟩:∃ V,put8 (w1.alloc (.cells (stC 0 [] none 0).toArray 38)) w.heap.size rcZ=V:=⟨_,rfl⟩
  rw [hV] at hbx hbl
  have hcE:=β hbx
  have HV:=κ hV
  have HE:=κ hbl
  simp only [RC.cells,rcZ,stC] at c0 z0
  clear hb1 hz1 hbw hc hc0 hb2 hz2 hbx hbl hV HP H0 hBw
  go_wp2
  change bodyPost _ _ _ _ _ (put8 (w1.alloc (.cells (stC 0 [] none 0).toArray 38)) w.heap.size rcZ)
  rw [HV.out]
  simp only [RC.cells,rcZ] at hcE
  exact bodyPost_ret (v:=.tuple #[rcZ.val,.bool false]) (by simp [results,results105,go_sem,hcE,RC.val,rcZ]) rfl (Yq HQ.out HE.out)
 ·rw [hc] at hq
  obtain ⟨g,⟨k,vk,vi,vs,vb,tt,ss,A,nn,c⟩,rfl,hg,hgx,hx⟩:=hq
  have HQ:=κ hc
  simp only [stV]
  have hb2:Below w1.heap.size w1 (w1.alloc (.cells (stC 7 [116] (some ⟨g,0,none⟩) 1).toArray 38)):=ρ
  have hz2:=aA hz1 hb2
  have hg2:=aA hgx hb2
  have hst:=heap_alloc_new w1 (.cells (stC 7 [116] (some ⟨g,0,none⟩) 1).toArray 38)
  have c0:=β hz2
  have cg:=β hg2
  have cs:=β hst
  have z0:=fun j=>frozen_of_row _ _ j _ _ hz2
  have hbx:=aM ⟨k,vk,vi,vs,vb,tt,ss,A,nn,c⟩ hz2
  have hbl:=mC (g:=w.heap.size) (r:=⟨k,vk,vi,vs,vb,tt,ss,A,nn,c⟩) (hbw.trans (hb2.mono (Nat.le_of_lt hBw))) (ν _)
  have hgw:w.heap.size+1≤g:=by rw [←H0.out.2.2];exact hg
  have hxl:RX (fun k=>w.heap.size<k) _ x ⟨k,vk,vi,vs,vb,tt,ss,A,nn,c⟩:=RX.mono (fun k hk _=>by have h2:(w.alloc (.cells rcZ.cells.toArray 60)).heap.size≤k:=hk;rw [H0.out.2.2] at h2;exact h2) (RX.below hb2 hx)
  have hx2:=jP (g:=w.heap.size) (r:=⟨k,vk,vi,vs,vb,tt,ss,A,nn,c⟩) (fun j (hj:w.heap.size<j)=>by omega) hxl
  obtain ⟨V,hV⟩:∃ V,put8 (w1.alloc (.cells (stC 7 [116] (some ⟨g,0,none⟩) 1).toArray 38)) w.heap.size ⟨k,vk,vi,vs,vb,tt,ss,A,nn,c⟩=V:=⟨_,rfl⟩
  rw [hV] at hbx hbl hx2
  have hcE:=β hbx
  have HV:=κ hV
  have HE:=κ (ι hbl (RX.mono (S':=fun k=>w.heap.size≤k) (fun _ hk _=>Nat.le_of_lt hk) hx2))
  simp only [RC.cells,rcZ,stC] at c0 z0 cg cs
  clear hb1 hz1 hbw hc hb2 hz2 hbx hbl hV HP H0 hx hx2 hxl hgx hg2 hst hBw hgw
  go_wp2
  change bodyPost _ _ _ _ _ (put8 (w1.alloc (.cells (stC 7 [116] (some ⟨g,0,none⟩) 1).toArray 38)) w.heap.size ⟨k,vk,vi,vs,vb,tt,ss,A,nn,c⟩)
  rw [HV.out]
  simp only [RC.cells] at hcE
  exact bodyPost_ret (v:=.tuple #[RC.val ⟨k,vk,vi,vs,vb,tt,ss,A,nn,c⟩,.bool true]) (by simp [results,results105,go_sem,hcE,RC.val]) rfl (Uk _ HQ.out HE.out.1 HE.out.2)
def uU (s:ByteArray):ByteArray:=s.extract 0 (min s.size 600)
theorem uT (s:ByteArray):(uU s).data.toList=s.data.toList.take 600:=by
 have h:s.data.size=s.size:=rfl
 simp [uU,ByteArray.data_extract,Array.toList_extract]
 omega
theorem uS (s:ByteArray):(uU s).size≤600:=by
 simp [uU,ByteArray.size_extract]
 omega
theorem lO (s:ByteArray) (w:World) :
 Calls prog 8 #[.string s] w fun e w'=>e=.returned (.string (uU s))∧w=w':=by
 have hm:(min (s.size:Int) 600).toNat=min s.size 600:=by omega
 have h0:(0:Int)≤min (s.size:Int) 600:=by omega
 have h1:min (s.size:Int) 600≤(s.size:Int):=by omega
 have HM:=κ hm
 clear hm
 go_enter func8,ntmps8
 go_wp2
 go_ret
 refine ⟨?_,rfl⟩
 show Ending.returned (.string (s.extract 0 (min (s.size:Int) 600).toNat))=_
 rw [HM.out]
 rfl
theorem Oj (L:List Tok):Ud (oA++L)=(kN L).map fun x=>([116],some x):=by
 have hw:fR (⟨1,[119,104,101,114,101],0⟩::L)=(pX 1 0 L).map fun p=>(some p.1,p.2):=rfl
 have hd:lE (oA++L).tail=match fR (⟨1,[119,104,101,114,101],0⟩::L) with|none=>none|some (x,r3)=>some ([116],x,r3):=rfl
 unfold Ud
 rw [hd,hw]
 unfold kN
 cases pX 1 0 L with
 | none=>rfl
 | some p =>
   obtain ⟨x,r⟩:=p
   show (if (if isF [59] r then r.tail else r)=[] then some (([116]:List UInt8),some x) else none)=Option.map _ (if (if isF [59] r then r.tail else r)=[] then some x else none)
   generalize (if isF [59] r then r.tail else r)=q
   by_cases hq:q=[]<;>simp [hq]
def Zy (w:World) (q:Option Lp.X) (e:Ending) (w':World):Prop :=
 Below w.heap.size w w'∧match q with
 | none=>∃ c:Int,c≠0∧e=.returned (.tuple #[.nilIface,.int .i64 c])
 | some x=>∃ g T g2,e=.returned (.tuple #[.iface 213 (.pointer (some ⟨g,0,none⟩)),.int .i64 0])∧w'.heap[g]? = some (.cells #[.string ⟨#[116]⟩,.iface T (.pointer (some ⟨g2,0,none⟩))] 216 (0,0))∧PX w.heap.size w' x (.iface T (.pointer (some ⟨g2,0,none⟩)))
theorem Iy (s:ByteArray) (u:List UInt8) (w:World) (hT:dZ w) (hR:Resv w) (hs:s.data.toList=Lp.pre++32::u) (hu:u.length≤1000) :
 Calls prog 7 #[.string s] w (Zy w (dX u)):=by
 have hsz:s.size≤9223372036854775807:=by
  have h1:s.size=s.data.toList.length:=by rw [Array.length_toList];rfl
  rw [h1,hs];simp [Lp.pre];omega
 have ht:=sO u hu
 rw [←hs] at ht
 by_cases h0:(dF [] u).2=0
 ·rw [if_pos h0] at ht
  rw [show dX u=kN (dF [] u).1 from if_pos h0]
  refine (Ix s w hT hR hsz _ ht rfl).mono ?_
  rintro e w' ⟨h1,h2⟩
  refine ⟨h1, ?_⟩
  rw [Oj] at h2
  cases hc:kN (dF [] u).1 with
  | none=>rw [hc] at h2;exact h2
  | some x =>
    rw [hc] at h2
    obtain ⟨g,v,h3, -,h4,⟨⟨T,g2,h5⟩,h6⟩⟩:=h2
    subst h5
    exact ⟨g,T,g2,h3,h4,h6⟩
 ·rw [if_neg h0] at ht
  rw [show dX u=none from if_neg h0]
  refine (wQ s w hT hsz _ _ ht h0).mono ?_
  rintro e w' ⟨h1,h2⟩
  exact ⟨h1,_,h0,h2⟩
def vJ (w:World) (q:Option Lp.X) (e:Ending) (w':World):Prop :=
 Below w.heap.size w w'∧match q with
 | none=>∃ rr:RC,e=.returned (.tuple #[.nilIface,rr.val,.bool false])
 | some x=>∃ T g rr,e=.returned (.tuple #[.iface T (.pointer (some ⟨g,0,none⟩)),RC.val rr,.bool true])∧PX w.heap.size w' x (.iface T (.pointer (some ⟨g,0,none⟩)))∧RX (fun k=>w.heap.size≤k) w' x rr
theorem Vt {w w':World} {q:Option Lp.X} (rr:RC) (hq:q=none) (hb:Below w.heap.size w w'):vJ w q (.returned (.tuple #[.nilIface,rr.val,.bool false])) w':=by
 subst hq;exact ⟨hb,rr,rfl⟩
theorem Rb {w w':World} {q:Option Lp.X} {x:Lp.X} {T:TypeId} {g:Nat} (rr:RC) (hq:q=some x) (hb:Below w.heap.size w w') (hp:PX w.heap.size w' x (.iface T (.pointer (some ⟨g,0,none⟩)))) (hx:RX (fun k=>w.heap.size≤k) w' x rr):vJ w q (.returned (.tuple #[.iface T (.pointer (some ⟨g,0,none⟩)),rr.val,.bool true])) w':=by
 subst hq;exact ⟨hb,T,g,rr,rfl,hp,hx⟩
theorem Rd {w v:World} {x:Lp.X} {u:Value} {r0 r:RC} (hz:v.heap[w.heap.size]? = some (.cells r0.cells.toArray 60 (0,0))) (hb:Below w.heap.size w v) (hp:PX (w.heap.size+1) v x u) (hx:RX (fun j=>w.heap.size<j) v x r) :
 (put8 v w.heap.size r).heap[w.heap.size]? = some (.cells r.cells.toArray 60 (0,0))∧Below w.heap.size w (put8 v w.heap.size r)∧PX w.heap.size (put8 v w.heap.size r) x u∧RX (fun j=>w.heap.size≤j) (put8 v w.heap.size r) x r :=
 ⟨aM r hz,mC hb (ν _),PX.mono (Nat.le_succ _) (PX.keepB (fun k o hk ho=>(jC (by omega)).trans ho) hp),RX.mono (fun _ hk _=>Nat.le_of_lt hk) (jP (fun j (hj:w.heap.size<j)=>by omega) hx)⟩
theorem Ya (p:Option Addr) (w:World):(Instr.typeAssert (.iface 213 (.pointer p)) 28 213 true).run prog w=.ok (.tuple #[.pointer p,.bool true]) w:=by kernel_rfl
theorem aBB (s:ByteArray):((⟨#[68,69,76,69,84,69,32,70,82,79,77,32,116,32,87,72,69,82,69,32]⟩:ByteArray)++uU s).data.toList=Lp.pre++32::(s.data.toList.take 600):=by
 rw [Bg,uT]
attribute [local go_sem] Ya
theorem vZ (s:ByteArray) (w:World) (hT:dZ w) (hR:Resv w) :
 Calls prog 60 #[.string s] w (vJ w (dX (s.data.toList.take 600))):=by
 have hb0:Below w.heap.size w (w.alloc (.cells rcZ.cells.toArray 60)):=ρ
 have hz0:=heap_alloc_new w (.cells rcZ.cells.toArray 60)
 have hl:(s.data.toList.take 600).length≤1000:=by rw [List.length_take];omega
 have HP:=κ (Iy _ (s.data.toList.take 600) _ (aP hT hb0) (bP hR hb0) (aBB s) hl)
 have HO:=κ (fun W=>(uT s)▸Nr (uU s) W (by have:=uS s;omega))
 have H0:=κ (ι hb0 hz0)
 have hfs:=uS s
 clear hb0 hz0 hl hT hR
 go_enter func60,ntmps60
 go_wp2_with fail
 refine (lO s _).mono ?_
 rintro e w1 ⟨rfl,rfl⟩
 go_wp2_with fail
 refine μ HP ?_
 rintro e w1 ⟨hb1,hq1⟩
 have hz1:=aA H0.out.2 hb1
 have hbw1:=H0.out.1.trans (hb1.mono H0.out.1.size)
 rcases hc:dX (s.data.toList.take 600) with _|x
 ·rw [hc] at hq1
  obtain ⟨c,hc0,rfl⟩:=hq1
  have HQ:=κ hc
  have e1:(c==0)=false:=η hc0
  have e2:(c !=0)=true:=by rw [bne,e1];rfl
  rw [hc] at HO
  have HZ:=κ (ι hz1 hbw1)
  clear hc hc0 hb1 hz1 hbw1 HP H0
  go_wp2_with fail
  refine (lO s _).mono ?_
  rintro e w2 ⟨rfl,rfl⟩
  go_wp2_with fail
  refine (HO.out _).mono ?_
  rintro e w2 ⟨hb2,rfl⟩
  simp only [RC.val,rcZ]
  have hb3:Below w2.heap.size w2 (w2.alloc (.cells rcZ.cells.toArray 60)):=ρ
  have hz2:=aA HZ.out.1 hb2
  have hz3:=aA hz2 hb3
  have hy3:=heap_alloc_new w2 (.cells rcZ.cells.toArray 60)
  have hbw3:=(HZ.out.2.trans (hb2.mono HZ.out.2.size)).trans (hb3.mono (Nat.le_of_lt (aL hz2)))
  have c0:=β hz3
  have cy:=β hy3
  have z0:=fun j=>frozen_of_row _ _ j _ _ hz3
  simp only [RC.cells,rcZ] at c0 cy z0
  have HZ3:=κ (ι hz3 hbw3)
  clear hb2 hb3 hz2 hz3 hy3 hbw3 HZ HO
  go_wp2_with fail
  go_region
  have hbx:=aM rcZ HZ3.out.1
  have hbl:=mC (g:=w.heap.size) (r:=rcZ) HZ3.out.2 (ν _)
  obtain ⟨V,hV⟩:∃ V,put8 (w2.alloc (.cells rcZ.cells.toArray 60)) w.heap.size rcZ=V:=⟨_,rfl⟩
  rw [hV] at hbx hbl
  have hcE:=β (w:=V.drew) hbx
  have HE:=κ (show Below w.heap.size w V.drew from hbl.drew)
  have HV:=κ hV
  clear c0 cy z0 hbx hbl hV HZ3
  go_wp2
  change bodyPost _ _ _ _ _ (put8 (w2.alloc (.cells rcZ.cells.toArray 60)) w.heap.size rcZ).drew
  rw [HV.out]
  simp only [RC.cells,rcZ] at hcE
  exact bodyPost_ret (v:=.tuple #[.nilIface,rcZ.val,.bool false]) (by simp [results,results60,go_sem,hcE,RC.val,rcZ]) rfl (Vt rcZ HQ.out HE.out)
 ·rw [hc] at hq1
  obtain ⟨g,T,g2,rfl,hg,hx1⟩:=hq1
  have HQ:=κ hc
  rw [hc] at HO
  have HZ:=κ (ι hz1 (ι hbw1 (ι hg (PX.mono (B':=w.heap.size+1) (by rw [World.size_alloc];exact ν _) hx1))))
  clear hc hb1 hz1 hbw1 HP H0 hg hx1
  go_wp2_with fail
  refine (lO s _).mono ?_
  rintro e w2 ⟨rfl,rfl⟩
  go_wp2_with fail
  refine (HO.out _).mono ?_
  rintro e w2 ⟨hb2,⟨k,vk,vi,vs,vb,tt,ss,A,nn,c⟩,rfl,hrx⟩
  simp only [RC.val]
  have hb3:Below w2.heap.size w2 (w2.alloc (.cells #[.int .u8 k,.int .u8 vk,.int .i64 vi,.string vs,.bool vb,.string tt,.string ss,.slice A nn c] 60)):=ρ
  have hz2:=aA HZ.out.1 hb2
  have hz3:=aA hz2 hb3
  have hg3:=aA (aA HZ.out.2.2.1 hb2) hb3
  have hy3:=heap_alloc_new w2 (.cells #[.int .u8 k,.int .u8 vk,.int .i64 vi,.string vs,.bool vb,.string tt,.string ss,.slice A nn c] 60)
  have hbw3:=(HZ.out.2.1.trans (hb2.mono HZ.out.2.1.size)).trans (hb3.mono (Nat.le_of_lt (aL hz2)))
  have hlt1:=aL HZ.out.1
  have hpx3:=PX.keep (aK hb3) (PX.keep (aK hb2) HZ.out.2.2.2)
  have hrx3:=RX.mono (S':=fun j=>w.heap.size<j) (fun j hj _=>by have h:w1.heap.size≤j:=hj;omega) (RX.below hb3 hrx)
  have hne:w.heap.size≠g:=by
   rintro rfl
   have:=hz3.symm.trans hg3
   simp at this
  have hne2:=hne.symm
  have c0:=β hz3
  have cg:=β hg3
  have cy:=β hy3
  have z0:=fun j=>frozen_of_row _ _ j _ _ hz3
  simp only [RC.cells,rcZ] at c0
  have HZ3:=κ (ι hz3 (ι hbw3 (ι hpx3 hrx3)))
  clear hb2 hb3 hz2 hz3 hg3 hy3 hbw3 HZ HO hpx3 hrx3 hrx hlt1
  go_wp2_with fail
  go_region
  have hend:=Rd (r:=⟨k,vk,vi,vs,vb,tt,ss,A,nn,c⟩) HZ3.out.1 HZ3.out.2.1 HZ3.out.2.2.1 HZ3.out.2.2.2
  obtain ⟨V,hV⟩:∃ V,put8 (w2.alloc (.cells #[.int .u8 k,.int .u8 vk,.int .i64 vi,.string vs,.bool vb,.string tt,.string ss,.slice A nn c] 60)) w.heap.size ⟨k,vk,vi,vs,vb,tt,ss,A,nn,c⟩=V:=⟨_,rfl⟩
  rw [hV] at hend
  have hcE:=β (w:=V.drew) hend.1
  have HE:=κ hend.2
  have HV:=κ hV
  clear c0 cy cg z0 hend hV HZ3
  go_wp2
  change bodyPost _ _ _ _ _ (put8 (w2.alloc (.cells #[.int .u8 k,.int .u8 vk,.int .i64 vi,.string vs,.bool vb,.string tt,.string ss,.slice A nn c] 60)) w.heap.size ⟨k,vk,vi,vs,vb,tt,ss,A,nn,c⟩).drew
  rw [HV.out]
  simp only [RC.cells] at hcE
  exact bodyPost_ret (v:=.tuple #[.iface T (.pointer (some ⟨g2,0,none⟩)),RC.val ⟨k,vk,vi,vs,vb,tt,ss,A,nn,c⟩,.bool true]) (by simp [results,results60,go_sem,hcE,RC.val]) rfl (Rb ⟨k,vk,vi,vs,vb,tt,ss,A,nn,c⟩ HQ.out HE.out.1.drew (PX.keepB (w:=V) (w':=V.drew) (fun _ _ _ h=>h) HE.out.2.1) (RX.drew HE.out.2.2))
