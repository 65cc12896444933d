/-
 Contracts and laws, joined: Ref16v, Ref16w, Cond17. Conditions: those of each.
-/
import Derived.Test.YtkfjmgmjbljnbaaGreatDoorQGP
import Derived.Test.YtkfjmgmjbljnbaaGreatDoorQGR
import Derived.Test.YtkfjmgmjbljnbaaGreatDoorQGI
set_option maxRecDepth 100000
set_option maxHeartbeats 8000000
namespace Go.Proofs.YtkfjmgmjbljnbaaGreatDoor
open Go.RowKit
def RPrs (w:World) (q:Option Lp.X) (e:Ending) (w':World):Prop :=
 Below w.heap.size w w'∧match q with
 | none=>∃ c:Int,c≠0∧e=.returned (.tuple #[stV 0 [] none 0,.int .i64 c])
 | some x=>∃ g rr,e=.returned (.tuple #[stV 7 [116] (some ⟨g,0,none⟩) 1,.int .i64 0])∧w.heap.size≤g∧w'.heap[g]? = some (.cells rr.cells.toArray 35 (0,0))∧RX (fun k=>w.heap.size≤k) w' x rr
theorem rprs_no {w w':World} {q:Option Lp.X} {c:Int} (hq:q=none) (hc:c≠0) (hb:Below w.heap.size w w'):RPrs w q (.returned (.tuple #[stV 0 [] none 0,.int .i64 c])) w':=by
 subst hq;exact ⟨hb,c,hc,rfl⟩
theorem below_set13 {B:Nat} {a w:World} {g:Nat} {k:Int} {tb:List UInt8} {A:Option Addr} {n:Nat} (h:Below B a w) (hg:B≤g):Below B a (put13 w g k tb A n):=by
 unfold put13
 exact ((((((((((((h.setCell (p:=⟨g,0,none⟩) hg _).setCell (p:=⟨g,1,none⟩) hg _).setCell (p:=⟨g,2,none⟩) hg _).setCell (p:=⟨g,3,none⟩) hg _).setCell (p:=⟨g,4,none⟩) hg _).setCell (p:=⟨g,5,none⟩) hg _).setCell (p:=⟨g,6,none⟩) hg _).setCell (p:=⟨g,7,none⟩) hg _).setCell (p:=⟨g,8,none⟩) hg _).setCell (p:=⟨g,9,none⟩) hg _).setCell (p:=⟨g,10,none⟩) hg _).setCell (p:=⟨g,11,none⟩) hg _).setCell (p:=⟨g,12,none⟩) hg _
theorem rparse_bad (s:ByteArray) (w:World) (hs:s.size≤9223372036854775807) (L:List Lp.Tok) (E:Int) (hL:Lp.toks s.data.toList=(L,E)) (hE:E≠0) :
 Calls Tryz.prog 80 #[.string s] w (RPrs w none):=by
 have hb0:Below w.heap.size w (w.alloc (.cells stZ.toArray 154)):=(Below.refl _ _).alloc (Nat.le_refl _) _
 have hz0:=heap_alloc_new w (.cells stZ.toArray 154)
 have hl:=rsplit_any s (w.alloc (.cells stZ.toArray 154)) hs
 unfold SplPost at hl
 rw [hL] at hl
 have HL:=κ hl
 have H0:=κ (ι hb0 hz0)
 have e1:(E==0)=false:=beq_eq_false_iff_ne.2 hE
 have e2:(E !=0)=true:=by rw [bne,e1];rfl
 have HE:=κ hE
 clear hb0 hz0 hl hL hE
 go_enter Tryz.func80,Tryz.ntmps80
 go_wp2_with fail
 refine HL.out.mono ?_
 rintro e w1 ⟨hb1,A,c,rfl, -, -⟩
 have hz1:=box_below H0.out.2 hb1
 have HZ:=κ (below_set13 (g:=w.heap.size) (k:=0) (tb:=[]) (A:=none) (n:=0) (H0.out.1.trans (hb1.mono H0.out.1.size)) (Nat.le_refl _))
 have c0:=β hz1
 have z0:=fun j=>frozen_of_row w1 _ j _ _ hz1
 have hcE:=β (put13_box 0 [] none 0 hz1)
 simp only [stC,stZ] at c0
 clear hz1 hb1 HL
 go_wp2
 change bodyPost _ _ _ _ _ (put13 w1 w.heap.size 0 [] none 0)
 generalize put13 w1 w.heap.size 0 [] none 0=WE at *
 simp only [stC] at hcE
 exact bodyPost_ret (v:=.tuple #[stV 0 [] none 0,.int .i64 E]) (by simp [results,Tryz.results80,go_sem,hcE,stV]) rfl (rprs_no rfl HE.out HZ.out)
structure PrS (B P G g:Nat) (w0 w:World):Prop where
 b:But P w0 w
 z:w.heap[B]? = some (.cells stZ.toArray 154 (0,0))
 x:w.heap[G]? = some (.cells (stC 7 [116] (some ⟨g,0,none⟩) 1).toArray 154 (0,0))
theorem PrS.but {B P G g:Nat} {w0 w w':World} (h:PrS B P G g w0 w) (hb:But P w w') (hP:B<P) (hG:P<G):PrS B P G g w0 w' :=
 ⟨h.b.trans hb,but_box hb h.z (by omega),but_box hb h.x (by omega)⟩
theorem PrS.cells {B P G g:Nat} {w0 w:World} (h:PrS B P G g w0 w):(∀ j,w.cell? ⟨B,j,none⟩=stZ.toArray[j]?)∧(∀ j,w.cell? ⟨G,j,none⟩=(stC 7 [116] (some ⟨g,0,none⟩) 1).toArray[j]?)∧(∀ j,w.frozen? ⟨B,j,none⟩=false) :=
 ⟨β h.z,β h.x,fun j=>frozen_of_row w _ j _ _ h.z⟩
theorem But.new {P:Nat} {w w':World} (h:But P w w') (hP:w.heap.size≤P):Below w.heap.size w w':=⟨h.os,h.tape,h.output,h.size,fun k hk=>h.block k hk (by omega)⟩
theorem below_drewN {B:Nat} {a w:World} (m:Nat) (h:Below B a w):Below B a (w.drewN m):=⟨h.os,h.tape,h.output,h.size,h.block⟩
theorem rprs_yes {w w':World} {q:Option Lp.X} {x:Lp.X} {g:Nat} {rr:RC} (hq:q=some x) (hb:Below w.heap.size w w') (hg:w.heap.size≤g) (hx:w'.heap[g]? = some (.cells rr.cells.toArray 35 (0,0))) (hr:RX (fun k=>w.heap.size≤k) w' x rr) :
 RPrs w q (.returned (.tuple #[stV 7 [116] (some ⟨g,0,none⟩) 1,.int .i64 0])) w':=by
 subst hq;exact ⟨hb,g,rr,rfl,hg,hx,hr⟩
theorem prs_end {P G g m:Nat} {w w2 v:World} {x:Lp.X} {rr:RC} (hBP:w.heap.size<P) (hP2:P<w2.heap.size) (hS:PrS w.heap.size P G g w v) (hg:w2.heap.size≤g) (hx:RX (fun k=>w2.heap.size≤k) v x rr) (hgx:v.heap[g]? = some (.cells rr.cells.toArray 35 (0,0))) :
 Below w.heap.size w (put13 (v.drewN m) w.heap.size 7 [116] (some ⟨g,0,none⟩) 1)∧w.heap.size≤g∧(put13 (v.drewN m) w.heap.size 7 [116] (some ⟨g,0,none⟩) 1).heap[g]? = some (.cells rr.cells.toArray 35 (0,0)) ∧
  RX (fun k=>w.heap.size≤k) (put13 (v.drewN m) w.heap.size 7 [116] (some ⟨g,0,none⟩) 1) x rr∧(put13 (v.drewN m) w.heap.size 7 [116] (some ⟨g,0,none⟩) 1).heap[w.heap.size]? = some (.cells (stC 7 [116] (some ⟨g,0,none⟩) 1).toArray 154 (0,0)):=by
 have hz:(v.drewN m).heap[w.heap.size]? = some (.cells stZ.toArray 154 (0,0)):=hS.z
 refine ⟨below_set13 (below_drewN m (hS.b.new (by omega))) (Nat.le_refl _),by omega, ?_, ?_,put13_box 7 [116] _ 1 hz⟩
 ·rw [put13_far (by omega)];exact hgx
 ·refine RX.turn (w:=v) (fun k cs hk hc=>⟨?_, ?_⟩) hx
  ·have:w2.heap.size≤k:=hk
   show w.heap.size≤k
   omega
  ·have:w2.heap.size≤k:=hk
   rw [put13_far (by omega)]
   exact hc
theorem rparse_ok (s:ByteArray) (w:World) (hs:s.size≤9223372036854775807) (L:List Lp.Tok) (hL:Lp.toks s.data.toList=(Lp.preT++L,0)) :
 Calls Tryz.prog 80 #[.string s] w (RPrs w (Lp.condX L)):=by
 obtain ⟨T,hT⟩:∃ T,Lp.preT++L=T:=⟨_,rfl⟩
 rw [hT] at hL
 have HT:=κ hT
 have hb0:Below w.heap.size w (w.alloc (.cells stZ.toArray 154)):=(Below.refl _ _).alloc (Nat.le_refl _) _
 have hz0:=heap_alloc_new w (.cells stZ.toArray 154)
 have hl:=rsplit_any s (w.alloc (.cells stZ.toArray 154)) hs
 unfold SplPost at hl
 have hsn:=(sane_toks s.data.toList).1
 rw [hL] at hl hsn
 have HL:=κ hl
 have H0:=κ (ι hb0 hz0)
 have HN:=κ hsn
 clear hb0 hz0 hl hL hsn
 go_enter Tryz.func80,Tryz.ntmps80
 go_wp2_with fail
 refine HL.out.mono ?_
 rintro e w1 ⟨hb1,A,c,rfl, -,hown⟩
 have hz1:=box_below H0.out.2 hb1
 have hBP:w.heap.size<w1.heap.size:=by have:=hb1.size;rw [World.size_alloc] at this;omega
 have hb2:Below w1.heap.size w1 (w1.alloc (.cells #[.slice A T.length c,.int .i64 0,.int .i64 0,.int .i64 0] 200)):=(Below.refl _ _).alloc (Nat.le_refl _) _
 have hp2:RS (w1.alloc (.cells #[.slice A T.length c,.int .i64 0,.int .i64 0,.int .i64 0] 200)) w1.heap.size T 0 0:=by
  refine ⟨A,c,0, ?_, ?_,by rw [Nat.zero_add];exact HN.out⟩
  ·rw [Nat.zero_add];exact heap_alloc_new w1 _
  ·obtain ⟨b,cap,hv, -⟩:=hown.form (by rw [←hT];simp [Lp.preT])
   injection hv with hA _ _
   subst hA
   have hlt:=hown.lt b rfl
   refine .inr ⟨b,0,rfl,hlt.2,fun j u hu => ?_⟩
   have h1:=hown.cells (g:=b) rfl j u hu
   have e:(⟨b,0,none⟩:Addr).add j=⟨b,0+j,none⟩:=by unfold Addr.add;split<;>simp_all
   rw [e] at h1
   exact cell_below (by simpa using h1) hb2
 have HS:=κ (rstmt_any w1.heap.size L _ (by rw [hT];exact hp2))
 have HW:=κ (ι ((H0.out.1.trans (hb1.mono H0.out.1.size)).trans (hb2.mono (Nat.le_of_lt hBP))) (box_below hz1 hb2))
 have hP2:w1.heap.size<(w1.alloc (.cells #[.slice A T.length c,.int .i64 0,.int .i64 0,.int .i64 0] 200)).heap.size:=by rw [World.size_alloc];omega
 clear hz1 hb2 hp2 hown hb1 HL hT
 go_wp2_with fail
 generalize (w1.alloc (.cells #[.slice A T.length c,.int .i64 0,.int .i64 0,.int .i64 0] 200))=w2 at *
 generalize w1.heap.size=P at *
 refine HS.out.mono ?_
 rintro e w3 ⟨g,rr,rfl,hw⟩
 simp only [stV]
 have hb4:Below w3.heap.size w3 (w3.alloc (.cells (stC 7 [116] (some ⟨g,0,none⟩) 1).toArray 154)):=(Below.refl _ _).alloc (Nat.le_refl _) _
 have hPG:P<w3.heap.size:=by have:=hw.1.size;omega
 have hS4:PrS w.heap.size P w3.heap.size g w (w3.alloc (.cells (stC 7 [116] (some ⟨g,0,none⟩) 1).toArray 154)) :=
  ⟨((But.of HW.out.1).trans hw.1).trans (But.of hb4),box_below (but_box hw.1 HW.out.2 (by omega)) hb4,heap_alloc_new w3 _⟩
 obtain ⟨hw1,hw2,hw3,hw4⟩:=hw
 have hg3:=box_below hw3 hb4
 have HS4:=κ hS4
 clear hS4 HS
 rcases hpx:Lp.pX 1 0 L with _|⟨x,r⟩
 ·rw [hpx] at hw4
  have HQ:=κ (show Lp.condX L=none by rw [Lp.condX,hpx])
  have hbad:RBad P w3 0:=hw4
  have HPs:=κ (pass_bad ⟨#[59]⟩ P 0 _ (hbad.below hb4))
  simp only [stC] at HPs
  clear hpx hw4 hbad hb4 hw1 hw2 hw3 hg3
  go_wp2_with fail
  refine HPs.out.mono ?_
  rintro e v1 ⟨rfl,hbv,hbadv⟩
  have hS5:=HS4.out.but hbv hBP hPG
  clear hbv HPs HS4
  obtain ⟨l',d',b',hb',hpb, -, -⟩:=hbadv
  have hS:=hS5
  clear hS5
  cases l' with
  | nil =>
    obtain ⟨A0,c00,i0,q1, -, -⟩:=hpb
    have p0:=β q1 0
    have p1:=β q1 1
    have hI:¬((i0:Int)<((i0+([]:List Lp.Tok).length:Nat):Int)):=by simp
    obtain ⟨nn0,hnn⟩:∃ nn0,i0+([]:List Lp.Tok).length=nn0:=⟨_,rfl⟩
    rw [hnn] at p0 hI
    have HS6:=κ hS
    have HQ1:=κ q1
    clear q1 hnn hS
    go_wp2_with fail
    go_quiet (fail)
    have hS:=HS6.out
    have q1:=HQ1.out
    clear HS6 HQ1 p0 p1
    have p3:=β q1 3
    have eb:(b'==0)=false:=beq_eq_false_iff_ne.2 hb'
    have eb2:(b' !=0)=true:=by rw [bne,eb];rfl
    obtain ⟨c0,c1,z0⟩:=hS.cells
    have HSE:=κ hS
    have HBE:=κ hb'
    simp only [stC,stZ] at c0 c1
    clear q1 hb' hS
    go_wp2_with fail
    go_region
    have hzF:(v1.drewN (nq+1)).heap[w.heap.size]? = some (.cells stZ.toArray 154 (0,0)):=HSE.out.z
    have hbx:=put13_box (w:=(v1.drewN (nq+1))) 0 [] none 0 hzF
    have hbl:=(below_set13 (g:=w.heap.size) (k:=0) (tb:=[]) (A:=none) (n:=0) (below_drewN (nq+1) (HSE.out.b.new (by omega))) (Nat.le_refl _))
    obtain ⟨V,hV⟩:∃ V,put13 (v1.drewN (nq+1)) w.heap.size 0 [] none 0=V:=⟨_,rfl⟩
    rw [hV] at hbx hbl
    have hcE:=β (w:=V) hbx
    have HZ:=κ (show Below w.heap.size w V from hbl)
    have HV:=κ hV
    clear hzF c0 c1 z0 p3 hbx hbl hV
    go_wp2
    change bodyPost _ _ _ _ _ (put13 (v1.drewN (nq+1)) w.heap.size 0 [] none 0)
    rw [HV.out]
    simp only [stC] at hcE
    exact bodyPost_ret (v:=.tuple #[stV 0 [] none 0,.int .i64 (b')]) (by simp [results,Tryz.results80,go_sem,hcE,stV]) rfl (rprs_no HQ.out HBE.out HZ.out)
  | cons t' q' =>
    have HPb:=κ hpb
    have HF:=κ (fun (W:World) (hp:RS W P (t'::q') d' b')=>rfail_any P d' b' 4 (t'::q') W hp)
    obtain ⟨A0,c00,i0,q1, -, -⟩:=hpb
    have p0:=β q1 0
    have p1:=β q1 1
    have hI:(i0:Int)<((i0+(t'::q').length:Nat):Int):=by simp;omega
    obtain ⟨nn0,hnn⟩:∃ nn0,i0+(t'::q').length=nn0:=⟨_,rfl⟩
    rw [hnn] at p0 hI
    have HS6:=κ hS
    clear q1 hnn hS
    go_wp2_with fail
    go_quiet (fail)
    go_wp2_with fail
    refine (HF.out _ (HPb.out.drawn ⟨nq,rfl⟩)).mono ?_
    rintro e v2 ⟨rfl,hbv2,hpb2⟩
    have hS:=(HS6.out.but (Drawn.but (P:=P) (w':=v1.drewN nq) ⟨nq,rfl⟩) hBP hPG).but hbv2 hBP hPG
    obtain ⟨b2,hb2e⟩:∃ b2,badOr b' 4=b2:=⟨_,rfl⟩
    have hb':b2≠0:=by rw [←hb2e];exact badOr_ne (by decide)
    rw [hb2e] at hpb2
    obtain ⟨A1,c01,i1,q1, -, -⟩:=hpb2
    clear hbv2 HS6 hb2e HF HPb p0 p1 hI
    have p3:=β q1 3
    have eb:(b2==0)=false:=beq_eq_false_iff_ne.2 hb'
    have eb2:(b2 !=0)=true:=by rw [bne,eb];rfl
    obtain ⟨c0,c1,z0⟩:=hS.cells
    have HSE:=κ hS
    have HBE:=κ hb'
    simp only [stC,stZ] at c0 c1
    clear q1 hb' hS
    go_wp2_with fail
    go_region
    have hzF:v2.heap[w.heap.size]? = some (.cells stZ.toArray 154 (0,0)):=HSE.out.z
    have hbx:=put13_box (w:=v2) 0 [] none 0 hzF
    have hbl:=(below_set13 (g:=w.heap.size) (k:=0) (tb:=[]) (A:=none) (n:=0) (HSE.out.b.new (by omega)) (Nat.le_refl _))
    obtain ⟨V,hV⟩:∃ V,put13 v2 w.heap.size 0 [] none 0=V:=⟨_,rfl⟩
    rw [hV] at hbx hbl
    have hcE:=β (w:=V.drew) hbx
    have HZ:=κ (show Below w.heap.size w V.drew from hbl.drew)
    have HV:=κ hV
    clear hzF c0 c1 z0 p3 hbx hbl hV
    go_wp2
    change bodyPost _ _ _ _ _ (put13 v2 w.heap.size 0 [] none 0).drew
    rw [HV.out]
    simp only [stC] at hcE
    exact bodyPost_ret (v:=.tuple #[stV 0 [] none 0,.int .i64 (b2)]) (by simp [results,Tryz.results80,go_sem,hcE,stV]) rfl (rprs_no HQ.out HBE.out HZ.out)
 ·rw [hpx] at hw4
  obtain ⟨hx3,hp3⟩:=hw4
  obtain ⟨fb,hfb⟩:∃ fb,Lp.isF [59] r=fb:=⟨_,rfl⟩
  obtain ⟨r',hr'⟩:∃ r',r'=(if fb then r.tail else r):=⟨_,rfl⟩
  have hq:Lp.condX L=if r'=[] then some x else none:=by rw [Lp.condX,hpx,hr', ←hfb]
  have hp4:=hp3.below hb4
  have HPs:=κ (pass_any P 0 0 r ⟨#[59]⟩ _ hp4 fb (by rw [show (⟨#[59]⟩:ByteArray).data.toList=[59] from rfl,hfb];rfl))
  have HRb:=κ hr'
  have HX:=κ (ι (RX.below hb4 hx3) (ι hp4 hg3))
  have HQ0:=κ hq
  simp only [stC] at HPs
  clear hpx hx3 hp3 hb4 hw1 hw3 hg3 hfb hr' hq hp4
  go_wp2_with fail
  refine HPs.out.mono ?_
  rintro e v1 ⟨rfl,hbv,hpb⟩
  rw [←HRb.out] at hpb
  have hS:=HS4.out.but hbv hBP hPG
  have hxv:=RX.but hbv HX.out.2.1 HX.out.1
  have hgv:=but_box hbv HX.out.2.2 (by omega)
  clear hbv HPs HS4 HX HRb
  cases r' with
  | nil =>
    have HQ:=κ (HQ0.out.trans (if_pos rfl))
    obtain ⟨A0,c00,i0,q1, -, -⟩:=hpb
    have p0:=β q1 0
    have p1:=β q1 1
    have hI:¬((i0:Int)<((i0+([]:List Lp.Tok).length:Nat):Int)):=by simp
    obtain ⟨nn0,hnn⟩:∃ nn0,i0+([]:List Lp.Tok).length=nn0:=⟨_,rfl⟩
    rw [hnn] at p0 hI
    have p3:=β q1 3
    obtain ⟨c0,c1,z0⟩:=hS.cells
    clear q1
    have HSE:=κ hS
    have HXE:=κ (ι hxv hgv)
    simp only [stC,stZ] at c0 c1
    clear hnn hS hxv hgv HQ0
    go_wp2_with fail
    go_quiet (fail)
    have hend:=prs_end (m:=nq) hBP hP2 HSE.out hw2 HXE.out.1 HXE.out.2
    obtain ⟨V,hV⟩:∃ V,put13 (v1.drewN nq) w.heap.size 7 [116] (some ⟨g,0,none⟩) 1=V:=⟨_,rfl⟩
    rw [hV] at hend
    have hcE:=β hend.2.2.2.2
    have HE:=κ hend
    have HV:=κ hV
    clear hend hV
    go_wp2
    change bodyPost _ _ _ _ _ (put13 (v1.drewN nq) w.heap.size 7 [116] (some ⟨g,0,none⟩) 1)
    rw [HV.out]
    simp only [stC] at hcE
    exact bodyPost_ret (v:=.tuple #[stV 7 [116] (some ⟨g,0,none⟩) 1,.int .i64 0]) (by simp [results,Tryz.results80,go_sem,hcE,stV]) rfl (rprs_yes HQ.out HE.out.1 HE.out.2.1 HE.out.2.2.1 HE.out.2.2.2.1)
  | cons t' q' =>
    have HQ:=κ (HQ0.out.trans (if_neg (by simp)))
    clear HQ0 hxv hgv
    have HPb:=κ hpb
    have HF:=κ (fun (W:World) (hp:RS W P (t'::q') 0 0)=>rfail_any P 0 0 4 (t'::q') W hp)
    obtain ⟨A0,c00,i0,q1, -, -⟩:=hpb
    have p0:=β q1 0
    have p1:=β q1 1
    have hI:(i0:Int)<((i0+(t'::q').length:Nat):Int):=by simp;omega
    obtain ⟨nn0,hnn⟩:∃ nn0,i0+(t'::q').length=nn0:=⟨_,rfl⟩
    rw [hnn] at p0 hI
    have HS6:=κ hS
    clear q1 hnn hS
    go_wp2_with fail
    go_quiet (fail)
    go_wp2_with fail
    refine (HF.out _ (HPb.out.drawn ⟨nq,rfl⟩)).mono ?_
    rintro e v2 ⟨rfl,hbv2,hpb2⟩
    have hS:=(HS6.out.but (Drawn.but (P:=P) (w':=v1.drewN nq) ⟨nq,rfl⟩) hBP hPG).but hbv2 hBP hPG
    obtain ⟨b2,hb2e⟩:∃ b2,badOr 0 4=b2:=⟨_,rfl⟩
    have hb':b2≠0:=by rw [←hb2e];exact badOr_ne (by decide)
    rw [hb2e] at hpb2
    obtain ⟨A1,c01,i1,q1, -, -⟩:=hpb2
    clear hbv2 HS6 hb2e HF HPb p0 p1 hI
    have p3:=β q1 3
    have eb:(b2==0)=false:=beq_eq_false_iff_ne.2 hb'
    have eb2:(b2 !=0)=true:=by rw [bne,eb];rfl
    obtain ⟨c0,c1,z0⟩:=hS.cells
    have HSE:=κ hS
    have HBE:=κ hb'
    simp only [stC,stZ] at c0 c1
    clear q1 hb' hS
    go_wp2_with fail
    go_region
    have hzF:v2.heap[w.heap.size]? = some (.cells stZ.toArray 154 (0,0)):=HSE.out.z
    have hbx:=put13_box (w:=v2) 0 [] none 0 hzF
    have hbl:=(below_set13 (g:=w.heap.size) (k:=0) (tb:=[]) (A:=none) (n:=0) (HSE.out.b.new (by omega)) (Nat.le_refl _))
    obtain ⟨V,hV⟩:∃ V,put13 v2 w.heap.size 0 [] none 0=V:=⟨_,rfl⟩
    rw [hV] at hbx hbl
    have hcE:=β (w:=V.drew) hbx
    have HZ:=κ (show Below w.heap.size w V.drew from hbl.drew)
    have HV:=κ hV
    clear hzF c0 c1 z0 p3 hbx hbl hV
    go_wp2
    change bodyPost _ _ _ _ _ (put13 v2 w.heap.size 0 [] none 0).drew
    rw [HV.out]
    simp only [stC] at hcE
    exact bodyPost_ret (v:=.tuple #[stV 0 [] none 0,.int .i64 (b2)]) (by simp [results,Tryz.results80,go_sem,hcE,stV]) rfl (rprs_no HQ.out HBE.out HZ.out)
theorem rparse_any (s:ByteArray) (u:List UInt8) (w:World) (hs:s.data.toList=Lp.pre++32::u) (hu:u.length≤1000) :
 Calls Tryz.prog 80 #[.string s] w (RPrs w (Lp.condS u)):=by
 have hsz:s.size≤9223372036854775807:=by
  have h1:s.size=s.data.toList.length:=by rw [Array.length_toList];rfl
  rw [h1,hs];simp [Lp.pre];omega
 have ht:=Lp.toks_front u hu
 rw [←hs] at ht
 by_cases h0:(Lp.splA [] u).2=0
 ·rw [if_pos h0] at ht
  rw [show Lp.condS u=Lp.condX (Lp.splA [] u).1 from if_pos h0]
  exact rparse_ok s w hsz _ ht
 ·rw [if_neg h0] at ht
  rw [show Lp.condS u=none from if_neg h0]
  exact rparse_bad s w hsz _ _ ht h0
theorem pre_list (s:ByteArray):((⟨#[68,69,76,69,84,69,32,70,82,79,77,32,116,32,87,72,69,82,69,32]⟩:ByteArray)++s).data.toList=Lp.pre++32::s.data.toList:=by
 rw [ByteArray.data_append,Array.toList_append]
 rfl
def OnePost (w:World) (q:Option Lp.X) (e:Ending) (w':World):Prop :=
 Below w.heap.size w w'∧match q with
 | none=>e=.returned (.tuple #[rcZ.val,.bool false])
 | some x=>∃ rr:RC,e=.returned (.tuple #[rr.val,.bool true])∧RX (fun k=>w.heap.size≤k) w' x rr
theorem one_no {w w':World} {q:Option Lp.X} (hq:q=none) (hb:Below w.heap.size w w'):OnePost w q (.returned (.tuple #[rcZ.val,.bool false])) w':=by
 subst hq;exact ⟨hb,rfl⟩
theorem one_yes {w w':World} {q:Option Lp.X} {x:Lp.X} (rr:RC) (hq:q=some x) (hb:Below w.heap.size w w') (hx:RX (fun k=>w.heap.size≤k) w' x rr):OnePost w q (.returned (.tuple #[rr.val,.bool true])) w':=by
 subst hq;exact ⟨hb,rr,rfl,hx⟩
theorem below_set8 {B:Nat} {a w:World} {g:Nat} {r:RC} (h:Below B a w) (hg:B≤g):Below B a (put8 w g r):=by
 unfold put8
 exact ((((((((h.setCell (p:=⟨g,0,none⟩) hg _).setCell (p:=⟨g,1,none⟩) hg _).setCell (p:=⟨g,2,none⟩) hg _).setCell (p:=⟨g,3,none⟩) hg _).setCell (p:=⟨g,4,none⟩) hg _).setCell (p:=⟨g,5,none⟩) hg _).setCell (p:=⟨g,6,none⟩) hg _).setCell (p:=⟨g,7,none⟩) hg _)
theorem rone_any (s:ByteArray) (w:World) (hs:s.size≤1000) :
 Calls Tryz.prog 44 #[.string s] w (OnePost w (Lp.condS s.data.toList)):=by
 have hb0:Below w.heap.size w (w.alloc (.cells rcZ.cells.toArray 35)):=(Below.refl _ _).alloc (Nat.le_refl _) _
 have hz0:=heap_alloc_new w (.cells rcZ.cells.toArray 35)
 have hW:=World.size_alloc w (.cells rcZ.cells.toArray 35)
 have HP:=κ (rparse_any _ s.data.toList (w.alloc (.cells rcZ.cells.toArray 35)) (pre_list s) (by rw [Array.length_toList];exact hs))
 have H0:=κ (ι hb0 (ι hz0 hW))
 clear hb0 hz0 hW
 go_enter Tryz.func44,Tryz.ntmps44
 go_wp2_with fail
 refine HP.out.mono ?_
 rintro e w1 ⟨hb1,hq⟩
 have hz1:=box_below H0.out.2.1 hb1
 have hbw:=H0.out.1.trans (hb1.mono H0.out.1.size)
 have hBw:w.heap.size<w1.heap.size:=heap_lt hz1
 rcases hc:Lp.condS s.data.toList with _|x
 ·rw [hc] at hq
  obtain ⟨c,hc0,rfl⟩:=hq
  have HQ:=κ hc
  have e1:(c==0)=false:=beq_eq_false_iff_ne.2 hc0
  have e2:(c !=0)=true:=by rw [bne,e1];rfl
  simp only [stV]
  have hb2:Below w1.heap.size w1 (w1.alloc (.cells (stC 0 [] none 0).toArray 154)):=(Below.refl _ _).alloc (Nat.le_refl _) _
  have hz2:=box_below hz1 hb2
  have c0:=β hz2
  have z0:=fun j=>frozen_of_row _ _ j _ _ hz2
  have hbx:=put8_box rcZ hz2
  have hbl:=below_set8 (g:=w.heap.size) (r:=rcZ) (hbw.trans (hb2.mono (Nat.le_of_lt hBw))) (Nat.le_refl _)
  obtain ⟨V,hV⟩:∃ V,put8 (w1.alloc (.cells (stC 0 [] none 0).toArray 154)) w.heap.size rcZ=V:=⟨_,rfl⟩
  rw [hV] at hbx hbl
  have hcE:=β hbx
  have HV:=κ hV
  have HE:=κ hbl
  simp only [RC.cells,rcZ,stC] at c0 z0
  clear hb1 hz1 hbw hc hc0 hb2 hz2 hbx hbl hV HP H0 hBw
  go_wp2
  change bodyPost _ _ _ _ _ (put8 (w1.alloc (.cells (stC 0 [] none 0).toArray 154)) w.heap.size rcZ)
  rw [HV.out]
  simp only [RC.cells,rcZ] at hcE
  exact bodyPost_ret (v:=.tuple #[rcZ.val,.bool false]) (by simp [results,Tryz.results44,go_sem,hcE,RC.val,rcZ]) rfl (one_no HQ.out HE.out)
 ·rw [hc] at hq
  obtain ⟨g,⟨k,vk,vi,vs,vb,tt,ss,A,nn,c⟩,rfl,hg,hgx,hx⟩:=hq
  have HQ:=κ hc
  simp only [stV]
  have hb2:Below w1.heap.size w1 (w1.alloc (.cells (stC 7 [116] (some ⟨g,0,none⟩) 1).toArray 154)):=(Below.refl _ _).alloc (Nat.le_refl _) _
  have hz2:=box_below hz1 hb2
  have hg2:=box_below hgx hb2
  have hst:=heap_alloc_new w1 (.cells (stC 7 [116] (some ⟨g,0,none⟩) 1).toArray 154)
  have c0:=β hz2
  have cg:=β hg2
  have cs:=β hst
  have z0:=fun j=>frozen_of_row _ _ j _ _ hz2
  have hbx:=put8_box ⟨k,vk,vi,vs,vb,tt,ss,A,nn,c⟩ hz2
  have hbl:=below_set8 (g:=w.heap.size) (r:=⟨k,vk,vi,vs,vb,tt,ss,A,nn,c⟩) (hbw.trans (hb2.mono (Nat.le_of_lt hBw))) (Nat.le_refl _)
  have hgw:w.heap.size+1≤g:=by rw [←H0.out.2.2];exact hg
  have hxl:RX (fun k=>w.heap.size<k) _ x ⟨k,vk,vi,vs,vb,tt,ss,A,nn,c⟩:=RX.mono (fun k hk _=>by have h2:(w.alloc (.cells rcZ.cells.toArray 35)).heap.size≤k:=hk;rw [H0.out.2.2] at h2;exact h2) (RX.below hb2 hx)
  have hx2:=put8_rx (g:=w.heap.size) (r:=⟨k,vk,vi,vs,vb,tt,ss,A,nn,c⟩) (fun j (hj:w.heap.size<j)=>by omega) hxl
  obtain ⟨V,hV⟩:∃ V,put8 (w1.alloc (.cells (stC 7 [116] (some ⟨g,0,none⟩) 1).toArray 154)) w.heap.size ⟨k,vk,vi,vs,vb,tt,ss,A,nn,c⟩=V:=⟨_,rfl⟩
  rw [hV] at hbx hbl hx2
  have hcE:=β hbx
  have HV:=κ hV
  have HE:=κ (ι hbl (RX.mono (S':=fun k=>w.heap.size≤k) (fun _ hk _=>Nat.le_of_lt hk) hx2))
  simp only [RC.cells,rcZ,stC] at c0 z0 cg cs
  clear hb1 hz1 hbw hc hb2 hz2 hbx hbl hV HP H0 hx hx2 hxl hgx hg2 hst hBw hgw
  go_wp2
  change bodyPost _ _ _ _ _ (put8 (w1.alloc (.cells (stC 7 [116] (some ⟨g,0,none⟩) 1).toArray 154)) w.heap.size ⟨k,vk,vi,vs,vb,tt,ss,A,nn,c⟩)
  rw [HV.out]
  simp only [RC.cells] at hcE
  exact bodyPost_ret (v:=.tuple #[RC.val ⟨k,vk,vi,vs,vb,tt,ss,A,nn,c⟩,.bool true]) (by simp [results,Tryz.results44,go_sem,hcE,RC.val]) rfl (one_yes _ HQ.out HE.out.1 HE.out.2)
def fewB (s:ByteArray):ByteArray:=s.extract 0 (min s.size 600)
theorem few_list (s:ByteArray):(fewB s).data.toList=s.data.toList.take 600:=by
 have h:s.data.size=s.size:=rfl
 simp [fewB,ByteArray.data_extract,Array.toList_extract]
 omega
theorem few_size (s:ByteArray):(fewB s).size≤600:=by
 simp [fewB,ByteArray.size_extract]
 omega
theorem parD_pre (L:List Lp.Tok):parD (Lp.preT++L)=(Lp.condX L).map fun x=>([116],some x):=by
 have hw:whereF (⟨1,[119,104,101,114,101],0⟩::L)=(Lp.pX 1 0 L).map fun p=>(some p.1,p.2):=rfl
 have hd:delF (Lp.preT++L).tail=match whereF (⟨1,[119,104,101,114,101],0⟩::L) with|none=>none|some (x,r3)=>some ([116],x,r3):=rfl
 unfold parD
 rw [hd,hw]
 unfold Lp.condX
 cases Lp.pX 1 0 L with
 | none=>rfl
 | some p =>
   obtain ⟨x,r⟩:=p
   show (if (if Lp.isF [59] r then r.tail else r)=[] then some (([116]:List UInt8),some x) else none)=Option.map _ (if (if Lp.isF [59] r then r.tail else r)=[] then some x else none)
   generalize (if Lp.isF [59] r then r.tail else r)=q
   by_cases hq:q=[]<;>simp [hq]
def PDPost (w:World) (q:Option Lp.X) (e:Ending) (w':World):Prop :=
 Below w.heap.size w w'∧match q with
 | none=>∃ c:Int,c≠0∧e=.returned (.tuple #[.nilIface,.int .i64 c])
 | some x=>∃ g T g2,e=.returned (.tuple #[.iface 100 (.pointer (some ⟨g,0,none⟩)),.int .i64 0])∧w'.heap[g]? = some (.cells #[.string ⟨#[116]⟩,.iface T (.pointer (some ⟨g2,0,none⟩))] 103 (0,0))∧PX w.heap.size w' x (.iface T (.pointer (some ⟨g2,0,none⟩)))
theorem parse_any (s:ByteArray) (u:List UInt8) (w:World) (hT:Tabs w) (hR:Resv w) (hs:s.data.toList=Lp.pre++32::u) (hu:u.length≤1000) :
 Calls Tryz.prog 43 #[.string s] w (PDPost w (Lp.condS u)):=by
 have hsz:s.size≤9223372036854775807:=by
  have h1:s.size=s.data.toList.length:=by rw [Array.length_toList];rfl
  rw [h1,hs];simp [Lp.pre];omega
 have ht:=Lp.toks_front u hu
 rw [←hs] at ht
 by_cases h0:(Lp.splA [] u).2=0
 ·rw [if_pos h0] at ht
  rw [show Lp.condS u=Lp.condX (Lp.splA [] u).1 from if_pos h0]
  refine (parse_del s w hT hR hsz _ ht rfl).mono ?_
  rintro e w' ⟨h1,h2⟩
  refine ⟨h1, ?_⟩
  rw [parD_pre] at h2
  cases hc:Lp.condX (Lp.splA [] u).1 with
  | none=>rw [hc] at h2;exact h2
  | some x =>
    rw [hc] at h2
    obtain ⟨g,v,h3, -,h4,⟨⟨T,g2,h5⟩,h6⟩⟩:=h2
    subst h5
    exact ⟨g,T,g2,h3,h4,h6⟩
 ·rw [if_neg h0] at ht
  rw [show Lp.condS u=none from if_neg h0]
  refine (parse_bad s w hT hsz _ _ ht h0).mono ?_
  rintro e w' ⟨h1,h2⟩
  exact ⟨h1,_,h0,h2⟩
theorem ta_del (p:Option Addr) (w:World):(Instr.typeAssert (.iface 100 (.pointer p)) 95 100 true).run Tryz.prog w=.ok (.tuple #[.pointer p,.bool true]) w:=by kernel_rfl
theorem fewP (s:ByteArray):((⟨#[68,69,76,69,84,69,32,70,82,79,77,32,116,32,87,72,69,82,69,32]⟩:ByteArray)++fewB s).data.toList=Lp.pre++32::(s.data.toList.take 600):=by
 rw [pre_list,few_list]
attribute [local go_sem] ta_del
end Go.Proofs.YtkfjmgmjbljnbaaGreatDoor
