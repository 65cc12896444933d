/-
 Contracts. Conditions: those of each.
-/
import Derived.Test.YtkolcimllghnaaaGreatDoorQbZW
set_option maxRecDepth 100000
set_option maxHeartbeats 20000000
namespace Go.Proofs.YtkolcimllghnaaaGreatDoor
open Lp Go.Proofs.Tryz
open Go.RowKit
def wAs:List UInt8:=[97,115]
def Li:List UInt8:=[100,101,115,99]
def Xu:List UInt8:=[97,115,99]
def kX (l:List Tok):Option (Unit×List Tok):=match pX 1 0 l with
 | none=>none
 | some (_,r)=>if isF wAs r then (aZ r.tail).map fun p=>((),p.2) else some ((),r)
def gP (l:List Tok):Option (Unit×List Tok):=match pX 1 0 l with
 | none=>none
 | some (_,r)=>if isF Li r then some ((),r.tail) else if isF Xu r then some ((),r.tail) else some ((),r)
theorem xD:wD kX:=by
 intro l x r h
 unfold kX at h
 rcases h1:pX 1 0 l with _|⟨c,r1⟩
 ·rw [h1] at h;cases h
 ·rw [h1] at h
  simp only at h
  have b1:=fS h1
  have b0:=fT h1
  cases h2:isF wAs r1
  ·rw [h2] at h
   simp only [φ,if_false,Option.some.injEq,Prod.mk.injEq] at h
   obtain ⟨_,rfl⟩:=h
   exact ⟨b0,b1⟩
  ·rw [h2] at h
   rcases h4:aZ r1.tail with _|⟨t,r2⟩
   ·rw [h4] at h;cases h
   ·rw [h4] at h
    simp only [if_true,Option.map_some,Option.some.injEq,Prod.mk.injEq] at h
    obtain ⟨_,rfl⟩:=h
    have b2:=bU h4
    have b3:=b2.length_le
    have b4:=(bL r1).length_le
    exact ⟨by omega,(b2.trans (bL r1)).trans b1⟩
theorem uV:wD gP:=by
 intro l x r h
 unfold gP at h
 rcases h1:pX 1 0 l with _|⟨c,r1⟩
 ·rw [h1] at h;cases h
 ·rw [h1] at h
  simp only at h
  have b1:=fS h1
  have b0:=fT h1
  have b4:=(bL r1).length_le
  cases h2:isF Li r1
  ·rw [h2] at h
   cases h3:isF Xu r1
   ·rw [h3] at h
    simp only [φ,if_false,Option.some.injEq,Prod.mk.injEq] at h
    obtain ⟨_,rfl⟩:=h
    exact ⟨b0,b1⟩
   ·rw [h3] at h
    simp only [φ,if_false,if_true,Option.some.injEq,Prod.mk.injEq] at h
    obtain ⟨_,rfl⟩:=h
    exact ⟨by omega,(bL r1).trans b1⟩
  ·rw [h2] at h
   simp only [if_true,Option.some.injEq,Prod.mk.injEq] at h
   obtain ⟨_,rfl⟩:=h
   exact ⟨by omega,(bL r1).trans b1⟩
theorem Qb:kX []=none:=by unfold kX;rw [tQ]
theorem Iz:gP []=none:=by unfold gP;rw [tQ]
abbrev KIt (P bp bx gi:Nat) (cs0:Array Value) (w0:World) (acc:List Unit) (w:World):Prop:=KI P bp bx gi 0 cs0 74 136 142 2 w0 acc.length w
abbrev KOr (P bp bx gi:Nat) (cs0:Array Value) (w0:World) (acc:List Unit) (w:World):Prop:=KI P bp bx gi 6 cs0 74 136 147 2 w0 acc.length w
theorem Cw (P bp bx gi d0:Nat) (cs0:Array Value) (l0:List Tok) (w0:World) (hR0:Resv w0) (hp0:PS w0 P l0 d0) (hgi:w0.heap.size≤gi) (hne:gi≠bp) (hnx:gi≠bx) (acc:List Unit) (l:List Tok) (w:World) (hacc:acc.length≤100) (hi:KIt P bp bx gi cs0 w0 acc w) (hp:PS w P l 0) (hs:Lsane l) :
 Calls prog 127 #[.pointer (some ⟨bp,0,none⟩),.pointer (some ⟨bx,0,none⟩)] w (jK P (KIt P bp bx gi cs0 w0) (RJ P w0) acc (kX l)):=by
 have HC:=κ ((gG P l.length 0 (by have:=hs.1;omega)).e w l (ν _) hp hs (hR0.but hp0 hi.but))
 obtain ⟨A,c,vs,hke⟩:=hi.row
 have hrl:=hke.2.lt
 have HU:=κ (ι hke hrl)
 have HI:=κ (ι hi (ι hp hs))
 have H0:=κ (ι hR0 (ι hp0 (ι hgi (ι hne hnx))))
 have cb:=β hi.hbp 0
 clear hi hp hs hR0 hp0 hgi hne hnx hke hrl
 go_enter func127,ntmps127
 go_wp2_with fail
 refine μ HC ?_
 rintro e w1 ⟨hb1,hq1⟩
 rcases hq:pX 1 0 l with _|⟨x,r1⟩
 ·rw [hq] at hq1
  obtain ⟨ce,rfl,hce⟩:=hq1
  have HN:=κ (show kX l=none by rw [kX,hq])
  have HB:=κ (ι hce (HI.out.1.but.trans hb1))
  clear hq hb1 HC
  unfold aV
  go_wp2
  refine ⟨rfl, ?_⟩
  rw [HN.out]
  exact ⟨ce,rfl,HB.out.1,HB.out.2⟩
 ·rw [hq] at hq1
  obtain ⟨T,g,rfl,hx,hp1⟩:=hq1
  have hbA:Below w1.heap.size w1 (w1.alloc (.cells #[.iface T (.pointer (some ⟨g,0,none⟩)),.string ⟨#[]⟩] 142)):=ρ
  have hxA:=heap_alloc_new w1 (.cells #[.iface T (.pointer (some ⟨g,0,none⟩)),.string ⟨#[]⟩] 142)
  have hi1:=(HI.out.1.next HI.out.2.1 hb1 (by decide) (by decide) (by decide)).next hp1 (But.of hbA) (by decide) (by decide) (by decide)
  have hkeA:=(HU.out.1.next HI.out.2.1 hb1 (by decide) (by decide)).next hp1 (But.of hbA) (by decide) (by decide)
  have hgs:some w1.heap.size≠Value.ownBlock (.slice A acc.length c):=fun e=>by have:=(HU.out.2 _ e.symm).2;have:=hb1.size;omega
  have HV:=κ (ι hgs (ι (Nat.le_trans HI.out.1.but.size hb1.size) (ι hp1.lt (HI.out.2.2.sfx (fS hq)))))
  have cbA:=β hi1.hbp 0
  have H1:=κ (ι hi1 (ι (hp1.below hbA) (ι hxA (ι hkeA hq))))
  clear hq hb1 hp1 hbA hxA hi1 hkeA hgs HC cb HI HU hx
  cases hf:isF wAs r1
  ·have HN:=κ (show kX l=some ((),r1) by rw [kX,H1.out.2.2.2.2];simp only [hf];rfl)
   have HI1:=κ (bM P 0 r1 ⟨#[97,115]⟩ _ H1.out.2.1 false hf)
   go_wp2_with fail
   refine μ HI1 ?_
   rintro e w2 ⟨rfl,hb2,hp2⟩
   simp only [φ,if_false] at hp2
   have hi2:=H1.out.1.next H1.out.2.1 hb2 (by decide) (by decide) (by decide)
   have hke2:=H1.out.2.2.2.1.next H1.out.2.1 hb2 (by decide) (by decide)
   have hx2:=aI H1.out.2.2.1 hb2 H1.out.2.1 (by decide)
   have HK:=κ (ι hi2 (ι hke2 (ι hp2 hx2)))
   clear hb2 hp2 hi2 hke2 hx2 HI1 cbA hf
   go_upto_region 3 with fail
   refine Dc (B:=w0.heap.size) (bx:=bx) (gi:=gi) (gs:=w1.heap.size) (n:=acc.length) (A:=A) (vs:=vs) (T1:=T) (g1:=g) (s1:=⟨#[]⟩) (hbx:=HK.out.1.hbx) (hgs:=HK.out.2.2.2) (hke:=HK.out.2.1) (hB:=HK.out.1.but.size) (hn:=hacc) (h := ?_) _ _ _ _ _ _ _ _ _ _ _ _ _ _ _ _ _ _ _ _ _ _ _
   intro _ _ _ _ _ _ _ _ _ _ A5 c5 w5 hap
   have hE:=lX HK.out.1 HK.out.2.2.1 H0.out.2.1.lt H0.out.2.2.1 H0.out.2.2.2.1 H0.out.2.2.2.2 HK.out.2.1 hap (by decide) (by decide) (by decide)
   have HE:=κ hE
   clear hap HK hE
   go_wp2
   go_end0
   rw [HN.out]
   refine ⟨rfl,HE.out.1, ?_⟩
   unfold KIt
   rw [List.length_append]
   exact HE.out.2
  ·have HF:=κ hf
   have HI1:=κ (bM P 0 r1 ⟨#[97,115]⟩ _ H1.out.2.1 true hf)
   go_wp2_with fail
   refine μ HI1 ?_
   rintro e w2 ⟨rfl,hb2,hp2⟩
   simp only [if_true] at hp2
   have hi2:=H1.out.1.next H1.out.2.1 hb2 (by decide) (by decide) (by decide)
   have hke2:=H1.out.2.2.2.1.next H1.out.2.1 hb2 (by decide) (by decide)
   have hx2:=aI H1.out.2.2.1 hb2 H1.out.2.1 (by decide)
   have HNm:=κ (dU P 0 r1.tail w2 hp2 (H0.out.1.but H0.out.2.1 hi2.but))
   have cb2:=β hi2.hbp 0
   have H2:=κ (ι hi2 (ι hp2 (ι hx2 hke2)))
   clear hb2 hp2 hi2 hke2 hx2 HI1 cbA hf
   go_wp2_with fail
   refine μ HNm ?_
   rintro e w3 ⟨hb3,hq3⟩
   rcases hq:aZ r1.tail with _|⟨t,r3⟩
   ·rw [hq] at hq3
    obtain ⟨ce,rfl,hce⟩:=hq3
    have HN:=κ (show kX l=none by rw [kX,H1.out.2.2.2.2];simp only [HF.out,hq];rfl)
    have HB:=κ (ι hce (H2.out.1.but.trans hb3))
    clear hq hb3 HNm
    unfold aV
    go_wp2
    refine ⟨rfl, ?_⟩
    rw [HN.out]
    exact ⟨ce,rfl,HB.out.1,HB.out.2⟩
   ·rw [hq] at hq3
    obtain ⟨rfl,hp3⟩:=hq3
    have HN:=κ (show kX l=some ((),r3) by rw [kX,H1.out.2.2.2.2];simp only [HF.out,hq];rfl)
    have hi3:=H2.out.1.next H2.out.2.1 hb3 (by decide) (by decide) (by decide)
    have hke3:=H2.out.2.2.2.next H2.out.2.1 hb3 (by decide) (by decide)
    have hx3:=aI H2.out.2.2.1 hb3 H2.out.2.1 (by decide)
    have hs4:=qS (j:=1) hi3 hke3 HV.out.2.1 hx3 HV.out.1 (by decide) (by decide) (by decide) (.string ⟨t.toArray⟩)
    have hx4:(w3.setCell ⟨w1.heap.size,1,none⟩ (.string ⟨t.toArray⟩)).heap[w1.heap.size]? = some (.cells #[.iface T (.pointer (some ⟨g,0,none⟩)),.string ⟨t.toArray⟩] 142 (0,0)):=by
     have:=heap_setCell_same w3 w1.heap.size 1 _ _ (.string ⟨t.toArray⟩) hx3
     simpa using this
    have HK:=κ (ι hs4.1 (ι hs4.2 (ι (hp3.setNew (o:=1) HV.out.2.2.1 (.string ⟨t.toArray⟩)) hx4)))
    have c3:=β hx3 1
    have f3:=fun j=>frozen_of_row w3 w1.heap.size j _ _ hx3
    clear hs4 hx4 hq hb3 hp3 hi3 hke3 hx3 HNm cb2
    go_upto_region 3 with fail
    refine Dc (B:=w0.heap.size) (bx:=bx) (gi:=gi) (gs:=w1.heap.size) (n:=acc.length) (A:=A) (vs:=vs) (T1:=T) (g1:=g) (s1:=⟨t.toArray⟩) (hbx:=HK.out.1.hbx) (hgs:=HK.out.2.2.2) (hke:=HK.out.2.1) (hB:=HK.out.1.but.size) (hn:=hacc) (h := ?_) _ _ _ _ _ _ _ _ _ _ _ _ _ _ _ _ _ _ _ _ _ _ _
    intro _ _ _ _ _ _ _ _ _ _ A5 c5 w5 hap
    have hE:=lX HK.out.1 HK.out.2.2.1 H0.out.2.1.lt H0.out.2.2.1 H0.out.2.2.2.1 H0.out.2.2.2.2 HK.out.2.1 hap (by decide) (by decide) (by decide)
    have HE:=κ hE
    clear hap HK hE
    go_wp2
    go_end0
    rw [HN.out]
    refine ⟨rfl,HE.out.1, ?_⟩
    unfold KIt
    rw [List.length_append]
    exact HE.out.2
theorem Cu (P bp bx gi d0:Nat) (cs0:Array Value) (l0:List Tok) (w0:World) (hR0:Resv w0) (hp0:PS w0 P l0 d0) (hgi:w0.heap.size≤gi) (hne:gi≠bp) (hnx:gi≠bx) (acc:List Unit) (l:List Tok) (w:World) (hacc:acc.length≤100) (hi:KOr P bp bx gi cs0 w0 acc w) (hp:PS w P l 0) (hs:Lsane l) :
 Calls prog 129 #[.pointer (some ⟨bp,0,none⟩),.pointer (some ⟨bx,0,none⟩)] w (jK P (KOr P bp bx gi cs0 w0) (RJ P w0) acc (gP l)):=by
 have HC:=κ ((gG P l.length 0 (by have:=hs.1;omega)).e w l (ν _) hp hs (hR0.but hp0 hi.but))
 obtain ⟨A,c,vs,hke⟩:=hi.row
 have hrl:=hke.2.lt
 have HU:=κ (ι hke hrl)
 have HI:=κ (ι hi (ι hp hs))
 have H0:=κ (ι hR0 (ι hp0 (ι hgi (ι hne hnx))))
 have cb:=β hi.hbp 0
 clear hi hp hs hR0 hp0 hgi hne hnx hke hrl
 go_enter func129,ntmps129
 go_wp2_with fail
 refine μ HC ?_
 rintro e w1 ⟨hb1,hq1⟩
 rcases hq:pX 1 0 l with _|⟨x,r1⟩
 ·rw [hq] at hq1
  obtain ⟨ce,rfl,hce⟩:=hq1
  have HN:=κ (show gP l=none by rw [gP,hq])
  have HB:=κ (ι hce (HI.out.1.but.trans hb1))
  clear hq hb1 HC
  unfold aV
  go_wp2
  refine ⟨rfl, ?_⟩
  rw [HN.out]
  exact ⟨ce,rfl,HB.out.1,HB.out.2⟩
 ·rw [hq] at hq1
  obtain ⟨T,g,rfl,hx,hp1⟩:=hq1
  have hbA:Below w1.heap.size w1 (w1.alloc (.cells #[.iface T (.pointer (some ⟨g,0,none⟩)),.bool false] 147)):=ρ
  have hxA:=heap_alloc_new w1 (.cells #[.iface T (.pointer (some ⟨g,0,none⟩)),.bool false] 147)
  have hi1:=(HI.out.1.next HI.out.2.1 hb1 (by decide) (by decide) (by decide)).next hp1 (But.of hbA) (by decide) (by decide) (by decide)
  have hkeA:=(HU.out.1.next HI.out.2.1 hb1 (by decide) (by decide)).next hp1 (But.of hbA) (by decide) (by decide)
  have hgs:some w1.heap.size≠Value.ownBlock (.slice A acc.length c):=fun e=>by have:=(HU.out.2 _ e.symm).2;have:=hb1.size;omega
  have HV:=κ (ι hgs (ι (Nat.le_trans HI.out.1.but.size hb1.size) (ι hp1.lt (HI.out.2.2.sfx (fS hq)))))
  have cbA:=β hi1.hbp 0
  have H1:=κ (ι hi1 (ι (hp1.below hbA) (ι hxA (ι hkeA hq))))
  clear hq hb1 hp1 hbA hxA hi1 hkeA hgs HC cb HI HU hx
  cases hf:isF Li r1
  ·have HF:=κ hf
   have HI1:=κ (bM P 0 r1 ⟨#[100,101,115,99]⟩ _ H1.out.2.1 false hf)
   go_wp2_with fail
   refine μ HI1 ?_
   rintro e w2 ⟨rfl,hb2,hp2⟩
   simp only [φ,if_false] at hp2
   have hi2:=H1.out.1.next H1.out.2.1 hb2 (by decide) (by decide) (by decide)
   have hke2:=H1.out.2.2.2.1.next H1.out.2.1 hb2 (by decide) (by decide)
   have hx2:=aI H1.out.2.2.1 hb2 H1.out.2.1 (by decide)
   have hs4:=qS (j:=1) hi2 hke2 HV.out.2.1 hx2 HV.out.1 (by decide) (by decide) (by decide) (.bool false)
   have hx4:(w2.setCell ⟨w1.heap.size,1,none⟩ (.bool false)).heap[w1.heap.size]? = some (.cells #[.iface T (.pointer (some ⟨g,0,none⟩)),.bool false] 147 (0,0)):=by
    have:=heap_setCell_same w2 w1.heap.size 1 _ _ (.bool false) hx2
    simpa using this
   have hp4:=hp2.setNew (o:=1) HV.out.2.2.1 (.bool false)
   have c3:=β hx2 1
   have f3:=fun j=>frozen_of_row w2 w1.heap.size j _ _ hx2
   have c4:=β hx4 1
   have H2:=κ (ι hs4.1 (ι hp4 (ι hx4 hs4.2)))
   have cb2:=β hs4.1.hbp 0
   clear hb2 hp2 hi2 hke2 hx2 HI1 cbA hf hs4 hx4 hp4
   cases hf:isF Xu r1
   ·have HN:=κ (show gP l=some ((),r1) by rw [gP,H1.out.2.2.2.2];simp only [HF.out,hf];rfl)
    have HI2:=κ (bM P 0 r1 ⟨#[97,115,99]⟩ _ H2.out.2.1 false hf)
    go_wp2_with fail
    refine μ HI2 ?_
    rintro e w3 ⟨rfl,hb2,hp2⟩
    simp only [φ,if_false] at hp2
    have hi2:=H2.out.1.next H2.out.2.1 hb2 (by decide) (by decide) (by decide)
    have hke2:=H2.out.2.2.2.next H2.out.2.1 hb2 (by decide) (by decide)
    have hx2:=aI H2.out.2.2.1 hb2 H2.out.2.1 (by decide)
    have HK:=κ (ι hi2 (ι hke2 (ι hp2 hx2)))
    clear hb2 hp2 hi2 hke2 hx2 HI2 cb2 hf c3 f3 c4
    go_upto_region 4 with fail
    refine qX (B:=w0.heap.size) (bx:=bx) (gi:=gi) (gs:=w1.heap.size) (n:=acc.length) (A:=A) (vs:=vs) (T1:=T) (g1:=g) (b1:=false) (hbx:=HK.out.1.hbx) (hgs:=HK.out.2.2.2) (hke:=HK.out.2.1) (hB:=HK.out.1.but.size) (hn:=hacc) (h := ?_) _ _ _ _ _ _ _ _ _ _ _ _ _ _ _ _ _ _ _ _ _ _ _ _ _ _
    intro _ _ _ _ _ _ _ _ _ _ A5 c5 w5 hap
    have hE:=lX HK.out.1 HK.out.2.2.1 H0.out.2.1.lt H0.out.2.2.1 H0.out.2.2.2.1 H0.out.2.2.2.2 HK.out.2.1 hap (by decide) (by decide) (by decide)
    have HE:=κ hE
    clear hap HK hE
    go_wp2
    go_end0
    rw [HN.out]
    refine ⟨rfl,HE.out.1, ?_⟩
    unfold KOr
    rw [List.length_append]
    exact HE.out.2
   ·have HN:=κ (show gP l=some ((),r1.tail) by rw [gP,H1.out.2.2.2.2];simp only [HF.out,hf];rfl)
    have HI2:=κ (bM P 0 r1 ⟨#[97,115,99]⟩ _ H2.out.2.1 true hf)
    go_wp2_with fail
    refine μ HI2 ?_
    rintro e w3 ⟨rfl,hb2,hp2⟩
    simp only [if_true] at hp2
    have hi2:=H2.out.1.next H2.out.2.1 hb2 (by decide) (by decide) (by decide)
    have hke2:=H2.out.2.2.2.next H2.out.2.1 hb2 (by decide) (by decide)
    have hx2:=aI H2.out.2.2.1 hb2 H2.out.2.1 (by decide)
    have HK:=κ (ι hi2 (ι hke2 (ι hp2 hx2)))
    clear hb2 hp2 hi2 hke2 hx2 HI2 cb2 hf c3 f3 c4
    go_upto_region 4 with fail
    refine qX (B:=w0.heap.size) (bx:=bx) (gi:=gi) (gs:=w1.heap.size) (n:=acc.length) (A:=A) (vs:=vs) (T1:=T) (g1:=g) (b1:=false) (hbx:=HK.out.1.hbx) (hgs:=HK.out.2.2.2) (hke:=HK.out.2.1) (hB:=HK.out.1.but.size) (hn:=hacc) (h := ?_) _ _ _ _ _ _ _ _ _ _ _ _ _ _ _ _ _ _ _ _ _ _ _ _ _ _
    intro _ _ _ _ _ _ _ _ _ _ A5 c5 w5 hap
    have hE:=lX HK.out.1 HK.out.2.2.1 H0.out.2.1.lt H0.out.2.2.1 H0.out.2.2.2.1 H0.out.2.2.2.2 HK.out.2.1 hap (by decide) (by decide) (by decide)
    have HE:=κ hE
    clear hap HK hE
    go_wp2
    go_end0
    rw [HN.out]
    refine ⟨rfl,HE.out.1, ?_⟩
    unfold KOr
    rw [List.length_append]
    exact HE.out.2
  ·have HN:=κ (show gP l=some ((),r1.tail) by rw [gP,H1.out.2.2.2.2];simp only [hf];rfl)
   have HI1:=κ (bM P 0 r1 ⟨#[100,101,115,99]⟩ _ H1.out.2.1 true hf)
   go_wp2_with fail
   refine μ HI1 ?_
   rintro e w2 ⟨rfl,hb2,hp2⟩
   simp only [if_true] at hp2
   have hi2:=H1.out.1.next H1.out.2.1 hb2 (by decide) (by decide) (by decide)
   have hke2:=H1.out.2.2.2.1.next H1.out.2.1 hb2 (by decide) (by decide)
   have hx2:=aI H1.out.2.2.1 hb2 H1.out.2.1 (by decide)
   have hs4:=qS (j:=1) hi2 hke2 HV.out.2.1 hx2 HV.out.1 (by decide) (by decide) (by decide) (.bool true)
   have hx4:(w2.setCell ⟨w1.heap.size,1,none⟩ (.bool true)).heap[w1.heap.size]? = some (.cells #[.iface T (.pointer (some ⟨g,0,none⟩)),.bool true] 147 (0,0)):=by
    have:=heap_setCell_same w2 w1.heap.size 1 _ _ (.bool true) hx2
    simpa using this
   have hp4:=hp2.setNew (o:=1) HV.out.2.2.1 (.bool true)
   have c3:=β hx2 1
   have f3:=fun j=>frozen_of_row w2 w1.heap.size j _ _ hx2
   have c4:=β hx4 1
   have HK:=κ (ι hs4.1 (ι hs4.2 (ι hp4 hx4)))
   clear hb2 hp2 hi2 hke2 hx2 HI1 cbA hf hs4 hx4 hp4
   go_upto_region 4 with fail
   refine qX (B:=w0.heap.size) (bx:=bx) (gi:=gi) (gs:=w1.heap.size) (n:=acc.length) (A:=A) (vs:=vs) (T1:=T) (g1:=g) (b1:=true) (hbx:=HK.out.1.hbx) (hgs:=HK.out.2.2.2) (hke:=HK.out.2.1) (hB:=HK.out.1.but.size) (hn:=hacc) (h := ?_) _ _ _ _ _ _ _ _ _ _ _ _ _ _ _ _ _ _ _ _ _ _ _ _ _ _
   intro _ _ _ _ _ _ _ _ _ _ A5 c5 w5 hap
   have hE:=lX HK.out.1 HK.out.2.2.1 H0.out.2.1.lt H0.out.2.2.1 H0.out.2.2.2.1 H0.out.2.2.2.2 HK.out.2.1 hap (by decide) (by decide) (by decide)
   have HE:=κ hE
   clear hap HK hE
   go_wp2
   go_end0
   rw [HN.out]
   refine ⟨rfl,HE.out.1, ?_⟩
   unfold KOr
   rw [List.length_append]
   exact HE.out.2
def lD (l:List Tok):Option (Unit×List Tok):=(pX 1 0 l).map fun p=>((),p.2)
theorem uW:wD lD:=by
 intro l x r h
 unfold lD at h
 rcases h1:pX 1 0 l with _|⟨c,r1⟩
 ·rw [h1] at h;cases h
 ·rw [h1] at h
  simp only [Option.map_some,Option.some.injEq,Prod.mk.injEq] at h
  obtain ⟨_,rfl⟩:=h
  exact ⟨fT h1,fS h1⟩
theorem Jn:lD []=none:=by unfold lD;rw [tQ];rfl
abbrev KGr (P bp bx gi:Nat) (cs0:Array Value) (w0:World) (acc:List Unit) (w:World):Prop:=KI P bp bx gi 5 cs0 74 136 66 1 w0 acc.length w
theorem Vk {P bp bx gi n c c5:Nat} {cs0 cs:Array Value} {w0 w w2 w5:World} {l r:List Tok} {A A5:Option Addr} {vs:List Value} {v:Value} {ob:Obj} (hi:KI P bp bx gi 5 cs0 74 136 66 1 w0 n w) (hp:PS w P l 0) (hb2:But P w w2) (hp2:PS w2 P r 0) (hP0:P<w0.heap.size) (hgi:w0.heap.size≤gi) (hne:gi≠bp) (hnx:gi≠bx)
 (k1:w2.heap[gi]? = some (.cells cs 136 (0,0))) (k2:w2.ownsRow w0.heap.size 66 1 (.slice A n c) n vs) (hat:AtK cs0 cs 5 (.slice A n c)) (hx5:w5.heap[gi]? = some (.cells cs 136 (0,0)))
 (ho5:w5.ownsRow w0.heap.size 66 1 (.slice A5 (n+1) c5) (n+1) (vs++[v])) (hb5:Below w0.heap.size (w2.alloc ob) w5) (hk5:gD (w2.alloc ob) w5 (Value.ownBlock (.slice A n c)) (Value.ownBlock (.slice A5 (n+1) c5))) :
 PS (w5.setCell ⟨gi,5,none⟩ (.slice A5 (n+1) c5)) P r 0∧KI P bp bx gi 5 cs0 74 136 66 1 w0 (n+1) (w5.setCell ⟨gi,5,none⟩ (.slice A5 (n+1) c5)) :=
 lX (hi.next hp hb2 (by decide) (by decide) (by decide)) hp2 hP0 hgi hne hnx ⟨⟨cs,k1,hat⟩,k2⟩ ⟨ob,ho5,⟨hb5.os,hb5.tape,hb5.output,hb5.size,hb5.block⟩,fun g o h hn=>hk5 g o h hn,cs,hx5,hat⟩ (by decide) (by decide) (by decide)
theorem Cv (P bp bx gi d0:Nat) (cs0:Array Value) (l0:List Tok) (w0:World) (hR0:Resv w0) (hp0:PS w0 P l0 d0) (hgi:w0.heap.size≤gi) (hne:gi≠bp) (hnx:gi≠bx) (acc:List Unit) (l:List Tok) (w:World) (hacc:acc.length≤100) (hi:KGr P bp bx gi cs0 w0 acc w) (hp:PS w P l 0) (hs:Lsane l) :
 Calls prog 128 #[.pointer (some ⟨bx,0,none⟩),.pointer (some ⟨bp,0,none⟩)] w (jK P (KGr P bp bx gi cs0 w0) (RJ P w0) acc (lD l)):=by
 obtain ⟨iE,hiE,hz0,hz1,hz2⟩:=info_parts wJ
 have HC:=κ ((gG P l.length 0 (by have:=hs.1;omega)).e w.drew l (ν _) hp hs (show Resv w.drew from hR0.but hp0 hi.but.drew))
 obtain ⟨A,c,vs,⟨cs,h1,h1c⟩,h2⟩:=hi.row
 have c0:w.cell? ⟨bx,0,none⟩=some (.pointer (some ⟨gi,0,none⟩)):=β hi.hbx 0
 have c1:w.cell? ⟨bp,0,none⟩=some (.pointer (some ⟨P,0,none⟩)):=β hi.hbp 0
 have c5:w.cell? ⟨gi,5,none⟩=some (.slice A acc.length c):=(β h1 5).trans h1c.1
 have hng:some gi≠Value.ownBlock (.slice A acc.length c):=cX h2 h1 (by decide)
 have hnb:some bx≠Value.ownBlock (.slice A acc.length c):=cX h2 hi.hbx (by decide)
 have HP:=κ (show PS w.drew P l 0 from hp)
 have HI:=κ (show KGr P bp bx gi cs0 w0 acc w.drew from ⟨hi.but.drew,hi.hbp,hi.hbx,A,c,vs,⟨cs,h1,h1c⟩,h2.drew⟩)
 have HR:=κ (show w.drew.heap[gi]? = some (.cells cs 136 (0,0))∧w.drew.ownsRow w0.heap.size 66 1 (.slice A acc.length c) acc.length vs∧AtK cs0 cs 5 (.slice A acc.length c)∧w.drew.heap[bx]? = some (.cells #[.pointer (some ⟨gi,0,none⟩)] 74 (0,0)) from ⟨h1,h2.drew,h1c,hi.hbx⟩)
 have H0:=κ (ι hp0.lt (ι hgi (ι hne hnx)))
 have hl1:=aL h1
 have hl2:=aL hi.hbx
 have hl3:=aL hi.hbp
 clear hp hs hi h1 h2 h1c hR0 hp0 hgi hne hnx
 go_enter func128,ntmps128
 generalize hq:pX 1 0 l=q at *
 rcases q with _|⟨x,r⟩
 ·have HC0:=κ (HC.out.mono (fun e w2 (hx:XPost P w.drew 0 none e w2)=>(show But P w.drew w2∧∃ c,e=aV c∧c≠0 from hx)))
  have HN:=κ (show lD l=none by rw [lD,hq];rfl)
  clear HC hq
  go_wp2_with fail
  refine wp_region_held_drew (S:=fun w'=>w'.cell? ⟨bx,0,none⟩=some (.pointer (some ⟨gi,0,none⟩))∧w'.cell? ⟨bp,0,none⟩=some (.pointer (some ⟨P,0,none⟩))∧w'.cell? ⟨gi,5,none⟩=some (.slice A acc.length c)) (by kernel_rfl) ⟨c0,c1,c5⟩ (fun hHeld => ?_)
  refine wpAnyH_take (i:=0) (v:=.pointer (some ⟨gi,0,none⟩)) rfl (by kernel_rfl) (by kernel_rfl) (by kernel_rfl) (fun _ _ _ h=>h) (Or.inl ⟨by rfl,fun w hSw=>by obtain ⟨s1,s2,s3⟩:=hSw;go_simp⟩) hHeld ?_
  refine wpAnyH_take (i:=1) (v:=.pointer (some ⟨gi,0,none⟩)) rfl (by kernel_rfl) (by kernel_rfl) (by kernel_rfl) (fun _ _ _ h=>h) (Or.inl ⟨by rfl,fun w hSw=>by obtain ⟨s1,s2,s3⟩:=hSw;go_simp⟩) hHeld ?_
  refine wpAnyH_take (i:=2) (v:=.pointer (some ⟨gi,0,none⟩)) rfl (by kernel_rfl) (by kernel_rfl) (by kernel_rfl) (fun _ _ _ h=>h) (Or.inl ⟨by rfl,fun w hSw=>by go_simp⟩) hHeld ?_
  refine wpAnyH_take (i:=3) (v:=.pointer (some ⟨gi,5,none⟩)) rfl (by kernel_rfl) (by kernel_rfl) (by kernel_rfl) (fun _ _ _ h=>h) (Or.inl ⟨by rfl,fun w hSw=>by go_simp⟩) hHeld ?_
  refine wpAnyH_take (i:=4) (v:=.slice A acc.length c) rfl (by kernel_rfl) (by kernel_rfl) (by kernel_rfl) (fun _ _ _ h=>h) (Or.inl ⟨by rfl,fun w hSw=>by obtain ⟨s1,s2,s3⟩:=hSw;go_simp⟩) hHeld ?_
  refine wpAnyH_take (i:=5) (v:=.pointer (some ⟨P,0,none⟩)) rfl (by kernel_rfl) (by kernel_rfl) (by kernel_rfl) (fun _ _ _ h=>h) (Or.inl ⟨by rfl,fun w hSw=>by obtain ⟨s1,s2,s3⟩:=hSw;go_simp⟩) hHeld ?_
  refine wpAnyH_ready (rs:=[6]) (by kernel_rfl) (by simp) ?_
  refine AllReadyH.cons rfl (fun K hK => ?_) AllReadyH.nil
  go_simp
  refine μ HC0 ?_
  rintro e w2 ⟨hb2,ce,rfl,hc⟩
  have HB:=κ (HI.out.but.trans hb2)
  clear hb2
  unfold aV
  go_wp2
  refine ⟨rfl, ?_⟩
  rw [HN.out]
  exact ⟨ce,rfl,hc,HB.out⟩
 ·have HC0:=κ (HC.out.mono (fun e w2 (hx:XPost P w.drew 0 (some (x,r)) e w2)=>(show But P w.drew w2∧∃ T g,e=.returned (.iface T (.pointer (some ⟨g,0,none⟩)))∧PS w2 P r 0 from ⟨hx.1,by obtain ⟨T,g,k1,_,k3⟩:=hx.2;exact ⟨T,g,k1,k3⟩⟩)))
  have HN:=κ (show lD l=some ((),r) by rw [lD,hq];rfl)
  clear HC hq
  go_wp2_with fail
  go_region_law (first
   | (go_simp;go_at_call 124;refine μ HC0 ?_;rintro e w2 ⟨hb2,T,g,rfl,hp2⟩;have k1:=aI HR.out.1 hb2 HP.out (by decide);have k2:=kV HR.out.2.1 hb2 HP.out (by decide);have k3:=aI HR.out.2.2.2 hb2 HP.out (by decide);have k4:=aI HI.out.hbp hb2 HP.out (by decide);have d0:w2.cell? ⟨gi,5,none⟩=some (.slice A acc.length c):=(β k1 5).trans HR.out.2.2.1.1;have d1:∀ o,(w2.alloc o).cell? ⟨gi,5,none⟩=some (.slice A acc.length c):=fun o=>(β (aC k1 o) 5).trans HR.out.2.2.1.1;have d2:w2.cell? ⟨bx,0,none⟩=some (.pointer (some ⟨gi,0,none⟩)):=β k3 0;have d3:∀ o,(w2.alloc o).cell? ⟨bx,0,none⟩=some (.pointer (some ⟨gi,0,none⟩)):=fun o=>β (aC k3 o) 0;have hsz:=Nat.le_trans HI.out.but.size hb2.size)
   | (refine eC _ rfl (.tmp 6) (.tmp 9) _ rfl w0.heap.size 66 iE _ 1 16 underlying45 hiE hz0 hz1 hz2 rfl (by omega) A acc.length c vs rfl ?_ _ 1 1 [.iface T (.pointer (some ⟨g,0,none⟩))] rfl rfl ?_ ?_ ?_ ?_ ?_ ?_
      ·exact k2.alloc _
      ·exact bD [.iface T (.pointer (some ⟨g,0,none⟩))] (heap_alloc_new _ _)
      ·simp [Value.oneCell']
      ·simp only [maxLen];omega
      ·omega
      ·rw [World.size_alloc];omega
      intro A5 c5' w5 ho5 hb5 hg5 hk5
      have hx5:=(hk5 _ _ (aC k1 _) hng).1
      have hx6:=(hk5 _ _ (aC k3 _) hnb).1
      have d5:w5.cell? ⟨gi,5,none⟩=some (.slice A acc.length c):=(β hx5 5).trans HR.out.2.2.1.1
      have d6:w5.cell? ⟨bx,0,none⟩=some (.pointer (some ⟨gi,0,none⟩)):=β hx6 0
      have f5:=fun j=>frozen_of_row w5 gi j _ _ hx5)
   | fail)
  all_goals
   have hw5:=Vk HI.out HP.out hb2 hp2 H0.out.1 H0.out.2.1 H0.out.2.2.1 H0.out.2.2.2 k1 k2 HR.out.2.2.1 hx5 ho5 hb5 hk5
   clear HR HI HP HC0 hp2 hx5 hx6 ho5 hb5 hg5 hk5 k1 k2 k3 k4 hb2
   go_wp2
   go_end0
   rw [HN.out]
   refine ⟨rfl,hw5.1, ?_⟩
   unfold KGr
   rw [List.length_append]
   exact hw5.2
