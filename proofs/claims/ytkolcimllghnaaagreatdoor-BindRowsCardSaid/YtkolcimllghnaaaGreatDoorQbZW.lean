/-
 Contracts. Conditions: those of each.
-/
import Derived.Test.YtkolcimllghnaaaGreatDoorQbWeak1
set_option maxRecDepth 100000
set_option maxHeartbeats 20000000
namespace Go.Proofs.YtkolcimllghnaaaGreatDoor
open Lp Go.Proofs.Tryz
open Go.RowKit
theorem qS {P bp bx gi gs j k size n c:Nat} {cs0:Array Value} {tx t e:TypeId} {w0 w:World} {A:Option Addr} {vs:List Value} {cs:Array Value} (hi:KI P bp bx gi k cs0 tx t e size w0 n w) (h:KE gi k cs0 t e size w0.heap.size n A c vs w) (hg:w0.heap.size≤gs) (hgs:w.heap[gs]? = some (.cells cs e (0,0)))
 (hn:some gs≠Value.ownBlock (.slice A n c)) (h1:e≠98) (h2:e≠tx) (h3:e≠t) (v:Value):KI P bp bx gi k cs0 tx t e size w0 n (w.setCell ⟨gs,j,none⟩ v)∧KE gi k cs0 t e size w0.heap.size n A c vs (w.setCell ⟨gs,j,none⟩ v):=by
 have ne:∀ (g:Nat) (cs':Array Value) (ty:TypeId),w.heap[g]? = some (.cells cs' ty (0,0))→e≠ty→g≠gs:=by
  rintro g cs' ty h1 h2 rfl
  rw [hgs] at h1
  injection h1 with h1
  injection h1 with _ h1
  exact h2 h1
 obtain ⟨⟨cg,k1,k2⟩,k3⟩:=h
 have hk:KE gi k cs0 t e size w0.heap.size n A c vs (w.setCell ⟨gs,j,none⟩ v):=⟨⟨cg,gX k1 (ne _ _ _ k1 h3) v,k2⟩,Bk k3 hn⟩
 exact ⟨⟨hi.but.setNew hg v,gX hi.hbp (ne _ _ _ hi.hbp h1) v,gX hi.hbx (ne _ _ _ hi.hbx h2) v,A,c,vs,hk⟩,hk⟩
def Xt:List UInt8:=[105,110,116]
def Lh:List UInt8:=[116,101,120,116]
def Ga:List UInt8:=[98,111,111,108]
def nI (l:List Tok):Option (Unit×List Tok):=match aZ l with
 | none=>none
 | some (_,r)=>if isF Xt r then some ((),r.tail) else if isF Lh r then some ((),r.tail) else (aE Ga r).map fun r2=>((),r2)
theorem xR {s:List UInt8} {r:List Tok} (h:isF s r=true):r.tail.length<r.length:=by have:=bB h;omega
theorem Co:wD nI:=by
 intro l x r h
 unfold nI at h
 rcases h1:aZ l with _|⟨c,r1⟩
 ·rw [h1] at h;cases h
 ·rw [h1] at h
  simp only at h
  have b1:=bU h1
  have b0:=b1.length_le
  cases h2:isF Xt r1
  ·rw [h2] at h
   cases h3:isF Lh r1
   ·rw [h3] at h
    rcases h4:aE Ga r1 with _|r2
    ·rw [h4] at h;cases h
    ·rw [h4] at h
     simp only [φ,if_false,Option.map_some,Option.some.injEq,Prod.mk.injEq] at h
     obtain ⟨_,rfl⟩:=h
     have b2:=aR h4
     have b3:r2.length<r1.length:=by
      unfold aE at h4
      split at h4
      ·rename_i hf
       injection h4 with h4
       rw [←h4];exact xR hf
      ·cases h4
     exact ⟨by omega,b2.trans b1⟩
   ·rw [h3] at h
    simp only [φ,if_false,if_true,Option.some.injEq,Prod.mk.injEq] at h
    obtain ⟨_,rfl⟩:=h
    have:=xR h3
    exact ⟨by omega,(bL r1).trans b1⟩
  ·rw [h2] at h
   simp only [if_true,Option.some.injEq,Prod.mk.injEq] at h
   obtain ⟨_,rfl⟩:=h
   have:=xR h2
   exact ⟨by omega,(bL r1).trans b1⟩
theorem Vx:nI []=none:=rfl
abbrev KC (P bp bx gi:Nat) (cs0:Array Value) (w0:World) (acc:List Unit) (w:World):Prop:=KI P bp bx gi 1 cs0 231 232 116 2 w0 acc.length w
theorem Cr (P bp bx gi d0:Nat) (cs0:Array Value) (l0:List Tok) (w0:World) (hR0:Resv w0) (hp0:PS w0 P l0 d0) (hgi:w0.heap.size≤gi) (hne:gi≠bp) (hnx:gi≠bx) (acc:List Unit) (l:List Tok) (w:World) (hacc:acc.length≤100) (hi:KC P bp bx gi cs0 w0 acc w) (hp:PS w P l 0) (hs:Lsane l) :
 Calls prog 121 #[.pointer (some ⟨bp,0,none⟩),.pointer (some ⟨bx,0,none⟩)] w (jK P (KC P bp bx gi cs0 w0) (RJ P w0) acc (nI l)):=by
 have HNm:=κ (dU P 0 l w hp (hR0.but hp0 hi.but))
 obtain ⟨A,c,vs,hke⟩:=hi.row
 have hrl:=hke.2.lt
 have HU:=κ (ι hke hrl)
 have HI:=κ (ι hi (ι hp hs))
 have H0:=κ (ι hR0 (ι hp0 (ι hgi (ι hne hnx))))
 have cb:=β hi.hbp 0
 clear hi hp hs hR0 hp0 hgi hne hnx hke hrl
 go_enter func121,ntmps121
 go_wp2_with fail
 refine μ HNm ?_
 rintro e w1 ⟨hb1,hq1⟩
 rcases hq:aZ l with _|⟨cn,r1⟩
 ·rw [hq] at hq1
  obtain ⟨ce,rfl,hce⟩:=hq1
  have HN:=κ (show nI l=none by rw [nI,hq])
  have HB:=κ (ι hce (HI.out.1.but.trans hb1))
  clear hq hb1 HNm
  unfold aV
  go_wp2
  refine ⟨rfl, ?_⟩
  rw [HN.out]
  exact ⟨ce,rfl,HB.out.1,HB.out.2⟩
 ·rw [hq] at hq1
  obtain ⟨rfl,hp1⟩:=hq1
  have hbA:Below w1.heap.size w1 (w1.alloc (.cells #[.string ⟨cn.toArray⟩,.int .u8 0] 116)):=ρ
  have hxA:=heap_alloc_new w1 (.cells #[.string ⟨cn.toArray⟩,.int .u8 0] 116)
  have hi1:=(HI.out.1.next HI.out.2.1 hb1 (by decide) (by decide) (by decide)).next hp1 (But.of hbA) (by decide) (by decide) (by decide)
  have hkeA:=(HU.out.1.next HI.out.2.1 hb1 (by decide) (by decide)).next hp1 (But.of hbA) (by decide) (by decide)
  have hgs:some w1.heap.size≠Value.ownBlock (.slice A acc.length c):=fun e=>by have:=(HU.out.2 _ e.symm).2;have:=hb1.size;omega
  have HV:=κ (ι hgs (ι (Nat.le_trans HI.out.1.but.size hb1.size) hp1.lt))
  have cbA:=β hi1.hbp 0
  have H1:=κ (ι hi1 (ι (hp1.below hbA) (ι hxA (ι hkeA hq))))
  clear hq hb1 hp1 hbA hxA hi1 hkeA hgs HNm cb HI HU
  cases hf:isF Xt r1
  ·have HI1:=κ (bM P 0 r1 ⟨#[105,110,116]⟩ _ H1.out.2.1 false hf)
   go_wp2_with fail
   refine μ HI1 ?_
   rintro e w2 ⟨rfl,hb2,hp2⟩
   simp only [φ,if_false] at hp2
   have hi2:=H1.out.1.next H1.out.2.1 hb2 (by decide) (by decide) (by decide)
   have hke2:=H1.out.2.2.2.1.next H1.out.2.1 hb2 (by decide) (by decide)
   have hx2:=aI H1.out.2.2.1 hb2 H1.out.2.1 (by decide)
   have cb2:=β hi2.hbp 0
   have H2:=κ (ι hi2 (ι hp2 (ι hx2 (ι hke2 hf))))
   clear hb2 hp2 hi2 hke2 hx2 HI1 cbA hf
   cases hf:isF Lh r1
   ·have HI2:=κ (bM P 0 r1 ⟨#[116,101,120,116]⟩ _ H2.out.2.1 false hf)
    go_wp2_with fail
    refine μ HI2 ?_
    rintro e w3 ⟨rfl,hb3,hp3⟩
    simp only [φ,if_false] at hp3
    have hi3:=H2.out.1.next H2.out.2.1 hb3 (by decide) (by decide) (by decide)
    have hke3:=H2.out.2.2.2.1.next H2.out.2.1 hb3 (by decide) (by decide)
    have hx3:=aI H2.out.2.2.1 hb3 H2.out.2.1 (by decide)
    have cb3:=β hi3.hbp 0
    have HNe:=κ (bQ P 0 Ga r1 w3 hp3)
    have H3:=κ (ι hi3 (ι hp3 (ι hx3 (ι hke3 hf))))
    clear hb3 hp3 hi3 hke3 hx3 HI2 cb2 hf
    go_wp2_with fail
    refine μ HNe ?_
    rintro e w4 hn
    rcases hq4:aE Ga r1 with _|r2
    ·obtain ⟨rfl,hb4⟩:=hn.no hq4
     have HN:=κ (show nI l=none by rw [nI,H1.out.2.2.2.2];simp only [H2.out.2.2.2.2,H3.out.2.2.2.2,hq4];rfl)
     have HB:=κ (H3.out.1.but.trans hb4)
     clear hq4 hn HNe hb4
     unfold aV
     go_wp2
     refine ⟨rfl, ?_⟩
     rw [HN.out]
     exact ⟨4,rfl,by decide,HB.out⟩
    ·obtain ⟨rfl,hb4,hp4⟩:=hn.yes hq4
     have HN:=κ (show nI l=some ((),r2) by rw [nI,H1.out.2.2.2.2];simp only [H2.out.2.2.2.2,H3.out.2.2.2.2,hq4];rfl)
     have hi4:=H3.out.1.next H3.out.2.1 hb4 (by decide) (by decide) (by decide)
     have hke4:=H3.out.2.2.2.1.next H3.out.2.1 hb4 (by decide) (by decide)
     have hx5:=aI H3.out.2.2.1 hb4 H3.out.2.1 (by decide)
     have hs4:=qS (j:=1) hi4 hke4 HV.out.2.1 hx5 HV.out.1 (by decide) (by decide) (by decide) (.int .u8 3)
     have hx4:(w4.setCell ⟨w1.heap.size,1,none⟩ (.int .u8 3)).heap[w1.heap.size]? = some (.cells #[.string ⟨cn.toArray⟩,.int .u8 3] 116 (0,0)):=by
      have:=heap_setCell_same w4 w1.heap.size 1 _ _ (.int .u8 3) hx5
      simpa using this
     have HK:=κ (ι hs4.1 (ι hs4.2 (ι (hp4.setNew (o:=1) HV.out.2.2 (.int .u8 3)) hx4)))
     have c3:=β hx5 1
     have f3:=fun j=>frozen_of_row w4 w1.heap.size j _ _ hx5
     clear hs4 hx4
     clear hq4 hn HNe hb4 hp4 hi4 hke4 hx5 cb3
     go_upto_region 7 with fail
     refine zI (B:=w0.heap.size) (bx:=bx) (gi:=gi) (gs:=w1.heap.size) (n:=acc.length) (A:=A) (vs:=vs) (s1:=⟨cn.toArray⟩) (k1:=3) (w:=_) (hbx:=HK.out.1.hbx) (hgs:=HK.out.2.2.2) (hke:=HK.out.2.1) (hB:=HK.out.1.but.size) (hn:=hacc) (h := ?_) _ _ _ _ _ _ _ _ _ _ _ _ _ _ _ _ _ _ _ _ _ _ _ _ _ _ _ _ _
     intro _ _ _ _ _ _ _ _ _ _ A5 c5 w5 hap
     have hE:=lX HK.out.1 HK.out.2.2.1 H0.out.2.1.lt H0.out.2.2.1 H0.out.2.2.2.1 H0.out.2.2.2.2 HK.out.2.1 hap (by decide) (by decide) (by decide)
     have HE:=κ hE
     clear hap HK hE
     go_wp2
     go_end0
     rw [HN.out]
     refine ⟨rfl,HE.out.1, ?_⟩
     unfold KC
     rw [List.length_append]
     exact HE.out.2
   ·have HI2:=κ (bM P 0 r1 ⟨#[116,101,120,116]⟩ _ H2.out.2.1 true hf)
    have HN:=κ (show nI l=some ((),r1.tail) by rw [nI,H1.out.2.2.2.2];simp only [H2.out.2.2.2.2,hf];rfl)
    go_wp2_with fail
    refine μ HI2 ?_
    rintro e w3 ⟨rfl,hb3,hp3⟩
    simp only [if_true] at hp3
    have hi3:=H2.out.1.next H2.out.2.1 hb3 (by decide) (by decide) (by decide)
    have hke3:=H2.out.2.2.2.1.next H2.out.2.1 hb3 (by decide) (by decide)
    have hx3:=aI H2.out.2.2.1 hb3 H2.out.2.1 (by decide)
    have hs4:=qS (j:=1) hi3 hke3 HV.out.2.1 hx3 HV.out.1 (by decide) (by decide) (by decide) (.int .u8 2)
    have hx4:(w3.setCell ⟨w1.heap.size,1,none⟩ (.int .u8 2)).heap[w1.heap.size]? = some (.cells #[.string ⟨cn.toArray⟩,.int .u8 2] 116 (0,0)):=by
     have:=heap_setCell_same w3 w1.heap.size 1 _ _ (.int .u8 2) hx3
     simpa using this
    have HK:=κ (ι hs4.1 (ι hs4.2 (ι (hp3.setNew (o:=1) HV.out.2.2 (.int .u8 2)) hx4)))
    have c3:=β hx3 1
    have f3:=fun j=>frozen_of_row w3 w1.heap.size j _ _ hx3
    clear hs4 hx4
    clear hb3 hp3 hi3 hke3 hx3 HI2 cb2 hf
    go_upto_region 7 with fail
    refine zI (B:=w0.heap.size) (bx:=bx) (gi:=gi) (gs:=w1.heap.size) (n:=acc.length) (A:=A) (vs:=vs) (s1:=⟨cn.toArray⟩) (k1:=2) (w:=_) (hbx:=HK.out.1.hbx) (hgs:=HK.out.2.2.2) (hke:=HK.out.2.1) (hB:=HK.out.1.but.size) (hn:=hacc) (h := ?_) _ _ _ _ _ _ _ _ _ _ _ _ _ _ _ _ _ _ _ _ _ _ _ _ _ _ _ _ _
    intro _ _ _ _ _ _ _ _ _ _ A5 c5 w5 hap
    have hE:=lX HK.out.1 HK.out.2.2.1 H0.out.2.1.lt H0.out.2.2.1 H0.out.2.2.2.1 H0.out.2.2.2.2 HK.out.2.1 hap (by decide) (by decide) (by decide)
    have HE:=κ hE
    clear hap HK hE
    go_wp2
    go_end0
    rw [HN.out]
    refine ⟨rfl,HE.out.1, ?_⟩
    unfold KC
    rw [List.length_append]
    exact HE.out.2
  ·have HI1:=κ (bM P 0 r1 ⟨#[105,110,116]⟩ _ H1.out.2.1 true hf)
   have HN:=κ (show nI l=some ((),r1.tail) by rw [nI,H1.out.2.2.2.2];simp only [hf];rfl)
   go_wp2_with fail
   refine μ HI1 ?_
   rintro e w2 ⟨rfl,hb2,hp2⟩
   simp only [if_true] at hp2
   have hi2:=H1.out.1.next H1.out.2.1 hb2 (by decide) (by decide) (by decide)
   have hke2:=H1.out.2.2.2.1.next H1.out.2.1 hb2 (by decide) (by decide)
   have hx2:=aI H1.out.2.2.1 hb2 H1.out.2.1 (by decide)
   have hs4:=qS (j:=1) hi2 hke2 HV.out.2.1 hx2 HV.out.1 (by decide) (by decide) (by decide) (.int .u8 1)
   have hx4:(w2.setCell ⟨w1.heap.size,1,none⟩ (.int .u8 1)).heap[w1.heap.size]? = some (.cells #[.string ⟨cn.toArray⟩,.int .u8 1] 116 (0,0)):=by
    have:=heap_setCell_same w2 w1.heap.size 1 _ _ (.int .u8 1) hx2
    simpa using this
   have HK:=κ (ι hs4.1 (ι hs4.2 (ι (hp2.setNew (o:=1) HV.out.2.2 (.int .u8 1)) hx4)))
   have c3:=β hx2 1
   have f3:=fun j=>frozen_of_row w2 w1.heap.size j _ _ hx2
   clear hs4 hx4
   clear hb2 hp2 hi2 hke2 hx2 HI1 cbA hf
   go_upto_region 7 with fail
   refine zI (B:=w0.heap.size) (bx:=bx) (gi:=gi) (gs:=w1.heap.size) (n:=acc.length) (A:=A) (vs:=vs) (s1:=⟨cn.toArray⟩) (k1:=1) (w:=_) (hbx:=HK.out.1.hbx) (hgs:=HK.out.2.2.2) (hke:=HK.out.2.1) (hB:=HK.out.1.but.size) (hn:=hacc) (h := ?_) _ _ _ _ _ _ _ _ _ _ _ _ _ _ _ _ _ _ _ _ _ _ _ _ _ _ _ _ _
   intro _ _ _ _ _ _ _ _ _ _ A5 c5 w5 hap
   have hE:=lX HK.out.1 HK.out.2.2.1 H0.out.2.1.lt H0.out.2.2.1 H0.out.2.2.2.1 H0.out.2.2.2.2 HK.out.2.1 hap (by decide) (by decide) (by decide)
   have HE:=κ hE
   clear hap HK hE
   go_wp2
   go_end0
   rw [HN.out]
   refine ⟨rfl,HE.out.1, ?_⟩
   unfold KC
   rw [List.length_append]
   exact HE.out.2
def nM (T:TypeId):Bool:=T==231||T==228||T==237||T==234||T==213||T==74||T==163||T==166||T==169
def WkPost (P:Nat) (w:World) (e:Ending) (w':World):Prop :=
 But P w w'∧((∃ c,e=aV c∧c≠0)∨∃ T g r,e=.returned (.iface T (.pointer (some ⟨g,0,none⟩)))∧nM T=true∧PS w' P r 0∧Lsane r)
theorem WkPost.stop {P:Nat} {w w':World} {c:Int} (hb:But P w w') (hc:c≠0):WkPost P w (aV c) w':=⟨hb,.inl ⟨c,rfl,hc⟩⟩
theorem WkPost.ok {P g:Nat} {w w':World} {T:TypeId} {r:List Tok} (hb:But P w w') (hT:nM T=true) (hp:PS w' P r 0) (hs:Lsane r):WkPost P w (.returned (.iface T (.pointer (some ⟨g,0,none⟩)))) w':=⟨hb,.inr ⟨T,g,r,rfl,hT,hp,hs⟩⟩
def xJ:List UInt8:=[105,110,100,101,120]
def xH:List UInt8:=[116,97,98,108,101]
theorem Qz (P:Nat) (l:List Tok) (w:World) (h:PS w P l 0) (hs:Lsane l) (hR:Resv w) :
 Calls prog 65 #[.pointer (some ⟨P,0,none⟩)] w (WkPost P w):=by
 have HI:=κ (fun b (hb:isF xJ l=b)=>bM P 0 l ⟨#[105,110,100,101,120]⟩ w h b hb)
 have H0:=κ (ι h (ι hs hR))
 clear h hs hR
 go_enter func65,ntmps65
 cases hf:isF xJ l
 ·have HI1:=κ (HI.out false hf)
  clear HI hf
  go_wp2_with fail
  refine μ HI1 ?_
  rintro e w1 ⟨rfl,hb1,hp1⟩
  simp only [φ,if_false] at hp1
  have HNe:=κ (bQ P 0 xH l w1 hp1)
  have H1:=κ (ι hb1 hp1)
  clear hb1 hp1 HI1
  go_wp2_with fail
  refine μ HNe ?_
  rintro e w2 hn
  rcases hq:aE xH l with _|r
  ·obtain ⟨rfl,hb2⟩:=hn.no hq
   have HB:=κ (H1.out.1.trans hb2)
   clear hn hq hb2 HNe
   unfold aV
   go_wp2
   exact ⟨rfl,WkPost.stop HB.out (by decide)⟩
  ·obtain ⟨rfl,hb2,hp2⟩:=hn.yes hq
   have hB:=H1.out.1.trans hb2
   have HNm:=κ (dU P 0 r w2 hp2 (H0.out.2.2.but H0.out.1 hB))
   have H2:=κ (ι hB (H0.out.2.1.sfx (aR hq)))
   clear hn hq hb2 hp2 hB HNe
   go_wp2_with fail
   refine μ HNm ?_
   rintro e w3 ⟨hb3,hq3⟩
   rcases hq:aZ r with _|⟨t,r3⟩
   ·rw [hq] at hq3
    obtain ⟨ce,rfl,hce⟩:=hq3
    have HB:=κ (H2.out.1.trans hb3)
    clear hq hb3 HNm
    unfold aV
    go_wp2
    exact ⟨rfl,WkPost.stop HB.out hce⟩
   ·rw [hq] at hq3
    obtain ⟨rfl,hp3⟩:=hq3
    have hbA:Below w3.heap.size w3 (w3.alloc (.cells #[.string ⟨t.toArray⟩] 238)):=ρ
    have HB:=κ (ι ((H2.out.1.trans hb3).trans (But.of hbA)) (ι (hp3.below hbA) (H2.out.2.sfx (bU hq))))
    clear hq hb3 hp3 hbA HNm
    go_wp2
    go_ret
    exact WkPost.ok HB.out.1 (by decide) HB.out.2.1 HB.out.2.2
 ·have HI1:=κ (HI.out true hf)
  clear HI hf
  go_wp2_with fail
  refine μ HI1 ?_
  rintro e w1 ⟨rfl,hb1,hp1⟩
  simp only [if_true] at hp1
  have HNm:=κ (dU P 0 l.tail w1 hp1 (H0.out.2.2.but H0.out.1 hb1))
  have H1:=κ (ι hb1 (ι hp1 H0.out.2.1.tl))
  clear hb1 hp1 HI1
  go_wp2_with fail
  refine μ HNm ?_
  rintro e w3 ⟨hb3,hq3⟩
  rcases hq:aZ l.tail with _|⟨t,r3⟩
  ·rw [hq] at hq3
   obtain ⟨ce,rfl,hce⟩:=hq3
   have HB:=κ (H1.out.1.trans hb3)
   clear hq hb3 HNm
   unfold aV
   go_wp2
   exact ⟨rfl,WkPost.stop HB.out hce⟩
  ·rw [hq] at hq3
   obtain ⟨rfl,hp3⟩:=hq3
   have hbA:Below w3.heap.size w3 (w3.alloc (.cells #[.string ⟨t.toArray⟩] 236)):=ρ
   have HB:=κ (ι ((H1.out.1.trans hb3).trans (But.of hbA)) (ι (hp3.below hbA) (H1.out.2.2.sfx (bU hq))))
   clear hq hb3 hp3 hbA HNm
   go_wp2
   go_ret
   exact WkPost.ok HB.out.1 (by decide) HB.out.2.1 HB.out.2.2
def wOn:List UInt8:=[111,110]
theorem Ff:∀ args w,Sem.run prog (callFunc 121 args) w=.ok (.enter 121 args) w:=fun _ _=>rfl
theorem Jv (P bp bx gi:Nat) (cs0:Array Value) (l0 l:List Tok) (w0 w:World) (hR0:Resv w0) (hp0:PS w0 P l0 0) (hgi:w0.heap.size≤gi) (hne:gi≠bp) (hnx:gi≠bx) (hi:KC P bp bx gi cs0 w0 [] w) (hp:PS w P l 0) (hs:Lsane l) :
 Calls prog 120 #[.pointer (some ⟨P,0,none⟩),.int .i64 8,.func (.func 121) #[] #[.pointer (some ⟨bp,0,none⟩),.pointer (some ⟨bx,0,none⟩)]]
  w (EachPost P (KC P bp bx gi cs0 w0) (RJ P w0) (cN nI 8 l)) :=
 kK nI Co Vx 8 (by omega) (by omega) _ Ff #[.pointer (some ⟨bp,0,none⟩),.pointer (some ⟨bx,0,none⟩)] P (KC P bp bx gi cs0 w0) (RJ P w0) (fun _ _ h=>h.but) (fun _ _ h k=>But.trans h k) (fun _ _ _ _ h hp hb=>h.next hp hb (by decide) (by decide) (by decide))
  (fun acc l' w' ha hi hp' hs'=>Cr P bp bx gi 0 cs0 l0 w0 hR0 hp0 hgi hne hnx acc l' w' (Nat.le_trans ha (by omega)) hi hp' hs') l w hi hp hs
structure CS (P bp gi:Nat) (w0:World) (r:List Tok) (w:World):Prop where
 but:But P w0 w
 hbp:w.heap[bp]? = some (.cells #[.pointer (some ⟨P,0,none⟩)] 98 (0,0))
 ix:∃ a b c:ByteArray,w.heap[gi]? = some (.cells #[.string a,.string b,.string c] 230 (0,0))
 ps:PS w P r 0
 sane:Lsane r
theorem CS.next {P bp gi:Nat} {w0 w w':World} {r r':List Tok} (h:CS P bp gi w0 r w) (hb:But P w w') (hp:PS w' P r' 0) (hr:r' <:+ r):CS P bp gi w0 r' w':=by
 obtain ⟨a,b,c,hx⟩:=h.ix
 exact ⟨h.but.trans hb,aI h.hbp hb h.ps (by decide),⟨a,b,c,aI hx hb h.ps (by decide)⟩,hp,h.sane.sfx hr⟩
theorem CS.set1 {P bp gi:Nat} {w0 w:World} {r:List Tok} (h:CS P bp gi w0 r w) (hP:P<gi) (hgi:w0.heap.size≤gi) (hne:gi≠bp) (s:ByteArray):CS P bp gi w0 r (w.setCell ⟨gi,1,none⟩ (.string s)):=by
 obtain ⟨a,b,c,hx⟩:=h.ix
 have h1:=heap_setCell_same w gi 1 _ _ (.string s) hx
 exact ⟨h.but.setNew hgi _,gX h.hbp (fun e=>hne e.symm) _,⟨a,s,c,by simpa using h1⟩,h.ps.setNew hP _,h.sane⟩
theorem CS.set2 {P bp gi:Nat} {w0 w:World} {r:List Tok} (h:CS P bp gi w0 r w) (hP:P<gi) (hgi:w0.heap.size≤gi) (hne:gi≠bp) (s:ByteArray):CS P bp gi w0 r (w.setCell ⟨gi,2,none⟩ (.string s)):=by
 obtain ⟨a,b,c,hx⟩:=h.ix
 have h1:=heap_setCell_same w gi 2 _ _ (.string s) hx
 exact ⟨h.but.setNew hgi _,gX h.hbp (fun e=>hne e.symm) _,⟨a,b,s,by simpa using h1⟩,h.ps.setNew hP _,h.sane⟩
theorem Fj (P:Nat) (l:List Tok) (w:World) (h:PS w P l 0) (hs:Lsane l) (hR:Resv w) :
 Calls prog 64 #[.pointer (some ⟨P,0,none⟩)] w (WkPost P w):=by
 have hb0:Below w.heap.size w (w.alloc (.cells #[.pointer (some ⟨P,0,none⟩)] 98)):=ρ
 have hx0:=heap_alloc_new w (.cells #[.pointer (some ⟨P,0,none⟩)] 98)
 have HI:=κ (fun b (hb:isF xJ l=b)=>bM P 0 l ⟨#[105,110,100,101,120]⟩ _ (h.below hb0) b hb)
 have H0:=κ (ι h (ι hs (ι hR (ι (But.of (P:=P) hb0) (ι hx0 (h.below hb0))))))
 clear h hs hR hb0 hx0
 go_enter func64,ntmps64
 cases hf:isF xJ l
 ·have HI1:=κ (HI.out false hf)
  clear HI hf
  go_wp2_with fail
  refine μ HI1 ?_
  rintro e w1 ⟨rfl,hb1,hp1⟩
  simp only [φ,if_false] at hp1
  have HNe:=κ (bQ P 0 xH l w1 hp1)
  have hx1:=aI H0.out.2.2.2.2.1 hb1 H0.out.2.2.2.2.2 (by decide)
  have c1:=β hx1 0
  have H1:=κ (ι (H0.out.2.2.2.1.trans hb1) (ι hp1 hx1))
  clear hb1 hp1 HI1 hx1
  go_wp2_with fail
  refine μ HNe ?_
  rintro e w2 hn
  rcases hq:aE xH l with _|r
  ·obtain ⟨rfl,hb2⟩:=hn.no hq
   have HB:=κ (H1.out.1.trans hb2)
   clear hn hq hb2 HNe
   unfold aV
   go_wp2
   exact ⟨rfl,WkPost.stop HB.out (by decide)⟩
  ·obtain ⟨rfl,hb2,hp2⟩:=hn.yes hq
   have hB:=H1.out.1.trans hb2
   have hx2:=aI H1.out.2.2 hb2 H1.out.2.1 (by decide)
   have c2:=β hx2 0
   have HNm:=κ (dU P 0 r w2 hp2 (H0.out.2.2.1.but H0.out.1 hB))
   have H2:=κ (ι hB (ι (H0.out.2.1.sfx (aR hq)) (ι hx2 hp2)))
   clear hn hq hb2 hp2 hB HNe c1 hx2
   go_wp2_with fail
   refine μ HNm ?_
   rintro e w3 ⟨hb3,hq3⟩
   rcases hq:aZ r with _|⟨t,r3⟩
   ·rw [hq] at hq3
    obtain ⟨ce,rfl,hce⟩:=hq3
    have HB:=κ (H2.out.1.trans hb3)
    clear hq hb3 HNm
    unfold aV
    go_wp2
    exact ⟨rfl,WkPost.stop HB.out hce⟩
   ·rw [hq] at hq3
    obtain ⟨rfl,hp3⟩:=hq3
    have hx3:=aI H2.out.2.2.1 hb3 H2.out.2.2.2 (by decide)
    have hbA:Below w3.heap.size w3 ((w3.alloc (.cells #[.string ⟨t.toArray⟩,.slice none 0 0] 232)).alloc (.cells #[.pointer (some ⟨w3.heap.size,0,none⟩)] 231)):=(ρ).alloc (by simp) _
    have hg4:=aC (heap_alloc_new w3 (.cells #[.string ⟨t.toArray⟩,.slice none 0 0] 232)) (.cells #[.pointer (some ⟨w3.heap.size,0,none⟩)] 231)
    have hv4:=bN w3 (.cells #[.string ⟨t.toArray⟩,.slice none 0 0] 232) (.cells #[.pointer (some ⟨w3.heap.size,0,none⟩)] 231)
    have hx4:=aA hx3 hbA
    have c4:=β hx4 0
    have HN4:=κ (bQ P 0 lF r3 _ (hp3.below hbA))
    have hlt:=aL hx3
    have H3:=κ (ι ((H2.out.1.trans hb3).trans (But.of hbA)) (ι (hp3.below hbA) (ι (H2.out.2.1.sfx (bU hq)) (ι hg4 (ι hv4 (ι hx4 (ι (H2.out.1.trans hb3).size hlt)))))))
    clear hq hb3 hp3 hbA HNm hx3 hg4 hv4 hx4 c2 hlt
    rw [World.size_alloc,World.size_alloc] at HN4
    go_wp2_with fail
    refine μ HN4 ?_
    rintro e w5 hn
    rcases hq:aE lF r3 with _|r5
    ·obtain ⟨rfl,hb5⟩:=hn.no hq
     have HB:=κ (H3.out.1.trans hb5)
     clear hn hq hb5 HN4
     unfold aV
     go_wp2
     exact ⟨rfl,WkPost.stop HB.out (by decide)⟩
    ·obtain ⟨rfl,hb5,hp5⟩:=hn.yes hq
     have hbp5:=aI H3.out.2.2.2.2.2.1 hb5 H3.out.2.1 (by decide)
     have hi5:KC P w.heap.size (w3.heap.size+1) w3.heap.size #[.string ⟨t.toArray⟩,.slice none 0 0] w [] w5:=⟨H3.out.1.trans hb5,hbp5,aI H3.out.2.2.2.2.1 hb5 H3.out.2.1 (by decide),none,0,[],⟨_,aI H3.out.2.2.2.1 hb5 H3.out.2.1 (by decide),rfl,rfl,fun _ _=>rfl⟩,World.ownsRow_nil _ _ _ _⟩
     have hs5:=H3.out.2.2.1.sfx (aR hq)
     have HE:=κ (Jv P w.heap.size (w3.heap.size+1) w3.heap.size _ l r5 w w5 H0.out.2.2.1 H0.out.1 H3.out.2.2.2.2.2.2.1 (Nat.ne_of_gt H3.out.2.2.2.2.2.2.2) (by omega) hi5 hp5 hs5)
     have c5:=β hbp5 0
     have HS5:=κ hs5
     clear hn hq hb5 hp5 hbp5 hi5 hs5 HN4 c4
     go_wp2_with fail
     refine μ HE ?_
     rintro e w6 hn
     rcases hq6:cN nI 8 r5 with _|⟨cols,r6⟩
     ·rw [hq6] at hn
      obtain ⟨ce,rfl,hc,hj⟩:=hn
      have HB:=κ (ι hc hj)
      clear hq6 hc hj HE
      unfold aV
      go_wp2
      exact ⟨rfl,WkPost.stop HB.out.2 HB.out.1⟩
     ·rw [hq6] at hn
      obtain ⟨rfl,hp6,hi6⟩:=hn
      have HN6:=κ (bQ P 0 oD r6 w6 hp6)
      have c6:=β hi6.hbp 0
      have H6:=κ (ι hi6 (ι hp6 (HS5.out.sfx (jX Co 8 _ _ _ _ _ hq6).2)))
      clear hq6 hp6 hi6 HE c5
      go_wp2_with fail
      refine μ HN6 ?_
      rintro e w7 hn
      rcases hq:aE oD r6 with _|r7
      ·obtain ⟨rfl,hb7⟩:=hn.no hq
       have HB:=κ (H6.out.1.but.trans hb7)
       clear hn hq hb7 HN6
       unfold aV
       go_wp2
       exact ⟨rfl,WkPost.stop HB.out (by decide)⟩
      ·obtain ⟨rfl,hb7,hp7⟩:=hn.yes hq
       have hi7:=H6.out.1.next H6.out.2.1 hb7 (by decide) (by decide) (by decide)
       have c7:=β hi7.hbx 0
       have HB:=κ (ι hi7.but (ι hp7 (H6.out.2.2.sfx (aR hq))))
       clear hn hq hb7 hp7 hi7 HN6
       go_wp2
       go_ret
       exact WkPost.ok HB.out.1 (by decide) HB.out.2.1 HB.out.2.2
 ·have HI1:=κ (HI.out true hf)
  clear HI hf
  go_wp2_with fail
  refine μ HI1 ?_
  rintro e w1 ⟨rfl,hb1,hp1⟩
  simp only [if_true] at hp1
  have hx1:=aI H0.out.2.2.2.2.1 hb1 H0.out.2.2.2.2.2 (by decide)
  have c1:=β hx1 0
  have hB1:=H0.out.2.2.2.1.trans hb1
  have HNm:=κ (dU P 0 l.tail w1 hp1 (H0.out.2.2.1.but H0.out.1 hB1))
  have H1:=κ (ι hB1 (ι hp1 (ι H0.out.2.1.tl hx1)))
  clear hb1 hp1 HI1 hx1 hB1
  go_wp2_with fail
  refine μ HNm ?_
  rintro e w2 ⟨hb2,hq2⟩
  rcases hq:aZ l.tail with _|⟨t,r2⟩
  ·rw [hq] at hq2
   obtain ⟨ce,rfl,hce⟩:=hq2
   have HB:=κ (H1.out.1.trans hb2)
   clear hq hb2 HNm
   unfold aV
   go_wp2
   exact ⟨rfl,WkPost.stop HB.out hce⟩
  ·rw [hq] at hq2
   obtain ⟨rfl,hp2⟩:=hq2
   have hbA:Below w2.heap.size w2 (w2.alloc (.cells #[.string ⟨t.toArray⟩,.string ⟨#[]⟩,.string ⟨#[]⟩] 230)):=ρ
   have hx2:=aI H1.out.2.2.2 hb2 H1.out.2.1 (by decide)
   have hs3:CS P w.heap.size w2.heap.size w r2 (w2.alloc (.cells #[.string ⟨t.toArray⟩,.string ⟨#[]⟩,.string ⟨#[]⟩] 230)):=⟨(H1.out.1.trans hb2).trans (But.of hbA),aA hx2 hbA,⟨_,_,_,heap_alloc_new w2 _⟩,hp2.below hbA,H1.out.2.2.1.sfx (bU hq)⟩
   have HG:=κ (ι hp2.lt (ι (H1.out.1.trans hb2).size (Nat.ne_of_gt (aL hx2))))
   have c3:=β hs3.hbp 0
   have HNe:=κ (bQ P 0 wOn r2 _ hs3.ps)
   have HC:=κ hs3
   clear hq hb2 hp2 hbA hx2 hs3 HNm c1
   rw [World.size_alloc] at HNe
   go_wp2_with fail
   refine μ HNe ?_
   rintro e wa1 hn
   rcases hq:aE wOn r2 with _|ra1
   ·obtain ⟨rfl,hb5⟩:=hn.no hq
    have HB:=κ (HC.out.but.trans hb5)
    clear hn hq hb5 HNe
    unfold aV
    go_wp2
    exact ⟨rfl,WkPost.stop HB.out (by decide)⟩
   ·obtain ⟨rfl,hb5,hp5⟩:=hn.yes hq
    have hs5:=HC.out.next hb5 hp5 (aR hq)
    have c5:=β hs5.hbp 0
    have HNm:=κ (dU P 0 ra1 wa1 hp5 (H0.out.2.2.1.but H0.out.1 hs5.but))
    have HC1:=κ hs5
    clear hn hq hb5 hp5 hs5 HNe c3
    go_wp2_with fail
    refine μ HNm ?_
    rintro e wb1 ⟨hb6,hq6⟩
    rcases hq:aZ ra1 with _|⟨tb1,rb1⟩
    ·rw [hq] at hq6
     obtain ⟨ce,rfl,hce⟩:=hq6
     have HB:=κ (HC1.out.but.trans hb6)
     clear hq hb6 HNm
     unfold aV
     go_wp2
     exact ⟨rfl,WkPost.stop HB.out hce⟩
    ·rw [hq] at hq6
     obtain ⟨rfl,hp6⟩:=hq6
     have hs6:=HC1.out.next hb6 hp6 (bU hq)
     have hs7:=hs6.set1 HG.out.1 HG.out.2.1 HG.out.2.2 ⟨tb1.toArray⟩
     obtain ⟨xa,xb,xc,hx6⟩:=hs6.ix
     have d6:=β hx6 1
     have f6:=fun j=>frozen_of_row wb1 w2.heap.size j _ _ hx6
     have c7:=β hs7.hbp 0
     have HNe:=κ (bQ P 0 lF rb1 _ hs7.ps)
     have HC:=κ hs7
     clear hq hb6 hp6 hs6 hs7 hx6 HNm c5
     rw [World.size_setCell] at HNe
     go_wp2_with fail
     refine μ HNe ?_
     rintro e wa2 hn
     rcases hq:aE lF rb1 with _|ra2
     ·obtain ⟨rfl,hb5⟩:=hn.no hq
      have HB:=κ (HC.out.but.trans hb5)
      clear hn hq hb5 HNe
      unfold aV
      go_wp2
      exact ⟨rfl,WkPost.stop HB.out (by decide)⟩
     ·obtain ⟨rfl,hb5,hp5⟩:=hn.yes hq
      have hs5:=HC.out.next hb5 hp5 (aR hq)
      have c5:=β hs5.hbp 0
      have HNm:=κ (dU P 0 ra2 wa2 hp5 (H0.out.2.2.1.but H0.out.1 hs5.but))
      have HC2:=κ hs5
      clear hn hq hb5 hp5 hs5 HNe c7 d6 f6
      go_wp2_with fail
      refine μ HNm ?_
      rintro e wb2 ⟨hb6,hq6⟩
      rcases hq:aZ ra2 with _|⟨tb2,rb2⟩
      ·rw [hq] at hq6
       obtain ⟨ce,rfl,hce⟩:=hq6
       have HB:=κ (HC2.out.but.trans hb6)
       clear hq hb6 HNm
       unfold aV
       go_wp2
       exact ⟨rfl,WkPost.stop HB.out hce⟩
      ·rw [hq] at hq6
       obtain ⟨rfl,hp6⟩:=hq6
       have hs6:=HC2.out.next hb6 hp6 (bU hq)
       have hs7:=hs6.set2 HG.out.1 HG.out.2.1 HG.out.2.2 ⟨tb2.toArray⟩
       obtain ⟨xa,xb,xc,hx6⟩:=hs6.ix
       have d6:=β hx6 2
       have f6:=fun j=>frozen_of_row wb2 w2.heap.size j _ _ hx6
       have c7:=β hs7.hbp 0
       have HNe:=κ (bQ P 0 oD rb2 _ hs7.ps)
       have HC:=κ hs7
       clear hq hb6 hp6 hs6 hs7 hx6 HNm c5
       rw [World.size_setCell] at HNe
       go_wp2_with fail
       refine μ HNe ?_
       rintro e wa3 hn
       rcases hq:aE oD rb2 with _|ra3
       ·obtain ⟨rfl,hb5⟩:=hn.no hq
        have HB:=κ (HC.out.but.trans hb5)
        clear hn hq hb5 HNe
        unfold aV
        go_wp2
        exact ⟨rfl,WkPost.stop HB.out (by decide)⟩
       ·obtain ⟨rfl,hb5,hp5⟩:=hn.yes hq
        have hs5:=HC.out.next hb5 hp5 (aR hq)
        have HB:=κ hs5
        clear hn hq hb5 hp5 hs5 HNe c7 d6 f6
        go_wp2
        go_ret
        exact WkPost.ok HB.out.but (by decide) HB.out.ps HB.out.sane
