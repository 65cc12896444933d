/-
 Contracts. Conditions: those of each.
-/
import Derived.Test.YtkolcimllghnaaaGreatDoorQbZI
set_option maxRecDepth 100000
set_option maxHeartbeats 8000000
namespace Go.Proofs.YtkolcimllghnaaaGreatDoor
open Lp Go.Proofs.Tryz
open Go.RowKit
def SetsX (B:Nat) (w:World):List (List UInt8×Lp.X)→List Value→Prop
 | [],[]=>True
 | s::ss,a::v::vs=>a=.string ⟨s.1.toArray⟩∧((∃ T g,v=.iface T (.pointer (some ⟨g,0,none⟩)))∧PX B w s.2 v)∧SetsX B w ss vs
 | _,_=>False
theorem SetsX.stays {B:Nat} {w w':World} (hs:rB w w'):∀ {xs:List (List UInt8×Lp.X)} {vs:List Value},SetsX B w xs vs→SetsX B w' xs vs
 | [],[],_=>trivial
 | [],_::_,h=>h.elim
 | _::_,[],h=>h.elim
 | _::_,[_],h=>h.elim
 | _::_,_::_::_,⟨h1,h2,h3⟩=>⟨h1,⟨h2.1,PX.keepN hs h2.2⟩,SetsX.stays hs h3⟩
theorem SetsX.app {B:Nat} {w:World}:∀ {xs:List (List UInt8×Lp.X)} {vs:List Value} {c:List UInt8} {x:Lp.X} {v:Value},SetsX B w xs vs→(∃ T g,v=.iface T (.pointer (some ⟨g,0,none⟩)))→PX B w x v→SetsX B w (xs++[(c,x)]) (vs++[.string ⟨c.toArray⟩,v])
 | [],[],_,_,_,_,h2,h3=>⟨rfl,⟨h2,h3⟩,trivial⟩
 | [],_::_,_,_,_,h,_,_=>h.elim
 | _::_,[],_,_,_,h,_,_=>h.elim
 | _::_,[_],_,_,_,h,_,_=>h.elim
 | _::_,_::_::_,_,_,_,⟨a,b,c⟩,h2,h3=>⟨a,b,SetsX.app c h2 h3⟩
structure UI (P bp bx gi:Nat) (t:List UInt8) (w0:World) (acc:List (List UInt8×Lp.X)) (w:World):Prop where
 but:But P w0 w
 hbp:w.heap[bp]? = some (.cells #[.pointer (some ⟨P,0,none⟩)] 98 (0,0))
 hbx:w.heap[bx]? = some (.cells #[.pointer (some ⟨gi,0,none⟩)] 61 (0,0))
 sets:∃ A c vs,w.heap[gi]? = some (.cells #[.string ⟨t.toArray⟩,.slice A acc.length c,.nilIface] 68 (0,0))∧w.ownsRow w0.heap.size 129 2 (.slice A acc.length c) acc.length vs∧SetsX w0.heap.size w acc vs
theorem UI.next {P bp bx gi d:Nat} {t:List UInt8} {w0 w w':World} {acc:List (List UInt8×Lp.X)} {l:List Tok} (h:UI P bp bx gi t w0 acc w) (hp:PS w P l d) (hb:But P w w'):UI P bp bx gi t w0 acc w':=by
 obtain ⟨A,c,vs,h1,h2,h3⟩:=h.sets
 exact ⟨h.but.trans hb,aI h.hbp hb hp (by decide),aI h.hbx hb hp (by decide),A,c,vs,aI h1 hb hp (by decide),kV h2 hb hp (by decide),SetsX.stays (StaysT.but hb hp (by decide)) h3⟩
def UE (gi:Nat) (t:List UInt8) (w0:World) (acc:List (List UInt8×Lp.X)) (A:Option Addr) (c:Nat) (vs:List Value) (w:World):Prop :=
 w.heap[gi]? = some (.cells #[.string ⟨t.toArray⟩,.slice A acc.length c,.nilIface] 68 (0,0))∧w.ownsRow w0.heap.size 129 2 (.slice A acc.length c) acc.length vs∧SetsX w0.heap.size w acc vs
theorem UE.next {P gi d:Nat} {t:List UInt8} {w0 w w':World} {acc:List (List UInt8×Lp.X)} {l:List Tok} {A:Option Addr} {c:Nat} {vs:List Value} (h:UE gi t w0 acc A c vs w) (hp:PS w P l d) (hb:But P w w'):UE gi t w0 acc A c vs w' :=
 ⟨aI h.1 hb hp (by decide),kV h.2.1 hb hp (by decide),SetsX.stays (StaysT.but hb hp (by decide)) h.2.2⟩
theorem Bk {w:World} {B n size g o:Nat} {e:TypeId} {v u:Value} {xs:List Value} (h:w.ownsRow B e size v n xs) (hn:some g≠v.ownBlock):(w.setCell ⟨g,o,none⟩ u).ownsRow B e size v n xs:=by
 refine ⟨h.1, ?_⟩
 rcases h.2 with h2|⟨g',cap,cur,rfl,h3,h4,h5⟩
 ·exact .inl h2
 ·refine .inr ⟨g',cap,cur,rfl,h3,(Below.heap_setCell w ⟨g,o,none⟩ u g' ?_).trans h4,h5⟩
  intro e
  exact hn (by rw [e];rfl)
theorem Xw {P bp bx gi gs:Nat} {t:List UInt8} {w0 w:World} {acc:List (List UInt8×Lp.X)} {A:Option Addr} {c:Nat} {vs:List Value} {cs:Array Value} (hi:UI P bp bx gi t w0 acc w) (h:UE gi t w0 acc A c vs w) (hg:w0.heap.size≤gs) (hgs:w.heap[gs]? = some (.cells cs 129 (0,0))) (hn:some gs≠Value.ownBlock (.slice A acc.length c)) (v:Value) :
 UI P bp bx gi t w0 acc (w.setCell ⟨gs,1,none⟩ v)∧UE gi t w0 acc A c vs (w.setCell ⟨gs,1,none⟩ v):=by
 have ne:∀ (g:Nat) (cs':Array Value) (ty:TypeId),w.heap[g]? = some (.cells cs' ty (0,0))→ty≠129→g≠gs:=by
  rintro g cs' ty h1 h2 rfl
  rw [hgs] at h1
  injection h1 with h1
  injection h1 with _ h1
  exact h2 h1.symm
 have hu:UE gi t w0 acc A c vs (w.setCell ⟨gs,1,none⟩ v):=⟨gX h.1 (ne _ _ _ h.1 (by decide)) v,Bk h.2.1 hn,SetsX.stays (StaysT.set hgs (by decide)) h.2.2⟩
 exact ⟨⟨hi.but.setNew hg v,gX hi.hbp (ne _ _ _ hi.hbp (by decide)) v,gX hi.hbx (ne _ _ _ hi.hbx (by decide)) v,A,c,vs,hu⟩,hu⟩
theorem Tj:(prog.info? 129).map (fun i=>(i.zero,i.size,i.bytes))=some (some (.agg #[.string ⟨#[]⟩,.nilIface]),2,32):=by kernel_rfl
theorem Cn:wD eS:=by
 intro l x r h
 unfold eS at h
 rcases h1:aZ l with _|⟨c,r1⟩
 ·rw [h1] at h;cases h
 ·rw [h1] at h
  simp only at h
  rcases h2:aE wEq r1 with _|r2
  ·rw [h2] at h;cases h
  ·rw [h2] at h
   simp only at h
   rcases h3:pX 1 0 r2 with _|⟨y,r3⟩
   ·rw [h3] at h;cases h
   ·rw [h3] at h
    simp only [Option.map_some,Option.some.injEq,Prod.mk.injEq] at h
    obtain ⟨rfl,rfl⟩:=h
    have b1:=(bU h1).length_le
    have b2:=(aR h2).length_le
    have b3:=fT h3
    exact ⟨by omega,((fS h3).trans (aR h2)).trans (bU h1)⟩
theorem xU:eS []=none:=rfl
theorem Mw {P bp bx gi d c5:Nat} {t cn:List UInt8} {w0 w w5:World} {acc:List (List UInt8×Lp.X)} {x:Lp.X} {r:List Tok} {A A5:Option Addr} {c:Nat} {vs:List Value} {v:Value} {ob:Obj} (hP0:P<w0.heap.size) (hgi:w0.heap.size≤gi) (hne:gi≠bp) (hnx:gi≠bx)
 (hi:UI P bp bx gi t w0 acc w) (hp:PS w P r d) (h3:SetsX w0.heap.size w acc vs) (hvf:∃ T g,v=.iface T (.pointer (some ⟨g,0,none⟩))) (hv:PX w0.heap.size w x v)
 (hx5:w5.heap[gi]? = some (.cells #[.string ⟨t.toArray⟩,.slice A acc.length c,.nilIface] 68 (0,0))) (ho5:w5.ownsRow w0.heap.size 129 2 (.slice A5 (acc.length+1) c5) (acc.length+1) (vs++[.string ⟨cn.toArray⟩,v])) (hb5:Below w0.heap.size (w.alloc ob).drew w5)
 (hk5:gD (w.alloc ob).drew w5 (Value.ownBlock (.slice A acc.length c)) (Value.ownBlock (.slice A5 (acc.length+1) c5))) (k2:w.ownsRow w0.heap.size 129 2 (.slice A acc.length c) acc.length vs) :
 PS (w5.setCell ⟨gi,1,none⟩ (.slice A5 (acc.length+1) c5)) P r d∧UI P bp bx gi t w0 (acc++[(cn,x)]) (w5.setCell ⟨gi,1,none⟩ (.slice A5 (acc.length+1) c5)):=by
 have hb25:Below w0.heap.size w w5:=(((Below.refl w.heap.size w).alloc (ν _) ob).drew |>.mono hi.but.size).trans hb5
 have hbut5:But P w0 (w5.setCell ⟨gi,1,none⟩ (.slice A5 (acc.length+1) c5)):=(hi.but.low hb25).setNew hgi _
 have hp5:PS (w5.setCell ⟨gi,1,none⟩ (.slice A5 (acc.length+1) c5)) P r d:=(hp.low hP0 hb25).setNew (Nat.lt_of_lt_of_le hP0 hgi) _
 have k2d:(w.alloc ob).drew.ownsRow w0.heap.size 129 2 (.slice A acc.length c) acc.length vs:=(k2.alloc ob).drew
 have hsN:rB w (w5.setCell ⟨gi,1,none⟩ (.slice A5 (acc.length+1) c5)) :=
  (StaysT.below ((θ).alloc (ν _) ob).drew).trans ((StaysT.keeps k2d (by decide) hk5).trans (StaysT.set hx5 (by decide)))
 have old:∀ (g:Nat) (cs:Array Value) (ty:TypeId),w.heap[g]? = some (.cells cs ty (0,0))→129≠ty→gi≠g→(w5.setCell ⟨gi,1,none⟩ (.slice A5 (acc.length+1) c5)).heap[g]? = some (.cells cs ty (0,0)):=by
  intro g cs ty hg h2 h3
  have hg5:=(hk5 _ _ (cJ (aC hg ob)) (cX k2d (cJ (aC hg ob)) h2)).1
  exact (Below.heap_setCell w5 ⟨gi,1,none⟩ _ g (fun e=>h3 e.symm)).trans hg5
 refine ⟨hp5,hbut5,old _ _ _ hi.hbp (by decide) hne,old _ _ _ hi.hbx (by decide) hnx,A5,c5,vs++[.string ⟨cn.toArray⟩,v], ?_, ?_, ?_⟩
 ·have:=heap_setCell_same w5 gi 1 _ _ (.slice A5 (acc.length+1) c5) hx5
  simpa using this
 ·rw [List.length_append]
  exact jQ ho5 hx5 (by decide)
 ·exact SetsX.app (SetsX.stays hsN h3) hvf (PX.keepN hsN hv)
theorem Mx (P bp bx gi d0:Nat) (t:List UInt8) (l0:List Tok) (w0:World) (hR0:Resv w0) (hp0:PS w0 P l0 d0) (hgi:w0.heap.size≤gi) (hne:gi≠bp) (hnx:gi≠bx) (acc:List (List UInt8×Lp.X)) (l:List Tok) (w:World) (hacc:acc.length≤8) (hi:UI P bp bx gi t w0 acc w) (hp:PS w P l 0) (hs:Lsane l) :
 Calls prog 125 #[.pointer (some ⟨bp,0,none⟩),.pointer (some ⟨bx,0,none⟩)] w (jK P (UI P bp bx gi t w0) (RJ P w0) acc (eS l)):=by
 obtain ⟨iE,hiE,hz0,hz1,hz2⟩:=info_parts Tj
 have HNm:=κ (dU P 0 l w hp (hR0.but hp0 hi.but))
 obtain ⟨A,c,vs,hue⟩:=hi.sets
 have hue:UE gi t w0 acc A c vs w:=hue
 have hrl:=hue.2.1.lt
 have HU:=κ (ι hue hrl)
 have HI:=κ (ι hi (ι hp hs))
 have H0:=κ (ι hR0 (ι hp0 (ι hgi (ι hne hnx))))
 have cb:=β hi.hbp 0
 clear hi hp hs hR0 hp0 hgi hne hnx hue hrl
 go_enter func125,ntmps125
 go_wp2_with fail
 refine μ HNm ?_
 rintro e w1 ⟨hb1,hq1⟩
 rcases hq:aZ l with _|⟨cn,r1⟩
 ·rw [hq] at hq1
  obtain ⟨ce,rfl,hce⟩:=hq1
  have HN:=κ (show eS l=none by rw [eS,hq])
  have HB:=κ (ι hce (HI.out.1.but.trans hb1))
  clear hq hb1 HNm
  unfold aV
  go_wp2
  refine ⟨rfl, ?_⟩
  rw [HN.out]
  exact ⟨ce,rfl,HB.out.1,HB.out.2⟩
 ·rw [hq] at hq1
  obtain ⟨rfl,hp1⟩:=hq1
  have hbA:Below w1.heap.size w1 (w1.alloc (.cells #[.string ⟨cn.toArray⟩,.nilIface] 129)):=ρ
  have hxA:=heap_alloc_new w1 (.cells #[.string ⟨cn.toArray⟩,.nilIface] 129)
  have hi1:=(HI.out.1.next HI.out.2.1 hb1).next hp1 (But.of hbA)
  have hs1:=HI.out.2.2.sfx (bU hq)
  have HNe:=κ (bQ P 0 wEq r1 _ (hp1.below hbA))
  have cbA:=β hi1.hbp 0
  have hueA:=(HU.out.1.next HI.out.2.1 hb1).next hp1 (But.of hbA)
  have hgs:some w1.heap.size≠Value.ownBlock (.slice A acc.length c):=fun e=>by have:=(HU.out.2 _ e.symm).2;have:=hb1.size;omega
  have hgz:w0.heap.size≤w1.heap.size:=Nat.le_trans HI.out.1.but.size hb1.size
  have hPz:=hp1.lt
  have HV:=κ (ι hueA (ι hgs (ι hgz hPz)))
  have H1:=κ (ι hi1 (ι (hp1.below hbA) (ι hxA (ι hs1 hq))))
  clear hq hb1 hp1 hbA hxA hi1 hs1 HNm cb HI hueA hgs hgz hPz HU
  rw [World.size_alloc] at HNe
  go_wp2_with fail
  refine μ HNe ?_
  rintro e w2 hn
  rcases hq2:aE wEq r1 with _|r2
  ·obtain ⟨rfl,hb2⟩:=hn.no hq2
   have HN:=κ (show eS l=none by rw [eS,H1.out.2.2.2.2];simp only [hq2])
   have HB:=κ (H1.out.1.but.trans hb2)
   clear hq2 hn HNe hb2
   unfold aV
   go_wp2
   refine ⟨rfl, ?_⟩
   rw [HN.out]
   exact ⟨4,rfl,by decide,HB.out⟩
  ·obtain ⟨rfl,hb2,hp2⟩:=hn.yes hq2
   have hi2:=H1.out.1.next H1.out.2.1 hb2
   have hx2:=aI H1.out.2.2.1 hb2 H1.out.2.1 (by decide)
   have hs2:=H1.out.2.2.2.1.sfx (aR hq2)
   have cb2:=β hi2.hbp 0
   have HC:=κ ((gG P r2.length 0 (by have:=hs2.1;omega)).e w2 r2 (ν _) hp2 hs2 (H0.out.1.but H0.out.2.1 hi2.but))
   have hue2:=HV.out.1.next H1.out.2.1 hb2
   have H2:=κ (ι hi2 (ι hp2 (ι hx2 (ι hq2 hue2))))
   clear hn hq2 hb2 hp2 hi2 hx2 hs2 HNe cbA hue2
   go_wp2_with fail
   refine μ HC ?_
   rintro e w3 ⟨hb3,hq3⟩
   rcases hq:pX 1 0 r2 with _|⟨x,r3⟩
   ·rw [hq] at hq3
    obtain ⟨ce,rfl,hce⟩:=hq3
    have HN:=κ (show eS l=none by rw [eS,H1.out.2.2.2.2];simp only [H2.out.2.2.2.1,hq];rfl)
    have HB:=κ (ι hce (H2.out.1.but.trans hb3))
    clear hq hb3 HC
    unfold aV
    go_wp2
    refine ⟨rfl, ?_⟩
    rw [HN.out]
    exact ⟨ce,rfl,HB.out.1,HB.out.2⟩
   ·rw [hq] at hq3
    obtain ⟨T,g,rfl,hx,hp3⟩:=hq3
    have HN:=κ (show eS l=some ((cn,x),r3) by rw [eS,H1.out.2.2.2.2];simp only [H2.out.2.2.2.1,hq];rfl)
    have hx3:=aI H2.out.2.2.1 hb3 H2.out.2.1 (by decide)
    have hi3:=H2.out.1.next H2.out.2.1 hb3
    have hue3:=H2.out.2.2.2.2.next H2.out.2.1 hb3
    obtain ⟨hi4,hue4⟩:=Xw hi3 hue3 HV.out.2.2.1 hx3 HV.out.2.1 (.iface T (.pointer (some ⟨g,0,none⟩)))
    have hx4:(w3.setCell ⟨w1.heap.size,1,none⟩ (.iface T (.pointer (some ⟨g,0,none⟩)))).heap[w1.heap.size]? = some (.cells #[.string ⟨cn.toArray⟩,.iface T (.pointer (some ⟨g,0,none⟩))] 129 (0,0)):=by
     have:=heap_setCell_same w3 w1.heap.size 1 _ _ (.iface T (.pointer (some ⟨g,0,none⟩))) hx3
     simpa using this
    have hp4:PS (w3.setCell ⟨w1.heap.size,1,none⟩ (.iface T (.pointer (some ⟨g,0,none⟩)))) P r3 0:=hp3.setNew HV.out.2.2.2 _
    have hpx4:PX w0.heap.size (w3.setCell ⟨w1.heap.size,1,none⟩ (.iface T (.pointer (some ⟨g,0,none⟩)))) x (.iface T (.pointer (some ⟨g,0,none⟩))):=PX.keepN (StaysT.set hx3 (by decide)) (hx.mono H2.out.1.but.size)
    have c3:=β hx3 1
    have f3:=fun j=>frozen_of_row w3 w1.heap.size j _ _ hx3
    obtain ⟨w4,hw4⟩:∃ w4,w3.setCell ⟨w1.heap.size,1,none⟩ (.iface T (.pointer (some ⟨g,0,none⟩)))=w4:=⟨_,rfl⟩
    have HW:=κ hw4
    rw [hw4] at hi4 hue4 hx4 hp4 hpx4
    have hng:some gi≠Value.ownBlock (.slice A acc.length c):=cX hue4.2.1 hue4.1 (by decide)
    have hnb:some bx≠Value.ownBlock (.slice A acc.length c):=cX hue4.2.1 hi4.hbx (by decide)
    have H4:=κ (ι hi4 (ι hue4 (ι hp4 (ι hpx4 (ι hng hnb)))))
    clear hq hb3 hx hp3 hue3 hi3 hx3 HC cb2 hng hnb hw4
    go_upto_region 3 with fail
    rw [HW.out]
    clear c3 f3
    have cx:w4.cell? ⟨bx,0,none⟩=some (.pointer (some ⟨gi,0,none⟩)):=β hi4.hbx 0
    have cx2:∀ o,(w4.alloc o).cell? ⟨bx,0,none⟩=some (.pointer (some ⟨gi,0,none⟩)):=fun o=>β (aC hi4.hbx o) 0
    have ci:w4.cell? ⟨gi,1,none⟩=some (.slice A acc.length c):=β hue4.1 1
    have ci2:∀ o,(w4.alloc o).cell? ⟨gi,1,none⟩=some (.slice A acc.length c):=fun o=>β (aC hue4.1 o) 1
    have cs0:w4.cell? ⟨w1.heap.size,0,none⟩=some (.string ⟨cn.toArray⟩):=β hx4 0
    have cs1:w4.cell? ⟨w1.heap.size,1,none⟩=some (.iface T (.pointer (some ⟨g,0,none⟩))):=β hx4 1
    have hl1:=aL hi4.hbx
    have hl2:=aL hx4
    have hl3:=aL hue4.1
    have hz3:=hi4.but.size
    clear hi4 hue4 hx4 hp4 hpx4
    go_region_law (first
     | (refine eC _ rfl (.tmp 16) (.tmp 18) _ rfl w0.heap.size 129 iE _ 2 32 underlying65 hiE hz0 hz1 hz2 rfl (by omega) A acc.length c vs rfl ?_ _ 1 1 [.string ⟨cn.toArray⟩,.iface T (.pointer (some ⟨g,0,none⟩))] rfl rfl ?_ ?_ ?_ ?_ ?_ ?_
        ·exact (H4.out.2.1.2.1.alloc _).drew
        ·exact bD [.string ⟨cn.toArray⟩,.iface T (.pointer (some ⟨g,0,none⟩))] (cJ (heap_alloc_new _ _))
        ·simp [Value.oneCell']
        ·simp only [maxLen];omega
        ·omega
        ·show w0.heap.size≤(w4.alloc _).heap.size;rw [World.size_alloc];omega
        intro A5 c5 w5 ho5 hb5 hg5 hk5
        have hx5:=(hk5 _ _ (cJ (aC H4.out.2.1.1 _)) H4.out.2.2.2.2.1).1
        have hx6:=(hk5 _ _ (cJ (aC H4.out.1.hbx _)) H4.out.2.2.2.2.2).1
        have d5:=β hx5 1
        have f5:=fun j=>frozen_of_row w5 gi j _ _ hx5
        have hd5:w5.cell? ⟨bx,0,none⟩=some (.pointer (some ⟨gi,0,none⟩)):=β hx6 0)
     | fail)
    all_goals
     have hw5:=Mw (cn:=cn) H0.out.2.1.lt H0.out.2.2.1 H0.out.2.2.2.1 H0.out.2.2.2.2 H4.out.1 H4.out.2.2.1 H4.out.2.1.2.2 ⟨_,_,rfl⟩ H4.out.2.2.2.1 hx5 ho5 hb5 hk5 H4.out.2.1.2.1
     clear H4 H2 H1 hx5 hx6 ho5 hb5 hg5 hk5 hd5
     go_wp2
     go_end0
     rw [HN.out]
     exact ⟨rfl,hw5.1,hw5.2⟩
def zK (P:Nat) (w:World) (q:Option (List UInt8×List (List UInt8×Lp.X)×Option Lp.X×List Tok)) (e:Ending) (w':World):Prop :=
 But P w w'∧match q with
 | none=>∃ c,e=aV c∧c≠0
 | some (t,ss,_,r)=>∃ gi A c vs v,e=.returned (.iface 61 (.pointer (some ⟨gi,0,none⟩)))∧w.heap.size≤gi∧w'.heap[gi]? = some (.cells #[.string ⟨t.toArray⟩,.slice A ss.length c,v] 68 (0,0)) ∧
  w'.ownsRow w.heap.size 129 2 (.slice A ss.length c) ss.length vs∧SetsX w.heap.size w' ss vs∧PS w' P r 0
theorem pB {P:Nat} {w w':World} {q:Option (List UInt8×List (List UInt8×Lp.X)×Option Lp.X×List Tok)} {c:Int} (hb:But P w w') (hq:q=none) (hc:c≠0):zK P w q (aV c) w':=by
 subst hq;exact ⟨hb,c,rfl,hc⟩
theorem Gd {P bp bx gi:Nat} {t:List UInt8} {w0 w:World} {acc:List (List UInt8×Lp.X)} (hi:UI P bp bx gi t w0 acc w) (hn:bx≠gi) (v:Value):(w.setCell ⟨gi,2,none⟩ v).cell? ⟨bx,0,none⟩=some (.pointer (some ⟨gi,0,none⟩)):=β (gX hi.hbx hn v) 0
theorem Gc {P bp bx gi:Nat} {t:List UInt8} {w0 w:World} {ss:List (List UInt8×Lp.X)} {r:List Tok} {A:Option Addr} {c:Nat} {vs:List Value} (hi:UI P bp bx gi t w0 ss w) (hp:PS w P r 0) (hP0:P<w0.heap.size) (hgi:w0.heap.size≤gi) (hu:UE gi t w0 ss A c vs w) (v:Value) :
 But P w0 (w.setCell ⟨gi,2,none⟩ v)∧∃ gi' A c vs v',Ending.returned (.iface 61 (.pointer (some ⟨gi,0,none⟩)))=.returned (.iface 61 (.pointer (some ⟨gi',0,none⟩)))∧w0.heap.size≤gi'∧(w.setCell ⟨gi,2,none⟩ v).heap[gi']? = some (.cells #[.string ⟨t.toArray⟩,.slice A ss.length c,v'] 68 (0,0)) ∧
  (w.setCell ⟨gi,2,none⟩ v).ownsRow w0.heap.size 129 2 (.slice A ss.length c) ss.length vs∧SetsX w0.heap.size (w.setCell ⟨gi,2,none⟩ v) ss vs∧PS (w.setCell ⟨gi,2,none⟩ v) P r 0:=by
 have h2:=heap_setCell_same w gi 2 _ _ v hu.1
 refine ⟨hi.but.setNew hgi v,gi,A,c,vs,v,rfl,hgi,by simpa using h2,jQ hu.2.1 hu.1 (by decide),SetsX.stays (StaysT.set hu.1 (by decide)) hu.2.2,hp.setNew (Nat.lt_of_lt_of_le hP0 hgi) v⟩
theorem Vn:∀ args w,Sem.run prog (callFunc 125 args) w=.ok (.enter 125 args) w:=fun _ _=>rfl
theorem Jt (P bp bx gi:Nat) (t:List UInt8) (l0 l:List Tok) (w0 w:World) (hR0:Resv w0) (hp0:PS w0 P l0 0) (hgi:w0.heap.size≤gi) (hne:gi≠bp) (hnx:gi≠bx) (hi:UI P bp bx gi t w0 [] w) (hp:PS w P l 0) (hs:Lsane l) :
 Calls prog 120 #[.pointer (some ⟨P,0,none⟩),.int .i64 8,.func (.func 125) #[] #[.pointer (some ⟨bp,0,none⟩),.pointer (some ⟨bx,0,none⟩)]]
  w (EachPost P (UI P bp bx gi t w0) (RJ P w0) (cN eS 8 l)) :=
 kK eS Cn xU 8 (by omega) (by omega) _ Vn #[.pointer (some ⟨bp,0,none⟩),.pointer (some ⟨bx,0,none⟩)] P (UI P bp bx gi t w0) (RJ P w0) (fun _ _ h=>h.but) (fun _ _ h k=>But.trans h k) (fun _ _ _ _ h hp hb=>h.next hp hb)
  (fun acc l' w' ha hi hp' hs'=>Mx P bp bx gi 0 t l0 w0 hR0 hp0 hgi hne hnx acc l' w' ha hi hp' hs') l w hi hp hs
theorem Dk (P:Nat) (l:List Tok) (w:World) (h:PS w P l 0) (hs:Lsane l) (hR:Resv w) :
 Calls prog 67 #[.pointer (some ⟨P,0,none⟩)] w (zK P w (gN l)):=by
 have hb0:Below w.heap.size w (w.alloc (.cells #[.pointer (some ⟨P,0,none⟩)] 98)):=ρ
 have hx0:=heap_alloc_new w (.cells #[.pointer (some ⟨P,0,none⟩)] 98)
 have HNm:=κ (dU P 0 l _ (h.below hb0) (bP hR hb0))
 have H0:=κ (ι h (ι hs (ι hR (ι (But.of (P:=P) hb0) (ι hx0 (h.below hb0))))))
 clear h hs hR hb0 hx0
 go_enter func67,ntmps67
 go_wp2_with fail
 refine μ HNm ?_
 rintro e w2 ⟨hb2,hq2⟩
 rcases hq:aZ l with _|⟨t,r2⟩
 ·rw [hq] at hq2
  obtain ⟨ce,rfl,hce⟩:=hq2
  have HN:=κ (show gN l=none by rw [gN,hq])
  have HB:=κ (H0.out.2.2.2.1.trans hb2)
  clear hq hb2 HNm
  unfold aV
  go_wp2
  exact ⟨rfl,pB HB.out HN.out hce⟩
 ·rw [hq] at hq2
  obtain ⟨rfl,hp2⟩:=hq2
  have hx2:=aI H0.out.2.2.2.2.1 hb2 H0.out.2.2.2.2.2 (by decide)
  have hs2:=H0.out.2.1.sfx (bU hq)
  have hb3:Below w2.heap.size w2 ((w2.alloc (.cells #[.string ⟨t.toArray⟩,.slice none 0 0,.nilIface] 68)).alloc (.cells #[.pointer (some ⟨w2.heap.size,0,none⟩)] 61)):=(ρ).alloc (by simp) _
  have hg3:=aC (heap_alloc_new w2 (.cells #[.string ⟨t.toArray⟩,.slice none 0 0,.nilIface] 68)) (.cells #[.pointer (some ⟨w2.heap.size,0,none⟩)] 61)
  have hv3:=bN w2 (.cells #[.string ⟨t.toArray⟩,.slice none 0 0,.nilIface] 68) (.cells #[.pointer (some ⟨w2.heap.size,0,none⟩)] 61)
  have hbx3:=aA hx2 hb3
  have c3:=β hbx3 0
  have hz:=(H0.out.2.2.2.1.trans hb2).size
  have hlt2:=aL hx2
  have HN3:=κ (bQ P 0 xI r2 _ (hp2.below hb3))
  have H3:=κ (ι ((H0.out.2.2.2.1.trans hb2).trans (But.of hb3)) (ι hg3 (ι hv3 (ι hbx3 (ι (hp2.below hb3) (ι hs2 (ι hq (ι hz hlt2))))))))
  clear hq hb2 hp2 hx2 hs2 hb3 hg3 hv3 hbx3 HNm hlt2 hz
  rw [World.size_alloc,World.size_alloc] at HN3
  go_wp2_with fail
  refine μ HN3 ?_
  rintro e w4 hn
  rcases hq4:aE xI r2 with _|r3
  ·obtain ⟨rfl,hb4⟩:=hn.no hq4
   have HN:=κ (show gN l=none by rw [gN,H3.out.2.2.2.2.2.2.1];simp only [hq4])
   have HB:=κ (H3.out.1.trans hb4)
   clear hq4 hn HN3 hb4
   unfold aV
   go_wp2
   exact ⟨rfl,pB HB.out HN.out (by decide)⟩
  ·obtain ⟨rfl,hb4,hp4⟩:=hn.yes hq4
   have hbp4:=aI H3.out.2.2.2.1 hb4 H3.out.2.2.2.2.1 (by decide)
   have hi4:UI P w.heap.size (w2.heap.size+1) w2.heap.size t w [] w4:=⟨H3.out.1.trans hb4,hbp4,aI H3.out.2.2.1 hb4 H3.out.2.2.2.2.1 (by decide),none,0,[],aI H3.out.2.1 hb4 H3.out.2.2.2.2.1 (by decide),World.ownsRow_nil _ _ _ _,trivial⟩
   have hs4:=H3.out.2.2.2.2.2.1.sfx (aR hq4)
   have HE:=κ (Jt P w.heap.size (w2.heap.size+1) w2.heap.size t l r3 w w4 H0.out.2.2.1 H0.out.1 H3.out.2.2.2.2.2.2.2.1 (Nat.ne_of_gt H3.out.2.2.2.2.2.2.2.2) (by omega) hi4 hp4 hs4)
   have c4:=β hbp4 0
   have HQ4:=κ (ι hq4 hs4)
   clear hn hq4 hb4 hp4 hbp4 hi4 HN3 c3 hs4
   go_wp2_with fail
   refine μ HE ?_
   rintro e w5 hn
   rcases hq5:cN eS 8 r3 with _|⟨ss,r4⟩
   ·rw [hq5] at hn
    obtain ⟨ce,rfl,hc,hj⟩:=hn
    have HN:=κ (show gN l=none by rw [gN,H3.out.2.2.2.2.2.2.1];simp only [HQ4.out.1,hq5])
    have HB:=κ (ι hc hj)
    clear hq5 hc hj HE
    unfold aV
    go_wp2
    exact ⟨rfl,pB HB.out.2 HN.out HB.out.1⟩
   ·rw [hq5] at hn
    obtain ⟨rfl,hp5,hi5⟩:=hn
    have hs5:=HQ4.out.2.sfx (jX Cn 8 _ _ _ _ _ hq5).2
    have HWh:=κ (qF P r4 w5.drew hp5 hs5 (show Resv w5.drew from H0.out.2.2.1.but H0.out.1 hi5.but.drew))
    have HP5:=κ (show PS w5.drew P r4 0 from hp5)
    have HI5:=κ (ι hi5 hq5)
    have c5:w5.cell? ⟨w2.heap.size+1,0,none⟩=some (.pointer (some ⟨w2.heap.size,0,none⟩)):=β hi5.hbx 0
    have c6:w5.cell? ⟨w.heap.size,0,none⟩=some (.pointer (some ⟨P,0,none⟩)):=β hi5.hbp 0
    have hl5:=aL hi5.hbx
    clear hq5 hp5 hi5 HE hs5
    generalize hqw:fR r4=qw at *
    rcases qw with _|⟨x,r5⟩
    ·have HC0:=κ (HWh.out.mono (fun e w2 (hx:nZ P w5.drew none e w2)=>(show But P w5.drew w2∧∃ c,e=aV c∧c≠0 from hx)))
     have HN:=κ (show gN l=none by rw [gN,H3.out.2.2.2.2.2.2.1];simp only [HQ4.out.1,HI5.out.2];exact (congrArg (Option.map _) hqw))
     clear HWh hqw
     go_wp2_with fail
     refine wp_region_held_drew (S:=fun w'=>w'.cell? ⟨w2.heap.size+1,0,none⟩=some (.pointer (some ⟨w2.heap.size,0,none⟩))∧w'.cell? ⟨w.heap.size,0,none⟩=some (.pointer (some ⟨P,0,none⟩))) (by kernel_rfl) ⟨c5,c6⟩ (fun hHeld => ?_)
     refine wpAnyH_take (i:=0) (v:=.pointer (some ⟨w2.heap.size,0,none⟩)) rfl (by kernel_rfl) (by kernel_rfl) (by kernel_rfl) (fun _ _ _ h=>h) (Or.inl ⟨by rfl,fun w hSw=>by obtain ⟨s1,s2⟩:=hSw;go_simp⟩) hHeld ?_
     refine wpAnyH_take (i:=1) (v:=.pointer (some ⟨P,0,none⟩)) rfl (by kernel_rfl) (by kernel_rfl) (by kernel_rfl) (fun _ _ _ h=>h) (Or.inl ⟨by rfl,fun w hSw=>by obtain ⟨s1,s2⟩:=hSw;go_simp⟩) hHeld ?_
     refine wpAnyH_ready (rs:=[2]) (by kernel_rfl) (by simp) ?_
     refine AllReadyH.cons rfl (fun K hK => ?_) AllReadyH.nil
     go_simp
     refine μ HC0 ?_
     rintro e w6 ⟨hb6,ce,rfl,hc⟩
     have HB:=κ (HI5.out.1.but.drew.trans hb6)
     clear hb6 c5 c6
     unfold aV
     go_wp2
     exact ⟨rfl,pB HB.out HN.out hc⟩
    ·have HN:=κ (show gN l=some (t,ss,x,r5) by rw [gN,H3.out.2.2.2.2.2.2.1];simp only [HQ4.out.1,HI5.out.2];exact (congrArg (Option.map _) hqw))
     have HI6:=κ (show UI P w.heap.size (w2.heap.size+1) w2.heap.size t w ss w5.drew from ⟨HI5.out.1.but.drew,HI5.out.1.hbp,HI5.out.1.hbx,(HI5.out.1.next (w':=w5.drew) HP5.out (But.refl _ _).drew).sets⟩)
     clear hqw
     rcases x with _|x
     ·have HC0:=κ (HWh.out.mono (fun e w2 (hx:nZ P w5.drew (some (none,r5)) e w2)=>(show But P w5.drew w2∧e=.returned .nilIface∧PS w2 P r5 0 from by obtain ⟨h1,v,h2,h3,h4⟩:=hx;exact ⟨h1,by rw [h2,show v=.nilIface from h3],h4⟩)))
      clear HWh
      go_wp2_with fail
      go_region_law (first
       | (go_simp;go_at_call 126;refine μ HC0 ?_;rintro e w6 ⟨hb6,rfl,hp6⟩;have hi6:=HI6.out.next HP5.out hb6;obtain ⟨A6,c6',vs6,k1,k2,k3⟩:=hi6.sets;have d5:w6.cell? ⟨w2.heap.size+1,0,none⟩=some (.pointer (some ⟨w2.heap.size,0,none⟩)):=β hi6.hbx 0;have d6:w6.cell? ⟨w2.heap.size,2,none⟩=some .nilIface:=β k1 2;have f6:=fun j=>frozen_of_row w6 w2.heap.size j _ _ k1)
       | fail)
      all_goals
       have hE:=Gc hi6 hp6 H0.out.1.lt H3.out.2.2.2.2.2.2.2.1 ⟨k1,k2,k3⟩ (.nilIface)
       have d7:=Gd hi6 (by omega) (.nilIface)
       clear HI6 HI5 HP5 HC0 hi6 hp6 k1 k2 k3 hb6 HQ4 H3
       go_wp2
       go_ret
       refine ⟨hE.1, ?_⟩
       rw [HN.out]
       exact hE.2
     ·have HC0:=κ (HWh.out.mono (fun e w2 (hx:nZ P w5.drew (some (some x,r5)) e w2)=>(show But P w5.drew w2∧∃ T g,e=.returned (.iface T (.pointer (some ⟨g,0,none⟩)))∧PS w2 P r5 0 from by obtain ⟨h1,v,h2,⟨⟨T,g,h3⟩,_⟩,h4⟩:=hx;exact ⟨h1,T,g,by rw [h2,h3],h4⟩)))
      clear HWh
      go_wp2_with fail
      go_region_law (first
       | (go_simp;go_at_call 126;refine μ HC0 ?_;rintro e w6 ⟨hb6,T,g,rfl,hp6⟩;have hi6:=HI6.out.next HP5.out hb6;obtain ⟨A6,c6',vs6,k1,k2,k3⟩:=hi6.sets;have d5:w6.cell? ⟨w2.heap.size+1,0,none⟩=some (.pointer (some ⟨w2.heap.size,0,none⟩)):=β hi6.hbx 0;have d6:w6.cell? ⟨w2.heap.size,2,none⟩=some .nilIface:=β k1 2;have f6:=fun j=>frozen_of_row w6 w2.heap.size j _ _ k1)
       | fail)
      all_goals
       have hE:=Gc hi6 hp6 H0.out.1.lt H3.out.2.2.2.2.2.2.2.1 ⟨k1,k2,k3⟩ (.iface T (.pointer (some ⟨g,0,none⟩)))
       have d7:=Gd hi6 (by omega) (.iface T (.pointer (some ⟨g,0,none⟩)))
       clear HI6 HI5 HP5 HC0 hi6 hp6 k1 k2 k3 hb6 HQ4 H3
       go_wp2
       go_ret
       refine ⟨hE.1, ?_⟩
       rw [HN.out]
       exact hE.2
