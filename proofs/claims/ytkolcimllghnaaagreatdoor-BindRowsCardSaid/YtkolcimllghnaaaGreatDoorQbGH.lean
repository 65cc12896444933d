/-
 Contracts. Conditions: those of each.
-/
import Derived.Test.YtkolcimllghnaaaGreatDoorQbGG
import Derived.Deep.RegionWith
import Derived.BigRegion
set_option maxRecDepth 100000
set_option maxHeartbeats 8000000
namespace Go.Proofs.YtkolcimllghnaaaGreatDoor
open Lp Go.Proofs.Tryz
open Go.RowKit
theorem But.setNew {P g o:Nat} {w a:World} (h:But P w a) (hg:w.heap.size≤g) (v:Value):But P w (a.setCell ⟨g,o,none⟩ v) :=
 ⟨h.os,h.tape,h.output,by simpa [World.setCell] using h.size,fun k hk hn=>(Below.heap_setCell a ⟨g,o,none⟩ v k (by intro e;simp at e;omega)).trans (h.block k hk hn)⟩
theorem PS.setNew {P d g o:Nat} {l:List Tok} {a:World} (h:PS a P l d) (hg:P<g) (v:Value):PS (a.setCell ⟨g,o,none⟩ v) P l d:=by
 obtain ⟨A,c,h1,h2,h3⟩:=h
 refine ⟨A,c,(Below.heap_setCell a ⟨g,o,none⟩ v P (by intro e;simp at e;omega)).trans h1,h2, ?_⟩
 rcases h3 with h3|⟨b,off,hA,hlt,hc⟩
 ·exact .inl h3
 ·exact .inr ⟨b,off,hA,hlt,fun j u hu=>(World.cell?_of_block (w:=a) (Below.heap_setCell a ⟨g,o,none⟩ v b (by intro e;simp at e;omega))).trans (hc j u hu)⟩
def nF (d:Nat) (word:List UInt8) (r:List Tok):Option (Lp.X×List Tok):=match aE [40] r with
 | none=>none
 | some r2=>if word=bF∧isF [42] r2=true then (aE [41] r2.tail).map fun r3=>(.cnt,r3) else (match pX 1 d r2 with
   | none=>none
   | some (x,r3)=>(aE [41] r3).map fun r4=>(.agg (upW word) x,r4))
theorem xA:∀ s∈[bF,fI,gM,iX],Lib.toUpperA s=upW s∧(∀ c∈s,c.toNat<128)∧s.length≤10:=by decide
theorem Rn:upW bF=aU:=by decide
theorem wV (P d:Nat) (s u:List UInt8) (l:List Tok) (w:World) (h:PS w P l d) (hf:isF s l=true) :
 Calls prog 70 #[.pointer (some ⟨P,0,none⟩),.slice (some ⟨w.heap.size,0,none⟩) 2 2] (w.alloc (.cells #[.string ⟨s.toArray⟩,.string ⟨u.toArray⟩] 9)) (NeedPost P w d (aE u l.tail)):=by
 have hb:Below w.heap.size w (w.alloc (.cells #[.string ⟨s.toArray⟩,.string ⟨u.toArray⟩] 9)):=ρ
 have hw:WdsAt (w.alloc (.cells #[.string ⟨s.toArray⟩,.string ⟨u.toArray⟩] 9)) w.heap.size [s,u]:=lR w [s,u] 9
 refine (Bo P d w.heap.size 2 [s,u] l _ (h.below hb) (oJ hw (h.below hb)) hw (by simp)).mono ?_
 rintro e w' ⟨h1,h2⟩
 refine ⟨(But.of hb).trans h1, ?_⟩
 have e1:hH [s,u] l=aE u l.tail:=by
  simp only [hH,aE,hf,if_true]
  cases isF u l.tail<;>rfl
 rw [e1] at h2
 exact h2
theorem fG {P d:Nat} {w w':World} {q:Option (Lp.X×List Tok)} {c:Int} (hb:But P w w') (hq:q=none) (hc:c≠0):XPost P w d q (aV c) w':=by
 subst hq;exact ⟨hb,c,rfl,hc⟩
theorem Jl (P d:Nat) (word:List UInt8) (hw:word∈[fI,gM,iX]) (l:List Tok) (w:World) (h:PS w P l d) (hs:Lsane l) (hR:Resv w) (hf:isF word l=true)
 (HF:LvOk 124 1 P d (l.length-2)) :
 Calls prog 210 #[.pointer (some ⟨P,0,none⟩),.string ⟨word.toArray⟩] w (XPost P w d (nF d word l.tail)):=by
 obtain ⟨hup,hasc,hle⟩:=xA word (List.mem_cons_of_mem _ hw)
 have HU:=κ (fun w=>Dl word w _ hup hasc hle)
 have HN:=κ (wV P d word [40] l w h hf)
 have hPw:=h.lt
 have HP:=κ h
 have HR:=κ hR
 have HF':=κ HF
 have hlt:=bB hf
 have HS:=κ hs
 have hnc:word≠bF:=by
  intro e;subst e;revert hw;decide
 have HNC:=hnc
 have HQN:=κ (fun (hq:aE [40] l.tail=none)=>(show nF d word l.tail=none by rw [nF,hq]))
 have HQY:=κ (fun (r2:List Tok) (hq:aE [40] l.tail=some r2)=>(show nF d word l.tail=(match pX 1 d r2 with
  | none=>none
  | some (x,r3)=>(aE [41] r3).map fun r4=>(.agg (upW word) x,r4)) by rw [nF,hq];exact if_neg (fun h=>hnc h.1)))
 clear hup hasc hle h hR HF hf hnc hs HNC
 generalize hUP:upW word=UP at *
 clear hUP
 have hw:word=fI∨word=gM∨word=iX:=by simpa using hw
 rcases hw with rfl|rfl|rfl
 all_goals
  go_enter func210,ntmps210
  go_wp2_with fail
  refine μ HN ?_
  rintro e w1 hn
  rcases hq:aE [40] l.tail with _|r2
  ·obtain ⟨rfl,hb1⟩:=hn.no hq
   have HQ:=κ (HQN.out hq)
   clear hq hn
   unfold aV
   go_wp2
   refine ⟨rfl,hb1, ?_⟩
   rw [HQ.out]
   exact ⟨4,rfl,by decide⟩
  ·obtain ⟨rfl,hb1,hp1⟩:=hn.yes hq
   have HQ:=κ (HQY.out r2 hq)
   have hr2:=dH hq
   have HS2:=κ (HS.out.sfx ((aR hq).trans (bL l)))
   have HR1:=κ (HR.out.but HP.out hb1)
   have HP1:=κ hp1
   clear hq hn HN hp1
   go_wp2_with fail
   refine (HU.out _).mono ?_
   rintro e w2 ⟨rfl,hb2⟩
   have hB2:=hb1.trans (But.of hb2)
   have HP2:=κ (HP1.out.below hb2)
   have HR2:=κ (bP HR1.out hb2)
   have HB2:=κ hB2
   have hz2:=hB2.size
   clear hb1 hb2 HP1 HR1 HU hB2
   have hb3:Below w2.heap.size w2 (w2.alloc (.cells #[.string ⟨UP.toArray⟩,.nilIface] 208)):=ρ
   have HC3:=κ (HF'.out _ r2 (by omega) (HP2.out.below hb3) HS2.out (bP HR2.out hb3))
   have HP3:=κ (HP2.out.below hb3)
   have HX3:=κ (heap_alloc_new w2 (.cells #[.string ⟨UP.toArray⟩,.nilIface] 208))
   have HB3:=κ (HB2.out.trans (But.of hb3))
   have hgP:P<w2.heap.size:=by omega
   clear hb3
   go_wp2_with fail
   refine μ HC3 ?_
   rintro e w4 ⟨hb4,hq4⟩
   have hx4:=aO hb4 HX3.out (Nat.ne_of_gt hgP)
   have hB4:=HB3.out.trans hb4
   rcases hq4e:pX 1 d r2 with _|⟨x,r3⟩
   ·rw [hq4e] at hq4
    obtain ⟨ce,rfl,hce⟩:=hq4
    have HN:=κ (HQ.out.trans (by rw [hq4e]))
    clear hq4e hx4
    unfold aV
    go_wp2
    exact ⟨rfl,fG hB4 HN.out hce⟩
   ·rw [hq4e] at hq4
    obtain ⟨T4,g4,rfl,hy,hp4⟩:=hq4
    have HN:=κ (HQ.out.trans (by rw [hq4e]))
    have hc4:=β hx4
    have hfz:=fun j=>frozen_of_row w4 w2.heap.size j _ _ hx4
    have hx5:=heap_setCell_same w4 w2.heap.size 1 _ _ (.iface T4 (.pointer (some ⟨g4,0,none⟩))) hx4
    have hy5:PX w.heap.size (w4.setCell ⟨w2.heap.size,1,none⟩ (.iface T4 (.pointer (some ⟨g4,0,none⟩)))) x (.iface T4 (.pointer (some ⟨g4,0,none⟩))) :=
     (hy.keepB (fun k o hk ho=>(Below.heap_setCell w4 ⟨w2.heap.size,1,none⟩ _ k (by intro e;simp at hk e;omega)).trans ho)).mono (by simp;omega)
    have hp5:=hp4.setNew (o:=1) hgP (.iface T4 (.pointer (some ⟨g4,0,none⟩)))
    have hB5:=hB4.setNew (o:=1) hz2 (.iface T4 (.pointer (some ⟨g4,0,none⟩)))
    have hNe:=bQ P d [41] r3 _ hp5
    rw [World.size_setCell] at hNe
    have HNe:=κ hNe
    clear hNe
    have HP5:=κ hp5
    have HX5:=κ (show PX w.heap.size (w4.setCell ⟨w2.heap.size,1,none⟩ (.iface T4 (.pointer (some ⟨g4,0,none⟩)))) (.agg UP x) (.iface 204 (.pointer (some ⟨w2.heap.size,0,none⟩))) from ⟨_,_,hz2,rfl,by simpa using hx5,hy5⟩)
    clear hq4e hy hp4 hx5 hy5 hp5 hx4
    go_wp2_with fail
    refine μ HNe ?_
    rintro e w6 hn6
    rcases hq6:aE [41] r3 with _|r4
    ·obtain ⟨rfl,hb6⟩:=hn6.no hq6
     have HN2:=κ (HN.out.trans (by rw [hq6]))
     clear hn6 hq6
     unfold aV
     go_wp2
     exact ⟨rfl,fG (hB5.trans hb6) HN2.out (by decide)⟩
    ·obtain ⟨rfl,hb6,hp6⟩:=hn6.yes hq6
     have HN2:=κ (HN.out.trans (by rw [hq6]))
     have HX6:=κ (PX.keep (cG hb6 HP5.out) HX5.out)
     clear hn6 hq6 hc4 hfz
     go_wp2
     go_ret
     refine ⟨hB5.trans hb6, ?_⟩
     rw [HN2.out]
     exact ⟨_,_,rfl,HX6.out,hp6⟩
theorem Jm (P d:Nat) (l:List Tok) (w:World) (h:PS w P l d) (hs:Lsane l) (hR:Resv w) (hf:isF bF l=true)
 (HF:LvOk 124 1 P d (l.length-2)) :
 Calls prog 210 #[.pointer (some ⟨P,0,none⟩),.string ⟨#[99,111,117,110,116]⟩] w (XPost P w d (nF d bF l.tail)):=by
 obtain ⟨hup,hasc,hle⟩:=xA bF (by decide)
 rw [Rn] at hup
 obtain ⟨UP,hUPe⟩:∃ UP,UP=aU:=⟨_,rfl⟩
 rw [←hUPe] at hup
 have HUPe:=κ hUPe
 have HU:=κ (fun w=>Dl bF w _ hup hasc hle)
 have HN:=κ (wV P d bF [40] l w h hf)
 have hPw:=h.lt
 have HP:=κ h
 have HR:=κ hR
 have HF':=κ HF
 have hlt:=bB hf
 have HS:=κ hs
 have HQN:=κ (fun (hq:aE [40] l.tail=none)=>(show nF d bF l.tail=none by rw [nF,hq]))
 have HQY:=κ (fun (r2:List Tok) (hq:aE [40] l.tail=some r2) (hi:isF [42] r2=false)=>(show nF d bF l.tail=(match pX 1 d r2 with
  | none=>none
  | some (x,r3)=>(aE [41] r3).map fun r4=>(.agg UP x,r4)) by rw [nF,hq];rw [hUPe, ←Rn];exact if_neg (fun h=>by rw [hi] at h;cases h.2)))
 have HQC:=κ (fun (r2:List Tok) (hq:aE [40] l.tail=some r2) (hi:isF [42] r2=true)=>(show nF d bF l.tail=(aE [41] r2.tail).map (fun r3=>(.cnt,r3)) by rw [nF,hq];exact if_pos ⟨rfl,hi⟩))
 clear hup hasc hle h hR HF hf hs hUPe
 go_enter func210,ntmps210
 go_wp2_with fail
 refine μ HN ?_
 rintro e w1 hn
 rcases hq:aE [40] l.tail with _|r2
 ·obtain ⟨rfl,hb1⟩:=hn.no hq
  have HQ:=κ (HQN.out hq)
  clear hq hn
  unfold aV
  go_wp2
  refine ⟨rfl,hb1, ?_⟩
  rw [HQ.out]
  exact ⟨4,rfl,by decide⟩
 ·obtain ⟨rfl,hb1,hp1⟩:=hn.yes hq
  have HQY2:=κ (fun hi=>HQY.out r2 hq hi)
  have HQC2:=κ (fun hi=>HQC.out r2 hq hi)
  have hr2:=dH hq
  have HS2:=κ (HS.out.sfx ((aR hq).trans (bL l)))
  have HR1:=κ (HR.out.but HP.out hb1)
  have HP1:=κ hp1
  clear hq hn HN hp1 HQY HQC HQN
  go_wp2_with fail
  refine (HU.out _).mono ?_
  rintro e w2 ⟨rfl,hb2⟩
  have hB2:=hb1.trans (But.of hb2)
  have HP2:=κ (HP1.out.below hb2)
  have HR2:=κ (bP HR1.out hb2)
  have HB2:=κ hB2
  have hz2:=hB2.size
  clear hb1 hb2 HP1 HR1 HU hB2
  have hb3:Below w2.heap.size w2 (w2.alloc (.cells #[.string ⟨UP.toArray⟩,.nilIface] 208)):=ρ
  have hp3:=HP2.out.below hb3
  have hR3:=bP HR2.out hb3
  have HX3:=κ (heap_alloc_new w2 (.cells #[.string ⟨UP.toArray⟩,.nilIface] 208))
  have HB3:=κ (HB2.out.trans (But.of hb3))
  have hgP:P<w2.heap.size:=by omega
  clear hb3
  cases hi:isF [42] r2
  ·have HQ:=κ (HQY2.out hi)
   have HI:=κ (bM P d r2 ⟨#[42]⟩ _ hp3 false hi)
   have HP3:=κ hp3
   have HR3:=κ hR3
   clear hi hp3 hR3 HQY2 HQC2
   go_wp2_with fail
   refine μ HI ?_
   rintro e w3 ⟨rfl,hb3,hp3⟩
   have HC3:=κ (HF'.out w3 r2 (by omega) hp3 HS2.out (HR3.out.but HP3.out hb3))
   have HX4:=κ (aO hb3 HX3.out (Nat.ne_of_gt hgP))
   have HB4:=κ (HB3.out.trans hb3)
   have hz4:=hb3.size
   clear hp3 hb3
   go_wp2_with fail
   refine μ HC3 ?_
   rintro e w4 ⟨hb4,hq4⟩
   have hx4:=aO hb4 HX4.out (Nat.ne_of_gt hgP)
   have hB4:=HB4.out.trans hb4
   rcases hq4e:pX 1 d r2 with _|⟨x,r3⟩
   ·rw [hq4e] at hq4
    obtain ⟨ce,rfl,hce⟩:=hq4
    have HN:=κ (HQ.out.trans (by rw [hq4e]))
    clear hq4e hx4
    unfold aV
    go_wp2
    exact ⟨rfl,fG hB4 HN.out hce⟩
   ·rw [hq4e] at hq4
    obtain ⟨T4,g4,rfl,hy,hp4⟩:=hq4
    have HN:=κ (HQ.out.trans (by rw [hq4e]))
    have hc4:=β hx4
    have hfz:=fun j=>frozen_of_row w4 w2.heap.size j _ _ hx4
    have hx5:=heap_setCell_same w4 w2.heap.size 1 _ _ (.iface T4 (.pointer (some ⟨g4,0,none⟩))) hx4
    have hy5:PX w.heap.size (w4.setCell ⟨w2.heap.size,1,none⟩ (.iface T4 (.pointer (some ⟨g4,0,none⟩)))) x (.iface T4 (.pointer (some ⟨g4,0,none⟩))) :=
     (hy.keepB (fun k o hk ho=>(Below.heap_setCell w4 ⟨w2.heap.size,1,none⟩ _ k (by intro e;simp at hz4 e;omega)).trans ho)).mono (by simp at hz4;omega)
    have hp5:=hp4.setNew (o:=1) hgP (.iface T4 (.pointer (some ⟨g4,0,none⟩)))
    have hB5:=hB4.setNew (o:=1) hz2 (.iface T4 (.pointer (some ⟨g4,0,none⟩)))
    have hNe:=bQ P d [41] r3 _ hp5
    rw [World.size_setCell] at hNe
    have HNe:=κ hNe
    clear hNe
    have HP5:=κ hp5
    have HX5:=κ (show PX w.heap.size (w4.setCell ⟨w2.heap.size,1,none⟩ (.iface T4 (.pointer (some ⟨g4,0,none⟩)))) (.agg UP x) (.iface 204 (.pointer (some ⟨w2.heap.size,0,none⟩))) from ⟨_,_,hz2,rfl,by simpa using hx5,hy5⟩)
    clear hq4e hy hp4 hx5 hy5 hp5 hx4
    go_wp2_with fail
    refine μ HNe ?_
    rintro e w6 hn6
    rcases hq6:aE [41] r3 with _|r4
    ·obtain ⟨rfl,hb6⟩:=hn6.no hq6
     have HN2:=κ (HN.out.trans (by rw [hq6]))
     clear hn6 hq6
     unfold aV
     go_wp2
     exact ⟨rfl,fG (hB5.trans hb6) HN2.out (by decide)⟩
    ·obtain ⟨rfl,hb6,hp6⟩:=hn6.yes hq6
     have HN2:=κ (HN.out.trans (by rw [hq6]))
     have HX6:=κ (PX.keep (cG hb6 HP5.out) HX5.out)
     clear hn6 hq6 hc4 hfz
     go_wp2
     go_ret
     refine ⟨hB5.trans hb6, ?_⟩
     rw [HN2.out]
     exact ⟨_,_,rfl,HX6.out,hp6⟩
  ·have HQ:=κ (HQC2.out hi)
   have HI:=κ (bM P d r2 ⟨#[42]⟩ _ hp3 true hi)
   clear hi hp3 hR3 HQY2 HQC2
   go_wp2_with fail
   refine μ HI ?_
   rintro e w3 ⟨rfl,hb3,hp3⟩
   simp only [if_true] at hp3
   have HX4:=κ (aO hb3 HX3.out (Nat.ne_of_gt hgP))
   have hB4:=HB3.out.trans hb3
   have HNe:=κ (bQ P d [41] r2.tail w3 hp3)
   have HP3:=κ hp3
   clear hp3 hb3
   go_wp2_with fail
   refine μ HNe ?_
   rintro e w6 hn6
   rcases hq6:aE [41] r2.tail with _|r4
   ·obtain ⟨rfl,hb6⟩:=hn6.no hq6
    have HN2:=κ (HQ.out.trans (by rw [hq6]))
    clear hn6 hq6
    unfold aV
    go_wp2
    exact ⟨rfl,fG (hB4.trans hb6) HN2.out (by decide)⟩
   ·obtain ⟨rfl,hb6,hp6⟩:=hn6.yes hq6
    have HN2:=κ (HQ.out.trans (by rw [hq6]))
    have hx6:=aO hb6 HX4.out (Nat.ne_of_gt hgP)
    have HX6:=κ (show PX w.heap.size w6 .cnt (.iface 204 (.pointer (some ⟨w2.heap.size,0,none⟩))) from ⟨_,hz2,rfl,by rw [hx6,HUPe.out]⟩)
    clear hn6 hq6 hx6
    go_wp2
    go_ret
    refine ⟨hB4.trans hb6, ?_⟩
    rw [HN2.out]
    exact ⟨_,_,rfl,HX6.out,hp6⟩
theorem Jq (P d:Nat) (word:List UInt8) (hw:word∈[bF,fI,gM,iX]) (l:List Tok) (w:World) (h:PS w P l d) (hs:Lsane l) (hR:Resv w) (hf:isF word l=true)
 (HF:LvOk 124 1 P d (l.length-2)) :
 Calls prog 210 #[.pointer (some ⟨P,0,none⟩),.string ⟨word.toArray⟩] w (XPost P w d (nF d word l.tail)):=by
 rcases List.mem_cons.1 hw with rfl|hw
 ·exact Jm P d l w h hs hR hf HF
 ·exact Jl P d word hw l w h hs hR hf HF
attribute [local go_sem] Lm Gg
def Bj (d:Nat) (r:List Tok):Option (Lp.X×List Tok):=match pX 1 d r with
 | none=>none
 | some (x,r2)=>(aE [41] r2).map fun r3=>(x,r3)
theorem Uc (P d b0:Nat) (l:List Tok) (w:World) (h:PS w P l d) (hs:Lsane l) (hR:Resv w) (h0:w.heap[b0]? = some (.cells #[.pointer (some ⟨P,0,none⟩)] 98 (0,0)))
 (hf:isF [40] l=true) (HF:LvOk 124 1 P d l.tail.length) :
 Calls prog 208 #[.pointer (some ⟨b0,0,none⟩)] w (XPost P w d (Bj d l.tail)):=by
 have c0:=β h0 0
 have HN:=κ (bQ P d [40] l w h)
 have HNF:=κ (show aE [40] l=some l.tail by simp [aE,hf])
 have HB:=κ (fun w' (hb:But P w w')=>ι (aI h0 hb h (by decide)) (hR.but h hb))
 have HS:=κ hs.tl
 clear h0 hs hR hf h
 go_enter func208,ntmps208
 go_wp2_with fail
 refine μ HN ?_
 rintro e w1 hn
 obtain ⟨rfl,hb1,hp1⟩:=hn.yes HNF.out
 obtain ⟨k0,hR1⟩:=HB.out w1 hb1
 have c1:=β k0 0
 have HC:=κ (HF w1 l.tail (ν _) hp1 HS.out hR1)
 have HP1:=κ hp1
 have HK0:=κ k0
 clear hn k0 hR1 HF HN HB HNF hp1 c0
 go_wp2_with fail
 refine μ HC ?_
 rintro e w2 ⟨hb2,hq2⟩
 have hB2:=hb1.trans hb2
 rcases hq:pX 1 d l.tail with _|⟨x,r2⟩
 ·rw [hq] at hq2
  obtain ⟨ce,rfl,hce⟩:=hq2
  have HN:=κ (show Bj d l.tail=none by rw [Bj,hq])
  clear hq c1
  unfold aV
  go_wp2
  exact ⟨rfl,fG hB2 HN.out hce⟩
 ·rw [hq] at hq2
  obtain ⟨T,g,rfl,hx,hp2⟩:=hq2
  have HN:=κ (show Bj d l.tail=(aE [41] r2).map (fun r3=>(x,r3)) by rw [Bj,hq])
  have c2:=β (aI HK0.out hb2 HP1.out (by decide)) 0
  have HNe:=κ (bQ P d [41] r2 w2 hp2)
  have HP2:=κ hp2
  have HX:=κ (hx.mono hb1.size)
  clear hq c1 hp2 hx
  go_wp2_with fail
  refine μ HNe ?_
  rintro e w6 hn6
  rcases hq6:aE [41] r2 with _|r4
  ·obtain ⟨rfl,hb6⟩:=hn6.no hq6
   have HN2:=κ (HN.out.trans (by rw [hq6]))
   clear hn6 hq6
   unfold aV
   go_wp2
   exact ⟨rfl,fG (hB2.trans hb6) HN2.out (by decide)⟩
  ·obtain ⟨rfl,hb6,hp6⟩:=hn6.yes hq6
   have HN2:=κ (HN.out.trans (by rw [hq6]))
   have HX6:=κ (PX.keep (cG hb6 HP2.out) HX.out)
   clear hn6 hq6
   go_wp2
   go_ret
   refine ⟨hB2.trans hb6, ?_⟩
   rw [HN2.out]
   exact ⟨_,_,rfl,HX6.out,hp6⟩
theorem Qf (P d b0 b1:Nat) (word:List UInt8) (hw:word∈[bF,fI,gM,iX]) (l:List Tok) (w:World) (h:PS w P l d) (hs:Lsane l) (hR:Resv w) (h0:w.heap[b0]? = some (.cells #[.pointer (some ⟨P,0,none⟩)] 98 (0,0)))
 (h1:w.heap[b1]? = some (.cells #[.string ⟨word.toArray⟩] 9 (0,0))) (hf:isF word l=true) (HF:LvOk 124 1 P d (l.length-2)) :
 Calls prog 209 #[.pointer (some ⟨b0,0,none⟩),.pointer (some ⟨b1,0,none⟩)] w (XPost P w d (nF d word l.tail)):=by
 have c0:=β h0 0
 have c1:=β h1 0
 have HC:=κ (Jq P d word hw l w h hs hR hf HF)
 clear h0 h1 h hs hR hf HF
 go_enter func209,ntmps209
 go_wp2_with fail
 refine μ HC ?_
 rintro e w' hx
 rcases hx.form with ⟨T,g,rfl⟩|⟨c,rfl⟩
 ·clear c0 c1
  go_wp2
  go_ret
  exact hx
 ·clear c0 c1
  unfold aV at *
  go_wp2
  exact ⟨rfl,hx⟩
theorem nD {P d:Nat} {w w':World} {k i:Int} {s:List UInt8} {b:Bool} {r:List Tok} {q:Option (Lp.X×List Tok)} (hq:q=some (.lit k i s b,r)) (hb:But P w w') (hp:PS w' P r d) :
 XPost P w d q (.returned (.iface 121 (.pointer (some ⟨w'.heap.size,0,none⟩)))) (w'.alloc (.cells #[.int .u8 k,.int .i64 i,.string ⟨s.toArray⟩,.bool b] 123)):=by
 subst hq
 have hb':Below w'.heap.size w' (w'.alloc (.cells #[.int .u8 k,.int .i64 i,.string ⟨s.toArray⟩,.bool b] 123)):=ρ
 exact ⟨hb.trans (But.of hb'),_,_,rfl,⟨_,hb.size,rfl,heap_alloc_new w' _⟩,hp.below hb'⟩
theorem nK {w:World} {P d:Nat} {t:Tok} {r:List Tok} (h:PS w P (t::r) d) :
 let W:=w.alloc (.cells #[.pointer (some ⟨P,0,none⟩)] 98)
 ∃ (b off n c:Nat),0<n∧(0:Int)<(n:Int)∧n=(t::r).length∧W.cell? ⟨P,0,none⟩=some (.slice (some ⟨b,off,none⟩) n c)∧W.cell? ⟨w.heap.size,0,none⟩=some (.pointer (some ⟨P,0,none⟩)) ∧
  W.cell? ⟨b,off,none⟩=some (.int .u8 t.k)∧W.cell? ⟨b,off+1,none⟩=some (.string ⟨t.s.toArray⟩)∧W.cell? ⟨b,off+2,none⟩=some (.int .i64 t.n):=by
 intro W
 have hb:Below w.heap.size w W:=ρ
 obtain ⟨A,c,h1,h2,h3⟩:=h.below hb
 obtain ⟨b,off,rfl,hlt,k0,k1,k2⟩:=h3.front
 exact ⟨b,off,(t::r).length,c,by simp,by simp,rfl,β h1 0,β (heap_alloc_new w _) 0,k0,k1,k2⟩
theorem Rz (P d:Nat) (w:World) (h:PS w P [] d):Calls prog 207 #[.pointer (some ⟨P,0,none⟩)] w (XPost P w d (pX 8 d [])):=by
 have hb:Below w.heap.size w (w.alloc (.cells #[.pointer (some ⟨P,0,none⟩)] 98)):=ρ
 obtain ⟨A,c,h1, -, -⟩:=h.below hb
 have hc:=β h1 0
 have hc1:=β (heap_alloc_new w (.cells #[.pointer (some ⟨P,0,none⟩)] 98)) 0
 have HQ:=κ (show pX 8 d []=none by rw [cU,Ok])
 have HB:=κ (But.of (P:=P) hb)
 clear h1 h hb
 go_enter func207,ntmps207
 go_wp2_with fail
 refine (jR _).mono ?_
 rintro e w1 ⟨rfl,rfl⟩
 unfold aV
 go_wp2
 exact ⟨rfl,fG HB.out HQ.out (by decide)⟩
theorem Da (P d:Nat) (t:Tok) (r:List Tok) (w:World) (h:PS w P (t::r) d) (hk:t.k=2∨t.k=3):Calls prog 207 #[.pointer (some ⟨P,0,none⟩)] w (XPost P w d (pX 8 d (t::r))):=by
 have hb:Below w.heap.size w (w.alloc (.cells #[.pointer (some ⟨P,0,none⟩)] 98)):=ρ
 obtain ⟨b,off,n,c,hn0,hn1, -,c0,c1,k0,k1,k2⟩:=nK h
 have HT:=κ (fun k (hk:t.k=k)=>pH P d t r k _ (h.below hb) hk)
 have HB:=κ (But.of (P:=P) hb)
 have HQ:=κ (show pX 8 d (t::r)=if t.k=2 then some (.lit 1 t.n [] false,r) else if t.k=3 then some (.lit 2 0 t.s false,r) else pA d (t::r) by
  rw [cU]
  rcases hk with hk|hk<;>rw [dP]<;>simp [hk])
 clear h hb
 rcases hk with hk|hk
 ·have HT2:=κ (HT.out 2 hk)
  have HQ2:=κ (HQ.out.trans (if_pos hk))
  have e1:(t.k==2)=true:=by rw [hk];rfl
  clear hk HT HQ
  go_enter func207,ntmps207
  go_wp2_with fail
  refine (cZ _).mono ?_
  rintro e w1 ⟨rfl,rfl⟩
  go_wp2_with fail
  refine μ HT2 ?_
  rintro e w1 ⟨rfl,hb1,hp1⟩
  clear c0 c1 k0 k1 k2
  go_wp2
  go_ret
  exact nD HQ2.out (HB.out.trans hb1) hp1
 ·have HT2:=κ (HT.out 3 hk)
  have HQ2:=κ (HQ.out.trans ((if_neg (by omega)).trans (if_pos hk)))
  have e1:(t.k==2)=false:=by rw [hk];rfl
  have e2:(t.k==3)=true:=by rw [hk];rfl
  clear hk HT HQ
  go_enter func207,ntmps207
  go_wp2_with fail
  refine (cZ _).mono ?_
  rintro e w1 ⟨rfl,rfl⟩
  go_wp2_with fail
  refine μ HT2 ?_
  rintro e w1 ⟨rfl,hb1,hp1⟩
  clear c0 c1 k0 k1 k2
  go_wp2
  go_ret
  exact nD HQ2.out (HB.out.trans hb1) hp1
theorem iJ {s:List UInt8} {t:Tok} {r:List Tok} (ht:rN t) (hk:t.k=4) (hs:∃ c q,s=c::q∧fO c=true):isF s (t::r)=false:=by
 obtain ⟨c,q,e1,e2⟩:=ht.2.2.2.1 hk
 obtain ⟨c',q',e3,e4⟩:=hs
 rw [pS]
 have:(t.s==s)=false:=by
  rw [beq_eq_false_iff_ne]
  intro h
  rw [e1,e3] at h
  injection h with h _
  rw [h,e4] at e2
  cases e2
 rw [this];rfl
theorem Uf {d:Nat} {t:Tok} {r:List Tok} (ht:rN t) (hk:t.k=4):pA d (t::r)=if isF [40] (t::r)=true then dwn d (Bj (d+1) r) else none:=by
 have hz:kQ (t::r)=none:=by simp [kQ,aZ,hk]
 have h0:isF bS (t::r)=false:=iJ ht hk ⟨_,_,rfl,by decide⟩
 have h1:isF dJ (t::r)=false:=iJ ht hk ⟨_,_,rfl,by decide⟩
 have h2:isF cH (t::r)=false:=iJ ht hk ⟨_,_,rfl,by decide⟩
 have h3:isF bF (t::r)=false:=iJ ht hk ⟨_,_,rfl,by decide⟩
 have h4:isF fI (t::r)=false:=iJ ht hk ⟨_,_,rfl,by decide⟩
 have h5:isF gM (t::r)=false:=iJ ht hk ⟨_,_,rfl,by decide⟩
 have h6:isF iX (t::r)=false:=iJ ht hk ⟨_,_,rfl,by decide⟩
 rw [dP,if_neg (by omega),if_neg (by omega),h0,h1,h2,h3,h4,h5,h6,hz]
 rfl
theorem Ku (P d:Nat) (t:Tok) (r:List Tok) (w:World) (h:PS w P (t::r) d) (hs:Lsane (t::r)) (hR:Resv w) (hd:d≤100000) (hk:t.k=4) (HE:LvOk 124 1 P (d+1) r.length) :
 Calls prog 207 #[.pointer (some ⟨P,0,none⟩)] w (XPost P w d (pX 8 d (t::r))):=by
 have hb:Below w.heap.size w (w.alloc (.cells #[.pointer (some ⟨P,0,none⟩)] 98)):=ρ
 obtain ⟨b,off,n,c,hn0,hn1, -,c0,c1,k0,k1,k2⟩:=nK h
 have hp1:=h.below hb
 have hx1:=heap_alloc_new w (.cells #[.pointer (some ⟨P,0,none⟩)] 98)
 have HB:=κ (But.of (P:=P) hb)
 have hQ:=(show pX 8 d (t::r)=pA d (t::r) from cU).trans (Uf (hs.2 t (by simp)) hk)
 have e1:(t.k==2)=false:=by rw [hk];rfl
 have e2:(t.k==3)=false:=by rw [hk];rfl
 have e3:(t.k==4)=true:=by rw [hk];rfl
 cases hf:isF [40] (t::r)
 ·have HQ:=κ (show pX 8 d (t::r)=none by rw [hQ,if_neg (by rw [hf];decide)])
  have HI:=κ (mG P d (t::r) ⟨#[40]⟩ _ hp1 false hf)
  clear h hb hp1 hx1 hs hR hk hQ hf HE
  go_enter func207,ntmps207
  go_wp2_with fail
  refine (cZ _).mono ?_
  rintro e w1 ⟨rfl,rfl⟩
  go_wp2_with fail
  refine μ HI ?_
  rintro e w1 ⟨rfl,rfl⟩
  go_wp2_with fail
  refine (jR _).mono ?_
  rintro e w1 ⟨rfl,rfl⟩
  unfold aV
  go_wp2
  exact ⟨rfl,fG HB.out HQ.out (by decide)⟩
 ·have HQ:=κ (show pX 8 d (t::r)=dwn d (Bj (d+1) r) by rw [hQ,if_pos hf])
  have HI:=κ (mG P d (t::r) ⟨#[40]⟩ _ hp1 true hf)
  have hRW:=bP hR hb
  have HC:=κ (uZ 208 (fun _ _=>rfl) #[.pointer (some ⟨w.heap.size,0,none⟩)] P d (t::r) _ hp1 hd (Bj (d+1) r)
   (fun w' hb' hp'=>Uc P (d+1) w.heap.size (t::r) w' hp' hs (hRW.but hp1 hb') (aI hx1 hb' hp1 (by decide)) hf HE))
  clear h hb hp1 hx1 hs hR hk hQ hf HE hRW
  have hmf:∀ (fn:Fn) (first cap:Array Value) (w:World),(Instr.makeFunc fn first cap).run prog w=.ok (.func fn first cap) w:=fun _ _ _ _=>rfl
  go_enter func207,ntmps207
  go_wp2_with fail
  refine (cZ _).mono ?_
  rintro e w1 ⟨rfl,rfl⟩
  go_wp2_with fail
  refine μ HI ?_
  rintro e w1 ⟨rfl,rfl⟩
  go_wp2_with fail
  refine (cZ _).mono ?_
  rintro e w1 ⟨rfl,rfl⟩
  go_wp2_with fail
  refine μ HC ?_
  rintro e w' hx
  clear c0 c1 k0 k1 k2
  replace hx:=XPost.pre HB.out hx
  rw [←HQ.out] at hx
  rcases hx.form with ⟨T,g,rfl⟩|⟨c,rfl⟩
  ·go_wp2
   go_ret
   exact hx
  ·unfold aV at *
   go_wp2
   exact ⟨rfl,hx⟩
theorem oY {s:List UInt8} {t:Tok} {r:List Tok} (hk:t.k=1):isF s (t::r)=(t.s==s):=by
 rw [pS,hk];simp
theorem zH {w:World} {P d:Nat} {l:List Tok} (s:List UInt8) (h:PS w P l d) (hR:Resv w) :
 let W:=(w.alloc (.cells #[.pointer (some ⟨P,0,none⟩)] 98)).alloc (.cells #[.string ⟨s.toArray⟩] 9)
 But P w W∧PS W P l d∧Resv W∧W.heap[w.heap.size]? = some (.cells #[.pointer (some ⟨P,0,none⟩)] 98 (0,0))∧W.heap[w.heap.size+1]? = some (.cells #[.string ⟨s.toArray⟩] 9 (0,0)):=by
 intro W
 have hb:Below w.heap.size w W:=(ρ).alloc (by simp) _
 exact ⟨But.of hb,h.below hb,bP hR hb,aC (heap_alloc_new w _) _,bN w _ _⟩
theorem yM {d:Nat} {t:Tok} {r:List Tok} (ht:rN t) (hk:t.k=1):pA d (t::r) =
 if t.s=bS then some (.lit 0 0 [] false,r) else if t.s=dJ then some (.lit 3 0 [] true,r) else if t.s=cH then some (.lit 3 0 [] false,r)
 else if t.s=bF∨t.s=fI∨t.s=gM∨t.s=iX then dwn d (nF (d+1) t.s r) else kQ (t::r):=by
 have h40:isF [40] (t::r)=false:=by
  obtain ⟨c,q,e1,e2⟩:=ht.2.2.1 hk
  rw [oY hk,beq_eq_false_iff_ne]
  intro h
  rw [e1] at h
  injection h with h _
  rw [h] at e2
  exact absurd e2 (by decide)
 rw [dP,if_neg (by omega),if_neg (by omega),h40]
 simp only [oY hk,beq_iff_eq,Bool.or_eq_true,φ,if_false,or_assoc]
 rfl
theorem Ov (P d:Nat) (t:Tok) (r:List Tok) (w:World) (h:PS w P (t::r) d) (hk:t.k=1) :
 Calls prog 70 #[.pointer (some ⟨P,0,none⟩),.slice (some ⟨w.heap.size,0,none⟩) 1 1] (w.alloc (.cells #[.string ⟨t.s.toArray⟩] 9)) (fun e w'=>e=.returned (.tuple #[])∧But P w w'∧PS w' P r d):=by
 have hf:isF t.s (t::r)=true:=by rw [oY hk];simp
 exact (bQ P d t.s (t::r) w h).mono fun e w' hn=>hn.yes (by simp [aE,hf])
theorem Sa (P d:Nat) (t:Tok) (r:List Tok) (w:World) (h:PS w P (t::r) d) (hs:Lsane (t::r)) (hR:Resv w) (hk:t.k=1) (hw:t.s=bS∨t.s=dJ∨t.s=cH) :
 Calls prog 207 #[.pointer (some ⟨P,0,none⟩)] w (XPost P w d (pX 8 d (t::r))):=by
 obtain ⟨b,off,n,c,hn0,hn1, -,c0,c1,k0,k1,k2⟩:=nK h
 obtain ⟨hB,hp1,hR1,hx0,hx1⟩:=zH t.s h hR
 have hQ:=(show pX 8 d (t::r)=pA d (t::r) from cU).trans (yM (hs.2 t (by simp)) hk)
 have hNe:=Ov P d t r _ hp1 hk
 simp only [World.size_alloc] at hNe
 have e1:(t.k==2)=false:=by rw [hk];rfl
 have e2:(t.k==3)=false:=by rw [hk];rfl
 have e3:(t.k==4)=false:=by rw [hk];rfl
 clear h hs hR hk
 rcases hw with hw|hw|hw
 ·have HQ:=κ (show pX 8 d (t::r)=some (.lit 0 0 [] false,r) by rw [hQ,if_pos hw])
  rw [show t.s=[110,117,108,108] from hw] at hNe hx1 hp1 hB k1 hx0
  have HNe:=κ hNe
  have HP1:=κ hp1
  have HX0:=κ hx0
  have HX1:=κ hx1
  have HB:=κ hB
  have d0:=β hx0 0
  have d1:=β hx1 0
  clear hB hp1 hR1 hx0 hx1 hQ hw hNe
  go_enter func207,ntmps207
  go_wp2_with fail
  refine (cZ _).mono ?_
  rintro e w1 ⟨rfl,rfl⟩
  go_wp2_with fail
  refine μ HNe ?_
  rintro e w1 ⟨rfl,hb1,hp1⟩
  have d2:=β (aI HX1.out hb1 HP1.out (by decide)) 0
  clear c0 c1 k0 k1 k2 d0 d1
  go_wp2
  go_ret
  exact nD HQ.out (HB.out.trans hb1) hp1
 ·have HQ:=κ (show pX 8 d (t::r)=some (.lit 3 0 [] true,r) by rw [hQ,if_neg (by rw [hw];decide),if_pos hw])
  rw [show t.s=[116,114,117,101] from hw] at hNe hx1 hp1 hB k1 hx0
  have HNe:=κ hNe
  have HP1:=κ hp1
  have HX0:=κ hx0
  have HX1:=κ hx1
  have HB:=κ hB
  have d0:=β hx0 0
  have d1:=β hx1 0
  clear hB hp1 hR1 hx0 hx1 hQ hw hNe
  go_enter func207,ntmps207
  go_wp2_with fail
  refine (cZ _).mono ?_
  rintro e w1 ⟨rfl,rfl⟩
  go_wp2_with fail
  refine μ HNe ?_
  rintro e w1 ⟨rfl,hb1,hp1⟩
  have d2:=β (aI HX1.out hb1 HP1.out (by decide)) 0
  clear c0 c1 k0 k1 k2 d0 d1
  go_wp2
  go_ret
  exact nD HQ.out (HB.out.trans hb1) hp1
 ·have HQ:=κ (show pX 8 d (t::r)=some (.lit 3 0 [] false,r) by rw [hQ,if_neg (by rw [hw];decide),if_neg (by rw [hw];decide),if_pos hw])
  rw [show t.s=[102,97,108,115,101] from hw] at hNe hx1 hp1 hB k1 hx0
  have HNe:=κ hNe
  have HP1:=κ hp1
  have HX0:=κ hx0
  have HX1:=κ hx1
  have HB:=κ hB
  have d0:=β hx0 0
  have d1:=β hx1 0
  clear hB hp1 hR1 hx0 hx1 hQ hw hNe
  go_enter func207,ntmps207
  go_wp2_with fail
  refine (cZ _).mono ?_
  rintro e w1 ⟨rfl,rfl⟩
  go_wp2_with fail
  refine μ HNe ?_
  rintro e w1 ⟨rfl,hb1,hp1⟩
  have d2:=β (aI HX1.out hb1 HP1.out (by decide)) 0
  clear c0 c1 k0 k1 k2 d0 d1
  go_wp2
  go_ret
  exact nD HQ.out (HB.out.trans hb1) hp1
theorem Fw (P d:Nat) (t:Tok) (r:List Tok) (w:World) (h:PS w P (t::r) d) (hs:Lsane (t::r)) (hR:Resv w) (hd:d≤100000) (hk:t.k=1) (hw:t.s=bF∨t.s=fI∨t.s=gM∨t.s=iX) (HE:LvOk 124 1 P (d+1) r.length) :
 Calls prog 207 #[.pointer (some ⟨P,0,none⟩)] w (XPost P w d (pX 8 d (t::r))):=by
 obtain ⟨b,off,n,c,hn0,hn1, -,c0,c1,k0,k1,k2⟩:=nK h
 obtain ⟨hB,hp1,hR1,hx0,hx1⟩:=zH t.s h hR
 have hQ:=(show pX 8 d (t::r)=pA d (t::r) from cU).trans (yM (hs.2 t (by simp)) hk)
 have hf:isF t.s (t::r)=true:=by rw [oY hk];simp
 have hmem:t.s∈[bF,fI,gM,iX]:=by simpa using hw
 have hC:=uZ 209 (fun _ _=>rfl) #[.pointer (some ⟨w.heap.size,0,none⟩),.pointer (some ⟨w.heap.size+1,0,none⟩)] P d (t::r) _ hp1 hd (nF (d+1) t.s r)
  (fun w' hb' hp'=>Qf P (d+1) w.heap.size (w.heap.size+1) t.s hmem (t::r) w' hp' hs (hR1.but hp1 hb') (aI hx0 hb' hp1 (by decide)) (aI hx1 hb' hp1 (by decide)) hf (HE.le (by simp)))
 have e1:(t.k==2)=false:=by rw [hk];rfl
 have e2:(t.k==3)=false:=by rw [hk];rfl
 have e3:(t.k==4)=false:=by rw [hk];rfl
 have hmf:∀ (fn:Fn) (first cap:Array Value) (w:World),(Instr.makeFunc fn first cap).run prog w=.ok (.func fn first cap) w:=fun _ _ _ _=>rfl
 clear h hs hR hk hf hmem HE hd
 have hQ2:pX 8 d (t::r)=dwn d (nF (d+1) t.s r):=by
  rw [hQ,if_neg (by rcases hw with h|h|h|h<;>rw [h]<;>decide),if_neg (by rcases hw with h|h|h|h<;>rw [h]<;>decide),if_neg (by rcases hw with h|h|h|h<;>rw [h]<;>decide),if_pos hw]
 rw [←hQ2] at hC
 clear hQ hQ2
 rcases hw with hw|hw|hw|hw
 ·rw [show t.s=[99,111,117,110,116] from hw] at hC hx1 hB k1 hx0
  have HC:=κ hC
  have HB:=κ hB
  have d0:=β hx0 0
  have d1:=β hx1 0
  clear hB hp1 hR1 hx0 hx1 hw hC
  go_enter func207,ntmps207
  go_wp2_with fail
  refine (cZ _).mono ?_
  rintro e w1 ⟨rfl,rfl⟩
  go_wp2_with fail
  refine μ HC ?_
  rintro e w' hx
  clear c0 c1 k0 k1 k2 d0 d1
  replace hx:=XPost.pre HB.out hx
  rcases hx.form with ⟨T,g,rfl⟩|⟨c,rfl⟩
  ·go_wp2
   go_ret
   exact hx
  ·unfold aV at *
   go_wp2
   exact ⟨rfl,hx⟩
 ·rw [show t.s=[115,117,109] from hw] at hC hx1 hB k1 hx0
  have HC:=κ hC
  have HB:=κ hB
  have d0:=β hx0 0
  have d1:=β hx1 0
  clear hB hp1 hR1 hx0 hx1 hw hC
  go_enter func207,ntmps207
  go_wp2_with fail
  refine (cZ _).mono ?_
  rintro e w1 ⟨rfl,rfl⟩
  go_wp2_with fail
  refine μ HC ?_
  rintro e w' hx
  clear c0 c1 k0 k1 k2 d0 d1
  replace hx:=XPost.pre HB.out hx
  rcases hx.form with ⟨T,g,rfl⟩|⟨c,rfl⟩
  ·go_wp2
   go_ret
   exact hx
  ·unfold aV at *
   go_wp2
   exact ⟨rfl,hx⟩
 ·rw [show t.s=[109,105,110] from hw] at hC hx1 hB k1 hx0
  have HC:=κ hC
  have HB:=κ hB
  have d0:=β hx0 0
  have d1:=β hx1 0
  clear hB hp1 hR1 hx0 hx1 hw hC
  go_enter func207,ntmps207
  go_wp2_with fail
  refine (cZ _).mono ?_
  rintro e w1 ⟨rfl,rfl⟩
  go_wp2_with fail
  refine μ HC ?_
  rintro e w' hx
  clear c0 c1 k0 k1 k2 d0 d1
  replace hx:=XPost.pre HB.out hx
  rcases hx.form with ⟨T,g,rfl⟩|⟨c,rfl⟩
  ·go_wp2
   go_ret
   exact hx
  ·unfold aV at *
   go_wp2
   exact ⟨rfl,hx⟩
 ·rw [show t.s=[109,97,120] from hw] at hC hx1 hB k1 hx0
  have HC:=κ hC
  have HB:=κ hB
  have d0:=β hx0 0
  have d1:=β hx1 0
  clear hB hp1 hR1 hx0 hx1 hw hC
  go_enter func207,ntmps207
  go_wp2_with fail
  refine (cZ _).mono ?_
  rintro e w1 ⟨rfl,rfl⟩
  go_wp2_with fail
  refine μ HC ?_
  rintro e w' hx
  clear c0 c1 k0 k1 k2 d0 d1
  replace hx:=XPost.pre HB.out hx
  rcases hx.form with ⟨T,g,rfl⟩|⟨c,rfl⟩
  ·go_wp2
   go_ret
   exact hx
  ·unfold aV at *
   go_wp2
   exact ⟨rfl,hx⟩
theorem Rl {t:Tok} {r r1:List Tok} {n1:List UInt8} (h:aZ (t::r)=some (n1,r1)) (h1:isF [46] r1=false):kQ (t::r)=some (.col [] n1,r1):=by
 simp [kQ,h,h1]
theorem Vy {t:Tok} {r r1:List Tok} {n1:List UInt8} (h:aZ (t::r)=some (n1,r1)) (h1:isF [46] r1=true):kQ (t::r)=match aZ r1.tail with|none=>none|some (m,r2)=>some (.col n1 m,r2):=by
 simp only [kQ,h,h1,if_true]
 cases aZ r1.tail<;>rfl
theorem Kv (P d:Nat) (t:Tok) (r:List Tok) (w:World) (h:PS w P (t::r) d) (hs:Lsane (t::r)) (hR:Resv w) (hk:t.k=1) (hw:t.s≠bS∧t.s≠dJ∧t.s≠cH∧t.s≠bF∧t.s≠fI∧t.s≠gM∧t.s≠iX) :
 Calls prog 207 #[.pointer (some ⟨P,0,none⟩)] w (XPost P w d (pX 8 d (t::r))):=by
 obtain ⟨b,off,n,c,hn0,hn1, -,c0,c1,k0,k1,k2⟩:=nK h
 obtain ⟨hB,hp1,hR1,hx0,hx1⟩:=zH t.s h hR
 obtain ⟨w1,w2,w3,w4,w5,w6,w7⟩:=hw
 have hQ:pX 8 d (t::r)=kQ (t::r):=by
  rw [(show pX 8 d (t::r)=pA d (t::r) from cU).trans (yM (hs.2 t (by simp)) hk),if_neg w1,if_neg w2,if_neg w3,if_neg (by rintro (h|h|h|h);exact w4 h;exact w5 h;exact w6 h;exact w7 h)]
 have HQ:=κ hQ
 have e1:(t.k==2)=false:=by rw [hk];rfl
 have e2:(t.k==3)=false:=by rw [hk];rfl
 have e3:(t.k==4)=false:=by rw [hk];rfl
 have v1:(t.s==[110,117,108,108])=false:=η w1
 have v2:(t.s==[116,114,117,101])=false:=η w2
 have v3:(t.s==[102,97,108,115,101])=false:=η w3
 have v4:(t.s==[99,111,117,110,116])=false:=η w4
 have v5:(t.s==[115,117,109])=false:=η w5
 have v6:(t.s==[109,105,110])=false:=η w6
 have v7:(t.s==[109,97,120])=false:=η w7
 have HNm:=κ (dU P d (t::r) _ hp1 hR1)
 have HP1:=κ hp1
 have HX0:=κ hx0
 have HB:=κ hB
 have HR1:=κ hR1
 have d0:=β hx0 0
 have d1:=β hx1 0
 clear h hs hR hk w1 w2 w3 w4 w5 w6 w7 hQ hB hp1 hR1 hx0 hx1
 go_enter func207,ntmps207
 go_wp2_with fail
 refine (cZ _).mono ?_
 rintro e w1 ⟨rfl,rfl⟩
 go_wp2_with fail
 refine μ HNm ?_
 rintro e w2 ⟨hb2,hq2⟩
 have hB2:=HB.out.trans hb2
 clear v1 v2 v3 v4 v5 v6 v7 c0 c1 k0 k1 k2 d0 d1
 rcases hq:aZ (t::r) with _|⟨n1,r1⟩
 ·rw [hq] at hq2
  obtain ⟨ce,rfl,hce⟩:=hq2
  have HN:=κ (show pX 8 d (t::r)=none by rw [HQ.out,kQ,hq])
  clear hq
  unfold aV
  go_wp2
  exact ⟨rfl,fG hB2 HN.out hce⟩
 ·rw [hq] at hq2
  obtain ⟨rfl,hp2⟩:=hq2
  have hx2:=aI HX0.out hb2 HP1.out (by decide)
  have hR2:=HR1.out.but HP1.out hb2
  have hz2:=hB2.size
  have hPlt:=HP1.out.lt
  have hb3:Below w2.heap.size w2 (w2.alloc (.cells #[.string ⟨#[]⟩,.string ⟨n1.toArray⟩] 206)):=ρ
  have hp3:=hp2.below hb3
  have hx3:=aC hx2 (.cells #[.string ⟨#[]⟩,.string ⟨n1.toArray⟩] 206)
  have hc3:=heap_alloc_new w2 (.cells #[.string ⟨#[]⟩,.string ⟨n1.toArray⟩] 206)
  have hR3:=bP hR2 hb3
  have HB3:=κ (hB2.trans (But.of hb3))
  have HC3:=κ hc3
  have HP3:=κ hp3
  have HX3:=κ hx3
  have HR3:=κ hR3
  have HQ1:=κ hq
  have d3:=β hx3 0
  have hgP:P<w2.heap.size:=by have:=hp2.lt;exact this
  cases hi:isF [46] r1
  ·have HI:=κ (bM P d r1 ⟨#[46]⟩ _ hp3 false hi)
   have HN:=κ (HQ.out.trans (Rl hq hi))
   clear hq hi hp2 hx2 hR2 hb3 hp3 hx3 hc3 hR3
   go_wp2_with fail
   refine μ HI ?_
   rintro e w3 ⟨rfl,hb4,hp4⟩
   have hc4:=aO hb4 HC3.out (Nat.ne_of_gt hgP)
   have HX:=κ (show PX w.heap.size w3 (.col [] n1) (.iface 192 (.pointer (some ⟨w2.heap.size,0,none⟩))) from ⟨_,hz2,rfl,hc4⟩)
   clear hc4 d3
   go_wp2
   go_ret
   refine ⟨HB3.out.trans hb4, ?_⟩
   rw [HN.out]
   exact ⟨_,_,rfl,HX.out,hp4⟩
  ·have HI:=κ (bM P d r1 ⟨#[46]⟩ _ hp3 true hi)
   have HN:=κ (HQ.out.trans (Vy hq hi))
   clear hq hi hp2 hx2 hR2 hb3 hp3 hx3 hc3 hR3
   go_wp2_with fail
   refine μ HI ?_
   rintro e w3 ⟨rfl,hb4,hp4⟩
   simp only [if_true] at hp4
   have hc4:=aO hb4 HC3.out (Nat.ne_of_gt hgP)
   have hx4:=aI HX3.out hb4 HP3.out (by decide)
   have hR4:=HR3.out.but HP3.out hb4
   have hB4:=HB3.out.trans hb4
   have HM:=κ (dU P d r1.tail w3.drew hp4 hR4)
   have f0:=β hx4 0
   have f1:=β hc4
   have f1':=f1 1
   have HP4:=κ hp4
   have HC4:=κ hc4
   have HB4:=κ hB4
   clear d3 hp4 hR4 hB4 hb4 hx4 hc4
   rcases hq4:aZ r1.tail with _|⟨n2,r2⟩
   ·have HN2:=κ (HN.out.trans (by rw [hq4]))
    have HM0:=κ (HM.out.mono (fun e w2 (hx:nN P w3.drew d (aZ r1.tail) e w2)=>(show But P w3.drew w2∧∃ c,e=aV c∧c≠0 by unfold nN at hx;rw [hq4] at hx;exact hx)))
    clear HM hq4
    go_wp2_with fail
    refine wp_region_held_drew (S:=fun w'=>w'.cell? ⟨w2.heap.size,1,none⟩=some (.string ⟨n1.toArray⟩)∧w'.cell? ⟨w.heap.size,0,none⟩=some (.pointer (some ⟨P,0,none⟩))) (by kernel_rfl) ⟨f1',f0⟩ (fun hHeld => ?_)
    refine wpAnyH_take (i:=0) (v:=.pointer (some ⟨w2.heap.size,0,none⟩)) rfl (by kernel_rfl) (by kernel_rfl) (by kernel_rfl) (fun _ _ _ h=>h) (Or.inl ⟨by rfl,fun w hSw=>by go_simp⟩) hHeld ?_
    refine wpAnyH_take (i:=1) (v:=.pointer (some ⟨w2.heap.size,0,none⟩)) rfl (by kernel_rfl) (by kernel_rfl) (by kernel_rfl) (fun _ _ _ h=>h) (Or.inl ⟨by rfl,fun w hSw=>by go_simp⟩) hHeld ?_
    refine wpAnyH_take (i:=2) (v:=.pointer (some ⟨w2.heap.size,0,none⟩)) rfl (by kernel_rfl) (by kernel_rfl) (by kernel_rfl) (fun _ _ _ h=>h) (Or.inl ⟨by rfl,fun w hSw=>by go_simp⟩) hHeld ?_
    refine wpAnyH_take (i:=3) (v:=.pointer (some ⟨w2.heap.size,0,none⟩)) rfl (by kernel_rfl) (by kernel_rfl) (by kernel_rfl) (fun _ _ _ h=>h) (Or.inl ⟨by rfl,fun w hSw=>by go_simp⟩) hHeld ?_
    refine wpAnyH_take (i:=4) (v:=.pointer (some ⟨w2.heap.size,1,none⟩)) rfl (by kernel_rfl) (by kernel_rfl) (by kernel_rfl) (fun _ _ _ h=>h) (Or.inl ⟨by rfl,fun w hSw=>by go_simp⟩) hHeld ?_
    refine wpAnyH_take (i:=5) (v:=.string ⟨n1.toArray⟩) rfl (by kernel_rfl) (by kernel_rfl) (by kernel_rfl) (fun _ _ _ h=>h) (Or.inl ⟨by rfl,fun w hSw=>by obtain ⟨s1,s2⟩:=hSw;go_simp⟩) hHeld ?_
    refine wpAnyH_take (i:=6) (v:=.pointer (some ⟨P,0,none⟩)) rfl (by kernel_rfl) (by kernel_rfl) (by kernel_rfl) (fun _ _ _ h=>h) (Or.inl ⟨by rfl,fun w hSw=>by obtain ⟨s1,s2⟩:=hSw;go_simp⟩) hHeld ?_
    refine wpAnyH_ready (rs:=[7]) (by kernel_rfl) (by simp) ?_
    refine AllReadyH.cons rfl (fun K hK => ?_) AllReadyH.nil
    go_simp
    refine μ HM0 ?_
    rintro e w5 ⟨hb5,ce,rfl,hc⟩
    unfold aV
    go_wp2
    exact ⟨rfl,fG ((HB4.out.trans (But.refl _ _).drew).trans hb5) HN2.out hc⟩
   ·have HN2:=κ (HN.out.trans (by rw [hq4]))
    have HM0:=κ (HM.out.mono (fun e w2 (hx:nN P w3.drew d (aZ r1.tail) e w2)=>(show But P w3.drew w2∧e=.returned (.string ⟨n2.toArray⟩)∧PS w2 P r2 d by unfold nN at hx;rw [hq4] at hx;exact hx)))
    have HCd:=κ (show w3.drew.heap[w2.heap.size]? = some (.cells #[.string ⟨#[]⟩,.string ⟨n1.toArray⟩] 206 (0,0)) from HC4.out)
    clear HM hq4
    go_wp2_with fail
    go_region_with ((go_at_call 119;refine μ HM0 ?_;rintro e w5 ⟨hb5,rfl,hp5⟩;have g1:=β (aO hb5 HCd.out (Nat.ne_of_gt hgP));have gz:=fun j=>frozen_of_row w5 w2.heap.size j _ _ (aO hb5 HCd.out (Nat.ne_of_gt hgP))))
    all_goals
     have hc6:=heap_setCell_same _ w2.heap.size 1 _ _ (.string ⟨n2.toArray⟩) (heap_setCell_same _ w2.heap.size 0 _ _ (.string ⟨n1.toArray⟩) (aO hb5 HCd.out (Nat.ne_of_gt hgP)))
     have HX:=κ (show PX w.heap.size ((w5.setCell ⟨w2.heap.size,0,none⟩ (.string ⟨n1.toArray⟩)).setCell ⟨w2.heap.size,1,none⟩ (.string ⟨n2.toArray⟩)) (.col n1 n2) (.iface 192 (.pointer (some ⟨w2.heap.size,0,none⟩))) from ⟨_,hz2,rfl,by simpa using hc6⟩)
     have HE:=κ (ι ((((HB4.out.trans (But.refl _ _).drew).trans hb5).setNew (o:=0) hz2 (.string ⟨n1.toArray⟩)).setNew (o:=1) hz2 (.string ⟨n2.toArray⟩)) ((hp5.setNew (o:=0) hgP (.string ⟨n1.toArray⟩)).setNew (o:=1) hgP (.string ⟨n2.toArray⟩)))
     clear hc6 g1 gz hb5 hp5
     go_wp2
     go_ret
     refine ⟨HE.out.1, ?_⟩
     rw [HN2.out]
     exact ⟨_,_,rfl,HX.out,HE.out.2⟩
