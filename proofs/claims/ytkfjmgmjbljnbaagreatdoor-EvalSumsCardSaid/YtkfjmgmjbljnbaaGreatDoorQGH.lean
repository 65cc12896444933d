/-
 Contracts and laws, joined: Parse7, Parse8, Parse9. Conditions: those of each.
-/
import Derived.Test.YtkfjmgmjbljnbaaGreatDoorQGG
import Derived.Deep.RegionWith
import Derived.BigRegion
set_option maxRecDepth 100000
set_option maxHeartbeats 8000000
namespace Go.Proofs.YtkfjmgmjbljnbaaGreatDoor
open Go.RowKit
theorem But.setNew {P g o:Nat} {w a:World} (h:But P w a) (hg:w.heap.size≤g) (v:Value):But P w (a.setCell ⟨g,o,none⟩ v) :=
 ⟨h.os,h.tape,h.output,by simpa [World.setCell] using h.size,fun k hk hn=>(Below.heap_setCell a ⟨g,o,none⟩ v k (by intro e;simp at e;omega)).trans (h.block k hk hn)⟩
theorem PS.setNew {P d g o:Nat} {l:List Lp.Tok} {a:World} (h:PS a P l d) (hg:P<g) (v:Value):PS (a.setCell ⟨g,o,none⟩ v) P l d:=by
 obtain ⟨A,c,h1,h2,h3⟩:=h
 refine ⟨A,c,(Below.heap_setCell a ⟨g,o,none⟩ v P (by intro e;simp at e;omega)).trans h1,h2, ?_⟩
 rcases h3 with h3|⟨b,off,hA,hlt,hc⟩
 ·exact .inl h3
 ·exact .inr ⟨b,off,hA,hlt,fun j u hu=>(World.cell?_of_block (w:=a) (Below.heap_setCell a ⟨g,o,none⟩ v b (by intro e;simp at e;omega))).trans (hc j u hu)⟩
def grpq (d:Nat) (word:List UInt8) (r:List Lp.Tok):Option (Lp.X×List Lp.Tok):=match Lp.needF [40] r with
 | none=>none
 | some r2=>if word=Lp.wCount∧Lp.isF [42] r2=true then (Lp.needF [41] r2.tail).map fun r3=>(.cnt,r3) else (match Lp.pX 1 d r2 with
   | none=>none
   | some (x,r3)=>(Lp.needF [41] r3).map fun r4=>(.agg (Lp.upW word) x,r4))
theorem grp_words:∀ s∈[Lp.wCount,Lp.wSum,Lp.wMin,Lp.wMax],Lib.toUpperA s=Lp.upW s∧(∀ c∈s,c.toNat<128)∧s.length≤10:=by decide
theorem cnt_up:Lp.upW Lp.wCount=Lp.uCount:=by decide
theorem need_new2 (P d:Nat) (s u:List UInt8) (l:List Lp.Tok) (w:World) (h:PS w P l d) (hf:Lp.isF s l=true) :
 Calls Tryz.prog 116 #[.pointer (some ⟨P,0,none⟩),.slice (some ⟨w.heap.size,0,none⟩) 2 2] (w.alloc (.cells #[.string ⟨s.toArray⟩,.string ⟨u.toArray⟩] 9)) (NeedPost P w d (Lp.needF u l.tail)):=by
 have hb:Below w.heap.size w (w.alloc (.cells #[.string ⟨s.toArray⟩,.string ⟨u.toArray⟩] 9)):=(Below.refl _ _).alloc (Nat.le_refl _) _
 have hw:WdsAt (w.alloc (.cells #[.string ⟨s.toArray⟩,.string ⟨u.toArray⟩] 9)) w.heap.size [s,u]:=wds_new w [s,u] 9
 refine (need_any P d w.heap.size 2 [s,u] l _ (h.below hb) (wds_ne hw (h.below hb)) hw (by simp)).mono ?_
 rintro e w' ⟨h1,h2⟩
 refine ⟨(But.of hb).trans h1, ?_⟩
 have e1:needs [s,u] l=Lp.needF u l.tail:=by
  simp only [needs,Lp.needF,hf,if_true]
  cases Lp.isF u l.tail<;>rfl
 rw [e1] at h2
 exact h2
theorem grp_none {P d:Nat} {w w':World} {q:Option (Lp.X×List Lp.Tok)} {c:Int} (hb:But P w w') (hq:q=none) (hc:c≠0):XPost P w d q (Stop c) w':=by
 subst hq;exact ⟨hb,c,rfl,hc⟩
theorem grp_other (P d:Nat) (word:List UInt8) (hw:word∈[Lp.wSum,Lp.wMin,Lp.wMax]) (l:List Lp.Tok) (w:World) (h:PS w P l d) (hs:Lsane l) (hR:Resv w) (hf:Lp.isF word l=true)
 (HF:LvOk 160 1 P d (l.length-2)) :
 Calls Tryz.prog 258 #[.pointer (some ⟨P,0,none⟩),.string ⟨word.toArray⟩] w (XPost P w d (grpq d word l.tail)):=by
 obtain ⟨hup,hasc,hle⟩:=grp_words word (List.mem_cons_of_mem _ hw)
 have HU:=κ (fun w=>up_any word w _ hup hasc hle)
 have HN:=κ (need_new2 P d word [40] l w h hf)
 have hPw:=h.lt
 have HP:=κ h
 have HR:=κ hR
 have HF':=κ HF
 have hlt:=Lp.isF_tail hf
 have HS:=κ hs
 have hnc:word≠Lp.wCount:=by
  intro e;subst e;revert hw;decide
 have HNC:=hnc
 have HQN:=κ (fun (hq:Lp.needF [40] l.tail=none)=>(show grpq d word l.tail=none by rw [grpq,hq]))
 have HQY:=κ (fun (r2:List Lp.Tok) (hq:Lp.needF [40] l.tail=some r2)=>(show grpq d word l.tail=(match Lp.pX 1 d r2 with
  | none=>none
  | some (x,r3)=>(Lp.needF [41] r3).map fun r4=>(.agg (Lp.upW word) x,r4)) by rw [grpq,hq];exact if_neg (fun h=>hnc h.1)))
 clear hup hasc hle h hR HF hf hnc hs HNC
 generalize hUP:Lp.upW word=UP at *
 clear hUP
 have hw:word=Lp.wSum∨word=Lp.wMin∨word=Lp.wMax:=by simpa using hw
 rcases hw with rfl|rfl|rfl
 all_goals
  go_enter Tryz.func258,Tryz.ntmps258
  go_wp2_with fail
  refine HN.out.mono ?_
  rintro e w1 hn
  rcases hq:Lp.needF [40] l.tail with _|r2
  ·obtain ⟨rfl,hb1⟩:=hn.no hq
   have HQ:=κ (HQN.out hq)
   clear hq hn
   unfold Stop
   go_wp2
   refine ⟨rfl,hb1, ?_⟩
   rw [HQ.out]
   exact ⟨4,rfl,by decide⟩
  ·obtain ⟨rfl,hb1,hp1⟩:=hn.yes hq
   have HQ:=κ (HQY.out r2 hq)
   have hr2:=Lp.needF_len hq
   have HS2:=κ (HS.out.sfx ((Lp.needF_sfx hq).trans (Lp.tail_sfx l)))
   have HR1:=κ (HR.out.but HP.out hb1)
   have HP1:=κ hp1
   clear hq hn HN hp1
   go_wp2_with fail
   refine (HU.out _).mono ?_
   rintro e w2 ⟨rfl,hb2⟩
   have hB2:=hb1.trans (But.of hb2)
   have HP2:=κ (HP1.out.below hb2)
   have HR2:=κ (resv_below HR1.out hb2)
   have HB2:=κ hB2
   have hz2:=hB2.size
   clear hb1 hb2 HP1 HR1 HU hB2
   have hb3:Below w2.heap.size w2 (w2.alloc (.cells #[.string ⟨UP.toArray⟩,.nilIface] 225)):=(Below.refl _ _).alloc (Nat.le_refl _) _
   have HC3:=κ (HF'.out _ r2 (by omega) (HP2.out.below hb3) HS2.out (resv_below HR2.out hb3))
   have HP3:=κ (HP2.out.below hb3)
   have HX3:=κ (heap_alloc_new w2 (.cells #[.string ⟨UP.toArray⟩,.nilIface] 225))
   have HB3:=κ (HB2.out.trans (But.of hb3))
   have hgP:P<w2.heap.size:=by omega
   clear hb3
   go_wp2_with fail
   refine HC3.out.mono ?_
   rintro e w4 ⟨hb4,hq4⟩
   have hx4:=but_box hb4 HX3.out (Nat.ne_of_gt hgP)
   have hB4:=HB3.out.trans hb4
   rcases hq4e:Lp.pX 1 d r2 with _|⟨x,r3⟩
   ·rw [hq4e] at hq4
    obtain ⟨ce,rfl,hce⟩:=hq4
    have HN:=κ (HQ.out.trans (by rw [hq4e]))
    clear hq4e hx4
    unfold Stop
    go_wp2
    exact ⟨rfl,grp_none hB4 HN.out hce⟩
   ·rw [hq4e] at hq4
    obtain ⟨T4,g4,rfl,hy,hp4⟩:=hq4
    have HN:=κ (HQ.out.trans (by rw [hq4e]))
    have hc4:=β hx4
    have hfz:=fun j=>frozen_of_row w4 w2.heap.size j _ _ hx4
    have hx5:=heap_setCell_same w4 w2.heap.size 1 _ _ (.iface T4 (.pointer (some ⟨g4,0,none⟩))) hx4
    have hy5:PX w.heap.size (w4.setCell ⟨w2.heap.size,1,none⟩ (.iface T4 (.pointer (some ⟨g4,0,none⟩)))) x (.iface T4 (.pointer (some ⟨g4,0,none⟩))) :=
     (hy.keepB (fun k o hk ho=>(Below.heap_setCell w4 ⟨w2.heap.size,1,none⟩ _ k (by intro e;simp at hk e;omega)).trans ho)).mono (by simp;omega)
    have hp5:=hp4.setNew (o:=1) hgP (.iface T4 (.pointer (some ⟨g4,0,none⟩)))
    have hB5:=hB4.setNew (o:=1) hz2 (.iface T4 (.pointer (some ⟨g4,0,none⟩)))
    have hNe:=need_new P d [41] r3 _ hp5
    rw [World.size_setCell] at hNe
    have HNe:=κ hNe
    clear hNe
    have HP5:=κ hp5
    have HX5:=κ (show PX w.heap.size (w4.setCell ⟨w2.heap.size,1,none⟩ (.iface T4 (.pointer (some ⟨g4,0,none⟩)))) (.agg UP x) (.iface 179 (.pointer (some ⟨w2.heap.size,0,none⟩))) from ⟨_,_,hz2,rfl,by simpa using hx5,hy5⟩)
    clear hq4e hy hp4 hx5 hy5 hp5 hx4
    go_wp2_with fail
    refine HNe.out.mono ?_
    rintro e w6 hn6
    rcases hq6:Lp.needF [41] r3 with _|r4
    ·obtain ⟨rfl,hb6⟩:=hn6.no hq6
     have HN2:=κ (HN.out.trans (by rw [hq6]))
     clear hn6 hq6
     unfold Stop
     go_wp2
     exact ⟨rfl,grp_none (hB5.trans hb6) HN2.out (by decide)⟩
    ·obtain ⟨rfl,hb6,hp6⟩:=hn6.yes hq6
     have HN2:=κ (HN.out.trans (by rw [hq6]))
     have HX6:=κ (PX.keep (stays_but hb6 HP5.out) HX5.out)
     clear hn6 hq6 hc4 hfz
     go_wp2
     go_ret
     refine ⟨hB5.trans hb6, ?_⟩
     rw [HN2.out]
     exact ⟨_,_,rfl,HX6.out,hp6⟩
theorem grp_count (P d:Nat) (l:List Lp.Tok) (w:World) (h:PS w P l d) (hs:Lsane l) (hR:Resv w) (hf:Lp.isF Lp.wCount l=true)
 (HF:LvOk 160 1 P d (l.length-2)) :
 Calls Tryz.prog 258 #[.pointer (some ⟨P,0,none⟩),.string ⟨#[99,111,117,110,116]⟩] w (XPost P w d (grpq d Lp.wCount l.tail)):=by
 obtain ⟨hup,hasc,hle⟩:=grp_words Lp.wCount (by decide)
 rw [cnt_up] at hup
 obtain ⟨UP,hUPe⟩:∃ UP,UP=Lp.uCount:=⟨_,rfl⟩
 rw [←hUPe] at hup
 have HUPe:=κ hUPe
 have HU:=κ (fun w=>up_any Lp.wCount w _ hup hasc hle)
 have HN:=κ (need_new2 P d Lp.wCount [40] l w h hf)
 have hPw:=h.lt
 have HP:=κ h
 have HR:=κ hR
 have HF':=κ HF
 have hlt:=Lp.isF_tail hf
 have HS:=κ hs
 have HQN:=κ (fun (hq:Lp.needF [40] l.tail=none)=>(show grpq d Lp.wCount l.tail=none by rw [grpq,hq]))
 have HQY:=κ (fun (r2:List Lp.Tok) (hq:Lp.needF [40] l.tail=some r2) (hi:Lp.isF [42] r2=false)=>(show grpq d Lp.wCount l.tail=(match Lp.pX 1 d r2 with
  | none=>none
  | some (x,r3)=>(Lp.needF [41] r3).map fun r4=>(.agg UP x,r4)) by rw [grpq,hq];rw [hUPe, ←cnt_up];exact if_neg (fun h=>by rw [hi] at h;cases h.2)))
 have HQC:=κ (fun (r2:List Lp.Tok) (hq:Lp.needF [40] l.tail=some r2) (hi:Lp.isF [42] r2=true)=>(show grpq d Lp.wCount l.tail=(Lp.needF [41] r2.tail).map (fun r3=>(.cnt,r3)) by rw [grpq,hq];exact if_pos ⟨rfl,hi⟩))
 clear hup hasc hle h hR HF hf hs hUPe
 go_enter Tryz.func258,Tryz.ntmps258
 go_wp2_with fail
 refine HN.out.mono ?_
 rintro e w1 hn
 rcases hq:Lp.needF [40] l.tail with _|r2
 ·obtain ⟨rfl,hb1⟩:=hn.no hq
  have HQ:=κ (HQN.out hq)
  clear hq hn
  unfold Stop
  go_wp2
  refine ⟨rfl,hb1, ?_⟩
  rw [HQ.out]
  exact ⟨4,rfl,by decide⟩
 ·obtain ⟨rfl,hb1,hp1⟩:=hn.yes hq
  have HQY2:=κ (fun hi=>HQY.out r2 hq hi)
  have HQC2:=κ (fun hi=>HQC.out r2 hq hi)
  have hr2:=Lp.needF_len hq
  have HS2:=κ (HS.out.sfx ((Lp.needF_sfx hq).trans (Lp.tail_sfx l)))
  have HR1:=κ (HR.out.but HP.out hb1)
  have HP1:=κ hp1
  clear hq hn HN hp1 HQY HQC HQN
  go_wp2_with fail
  refine (HU.out _).mono ?_
  rintro e w2 ⟨rfl,hb2⟩
  have hB2:=hb1.trans (But.of hb2)
  have HP2:=κ (HP1.out.below hb2)
  have HR2:=κ (resv_below HR1.out hb2)
  have HB2:=κ hB2
  have hz2:=hB2.size
  clear hb1 hb2 HP1 HR1 HU hB2
  have hb3:Below w2.heap.size w2 (w2.alloc (.cells #[.string ⟨UP.toArray⟩,.nilIface] 225)):=(Below.refl _ _).alloc (Nat.le_refl _) _
  have hp3:=HP2.out.below hb3
  have hR3:=resv_below HR2.out hb3
  have HX3:=κ (heap_alloc_new w2 (.cells #[.string ⟨UP.toArray⟩,.nilIface] 225))
  have HB3:=κ (HB2.out.trans (But.of hb3))
  have hgP:P<w2.heap.size:=by omega
  clear hb3
  cases hi:Lp.isF [42] r2
  ·have HQ:=κ (HQY2.out hi)
   have HI:=κ (has_is P d r2 ⟨#[42]⟩ _ hp3 false hi)
   have HP3:=κ hp3
   have HR3:=κ hR3
   clear hi hp3 hR3 HQY2 HQC2
   go_wp2_with fail
   refine HI.out.mono ?_
   rintro e w3 ⟨rfl,hb3,hp3⟩
   have HC3:=κ (HF'.out w3 r2 (by omega) hp3 HS2.out (HR3.out.but HP3.out hb3))
   have HX4:=κ (but_box hb3 HX3.out (Nat.ne_of_gt hgP))
   have HB4:=κ (HB3.out.trans hb3)
   have hz4:=hb3.size
   clear hp3 hb3
   go_wp2_with fail
   refine HC3.out.mono ?_
   rintro e w4 ⟨hb4,hq4⟩
   have hx4:=but_box hb4 HX4.out (Nat.ne_of_gt hgP)
   have hB4:=HB4.out.trans hb4
   rcases hq4e:Lp.pX 1 d r2 with _|⟨x,r3⟩
   ·rw [hq4e] at hq4
    obtain ⟨ce,rfl,hce⟩:=hq4
    have HN:=κ (HQ.out.trans (by rw [hq4e]))
    clear hq4e hx4
    unfold Stop
    go_wp2
    exact ⟨rfl,grp_none hB4 HN.out hce⟩
   ·rw [hq4e] at hq4
    obtain ⟨T4,g4,rfl,hy,hp4⟩:=hq4
    have HN:=κ (HQ.out.trans (by rw [hq4e]))
    have hc4:=β hx4
    have hfz:=fun j=>frozen_of_row w4 w2.heap.size j _ _ hx4
    have hx5:=heap_setCell_same w4 w2.heap.size 1 _ _ (.iface T4 (.pointer (some ⟨g4,0,none⟩))) hx4
    have hy5:PX w.heap.size (w4.setCell ⟨w2.heap.size,1,none⟩ (.iface T4 (.pointer (some ⟨g4,0,none⟩)))) x (.iface T4 (.pointer (some ⟨g4,0,none⟩))) :=
     (hy.keepB (fun k o hk ho=>(Below.heap_setCell w4 ⟨w2.heap.size,1,none⟩ _ k (by intro e;simp at hz4 e;omega)).trans ho)).mono (by simp at hz4;omega)
    have hp5:=hp4.setNew (o:=1) hgP (.iface T4 (.pointer (some ⟨g4,0,none⟩)))
    have hB5:=hB4.setNew (o:=1) hz2 (.iface T4 (.pointer (some ⟨g4,0,none⟩)))
    have hNe:=need_new P d [41] r3 _ hp5
    rw [World.size_setCell] at hNe
    have HNe:=κ hNe
    clear hNe
    have HP5:=κ hp5
    have HX5:=κ (show PX w.heap.size (w4.setCell ⟨w2.heap.size,1,none⟩ (.iface T4 (.pointer (some ⟨g4,0,none⟩)))) (.agg UP x) (.iface 179 (.pointer (some ⟨w2.heap.size,0,none⟩))) from ⟨_,_,hz2,rfl,by simpa using hx5,hy5⟩)
    clear hq4e hy hp4 hx5 hy5 hp5 hx4
    go_wp2_with fail
    refine HNe.out.mono ?_
    rintro e w6 hn6
    rcases hq6:Lp.needF [41] r3 with _|r4
    ·obtain ⟨rfl,hb6⟩:=hn6.no hq6
     have HN2:=κ (HN.out.trans (by rw [hq6]))
     clear hn6 hq6
     unfold Stop
     go_wp2
     exact ⟨rfl,grp_none (hB5.trans hb6) HN2.out (by decide)⟩
    ·obtain ⟨rfl,hb6,hp6⟩:=hn6.yes hq6
     have HN2:=κ (HN.out.trans (by rw [hq6]))
     have HX6:=κ (PX.keep (stays_but hb6 HP5.out) HX5.out)
     clear hn6 hq6 hc4 hfz
     go_wp2
     go_ret
     refine ⟨hB5.trans hb6, ?_⟩
     rw [HN2.out]
     exact ⟨_,_,rfl,HX6.out,hp6⟩
  ·have HQ:=κ (HQC2.out hi)
   have HI:=κ (has_is P d r2 ⟨#[42]⟩ _ hp3 true hi)
   clear hi hp3 hR3 HQY2 HQC2
   go_wp2_with fail
   refine HI.out.mono ?_
   rintro e w3 ⟨rfl,hb3,hp3⟩
   simp only [if_true] at hp3
   have HX4:=κ (but_box hb3 HX3.out (Nat.ne_of_gt hgP))
   have hB4:=HB3.out.trans hb3
   have HNe:=κ (need_new P d [41] r2.tail w3 hp3)
   have HP3:=κ hp3
   clear hp3 hb3
   go_wp2_with fail
   refine HNe.out.mono ?_
   rintro e w6 hn6
   rcases hq6:Lp.needF [41] r2.tail with _|r4
   ·obtain ⟨rfl,hb6⟩:=hn6.no hq6
    have HN2:=κ (HQ.out.trans (by rw [hq6]))
    clear hn6 hq6
    unfold Stop
    go_wp2
    exact ⟨rfl,grp_none (hB4.trans hb6) HN2.out (by decide)⟩
   ·obtain ⟨rfl,hb6,hp6⟩:=hn6.yes hq6
    have HN2:=κ (HQ.out.trans (by rw [hq6]))
    have hx6:=but_box hb6 HX4.out (Nat.ne_of_gt hgP)
    have HX6:=κ (show PX w.heap.size w6 .cnt (.iface 179 (.pointer (some ⟨w2.heap.size,0,none⟩))) from ⟨_,hz2,rfl,by rw [hx6,HUPe.out]⟩)
    clear hn6 hq6 hx6
    go_wp2
    go_ret
    refine ⟨hB4.trans hb6, ?_⟩
    rw [HN2.out]
    exact ⟨_,_,rfl,HX6.out,hp6⟩
theorem group_any (P d:Nat) (word:List UInt8) (hw:word∈[Lp.wCount,Lp.wSum,Lp.wMin,Lp.wMax]) (l:List Lp.Tok) (w:World) (h:PS w P l d) (hs:Lsane l) (hR:Resv w) (hf:Lp.isF word l=true)
 (HF:LvOk 160 1 P d (l.length-2)) :
 Calls Tryz.prog 258 #[.pointer (some ⟨P,0,none⟩),.string ⟨word.toArray⟩] w (XPost P w d (grpq d word l.tail)):=by
 rcases List.mem_cons.1 hw with rfl|hw
 ·exact grp_count P d l w h hs hR hf HF
 ·exact grp_other P d word hw l w h hs hR hf HF
attribute [local go_sem] tok_S tok_N
def parq (d:Nat) (r:List Lp.Tok):Option (Lp.X×List Lp.Tok):=match Lp.pX 1 d r with
 | none=>none
 | some (x,r2)=>(Lp.needF [41] r2).map fun r3=>(x,r3)
theorem par_any (P d b0:Nat) (l:List Lp.Tok) (w:World) (h:PS w P l d) (hs:Lsane l) (hR:Resv w) (h0:w.heap[b0]? = some (.cells #[.pointer (some ⟨P,0,none⟩)] 146 (0,0)))
 (hf:Lp.isF [40] l=true) (HF:LvOk 160 1 P d l.tail.length) :
 Calls Tryz.prog 256 #[.pointer (some ⟨b0,0,none⟩)] w (XPost P w d (parq d l.tail)):=by
 have c0:=β h0 0
 have HN:=κ (need_new P d [40] l w h)
 have HNF:=κ (show Lp.needF [40] l=some l.tail by simp [Lp.needF,hf])
 have HB:=κ (fun w' (hb:But P w w')=>ι (box_but h0 hb h (by decide)) (hR.but h hb))
 have HS:=κ hs.tl
 clear h0 hs hR hf h
 go_enter Tryz.func256,Tryz.ntmps256
 go_wp2_with fail
 refine HN.out.mono ?_
 rintro e w1 hn
 obtain ⟨rfl,hb1,hp1⟩:=hn.yes HNF.out
 obtain ⟨k0,hR1⟩:=HB.out w1 hb1
 have c1:=β k0 0
 have HC:=κ (HF w1 l.tail (Nat.le_refl _) hp1 HS.out hR1)
 have HP1:=κ hp1
 have HK0:=κ k0
 clear hn k0 hR1 HF HN HB HNF hp1 c0
 go_wp2_with fail
 refine HC.out.mono ?_
 rintro e w2 ⟨hb2,hq2⟩
 have hB2:=hb1.trans hb2
 rcases hq:Lp.pX 1 d l.tail with _|⟨x,r2⟩
 ·rw [hq] at hq2
  obtain ⟨ce,rfl,hce⟩:=hq2
  have HN:=κ (show parq d l.tail=none by rw [parq,hq])
  clear hq c1
  unfold Stop
  go_wp2
  exact ⟨rfl,grp_none hB2 HN.out hce⟩
 ·rw [hq] at hq2
  obtain ⟨T,g,rfl,hx,hp2⟩:=hq2
  have HN:=κ (show parq d l.tail=(Lp.needF [41] r2).map (fun r3=>(x,r3)) by rw [parq,hq])
  have c2:=β (box_but HK0.out hb2 HP1.out (by decide)) 0
  have HNe:=κ (need_new P d [41] r2 w2 hp2)
  have HP2:=κ hp2
  have HX:=κ (hx.mono hb1.size)
  clear hq c1 hp2 hx
  go_wp2_with fail
  refine HNe.out.mono ?_
  rintro e w6 hn6
  rcases hq6:Lp.needF [41] r2 with _|r4
  ·obtain ⟨rfl,hb6⟩:=hn6.no hq6
   have HN2:=κ (HN.out.trans (by rw [hq6]))
   clear hn6 hq6
   unfold Stop
   go_wp2
   exact ⟨rfl,grp_none (hB2.trans hb6) HN2.out (by decide)⟩
  ·obtain ⟨rfl,hb6,hp6⟩:=hn6.yes hq6
   have HN2:=κ (HN.out.trans (by rw [hq6]))
   have HX6:=κ (PX.keep (stays_but hb6 HP2.out) HX.out)
   clear hn6 hq6
   go_wp2
   go_ret
   refine ⟨hB2.trans hb6, ?_⟩
   rw [HN2.out]
   exact ⟨_,_,rfl,HX6.out,hp6⟩
theorem grp1_any (P d b0 b1:Nat) (word:List UInt8) (hw:word∈[Lp.wCount,Lp.wSum,Lp.wMin,Lp.wMax]) (l:List Lp.Tok) (w:World) (h:PS w P l d) (hs:Lsane l) (hR:Resv w) (h0:w.heap[b0]? = some (.cells #[.pointer (some ⟨P,0,none⟩)] 146 (0,0)))
 (h1:w.heap[b1]? = some (.cells #[.string ⟨word.toArray⟩] 9 (0,0))) (hf:Lp.isF word l=true) (HF:LvOk 160 1 P d (l.length-2)) :
 Calls Tryz.prog 257 #[.pointer (some ⟨b0,0,none⟩),.pointer (some ⟨b1,0,none⟩)] w (XPost P w d (grpq d word l.tail)):=by
 have c0:=β h0 0
 have c1:=β h1 0
 have HC:=κ (group_any P d word hw l w h hs hR hf HF)
 clear h0 h1 h hs hR hf HF
 go_enter Tryz.func257,Tryz.ntmps257
 go_wp2_with fail
 refine HC.out.mono ?_
 rintro e w' hx
 rcases hx.form with ⟨T,g,rfl⟩|⟨c,rfl⟩
 ·clear c0 c1
  go_wp2
  go_ret
  exact hx
 ·clear c0 c1
  unfold Stop at *
  go_wp2
  exact ⟨rfl,hx⟩
theorem lit_post {P d:Nat} {w w':World} {k i:Int} {s:List UInt8} {b:Bool} {r:List Lp.Tok} {q:Option (Lp.X×List Lp.Tok)} (hq:q=some (.lit k i s b,r)) (hb:But P w w') (hp:PS w' P r d) :
 XPost P w d q (.returned (.iface 133 (.pointer (some ⟨w'.heap.size,0,none⟩)))) (w'.alloc (.cells #[.int .u8 k,.int .i64 i,.string ⟨s.toArray⟩,.bool b] 135)):=by
 subst hq
 have hb':Below w'.heap.size w' (w'.alloc (.cells #[.int .u8 k,.int .i64 i,.string ⟨s.toArray⟩,.bool b] 135)):=(Below.refl _ _).alloc (Nat.le_refl _) _
 exact ⟨hb.trans (But.of hb'),_,_,rfl,⟨_,hb.size,rfl,heap_alloc_new w' _⟩,hp.below hb'⟩
theorem at_front {w:World} {P d:Nat} {t:Lp.Tok} {r:List Lp.Tok} (h:PS w P (t::r) d) :
 let W:=w.alloc (.cells #[.pointer (some ⟨P,0,none⟩)] 146)
 ∃ (b off n c:Nat),0<n∧(0:Int)<(n:Int)∧n=(t::r).length∧W.cell? ⟨P,0,none⟩=some (.slice (some ⟨b,off,none⟩) n c)∧W.cell? ⟨w.heap.size,0,none⟩=some (.pointer (some ⟨P,0,none⟩)) ∧
  W.cell? ⟨b,off,none⟩=some (.int .u8 t.k)∧W.cell? ⟨b,off+1,none⟩=some (.string ⟨t.s.toArray⟩)∧W.cell? ⟨b,off+2,none⟩=some (.int .i64 t.n):=by
 intro W
 have hb:Below w.heap.size w W:=(Below.refl _ _).alloc (Nat.le_refl _) _
 obtain ⟨A,c,h1,h2,h3⟩:=h.below hb
 obtain ⟨b,off,rfl,hlt,k0,k1,k2⟩:=h3.front
 exact ⟨b,off,(t::r).length,c,by simp,by simp,rfl,β h1 0,β (heap_alloc_new w _) 0,k0,k1,k2⟩
theorem atom_nil (P d:Nat) (w:World) (h:PS w P [] d):Calls Tryz.prog 255 #[.pointer (some ⟨P,0,none⟩)] w (XPost P w d (Lp.pX 8 d [])):=by
 have hb:Below w.heap.size w (w.alloc (.cells #[.pointer (some ⟨P,0,none⟩)] 146)):=(Below.refl _ _).alloc (Nat.le_refl _) _
 obtain ⟨A,c,h1, -, -⟩:=h.below hb
 have hc:=β h1 0
 have hc1:=β (heap_alloc_new w (.cells #[.pointer (some ⟨P,0,none⟩)] 146)) 0
 have HQ:=κ (show Lp.pX 8 d []=none by rw [Lp.pX_atom,Lp.pA_nil])
 have HB:=κ (But.of (P:=P) hb)
 clear h1 h hb
 go_enter Tryz.func255,Tryz.ntmps255
 go_wp2_with fail
 refine (must_no _).mono ?_
 rintro e w1 ⟨rfl,rfl⟩
 unfold Stop
 go_wp2
 exact ⟨rfl,grp_none HB.out HQ.out (by decide)⟩
theorem atom_num (P d:Nat) (t:Lp.Tok) (r:List Lp.Tok) (w:World) (h:PS w P (t::r) d) (hk:t.k=2∨t.k=3):Calls Tryz.prog 255 #[.pointer (some ⟨P,0,none⟩)] w (XPost P w d (Lp.pX 8 d (t::r))):=by
 have hb:Below w.heap.size w (w.alloc (.cells #[.pointer (some ⟨P,0,none⟩)] 146)):=(Below.refl _ _).alloc (Nat.le_refl _) _
 obtain ⟨b,off,n,c,hn0,hn1, -,c0,c1,k0,k1,k2⟩:=at_front h
 have HT:=κ (fun k (hk:t.k=k)=>take_yes P d t r k _ (h.below hb) hk)
 have HB:=κ (But.of (P:=P) hb)
 have HQ:=κ (show Lp.pX 8 d (t::r)=if t.k=2 then some (.lit 1 t.n [] false,r) else if t.k=3 then some (.lit 2 0 t.s false,r) else Lp.pA d (t::r) by
  rw [Lp.pX_atom]
  rcases hk with hk|hk<;>rw [Lp.pA_cons]<;>simp [hk])
 clear h hb
 rcases hk with hk|hk
 ·have HT2:=κ (HT.out 2 hk)
  have HQ2:=κ (HQ.out.trans (if_pos hk))
  have e1:(t.k==2)=true:=by rw [hk];rfl
  clear hk HT HQ
  go_enter Tryz.func255,Tryz.ntmps255
  go_wp2_with fail
  refine (must_yes _).mono ?_
  rintro e w1 ⟨rfl,rfl⟩
  go_wp2_with fail
  refine HT2.out.mono ?_
  rintro e w1 ⟨rfl,hb1,hp1⟩
  clear c0 c1 k0 k1 k2
  go_wp2
  go_ret
  exact lit_post HQ2.out (HB.out.trans hb1) hp1
 ·have HT2:=κ (HT.out 3 hk)
  have HQ2:=κ (HQ.out.trans ((if_neg (by omega)).trans (if_pos hk)))
  have e1:(t.k==2)=false:=by rw [hk];rfl
  have e2:(t.k==3)=true:=by rw [hk];rfl
  clear hk HT HQ
  go_enter Tryz.func255,Tryz.ntmps255
  go_wp2_with fail
  refine (must_yes _).mono ?_
  rintro e w1 ⟨rfl,rfl⟩
  go_wp2_with fail
  refine HT2.out.mono ?_
  rintro e w1 ⟨rfl,hb1,hp1⟩
  clear c0 c1 k0 k1 k2
  go_wp2
  go_ret
  exact lit_post HQ2.out (HB.out.trans hb1) hp1
theorem let_false {s:List UInt8} {t:Lp.Tok} {r:List Lp.Tok} (ht:Tsane t) (hk:t.k=4) (hs:∃ c q,s=c::q∧Lp.letB c=true):Lp.isF s (t::r)=false:=by
 obtain ⟨c,q,e1,e2⟩:=ht.2.2.2.1 hk
 obtain ⟨c',q',e3,e4⟩:=hs
 rw [isF_cons]
 have:(t.s==s)=false:=by
  rw [beq_eq_false_iff_ne]
  intro h
  rw [e1,e3] at h
  injection h with h _
  rw [h,e4] at e2
  cases e2
 rw [this];rfl
theorem pA_sign {d:Nat} {t:Lp.Tok} {r:List Lp.Tok} (ht:Tsane t) (hk:t.k=4):Lp.pA d (t::r)=if Lp.isF [40] (t::r)=true then dwn d (parq (d+1) r) else none:=by
 have hz:Lp.colF (t::r)=none:=by simp [Lp.colF,Lp.nameF,hk]
 have h0:Lp.isF Lp.wNull (t::r)=false:=let_false ht hk ⟨_,_,rfl,by decide⟩
 have h1:Lp.isF Lp.wTrue (t::r)=false:=let_false ht hk ⟨_,_,rfl,by decide⟩
 have h2:Lp.isF Lp.wFalse (t::r)=false:=let_false ht hk ⟨_,_,rfl,by decide⟩
 have h3:Lp.isF Lp.wCount (t::r)=false:=let_false ht hk ⟨_,_,rfl,by decide⟩
 have h4:Lp.isF Lp.wSum (t::r)=false:=let_false ht hk ⟨_,_,rfl,by decide⟩
 have h5:Lp.isF Lp.wMin (t::r)=false:=let_false ht hk ⟨_,_,rfl,by decide⟩
 have h6:Lp.isF Lp.wMax (t::r)=false:=let_false ht hk ⟨_,_,rfl,by decide⟩
 rw [Lp.pA_cons,if_neg (by omega),if_neg (by omega),h0,h1,h2,h3,h4,h5,h6,hz]
 rfl
theorem atom_sign (P d:Nat) (t:Lp.Tok) (r:List Lp.Tok) (w:World) (h:PS w P (t::r) d) (hs:Lsane (t::r)) (hR:Resv w) (hd:d≤100000) (hk:t.k=4) (HE:LvOk 160 1 P (d+1) r.length) :
 Calls Tryz.prog 255 #[.pointer (some ⟨P,0,none⟩)] w (XPost P w d (Lp.pX 8 d (t::r))):=by
 have hb:Below w.heap.size w (w.alloc (.cells #[.pointer (some ⟨P,0,none⟩)] 146)):=(Below.refl _ _).alloc (Nat.le_refl _) _
 obtain ⟨b,off,n,c,hn0,hn1, -,c0,c1,k0,k1,k2⟩:=at_front h
 have hp1:=h.below hb
 have hx1:=heap_alloc_new w (.cells #[.pointer (some ⟨P,0,none⟩)] 146)
 have HB:=κ (But.of (P:=P) hb)
 have hQ:=(show Lp.pX 8 d (t::r)=Lp.pA d (t::r) from Lp.pX_atom).trans (pA_sign (hs.2 t (by simp)) hk)
 have e1:(t.k==2)=false:=by rw [hk];rfl
 have e2:(t.k==3)=false:=by rw [hk];rfl
 have e3:(t.k==4)=true:=by rw [hk];rfl
 cases hf:Lp.isF [40] (t::r)
 ·have HQ:=κ (show Lp.pX 8 d (t::r)=none by rw [hQ,if_neg (by rw [hf];decide)])
  have HI:=κ (is_is P d (t::r) ⟨#[40]⟩ _ hp1 false hf)
  clear h hb hp1 hx1 hs hR hk hQ hf HE
  go_enter Tryz.func255,Tryz.ntmps255
  go_wp2_with fail
  refine (must_yes _).mono ?_
  rintro e w1 ⟨rfl,rfl⟩
  go_wp2_with fail
  refine HI.out.mono ?_
  rintro e w1 ⟨rfl,rfl⟩
  go_wp2_with fail
  refine (must_no _).mono ?_
  rintro e w1 ⟨rfl,rfl⟩
  unfold Stop
  go_wp2
  exact ⟨rfl,grp_none HB.out HQ.out (by decide)⟩
 ·have HQ:=κ (show Lp.pX 8 d (t::r)=dwn d (parq (d+1) r) by rw [hQ,if_pos hf])
  have HI:=κ (is_is P d (t::r) ⟨#[40]⟩ _ hp1 true hf)
  have hRW:=resv_below hR hb
  have HC:=κ (down_any 256 (fun _ _=>rfl) #[.pointer (some ⟨w.heap.size,0,none⟩)] P d (t::r) _ hp1 hd (parq (d+1) r)
   (fun w' hb' hp'=>par_any P (d+1) w.heap.size (t::r) w' hp' hs (hRW.but hp1 hb') (box_but hx1 hb' hp1 (by decide)) hf HE))
  clear h hb hp1 hx1 hs hR hk hQ hf HE hRW
  have hmf:∀ (fn:Fn) (first cap:Array Value) (w:World),(Instr.makeFunc fn first cap).run Tryz.prog w=.ok (.func fn first cap) w:=fun _ _ _ _=>rfl
  go_enter Tryz.func255,Tryz.ntmps255
  go_wp2_with fail
  refine (must_yes _).mono ?_
  rintro e w1 ⟨rfl,rfl⟩
  go_wp2_with fail
  refine HI.out.mono ?_
  rintro e w1 ⟨rfl,rfl⟩
  go_wp2_with fail
  refine (must_yes _).mono ?_
  rintro e w1 ⟨rfl,rfl⟩
  go_wp2_with fail
  refine HC.out.mono ?_
  rintro e w' hx
  clear c0 c1 k0 k1 k2
  replace hx:=XPost.pre HB.out hx
  rw [←HQ.out] at hx
  rcases hx.form with ⟨T,g,rfl⟩|⟨c,rfl⟩
  ·go_wp2
   go_ret
   exact hx
  ·unfold Stop at *
   go_wp2
   exact ⟨rfl,hx⟩
theorem word_isF {s:List UInt8} {t:Lp.Tok} {r:List Lp.Tok} (hk:t.k=1):Lp.isF s (t::r)=(t.s==s):=by
 rw [isF_cons,hk];simp
theorem at_word {w:World} {P d:Nat} {l:List Lp.Tok} (s:List UInt8) (h:PS w P l d) (hR:Resv w) :
 let W:=(w.alloc (.cells #[.pointer (some ⟨P,0,none⟩)] 146)).alloc (.cells #[.string ⟨s.toArray⟩] 9)
 But P w W∧PS W P l d∧Resv W∧W.heap[w.heap.size]? = some (.cells #[.pointer (some ⟨P,0,none⟩)] 146 (0,0))∧W.heap[w.heap.size+1]? = some (.cells #[.string ⟨s.toArray⟩] 9 (0,0)):=by
 intro W
 have hb:Below w.heap.size w W:=((Below.refl _ _).alloc (Nat.le_refl _) _).alloc (by simp) _
 exact ⟨But.of hb,h.below hb,resv_below hR hb,box_alloc (heap_alloc_new w _) _,heap_new2 w _ _⟩
theorem pA_word {d:Nat} {t:Lp.Tok} {r:List Lp.Tok} (ht:Tsane t) (hk:t.k=1):Lp.pA d (t::r) =
 if t.s=Lp.wNull then some (.lit 0 0 [] false,r) else if t.s=Lp.wTrue then some (.lit 3 0 [] true,r) else if t.s=Lp.wFalse then some (.lit 3 0 [] false,r)
 else if t.s=Lp.wCount∨t.s=Lp.wSum∨t.s=Lp.wMin∨t.s=Lp.wMax then dwn d (grpq (d+1) t.s r) else Lp.colF (t::r):=by
 have h40:Lp.isF [40] (t::r)=false:=by
  obtain ⟨c,q,e1,e2⟩:=ht.2.2.1 hk
  rw [word_isF hk,beq_eq_false_iff_ne]
  intro h
  rw [e1] at h
  injection h with h _
  rw [h] at e2
  exact absurd e2 (by decide)
 rw [Lp.pA_cons,if_neg (by omega),if_neg (by omega),h40]
 simp only [word_isF hk,beq_iff_eq,Bool.or_eq_true,Bool.false_eq_true,if_false,or_assoc]
 rfl
theorem need_two (P d:Nat) (t:Lp.Tok) (r:List Lp.Tok) (w:World) (h:PS w P (t::r) d) (hk:t.k=1) :
 Calls Tryz.prog 116 #[.pointer (some ⟨P,0,none⟩),.slice (some ⟨w.heap.size,0,none⟩) 1 1] (w.alloc (.cells #[.string ⟨t.s.toArray⟩] 9)) (fun e w'=>e=.returned (.tuple #[])∧But P w w'∧PS w' P r d):=by
 have hf:Lp.isF t.s (t::r)=true:=by rw [word_isF hk];simp
 exact (need_new P d t.s (t::r) w h).mono fun e w' hn=>hn.yes (by simp [Lp.needF,hf])
theorem atom_lit (P d:Nat) (t:Lp.Tok) (r:List Lp.Tok) (w:World) (h:PS w P (t::r) d) (hs:Lsane (t::r)) (hR:Resv w) (hk:t.k=1) (hw:t.s=Lp.wNull∨t.s=Lp.wTrue∨t.s=Lp.wFalse) :
 Calls Tryz.prog 255 #[.pointer (some ⟨P,0,none⟩)] w (XPost P w d (Lp.pX 8 d (t::r))):=by
 obtain ⟨b,off,n,c,hn0,hn1, -,c0,c1,k0,k1,k2⟩:=at_front h
 obtain ⟨hB,hp1,hR1,hx0,hx1⟩:=at_word t.s h hR
 have hQ:=(show Lp.pX 8 d (t::r)=Lp.pA d (t::r) from Lp.pX_atom).trans (pA_word (hs.2 t (by simp)) hk)
 have hNe:=need_two P d t r _ hp1 hk
 simp only [World.size_alloc] at hNe
 have e1:(t.k==2)=false:=by rw [hk];rfl
 have e2:(t.k==3)=false:=by rw [hk];rfl
 have e3:(t.k==4)=false:=by rw [hk];rfl
 clear h hs hR hk
 rcases hw with hw|hw|hw
 ·have HQ:=κ (show Lp.pX 8 d (t::r)=some (.lit 0 0 [] false,r) by rw [hQ,if_pos hw])
  rw [show t.s=[110,117,108,108] from hw] at hNe hx1 hp1 hB k1 hx0
  have HNe:=κ hNe
  have HP1:=κ hp1
  have HX0:=κ hx0
  have HX1:=κ hx1
  have HB:=κ hB
  have d0:=β hx0 0
  have d1:=β hx1 0
  clear hB hp1 hR1 hx0 hx1 hQ hw hNe
  go_enter Tryz.func255,Tryz.ntmps255
  go_wp2_with fail
  refine (must_yes _).mono ?_
  rintro e w1 ⟨rfl,rfl⟩
  go_wp2_with fail
  refine HNe.out.mono ?_
  rintro e w1 ⟨rfl,hb1,hp1⟩
  have d2:=β (box_but HX1.out hb1 HP1.out (by decide)) 0
  clear c0 c1 k0 k1 k2 d0 d1
  go_wp2
  go_ret
  exact lit_post HQ.out (HB.out.trans hb1) hp1
 ·have HQ:=κ (show Lp.pX 8 d (t::r)=some (.lit 3 0 [] true,r) by rw [hQ,if_neg (by rw [hw];decide),if_pos hw])
  rw [show t.s=[116,114,117,101] from hw] at hNe hx1 hp1 hB k1 hx0
  have HNe:=κ hNe
  have HP1:=κ hp1
  have HX0:=κ hx0
  have HX1:=κ hx1
  have HB:=κ hB
  have d0:=β hx0 0
  have d1:=β hx1 0
  clear hB hp1 hR1 hx0 hx1 hQ hw hNe
  go_enter Tryz.func255,Tryz.ntmps255
  go_wp2_with fail
  refine (must_yes _).mono ?_
  rintro e w1 ⟨rfl,rfl⟩
  go_wp2_with fail
  refine HNe.out.mono ?_
  rintro e w1 ⟨rfl,hb1,hp1⟩
  have d2:=β (box_but HX1.out hb1 HP1.out (by decide)) 0
  clear c0 c1 k0 k1 k2 d0 d1
  go_wp2
  go_ret
  exact lit_post HQ.out (HB.out.trans hb1) hp1
 ·have HQ:=κ (show Lp.pX 8 d (t::r)=some (.lit 3 0 [] false,r) by rw [hQ,if_neg (by rw [hw];decide),if_neg (by rw [hw];decide),if_pos hw])
  rw [show t.s=[102,97,108,115,101] from hw] at hNe hx1 hp1 hB k1 hx0
  have HNe:=κ hNe
  have HP1:=κ hp1
  have HX0:=κ hx0
  have HX1:=κ hx1
  have HB:=κ hB
  have d0:=β hx0 0
  have d1:=β hx1 0
  clear hB hp1 hR1 hx0 hx1 hQ hw hNe
  go_enter Tryz.func255,Tryz.ntmps255
  go_wp2_with fail
  refine (must_yes _).mono ?_
  rintro e w1 ⟨rfl,rfl⟩
  go_wp2_with fail
  refine HNe.out.mono ?_
  rintro e w1 ⟨rfl,hb1,hp1⟩
  have d2:=β (box_but HX1.out hb1 HP1.out (by decide)) 0
  clear c0 c1 k0 k1 k2 d0 d1
  go_wp2
  go_ret
  exact lit_post HQ.out (HB.out.trans hb1) hp1
theorem atom_group (P d:Nat) (t:Lp.Tok) (r:List Lp.Tok) (w:World) (h:PS w P (t::r) d) (hs:Lsane (t::r)) (hR:Resv w) (hd:d≤100000) (hk:t.k=1) (hw:t.s=Lp.wCount∨t.s=Lp.wSum∨t.s=Lp.wMin∨t.s=Lp.wMax) (HE:LvOk 160 1 P (d+1) r.length) :
 Calls Tryz.prog 255 #[.pointer (some ⟨P,0,none⟩)] w (XPost P w d (Lp.pX 8 d (t::r))):=by
 obtain ⟨b,off,n,c,hn0,hn1, -,c0,c1,k0,k1,k2⟩:=at_front h
 obtain ⟨hB,hp1,hR1,hx0,hx1⟩:=at_word t.s h hR
 have hQ:=(show Lp.pX 8 d (t::r)=Lp.pA d (t::r) from Lp.pX_atom).trans (pA_word (hs.2 t (by simp)) hk)
 have hf:Lp.isF t.s (t::r)=true:=by rw [word_isF hk];simp
 have hmem:t.s∈[Lp.wCount,Lp.wSum,Lp.wMin,Lp.wMax]:=by simpa using hw
 have hC:=down_any 257 (fun _ _=>rfl) #[.pointer (some ⟨w.heap.size,0,none⟩),.pointer (some ⟨w.heap.size+1,0,none⟩)] P d (t::r) _ hp1 hd (grpq (d+1) t.s r)
  (fun w' hb' hp'=>grp1_any P (d+1) w.heap.size (w.heap.size+1) t.s hmem (t::r) w' hp' hs (hR1.but hp1 hb') (box_but hx0 hb' hp1 (by decide)) (box_but hx1 hb' hp1 (by decide)) hf (HE.le (by simp)))
 have e1:(t.k==2)=false:=by rw [hk];rfl
 have e2:(t.k==3)=false:=by rw [hk];rfl
 have e3:(t.k==4)=false:=by rw [hk];rfl
 have hmf:∀ (fn:Fn) (first cap:Array Value) (w:World),(Instr.makeFunc fn first cap).run Tryz.prog w=.ok (.func fn first cap) w:=fun _ _ _ _=>rfl
 clear h hs hR hk hf hmem HE hd
 have hQ2:Lp.pX 8 d (t::r)=dwn d (grpq (d+1) t.s r):=by
  rw [hQ,if_neg (by rcases hw with h|h|h|h<;>rw [h]<;>decide),if_neg (by rcases hw with h|h|h|h<;>rw [h]<;>decide),if_neg (by rcases hw with h|h|h|h<;>rw [h]<;>decide),if_pos hw]
 rw [←hQ2] at hC
 clear hQ hQ2
 rcases hw with hw|hw|hw|hw
 ·rw [show t.s=[99,111,117,110,116] from hw] at hC hx1 hB k1 hx0
  have HC:=κ hC
  have HB:=κ hB
  have d0:=β hx0 0
  have d1:=β hx1 0
  clear hB hp1 hR1 hx0 hx1 hw hC
  go_enter Tryz.func255,Tryz.ntmps255
  go_wp2_with fail
  refine (must_yes _).mono ?_
  rintro e w1 ⟨rfl,rfl⟩
  go_wp2_with fail
  refine HC.out.mono ?_
  rintro e w' hx
  clear c0 c1 k0 k1 k2 d0 d1
  replace hx:=XPost.pre HB.out hx
  rcases hx.form with ⟨T,g,rfl⟩|⟨c,rfl⟩
  ·go_wp2
   go_ret
   exact hx
  ·unfold Stop at *
   go_wp2
   exact ⟨rfl,hx⟩
 ·rw [show t.s=[115,117,109] from hw] at hC hx1 hB k1 hx0
  have HC:=κ hC
  have HB:=κ hB
  have d0:=β hx0 0
  have d1:=β hx1 0
  clear hB hp1 hR1 hx0 hx1 hw hC
  go_enter Tryz.func255,Tryz.ntmps255
  go_wp2_with fail
  refine (must_yes _).mono ?_
  rintro e w1 ⟨rfl,rfl⟩
  go_wp2_with fail
  refine HC.out.mono ?_
  rintro e w' hx
  clear c0 c1 k0 k1 k2 d0 d1
  replace hx:=XPost.pre HB.out hx
  rcases hx.form with ⟨T,g,rfl⟩|⟨c,rfl⟩
  ·go_wp2
   go_ret
   exact hx
  ·unfold Stop at *
   go_wp2
   exact ⟨rfl,hx⟩
 ·rw [show t.s=[109,105,110] from hw] at hC hx1 hB k1 hx0
  have HC:=κ hC
  have HB:=κ hB
  have d0:=β hx0 0
  have d1:=β hx1 0
  clear hB hp1 hR1 hx0 hx1 hw hC
  go_enter Tryz.func255,Tryz.ntmps255
  go_wp2_with fail
  refine (must_yes _).mono ?_
  rintro e w1 ⟨rfl,rfl⟩
  go_wp2_with fail
  refine HC.out.mono ?_
  rintro e w' hx
  clear c0 c1 k0 k1 k2 d0 d1
  replace hx:=XPost.pre HB.out hx
  rcases hx.form with ⟨T,g,rfl⟩|⟨c,rfl⟩
  ·go_wp2
   go_ret
   exact hx
  ·unfold Stop at *
   go_wp2
   exact ⟨rfl,hx⟩
 ·rw [show t.s=[109,97,120] from hw] at hC hx1 hB k1 hx0
  have HC:=κ hC
  have HB:=κ hB
  have d0:=β hx0 0
  have d1:=β hx1 0
  clear hB hp1 hR1 hx0 hx1 hw hC
  go_enter Tryz.func255,Tryz.ntmps255
  go_wp2_with fail
  refine (must_yes _).mono ?_
  rintro e w1 ⟨rfl,rfl⟩
  go_wp2_with fail
  refine HC.out.mono ?_
  rintro e w' hx
  clear c0 c1 k0 k1 k2 d0 d1
  replace hx:=XPost.pre HB.out hx
  rcases hx.form with ⟨T,g,rfl⟩|⟨c,rfl⟩
  ·go_wp2
   go_ret
   exact hx
  ·unfold Stop at *
   go_wp2
   exact ⟨rfl,hx⟩
theorem col_none {t:Lp.Tok} {r r1:List Lp.Tok} {n1:List UInt8} (h:Lp.nameF (t::r)=some (n1,r1)) (h1:Lp.isF [46] r1=false):Lp.colF (t::r)=some (.col [] n1,r1):=by
 simp [Lp.colF,h,h1]
theorem col_dot {t:Lp.Tok} {r r1:List Lp.Tok} {n1:List UInt8} (h:Lp.nameF (t::r)=some (n1,r1)) (h1:Lp.isF [46] r1=true):Lp.colF (t::r)=match Lp.nameF r1.tail with|none=>none|some (m,r2)=>some (.col n1 m,r2):=by
 simp only [Lp.colF,h,h1,if_true]
 cases Lp.nameF r1.tail<;>rfl
theorem atom_name (P d:Nat) (t:Lp.Tok) (r:List Lp.Tok) (w:World) (h:PS w P (t::r) d) (hs:Lsane (t::r)) (hR:Resv w) (hk:t.k=1) (hw:t.s≠Lp.wNull∧t.s≠Lp.wTrue∧t.s≠Lp.wFalse∧t.s≠Lp.wCount∧t.s≠Lp.wSum∧t.s≠Lp.wMin∧t.s≠Lp.wMax) :
 Calls Tryz.prog 255 #[.pointer (some ⟨P,0,none⟩)] w (XPost P w d (Lp.pX 8 d (t::r))):=by
 obtain ⟨b,off,n,c,hn0,hn1, -,c0,c1,k0,k1,k2⟩:=at_front h
 obtain ⟨hB,hp1,hR1,hx0,hx1⟩:=at_word t.s h hR
 obtain ⟨w1,w2,w3,w4,w5,w6,w7⟩:=hw
 have hQ:Lp.pX 8 d (t::r)=Lp.colF (t::r):=by
  rw [(show Lp.pX 8 d (t::r)=Lp.pA d (t::r) from Lp.pX_atom).trans (pA_word (hs.2 t (by simp)) hk),if_neg w1,if_neg w2,if_neg w3,if_neg (by rintro (h|h|h|h);exact w4 h;exact w5 h;exact w6 h;exact w7 h)]
 have HQ:=κ hQ
 have e1:(t.k==2)=false:=by rw [hk];rfl
 have e2:(t.k==3)=false:=by rw [hk];rfl
 have e3:(t.k==4)=false:=by rw [hk];rfl
 have v1:(t.s==[110,117,108,108])=false:=beq_eq_false_iff_ne.2 w1
 have v2:(t.s==[116,114,117,101])=false:=beq_eq_false_iff_ne.2 w2
 have v3:(t.s==[102,97,108,115,101])=false:=beq_eq_false_iff_ne.2 w3
 have v4:(t.s==[99,111,117,110,116])=false:=beq_eq_false_iff_ne.2 w4
 have v5:(t.s==[115,117,109])=false:=beq_eq_false_iff_ne.2 w5
 have v6:(t.s==[109,105,110])=false:=beq_eq_false_iff_ne.2 w6
 have v7:(t.s==[109,97,120])=false:=beq_eq_false_iff_ne.2 w7
 have HNm:=κ (name_any P d (t::r) _ hp1 hR1)
 have HP1:=κ hp1
 have HX0:=κ hx0
 have HB:=κ hB
 have HR1:=κ hR1
 have d0:=β hx0 0
 have d1:=β hx1 0
 clear h hs hR hk w1 w2 w3 w4 w5 w6 w7 hQ hB hp1 hR1 hx0 hx1
 go_enter Tryz.func255,Tryz.ntmps255
 go_wp2_with fail
 refine (must_yes _).mono ?_
 rintro e w1 ⟨rfl,rfl⟩
 go_wp2_with fail
 refine HNm.out.mono ?_
 rintro e w2 ⟨hb2,hq2⟩
 have hB2:=HB.out.trans hb2
 clear v1 v2 v3 v4 v5 v6 v7 c0 c1 k0 k1 k2 d0 d1
 rcases hq:Lp.nameF (t::r) with _|⟨n1,r1⟩
 ·rw [hq] at hq2
  obtain ⟨ce,rfl,hce⟩:=hq2
  have HN:=κ (show Lp.pX 8 d (t::r)=none by rw [HQ.out,Lp.colF,hq])
  clear hq
  unfold Stop
  go_wp2
  exact ⟨rfl,grp_none hB2 HN.out hce⟩
 ·rw [hq] at hq2
  obtain ⟨rfl,hp2⟩:=hq2
  have hx2:=box_but HX0.out hb2 HP1.out (by decide)
  have hR2:=HR1.out.but HP1.out hb2
  have hz2:=hB2.size
  have hPlt:=HP1.out.lt
  have hb3:Below w2.heap.size w2 (w2.alloc (.cells #[.string ⟨#[]⟩,.string ⟨n1.toArray⟩] 218)):=(Below.refl _ _).alloc (Nat.le_refl _) _
  have hp3:=hp2.below hb3
  have hx3:=box_alloc hx2 (.cells #[.string ⟨#[]⟩,.string ⟨n1.toArray⟩] 218)
  have hc3:=heap_alloc_new w2 (.cells #[.string ⟨#[]⟩,.string ⟨n1.toArray⟩] 218)
  have hR3:=resv_below hR2 hb3
  have HB3:=κ (hB2.trans (But.of hb3))
  have HC3:=κ hc3
  have HP3:=κ hp3
  have HX3:=κ hx3
  have HR3:=κ hR3
  have HQ1:=κ hq
  have d3:=β hx3 0
  have hgP:P<w2.heap.size:=by have:=hp2.lt;exact this
  cases hi:Lp.isF [46] r1
  ·have HI:=κ (has_is P d r1 ⟨#[46]⟩ _ hp3 false hi)
   have HN:=κ (HQ.out.trans (col_none hq hi))
   clear hq hi hp2 hx2 hR2 hb3 hp3 hx3 hc3 hR3
   go_wp2_with fail
   refine HI.out.mono ?_
   rintro e w3 ⟨rfl,hb4,hp4⟩
   have hc4:=but_box hb4 HC3.out (Nat.ne_of_gt hgP)
   have HX:=κ (show PX w.heap.size w3 (.col [] n1) (.iface 167 (.pointer (some ⟨w2.heap.size,0,none⟩))) from ⟨_,hz2,rfl,hc4⟩)
   clear hc4 d3
   go_wp2
   go_ret
   refine ⟨HB3.out.trans hb4, ?_⟩
   rw [HN.out]
   exact ⟨_,_,rfl,HX.out,hp4⟩
  ·have HI:=κ (has_is P d r1 ⟨#[46]⟩ _ hp3 true hi)
   have HN:=κ (HQ.out.trans (col_dot hq hi))
   clear hq hi hp2 hx2 hR2 hb3 hp3 hx3 hc3 hR3
   go_wp2_with fail
   refine HI.out.mono ?_
   rintro e w3 ⟨rfl,hb4,hp4⟩
   simp only [if_true] at hp4
   have hc4:=but_box hb4 HC3.out (Nat.ne_of_gt hgP)
   have hx4:=box_but HX3.out hb4 HP3.out (by decide)
   have hR4:=HR3.out.but HP3.out hb4
   have hB4:=HB3.out.trans hb4
   have HM:=κ (name_any P d r1.tail w3.drew hp4 hR4)
   have f0:=β hx4 0
   have f1:=β hc4
   have f1':=f1 1
   have HP4:=κ hp4
   have HC4:=κ hc4
   have HB4:=κ hB4
   clear d3 hp4 hR4 hB4 hb4 hx4 hc4
   rcases hq4:Lp.nameF r1.tail with _|⟨n2,r2⟩
   ·have HN2:=κ (HN.out.trans (by rw [hq4]))
    have HM0:=κ (HM.out.mono (fun e w2 (hx:NamePost P w3.drew d (Lp.nameF r1.tail) e w2)=>(show But P w3.drew w2∧∃ c,e=Stop c∧c≠0 by unfold NamePost at hx;rw [hq4] at hx;exact hx)))
    clear HM hq4
    go_wp2_with fail
    refine wp_region_held_drew (S:=fun w'=>w'.cell? ⟨w2.heap.size,1,none⟩=some (.string ⟨n1.toArray⟩)∧w'.cell? ⟨w.heap.size,0,none⟩=some (.pointer (some ⟨P,0,none⟩))) (by kernel_rfl) ⟨f1',f0⟩ (fun hHeld => ?_)
    refine wpAnyH_take (i:=0) (v:=.pointer (some ⟨w2.heap.size,0,none⟩)) rfl (by kernel_rfl) (by kernel_rfl) (by kernel_rfl) (fun _ _ _ h=>h) (Or.inl ⟨by rfl,fun w hSw=>by go_simp⟩) hHeld ?_
    refine wpAnyH_take (i:=1) (v:=.pointer (some ⟨w2.heap.size,0,none⟩)) rfl (by kernel_rfl) (by kernel_rfl) (by kernel_rfl) (fun _ _ _ h=>h) (Or.inl ⟨by rfl,fun w hSw=>by go_simp⟩) hHeld ?_
    refine wpAnyH_take (i:=2) (v:=.pointer (some ⟨w2.heap.size,0,none⟩)) rfl (by kernel_rfl) (by kernel_rfl) (by kernel_rfl) (fun _ _ _ h=>h) (Or.inl ⟨by rfl,fun w hSw=>by go_simp⟩) hHeld ?_
    refine wpAnyH_take (i:=3) (v:=.pointer (some ⟨w2.heap.size,0,none⟩)) rfl (by kernel_rfl) (by kernel_rfl) (by kernel_rfl) (fun _ _ _ h=>h) (Or.inl ⟨by rfl,fun w hSw=>by go_simp⟩) hHeld ?_
    refine wpAnyH_take (i:=4) (v:=.pointer (some ⟨w2.heap.size,1,none⟩)) rfl (by kernel_rfl) (by kernel_rfl) (by kernel_rfl) (fun _ _ _ h=>h) (Or.inl ⟨by rfl,fun w hSw=>by go_simp⟩) hHeld ?_
    refine wpAnyH_take (i:=5) (v:=.string ⟨n1.toArray⟩) rfl (by kernel_rfl) (by kernel_rfl) (by kernel_rfl) (fun _ _ _ h=>h) (Or.inl ⟨by rfl,fun w hSw=>by obtain ⟨s1,s2⟩:=hSw;go_simp⟩) hHeld ?_
    refine wpAnyH_take (i:=6) (v:=.pointer (some ⟨P,0,none⟩)) rfl (by kernel_rfl) (by kernel_rfl) (by kernel_rfl) (fun _ _ _ h=>h) (Or.inl ⟨by rfl,fun w hSw=>by obtain ⟨s1,s2⟩:=hSw;go_simp⟩) hHeld ?_
    refine wpAnyH_ready (rs:=[7]) (by kernel_rfl) (by simp) ?_
    refine AllReadyH.cons rfl (fun K hK => ?_) AllReadyH.nil
    go_simp
    refine HM0.out.mono ?_
    rintro e w5 ⟨hb5,ce,rfl,hc⟩
    unfold Stop
    go_wp2
    exact ⟨rfl,grp_none ((HB4.out.trans (But.refl _ _).drew).trans hb5) HN2.out hc⟩
   ·have HN2:=κ (HN.out.trans (by rw [hq4]))
    have HM0:=κ (HM.out.mono (fun e w2 (hx:NamePost P w3.drew d (Lp.nameF r1.tail) e w2)=>(show But P w3.drew w2∧e=.returned (.string ⟨n2.toArray⟩)∧PS w2 P r2 d by unfold NamePost at hx;rw [hq4] at hx;exact hx)))
    have HCd:=κ (show w3.drew.heap[w2.heap.size]? = some (.cells #[.string ⟨#[]⟩,.string ⟨n1.toArray⟩] 218 (0,0)) from HC4.out)
    clear HM hq4
    go_wp2_with fail
    go_region_with ((go_at_call 155;refine HM0.out.mono ?_;rintro e w5 ⟨hb5,rfl,hp5⟩;have g1:=β (but_box hb5 HCd.out (Nat.ne_of_gt hgP));have gz:=fun j=>frozen_of_row w5 w2.heap.size j _ _ (but_box hb5 HCd.out (Nat.ne_of_gt hgP))))
    all_goals
     have hc6:=heap_setCell_same _ w2.heap.size 1 _ _ (.string ⟨n2.toArray⟩) (heap_setCell_same _ w2.heap.size 0 _ _ (.string ⟨n1.toArray⟩) (but_box hb5 HCd.out (Nat.ne_of_gt hgP)))
     have HX:=κ (show PX w.heap.size ((w5.setCell ⟨w2.heap.size,0,none⟩ (.string ⟨n1.toArray⟩)).setCell ⟨w2.heap.size,1,none⟩ (.string ⟨n2.toArray⟩)) (.col n1 n2) (.iface 167 (.pointer (some ⟨w2.heap.size,0,none⟩))) from ⟨_,hz2,rfl,by simpa using hc6⟩)
     have HE:=κ (ι ((((HB4.out.trans (But.refl _ _).drew).trans hb5).setNew (o:=0) hz2 (.string ⟨n1.toArray⟩)).setNew (o:=1) hz2 (.string ⟨n2.toArray⟩)) ((hp5.setNew (o:=0) hgP (.string ⟨n1.toArray⟩)).setNew (o:=1) hgP (.string ⟨n2.toArray⟩)))
     clear hc6 g1 gz hb5 hp5
     go_wp2
     go_ret
     refine ⟨HE.out.1, ?_⟩
     rw [HN2.out]
     exact ⟨_,_,rfl,HX.out,HE.out.2⟩
end Go.Proofs.YtkfjmgmjbljnbaaGreatDoor
