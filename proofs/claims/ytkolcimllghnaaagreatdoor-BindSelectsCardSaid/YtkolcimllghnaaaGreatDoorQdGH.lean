/-
 Contracts. Conditions: those of each.
-/
import Derived.Test.YtkolcimllghnaaaGreatDoorQdGG
import Derived.Deep.RegionWith
import Derived.BigRegion
set_option maxRecDepth 100000
set_option maxHeartbeats 8000000
namespace Go.Proofs.YtkolcimllghnaaaGreatDoor
open Lp Go.Proofs.Tryz
open Go.RowKit
variable{P d g o:Nat}{t:Tok}{a w w':World}{n1 s:ZS}{l r r1:ZW}
theorem But.setNew (h:But P w a) (hg:w.heap.size≤g) (v:Value):But P w (a.setCell ⟨g,o,none⟩ v) :=
 ⟨h.os,h.tape,h.output,by simpa [World.setCell] using h.size,λk hk hn=>(Below.heap_setCell a ⟨g,o,none⟩ v k mt).trans (h.block k hk hn)⟩
theorem PS.setNew (h:PS a P l d) (hg:P<g) (v:Value):PS (a.setCell ⟨g,o,none⟩ v) P l d:=by
 obtain ⟨A,c,h1,h2,h3⟩:=h;refine ⟨A,c,(Below.heap_setCell a ⟨g,o,none⟩ v P mt).trans h1,h2, ?_⟩;rcases h3 with h3|⟨b,off,hA,hlt,hc⟩
 ·exact .inl h3
 ·exact .inr ⟨b,off,hA,hlt,λj u hu=>(World.cell?_of_block (w:=a) (Below.heap_setCell a ⟨g,o,none⟩ v b mt)).trans (hc j u hu)⟩
def pU (d:Nat) (word:ZS) (r:ZW):Option (Lp.X×ZW):=match aD [40] r with
 | none=>none
 | some r2=>if word=bF∧isF [42] r2=true then (aD [41] r2.tail).map λr3=>(.cnt,r3) else (match pX 1 d r2 with
   | none=>none
   | some (x,r3)=>(aD [41] r3).map λr4=>(.agg (upW word) x,r4))
theorem Cd:∀ s∈[bF,gG,jA,kL],Lib.toUpperA s=upW s∧(∀ c∈s,c.toNat<128)∧s.length≤10:=am
theorem aAD:upW bF=aJ:=am
theorem Bt (P d:Nat) (s u:ZS) (l:ZW) (w:World) (h:PS w P l d) (hf:isF s l=true) :
 Calls prog 70 #[P,.slice (some ⟨w,0,none⟩) 2 2] (w.alloc (.cells #[s,u] 9)) (NeedPost P w d (aD u l.tail)):=by
 have hb:Below w w (w.alloc (.cells #[s,u] 9)):=ρ;have hw:WdsAt (w.alloc (.cells #[s,u] 9)) w [s,u]:=nZ w [s,u] 9;refine (Hc P d w 2 [s,u] l _ (h.below hb) (rM hw (h.below hb)) hw aa).mono ?_;rintro e w' ⟨h1,h2⟩;refine ⟨(But.of hb).trans h1, ?_⟩;have e1:jP [s,u] l=aD u l.tail:=by
  simp only [jP,aD,hf,if_true];cases isF u l.tail<;>rfl
 rw [e1] at h2;exact h2
theorem gE {q:Option (Lp.X×ZW)} {c:Int} (hb:But P w w') (hq:q=none) (hc:c≠0):XPost P w d q (aT c) w':=by
 subst hq;exact mu
theorem Rj (P d:Nat) (word:ZS) (hw:word∈[gG,jA,kL]) (l:ZW) (w:World) (h:PS w P l d) (hs:Lsane l) (hR:Resv w) (hf:isF word l=true)
 (HF:LvOk 124 1 P d (l.length-2)) :
 Calls prog 210 #[P,word] w (XPost P w d (pU d word l.tail)):=by
 obtain ⟨hup,hasc,hle⟩:=Cd word (List.mem_cons_of_mem _ hw);have HU:=κ (λw=>Jo word w _ hup hasc hle);have HN:=κ (Bt P d word [40] l w h hf);have hPw:=mv;have HP:=da;have HR:=κ hR;have HF':=κ HF;have hlt:=bD hf;have HS:=κ hs;have hnc:word≠bF:=by
  intro e;subst e;revert hw;decide
 have HNC:=hnc;have HQN:=κ (λ(hq:aD [40] l.tail=none)=>(show pU d word l.tail=none by rw [pU,hq]));have HQY:=κ (λ(r2:ZW) (hq:aD [40] l.tail=some r2)=>(show pU d word l.tail=(match pX 1 d r2 with
  | none=>none
  | some (x,r3)=>(aD [41] r3).map λr4=>(.agg (upW word) x,r4)) by rw [pU,hq];exact if_neg (λh=>hnc h.1)))
 clear hup hasc hle h hR HF hf hnc hs HNC;generalize hUP:upW word=UP at *;clear hUP;have hw:word=gG∨word=jA∨word=kL:=by simpa using hw
 rcases hw with rfl|rfl|rfl
 all_goals
  go_enter func210,ntmps210;go_wp2_with fail;refine μ HN ?_;rintro e w1 hn;rcases hq:aD [40] l.tail with _|r2
  ·obtain ⟨rfl,hb1⟩:=er;have HQ:=κ (HQN.o hq);clear hq hn;unfold aT;go_wp2;refine ⟨rfl,hb1, ?_⟩;rw [HQ.o];exact dn
  ·obtain ⟨rfl,hb1,hp1⟩:=eu;have HQ:=κ (HQY.o r2 hq);have hr2:=dQ hq;have HS2:=κ (HS.o.sfx ((aU hq).trans (aV l)));have HR1:=κ (HR.o.but HP.o hb1);have HP1:=κ hp1;clear hq hn HN hp1;go_wp2_with fail;refine (HU.o _).mono ?_;rintro e w2 ⟨rfl,hb2⟩;have hB2:=hb1.trans (But.of hb2);have HP2:=κ (HP1.o.below hb2);have HR2:=κ (cC HR1.o hb2);have HB2:=κ hB2;have hz2:=hB2.size;clear hb1 hb2 HP1 HR1 HU hB2;have hb3:=mx;have HC3:=κ (HF'.o _ r2 ac (HP2.o.below hb3) HS2.o (cC HR2.o hb3));have HP3:=κ (HP2.o.below hb3);have HX3:=mw;have HB3:=κ (HB2.o.trans (But.of hb3));have hgP:P<w2:=ac
   clear hb3;go_wp2_with fail;refine μ HC3 ?_;rintro e w4 ⟨hb4,hq4⟩;have hx4:=aL hb4 HX3.o (Nat.ne_of_gt hgP);have hB4:=HB3.o.trans hb4;rcases hq4e:pX 1 d r2 with _|⟨x,r3⟩
   ·rw [hq4e] at hq4;obtain ⟨ce,rfl,hce⟩:=hq4;have HN:=my;clear hq4e hx4;unfold aT;go_wp2;exact ⟨rfl,gE hB4 HN.o hce⟩
   ·rw [hq4e] at hq4;obtain ⟨T4,g4,rfl,hy,hp4⟩:=hq4;have HN:=my;have hc4:=β hx4;have hfz:=na;have hx5:=mz;have hy5:PX w (w4.setCell ⟨w2,1,none⟩ (.iface T4 g4)) x (.iface T4 g4) :=
     (hy.keepB (λk o hk ho=>(Below.heap_setCell w4 ⟨w2,1,none⟩ _ k (by intro e;simp at hk e;omega)).trans ho)).mono bl
    have hp5:=hp4.setNew (o:=1) hgP (.iface T4 g4);have hB5:=hB4.setNew (o:=1) hz2 (.iface T4 g4);have hNe:=bQ P d [41] r3 _ hp5;rw [World.size_setCell] at hNe;have HNe:=κ hNe;clear hNe;have HP5:=κ hp5;have HX5:=nd;clear hq4e hy hp4 hx5 hy5 hp5 hx4;go_wp2_with fail;refine μ HNe ?_;rintro e w6 hn6;rcases hq6:aD [41] r3 with _|r4
    ·obtain ⟨rfl,hb6⟩:=hn6.no hq6;have HN2:=nh;clear hn6 hq6;unfold aT;go_wp2;exact nf
    ·obtain ⟨rfl,hb6,hp6⟩:=hn6.yes hq6;have HN2:=nh;have HX6:=κ (PX.keep (cT hb6 HP5.o) HX5.o);clear hn6 hq6 hc4 hfz;go_wp2;go_ret;refine ⟨hB5.trans hb6, ?_⟩;rw [HN2.o];exact ni
theorem Rk (P d:Nat) (l:ZW) (w:World) (h:PS w P l d) (hs:Lsane l) (hR:Resv w) (hf:isF bF l=true)
 (HF:LvOk 124 1 P d (l.length-2)) :
 Calls prog 210 #[P,.string ⟨#[99,111,117,110,116]⟩] w (XPost P w d (pU d bF l.tail)):=by
 obtain ⟨hup,hasc,hle⟩:=Cd bF am;rw [aAD] at hup;obtain ⟨UP,hUPe⟩:∃ UP,UP=aJ:=cw;rw [<-hUPe] at hup;have HUPe:=κ hUPe;have HU:=κ (λw=>Jo bF w _ hup hasc hle);have HN:=κ (Bt P d bF [40] l w h hf);have hPw:=mv;have HP:=da;have HR:=κ hR;have HF':=κ HF;have hlt:=bD hf;have HS:=κ hs;have HQN:=κ (λ(hq:aD [40] l.tail=none)=>(show pU d bF l.tail=none by rw [pU,hq]));have HQY:=κ (λ(r2:ZW) (hq:aD [40] l.tail=some r2) (hi:isF [42] r2=false)=>(show pU d bF l.tail=(match pX 1 d r2 with
  | none=>none
  | some (x,r3)=>(aD [41] r3).map λr4=>(.agg UP x,r4)) by rw [pU,hq];rw [hUPe, <-aAD];exact if_neg (λh=>by rw [hi] at h;cases h.2)))
 have HQC:=κ (λ(r2:ZW) (hq:aD [40] l.tail=some r2) (hi:isF [42] r2=true)=>(show pU d bF l.tail=(aD [41] r2.tail).map (λr3=>(.cnt,r3)) by rw [pU,hq];exact if_pos ⟨rfl,hi⟩));clear hup hasc hle h hR HF hf hs hUPe;go_enter func210,ntmps210;go_wp2_with fail;refine μ HN ?_;rintro e w1 hn;rcases hq:aD [40] l.tail with _|r2
 ·obtain ⟨rfl,hb1⟩:=er;have HQ:=κ (HQN.o hq);clear hq hn;unfold aT;go_wp2;refine ⟨rfl,hb1, ?_⟩;rw [HQ.o];exact dn
 ·obtain ⟨rfl,hb1,hp1⟩:=eu;have HQY2:=κ (λhi=>HQY.o r2 hq hi);have HQC2:=κ (λhi=>HQC.o r2 hq hi);have hr2:=dQ hq;have HS2:=κ (HS.o.sfx ((aU hq).trans (aV l)));have HR1:=κ (HR.o.but HP.o hb1);have HP1:=κ hp1;clear hq hn HN hp1 HQY HQC HQN;go_wp2_with fail;refine (HU.o _).mono ?_;rintro e w2 ⟨rfl,hb2⟩;have hB2:=hb1.trans (But.of hb2);have HP2:=κ (HP1.o.below hb2);have HR2:=κ (cC HR1.o hb2);have HB2:=κ hB2;have hz2:=hB2.size;clear hb1 hb2 HP1 HR1 HU hB2;have hb3:=mx;have hp3:=HP2.o.below hb3;have hR3:=cC HR2.o hb3;have HX3:=mw;have HB3:=κ (HB2.o.trans (But.of hb3));have hgP:P<w2:=ac
  clear hb3;cases hi:isF [42] r2
  ·have HQ:=κ (HQY2.o hi);have HI:=κ (bS P d r2 ⟨#[42]⟩ _ hp3 false hi);have HP3:=κ hp3;have HR3:=κ hR3;clear hi hp3 hR3 HQY2 HQC2;go_wp2_with fail;refine μ HI ?_;rintro e w3 ⟨rfl,hb3,hp3⟩;have HC3:=κ (HF'.o w3 r2 ac hp3 HS2.o (HR3.o.but HP3.o hb3));have HX4:=κ (aL hb3 HX3.o (Nat.ne_of_gt hgP));have HB4:=κ (HB3.o.trans hb3);have hz4:=hb3.size;clear hp3 hb3;go_wp2_with fail;refine μ HC3 ?_;rintro e w4 ⟨hb4,hq4⟩;have hx4:=aL hb4 HX4.o (Nat.ne_of_gt hgP);have hB4:=HB4.o.trans hb4;rcases hq4e:pX 1 d r2 with _|⟨x,r3⟩
   ·rw [hq4e] at hq4;obtain ⟨ce,rfl,hce⟩:=hq4;have HN:=my;clear hq4e hx4;unfold aT;go_wp2;exact ⟨rfl,gE hB4 HN.o hce⟩
   ·rw [hq4e] at hq4;obtain ⟨T4,g4,rfl,hy,hp4⟩:=hq4;have HN:=my;have hc4:=β hx4;have hfz:=na;have hx5:=mz;have hy5:PX w (w4.setCell ⟨w2,1,none⟩ (.iface T4 g4)) x (.iface T4 g4) :=
     (hy.keepB (λk o hk ho=>(Below.heap_setCell w4 ⟨w2,1,none⟩ _ k (by intro e;simp at hz4 e;omega)).trans ho)).mono (by simp at hz4;omega)
    have hp5:=hp4.setNew (o:=1) hgP (.iface T4 g4);have hB5:=hB4.setNew (o:=1) hz2 (.iface T4 g4);have hNe:=bQ P d [41] r3 _ hp5;rw [World.size_setCell] at hNe;have HNe:=κ hNe;clear hNe;have HP5:=κ hp5;have HX5:=nd;clear hq4e hy hp4 hx5 hy5 hp5 hx4;go_wp2_with fail;refine μ HNe ?_;rintro e w6 hn6;rcases hq6:aD [41] r3 with _|r4
    ·obtain ⟨rfl,hb6⟩:=hn6.no hq6;have HN2:=nh;clear hn6 hq6;unfold aT;go_wp2;exact nf
    ·obtain ⟨rfl,hb6,hp6⟩:=hn6.yes hq6;have HN2:=nh;have HX6:=κ (PX.keep (cT hb6 HP5.o) HX5.o);clear hn6 hq6 hc4 hfz;go_wp2;go_ret;refine ⟨hB5.trans hb6, ?_⟩;rw [HN2.o];exact ni
  ·have HQ:=κ (HQC2.o hi);have HI:=κ (bS P d r2 ⟨#[42]⟩ _ hp3 true hi);clear hi hp3 hR3 HQY2 HQC2;go_wp2_with fail;refine μ HI ?_;rintro e w3 ⟨rfl,hb3,hp3⟩;simp only [if_true] at hp3;have HX4:=κ (aL hb3 HX3.o (Nat.ne_of_gt hgP));have hB4:=HB3.o.trans hb3;have HNe:=κ (bQ P d [41] r2.tail w3 hp3);have HP3:=κ hp3;clear hp3 hb3;go_wp2_with fail;refine μ HNe ?_;rintro e w6 hn6;rcases hq6:aD [41] r2.tail with _|r4
   ·obtain ⟨rfl,hb6⟩:=hn6.no hq6;have HN2:=κ (HQ.o.trans nj);clear hn6 hq6;unfold aT;go_wp2;exact ⟨rfl,gE (hB4.trans hb6) HN2.o am⟩
   ·obtain ⟨rfl,hb6,hp6⟩:=hn6.yes hq6;have HN2:=κ (HQ.o.trans nj);have hx6:=aL hb6 HX4.o (Nat.ne_of_gt hgP);have HX6:=κ (show PX w w6 .cnt (.iface 204 w2) from ⟨_,hz2,rfl,by rw [hx6,HUPe.o]⟩);clear hn6 hq6 hx6;go_wp2;go_ret;refine ⟨hB4.trans hb6, ?_⟩;rw [HN2.o];exact ni
theorem Rp (P d:Nat) (word:ZS) (hw:word∈[bF,gG,jA,kL]) (l:ZW) (w:World) (h:PS w P l d) (hs:Lsane l) (hR:Resv w) (hf:isF word l=true)
 (HF:LvOk 124 1 P d (l.length-2)) :
 Calls prog 210 #[P,word] w (XPost P w d (pU d word l.tail)):=by
 rcases List.mem_cons.1 hw with rfl|hw
 ·exact Rk P d l w h hs hR hf HF
 ·exact Rj P d word hw l w h hs hR hf HF
attribute [local go_sem] To My
def Gu (d:Nat) (r:ZW):Option (Lp.X×ZW):=match pX 1 d r with
 | none=>none
 | some (x,r2)=>(aD [41] r2).map λr3=>(x,r3)
theorem aDF (P d b0:Nat) (l:ZW) (w:World) (h:PS w P l d) (hs:Lsane l) (hR:Resv w) (h0:w.heap[b0]? = some (.cells #[P] 98 (0,0)))
 (hf:isF [40] l=true) (HF:LvOk 124 1 P d l.tail.length) :
 Calls prog 208 #[b0] w (XPost P w d (Gu d l.tail)):=by
 have c0:=β h0 0;have HN:=κ (bQ P d [40] l w h);have HNF:=κ (show aD [40] l=some l.tail by simp [aD,hf]);have HB:=κ (λw' (hb:But P w w')=>ι (aM h0 hb h am) (hR.but h hb));have HS:=κ hs.tl;clear h0 hs hR hf h;go_enter func208,ntmps208;go_wp2_with fail;refine μ HN ?_;rintro e w1 hn;obtain ⟨rfl,hb1,hp1⟩:=hn.yes HNF.o;obtain ⟨k0,hR1⟩:=HB.o w1 hb1;have c1:=β k0 0;have HC:=κ (HF w1 l.tail (ν _) hp1 HS.o hR1);have HP1:=κ hp1;have HK0:=κ k0;clear hn k0 hR1 HF HN HB HNF hp1 c0;go_wp2_with fail;refine μ HC ?_;rintro e w2 ⟨hb2,hq2⟩;have hB2:=hb1.trans hb2;rcases hq:pX 1 d l.tail with _|⟨x,r2⟩
 ·rw [hq] at hq2;obtain ⟨ce,rfl,hce⟩:=hq2;have HN:=κ (show Gu d l.tail=none by rw [Gu,hq]);clear hq c1;unfold aT;go_wp2;exact ⟨rfl,gE hB2 HN.o hce⟩
 ·rw [hq] at hq2;obtain ⟨T,g,rfl,hx,hp2⟩:=hq2;have HN:=κ (show Gu d l.tail=(aD [41] r2).map (λr3=>(x,r3)) by rw [Gu,hq]);have c2:=β (aM HK0.o hb2 HP1.o am) 0;have HNe:=κ (bQ P d [41] r2 w2 hp2);have HP2:=κ hp2;have HX:=κ (hx.mono hb1.size);clear hq c1 hp2 hx;go_wp2_with fail;refine μ HNe ?_;rintro e w6 hn6;rcases hq6:aD [41] r2 with _|r4
  ·obtain ⟨rfl,hb6⟩:=hn6.no hq6;have HN2:=nh;clear hn6 hq6;unfold aT;go_wp2;exact ⟨rfl,gE (hB2.trans hb6) HN2.o am⟩
  ·obtain ⟨rfl,hb6,hp6⟩:=hn6.yes hq6;have HN2:=nh;have HX6:=κ (PX.keep (cT hb6 HP2.o) HX.o);clear hn6 hq6;go_wp2;go_ret;refine ⟨hB2.trans hb6, ?_⟩;rw [HN2.o];exact ni
theorem Yr (P d b0 b1:Nat) (word:ZS) (hw:word∈[bF,gG,jA,kL]) (l:ZW) (w:World) (h:PS w P l d) (hs:Lsane l) (hR:Resv w) (h0:w.heap[b0]? = some (.cells #[P] 98 (0,0)))
 (h1:w.heap[b1]? = some (.cells #[word] 9 (0,0))) (hf:isF word l=true) (HF:LvOk 124 1 P d (l.length-2)) :
 Calls prog 209 #[b0,b1] w (XPost P w d (pU d word l.tail)):=by
 have c0:=β h0 0;have c1:=cq;have HC:=κ (Rp P d word hw l w h hs hR hf HF);clear h0 h1 h hs hR hf HF;go_enter func209,ntmps209;go_wp2_with fail;refine μ HC ?_;rintro e w' hx;rcases hx.form with ⟨T,g,rfl⟩|⟨c,rfl⟩
 ·clear c0 c1;go_wp2;go_ret;exact hx
 ·clear c0 c1;unfold aT at *;go_wp2;exact ec
theorem pQ {k i:Int} {b:Bool} {q:Option (Lp.X×ZW)} (hq:q=some (.lit k i s b,r)) (hb:But P w w') (hp:PS w' P r d) :
 XPost P w d q (.returned (.iface 121 w')) (w'.alloc (.cells #[.int .u8 k,.int .i64 i,s,b] 123)):=by
 subst hq;have hb':Below w' w' (w'.alloc (.cells #[.int .u8 k,.int .i64 i,s,b] 123)):=ρ;exact ⟨hb.trans (But.of hb'),_,_,rfl,⟨_,hb.size,rfl,heap_alloc_new w' _⟩,hp.below hb'⟩
theorem qB (h:PS w P (t::r) d) :
 let W:=w.alloc (.cells #[P] 98)
 ∃ (b off n c:Nat),0<n∧(0:Int)<(n:Int)∧n=(t::r).length∧W.cell? ⟨P,0,none⟩=some (.slice (some ⟨b,off,none⟩) n c)∧W.cell? ⟨w,0,none⟩=some (.pointer (some ⟨P,0,none⟩)) ∧
  W.cell? ⟨b,off,none⟩=some (.int .u8 t.k)∧W.cell? ⟨b,off+1,none⟩=some (.string t.s)∧W.cell? ⟨b,off+2,none⟩=some (.int .i64 t.n):=by
 intro W;have hb:Below w w W:=ρ;obtain ⟨A,c,h1,h2,h3⟩:=h.below hb;obtain ⟨b,off,rfl,hlt,k0,k1,k2⟩:=h3.front;exact ⟨b,off,(t::r).length,c,aa,aa,rfl,β h1 0,β (heap_alloc_new w _) 0,k0,k1,k2⟩
theorem aAR (P d:Nat) (w:World) (h:PS w P [] d):Calls prog 207 #[P] w (XPost P w d (pX 8 d [])):=by
 have hb:=nk;obtain ⟨A,c,h1, -, -⟩:=h.below hb;have hc:=cq;have hc1:=β (heap_alloc_new w (.cells #[P] 98)) 0;have HQ:=κ (show pX 8 d []=none by rw [dD,Wy]);have HB:=ea;clear h1 h hb;go_enter func207,ntmps207;go_wp2_with fail;refine (lK _).mono ?_;rintro e w1 ⟨rfl,rfl⟩;unfold aT;go_wp2;exact ⟨rfl,gE HB.o HQ.o am⟩
theorem Jb (P d:Nat) (t:Tok) (r:ZW) (w:World) (h:PS w P (t::r) d) (hk:t.k=2∨t.k=3):Calls prog 207 #[P] w (XPost P w d (pX 8 d (t::r))):=by
 have hb:=nk;obtain ⟨b,off,n,c,hn0,hn1, -,c0,c1,k0,k1,k2⟩:=qB h;have HT:=κ (λk (hk:t.k=k)=>sJ P d t r k _ (h.below hb) hk);have HB:=ea;have HQ:=κ (show pX 8 d (t::r)=if t.k=2 then some (.lit 1 t.n [] false,r) else if t.k=3 then some (.lit 2 0 t.s false,r) else pA d (t::r) by
  rw [dD];rcases hk with hk|hk<;>rw [eF]<;>simp [hk])
 clear h hb;rcases hk with hk|hk
 ·have HT2:=κ (HT.o 2 hk);have HQ2:=κ (HQ.o.trans (if_pos hk));have e1:=nl
  clear hk HT HQ;go_enter func207,ntmps207;go_wp2_with fail;refine (dF _).mono ?_;rintro e w1 ⟨rfl,rfl⟩;go_wp2_with fail;refine μ HT2 ?_;rintro e w1 ⟨rfl,hb1,hp1⟩;clear c0 c1 k0 k1 k2;go_wp2;go_ret;exact pQ HQ2.o (HB.o.trans hb1) hp1
 ·have HT2:=κ (HT.o 3 hk);have HQ2:=κ (HQ.o.trans ((if_neg ac).trans (if_pos hk)));have e1:=np
  have e2:(t.k==3)=true:=nr
  clear hk HT HQ;go_enter func207,ntmps207;go_wp2_with fail;refine (dF _).mono ?_;rintro e w1 ⟨rfl,rfl⟩;go_wp2_with fail;refine μ HT2 ?_;rintro e w1 ⟨rfl,hb1,hp1⟩;clear c0 c1 k0 k1 k2;go_wp2;go_ret;exact pQ HQ2.o (HB.o.trans hb1) hp1
theorem jX (ht:vA t) (hk:t.k=4) (hs:∃ c q,s=c::q∧gP c=true):isF s (t::r)=false:=by
 obtain ⟨c,q,e1,e2⟩:=ht.2.2.2.1 hk;obtain ⟨c',q',e3,e4⟩:=hs;rw [sZ];have:(t.s==s)=false:=by
  rw [beq_eq_false_iff_ne];intro h;rw [e1,e3] at h;injection h with h _;rw [h,e4] at e2;cases e2
 rw [this];rfl
theorem aDI (ht:vA t) (hk:t.k=4):pA d (t::r)=if isF [40] (t::r)=true then dwn d (Gu (d+1) r) else none:=by
 have hz:mM (t::r)=none:=by simp [mM,bB,hk]
 have h0:isF cE (t::r)=false:=jX ht hk ⟨_,_,rfl,am⟩;have h1:isF dU (t::r)=false:=jX ht hk ⟨_,_,rfl,am⟩;have h2:isF cX (t::r)=false:=jX ht hk ⟨_,_,rfl,am⟩;have h3:isF bF (t::r)=false:=jX ht hk ⟨_,_,rfl,am⟩;have h4:isF gG (t::r)=false:=jX ht hk ⟨_,_,rfl,am⟩;have h5:isF jA (t::r)=false:=jX ht hk ⟨_,_,rfl,am⟩;have h6:isF kL (t::r)=false:=jX ht hk ⟨_,_,rfl,am⟩;rw [eF,if_neg ac,if_neg ac,h0,h1,h2,h3,h4,h5,h6,hz];rfl
theorem Ss (P d:Nat) (t:Tok) (r:ZW) (w:World) (h:PS w P (t::r) d) (hs:Lsane (t::r)) (hR:Resv w) (hd:d≤100000) (hk:t.k=4) (HE:LvOk 124 1 P (d+1) r.length) :
 Calls prog 207 #[P] w (XPost P w d (pX 8 d (t::r))):=by
 have hb:=nk;obtain ⟨b,off,n,c,hn0,hn1, -,c0,c1,k0,k1,k2⟩:=qB h;have hp1:=h.below hb;have hx1:=ns;have HB:=ea;have hQ:=(show pX 8 d (t::r)=pA d (t::r) from dD).trans (aDI (hs.2 t aa) hk);have e1:=np
 have e2:=nu
 have e3:(t.k==4)=true:=nr
 cases hf:isF [40] (t::r)
 ·have HQ:=κ (show pX 8 d (t::r)=none by rw [hQ,if_neg (by rw [hf];decide)]);have HI:=κ (oM P d (t::r) ⟨#[40]⟩ _ hp1 false hf);clear h hb hp1 hx1 hs hR hk hQ hf HE;go_enter func207,ntmps207;go_wp2_with fail;refine (dF _).mono ?_;rintro e w1 ⟨rfl,rfl⟩;go_wp2_with fail;refine μ HI ?_;rintro e w1 ⟨rfl,rfl⟩;go_wp2_with fail;refine (lK _).mono ?_;rintro e w1 ⟨rfl,rfl⟩;unfold aT;go_wp2;exact ⟨rfl,gE HB.o HQ.o am⟩
 ·have HQ:=κ (show pX 8 d (t::r)=dwn d (Gu (d+1) r) by rw [hQ,if_pos hf]);have HI:=κ (oM P d (t::r) ⟨#[40]⟩ _ hp1 true hf);have hRW:=cC hR hb;have HC:=κ (yV 208 (λ_ _=>rfl) #[w] P d (t::r) _ hp1 hd (Gu (d+1) r)
   (λw' hb' hp'=>aDF P (d+1) w (t::r) w' hp' hs (hRW.but hp1 hb') (aM hx1 hb' hp1 am) hf HE))
  clear h hb hp1 hx1 hs hR hk hQ hf HE hRW;have hmf:=ej;go_enter func207,ntmps207;go_wp2_with fail;refine (dF _).mono ?_;rintro e w1 ⟨rfl,rfl⟩;go_wp2_with fail;refine μ HI ?_;rintro e w1 ⟨rfl,rfl⟩;go_wp2_with fail;refine (dF _).mono ?_;rintro e w1 ⟨rfl,rfl⟩;go_wp2_with fail;refine μ HC ?_;rintro e w' hx;clear c0 c1 k0 k1 k2;replace hx:=dz;rw [<-HQ.o] at hx;rcases hx.form with ⟨T,g,rfl⟩|⟨c,rfl⟩
  ·go_wp2;go_ret;exact hx
  ·unfold aT at *;go_wp2;exact ec
theorem sB (hk:t.k=1):isF s (t::r)=(t.s==s):=by
 rw [sZ,hk];simp
theorem Ek (s:ZS) (h:PS w P l d) (hR:Resv w) :
 let W:=(w.alloc (.cells #[P] 98)).alloc (.cells #[s] 9)
 But P w W∧PS W P l d∧Resv W∧W.heap[w.heap.size]? = some (.cells #[P] 98 (0,0))∧W.heap[w.heap.size+1]? = some (.cells #[s] 9 (0,0)):=by
 intro W;have hb:Below w w W:=(ρ).alloc aa _;exact ⟨But.of hb,h.below hb,cC hR hb,aB (heap_alloc_new w _) _,bG w _ _⟩
theorem Dq (ht:vA t) (hk:t.k=1):pA d (t::r) =
 if t.s=cE then some (.lit 0 0 [] false,r) else if t.s=dU then some (.lit 3 0 [] true,r) else if t.s=cX then some (.lit 3 0 [] false,r)
 else if t.s=bF∨t.s=gG∨t.s=jA∨t.s=kL then dwn d (pU (d+1) t.s r) else mM (t::r):=by
 have h40:isF [40] (t::r)=false:=by
  obtain ⟨c,q,e1,e2⟩:=ht.2.2.1 hk;rw [sB hk,beq_eq_false_iff_ne];intro h;rw [e1] at h;injection h with h _;rw [h] at e2;exact absurd e2 am
 rw [eF,if_neg ac,if_neg ac,h40];simp only [sB hk,beq_iff_eq,Bool.or_eq_true,φ,if_false,or_assoc];rfl
theorem Xf (P d:Nat) (t:Tok) (r:ZW) (w:World) (h:PS w P (t::r) d) (hk:t.k=1) :
 Calls prog 70 #[P,.slice (some ⟨w,0,none⟩) 1 1] (w.alloc (.cells #[t.s] 9)) (λe w'=>e=.returned (.tuple #[])∧But P w w'∧PS w' P r d):=by
 have hf:isF t.s (t::r)=true:=by rw [sB hk];simp
 exact (bQ P d t.s (t::r) w h).mono λe w' hn=>hn.yes (by simp [aD,hf])
theorem aAS (P d:Nat) (t:Tok) (r:ZW) (w:World) (h:PS w P (t::r) d) (hs:Lsane (t::r)) (hR:Resv w) (hk:t.k=1) (hw:t.s=cE∨t.s=dU∨t.s=cX) :
 Calls prog 207 #[P] w (XPost P w d (pX 8 d (t::r))):=by
 obtain ⟨b,off,n,c,hn0,hn1, -,c0,c1,k0,k1,k2⟩:=qB h;obtain ⟨hB,hp1,hR1,hx0,hx1⟩:=Ek t.s h hR;have hQ:=nv;have hNe:=Xf P d t r _ hp1 hk;simp only [World.size_alloc] at hNe;have e1:=np
 have e2:=nu
 have e3:=nx
 clear h hs hR hk;rcases hw with hw|hw|hw
 ·have HQ:=κ (show pX 8 d (t::r)=some (.lit 0 0 [] false,r) by rw [hQ,if_pos hw]);rw [show t.s=[110,117,108,108] from hw] at hNe hx1 hp1 hB k1 hx0;have HNe:=κ hNe;have HP1:=κ hp1;have HX0:=κ hx0;have HX1:=κ hx1;have HB:=κ hB;have d0:=oe;have d1:=oa;clear hB hp1 hR1 hx0 hx1 hQ hw hNe;go_enter func207,ntmps207;go_wp2_with fail;refine (dF _).mono ?_;rintro e w1 ⟨rfl,rfl⟩;go_wp2_with fail;refine μ HNe ?_;rintro e w1 ⟨rfl,hb1,hp1⟩;have d2:=nz;clear c0 c1 k0 k1 k2 d0 d1;go_wp2;go_ret;exact ny
 ·have HQ:=κ (show pX 8 d (t::r)=some (.lit 3 0 [] true,r) by rw [hQ,if_neg og,if_pos hw]);rw [show t.s=[116,114,117,101] from hw] at hNe hx1 hp1 hB k1 hx0;have HNe:=κ hNe;have HP1:=κ hp1;have HX0:=κ hx0;have HX1:=κ hx1;have HB:=κ hB;have d0:=oe;have d1:=oa;clear hB hp1 hR1 hx0 hx1 hQ hw hNe;go_enter func207,ntmps207;go_wp2_with fail;refine (dF _).mono ?_;rintro e w1 ⟨rfl,rfl⟩;go_wp2_with fail;refine μ HNe ?_;rintro e w1 ⟨rfl,hb1,hp1⟩;have d2:=nz;clear c0 c1 k0 k1 k2 d0 d1;go_wp2;go_ret;exact ny
 ·have HQ:=κ (show pX 8 d (t::r)=some (.lit 3 0 [] false,r) by rw [hQ,if_neg og,if_neg og,if_pos hw]);rw [show t.s=[102,97,108,115,101] from hw] at hNe hx1 hp1 hB k1 hx0;have HNe:=κ hNe;have HP1:=κ hp1;have HX0:=κ hx0;have HX1:=κ hx1;have HB:=κ hB;have d0:=oe;have d1:=oa;clear hB hp1 hR1 hx0 hx1 hQ hw hNe;go_enter func207,ntmps207;go_wp2_with fail;refine (dF _).mono ?_;rintro e w1 ⟨rfl,rfl⟩;go_wp2_with fail;refine μ HNe ?_;rintro e w1 ⟨rfl,hb1,hp1⟩;have d2:=nz;clear c0 c1 k0 k1 k2 d0 d1;go_wp2;go_ret;exact ny
theorem Mi (P d:Nat) (t:Tok) (r:ZW) (w:World) (h:PS w P (t::r) d) (hs:Lsane (t::r)) (hR:Resv w) (hd:d≤100000) (hk:t.k=1) (hw:t.s=bF∨t.s=gG∨t.s=jA∨t.s=kL) (HE:LvOk 124 1 P (d+1) r.length) :
 Calls prog 207 #[P] w (XPost P w d (pX 8 d (t::r))):=by
 obtain ⟨b,off,n,c,hn0,hn1, -,c0,c1,k0,k1,k2⟩:=qB h;obtain ⟨hB,hp1,hR1,hx0,hx1⟩:=Ek t.s h hR;have hQ:=nv;have hf:isF t.s (t::r)=true:=by rw [sB hk];simp
 have hmem:t.s∈[bF,gG,jA,kL]:=by simpa using hw
 have hC:=yV 209 (λ_ _=>rfl) #[w,(w.heap.size+1:Nat)] P d (t::r) _ hp1 hd (pU (d+1) t.s r)
  (λw' hb' hp'=>Yr P (d+1) w (w+1) t.s hmem (t::r) w' hp' hs (hR1.but hp1 hb') (aM hx0 hb' hp1 am) (aM hx1 hb' hp1 am) hf (HE.le aa))
 have e1:=np
 have e2:=nu
 have e3:=nx
 have hmf:=ej;clear h hs hR hk hf hmem HE hd;have hQ2:pX 8 d (t::r)=dwn d (pU (d+1) t.s r):=by
  rw [hQ,if_neg oh,if_neg oh,if_neg oh,if_pos hw]
 rw [<-hQ2] at hC;clear hQ hQ2;rcases hw with hw|hw|hw|hw
 ·rw [show t.s=[99,111,117,110,116] from hw] at hC hx1 hB k1 hx0;have HC:=κ hC;have HB:=κ hB;have d0:=oe;have d1:=oa;clear hB hp1 hR1 hx0 hx1 hw hC;go_enter func207,ntmps207;go_wp2_with fail;refine (dF _).mono ?_;rintro e w1 ⟨rfl,rfl⟩;go_wp2_with fail;refine μ HC ?_;rintro e w' hx;clear c0 c1 k0 k1 k2 d0 d1;replace hx:=dz;rcases hx.form with ⟨T,g,rfl⟩|⟨c,rfl⟩
  ·go_wp2;go_ret;exact hx
  ·unfold aT at *;go_wp2;exact ec
 ·rw [show t.s=[115,117,109] from hw] at hC hx1 hB k1 hx0;have HC:=κ hC;have HB:=κ hB;have d0:=oe;have d1:=oa;clear hB hp1 hR1 hx0 hx1 hw hC;go_enter func207,ntmps207;go_wp2_with fail;refine (dF _).mono ?_;rintro e w1 ⟨rfl,rfl⟩;go_wp2_with fail;refine μ HC ?_;rintro e w' hx;clear c0 c1 k0 k1 k2 d0 d1;replace hx:=dz;rcases hx.form with ⟨T,g,rfl⟩|⟨c,rfl⟩
  ·go_wp2;go_ret;exact hx
  ·unfold aT at *;go_wp2;exact ec
 ·rw [show t.s=[109,105,110] from hw] at hC hx1 hB k1 hx0;have HC:=κ hC;have HB:=κ hB;have d0:=oe;have d1:=oa;clear hB hp1 hR1 hx0 hx1 hw hC;go_enter func207,ntmps207;go_wp2_with fail;refine (dF _).mono ?_;rintro e w1 ⟨rfl,rfl⟩;go_wp2_with fail;refine μ HC ?_;rintro e w' hx;clear c0 c1 k0 k1 k2 d0 d1;replace hx:=dz;rcases hx.form with ⟨T,g,rfl⟩|⟨c,rfl⟩
  ·go_wp2;go_ret;exact hx
  ·unfold aT at *;go_wp2;exact ec
 ·rw [show t.s=[109,97,120] from hw] at hC hx1 hB k1 hx0;have HC:=κ hC;have HB:=κ hB;have d0:=oe;have d1:=oa;clear hB hp1 hR1 hx0 hx1 hw hC;go_enter func207,ntmps207;go_wp2_with fail;refine (dF _).mono ?_;rintro e w1 ⟨rfl,rfl⟩;go_wp2_with fail;refine μ HC ?_;rintro e w' hx;clear c0 c1 k0 k1 k2 d0 d1;replace hx:=dz;rcases hx.form with ⟨T,g,rfl⟩|⟨c,rfl⟩
  ·go_wp2;go_ret;exact hx
  ·unfold aT at *;go_wp2;exact ec
theorem aAA (h:bB (t::r)=some (n1,r1)) (h1:isF [46] r1=false):mM (t::r)=some (.col [] n1,r1):=by
 simp [mM,h,h1]
theorem aFF (h:bB (t::r)=some (n1,r1)) (h1:isF [46] r1=true):mM (t::r)=match bB r1.tail with|none=>none|some (m,r2)=>some (.col n1 m,r2):=by
 simp only [mM,h,h1,if_true];cases bB r1.tail<;>rfl
theorem St (P d:Nat) (t:Tok) (r:ZW) (w:World) (h:PS w P (t::r) d) (hs:Lsane (t::r)) (hR:Resv w) (hk:t.k=1) (hw:t.s≠cE∧t.s≠dU∧t.s≠cX∧t.s≠bF∧t.s≠gG∧t.s≠jA∧t.s≠kL) :
 Calls prog 207 #[P] w (XPost P w d (pX 8 d (t::r))):=by
 obtain ⟨b,off,n,c,hn0,hn1, -,c0,c1,k0,k1,k2⟩:=qB h;obtain ⟨hB,hp1,hR1,hx0,hx1⟩:=Ek t.s h hR;obtain ⟨w1,w2,w3,w4,w5,w6,w7⟩:=hw;have hQ:pX 8 d (t::r)=mM (t::r):=by
  rw [(show pX 8 d (t::r)=pA d (t::r) from dD).trans (Dq (hs.2 t aa) hk),if_neg w1,if_neg w2,if_neg w3,if_neg (by rintro (h|h|h|h);exact w4 h;exact w5 h;exact w6 h;exact w7 h)]
 have HQ:=κ hQ;have e1:=np
 have e2:=nu
 have e3:=nx
 have v1:(t.s==[110,117,108,108])=false:=η w1;have v2:(t.s==[116,114,117,101])=false:=η w2;have v3:(t.s==[102,97,108,115,101])=false:=η w3;have v4:(t.s==[99,111,117,110,116])=false:=η w4;have v5:(t.s==[115,117,109])=false:=η w5;have v6:(t.s==[109,105,110])=false:=η w6;have v7:(t.s==[109,97,120])=false:=η w7;have HNm:=κ (eD P d (t::r) _ hp1 hR1);have HP1:=κ hp1;have HX0:=κ hx0;have HB:=κ hB;have HR1:=κ hR1;have d0:=oe;have d1:=oa;clear h hs hR hk w1 w2 w3 w4 w5 w6 w7 hQ hB hp1 hR1 hx0 hx1;go_enter func207,ntmps207;go_wp2_with fail;refine (dF _).mono ?_;rintro e w1 ⟨rfl,rfl⟩;go_wp2_with fail;refine μ HNm ?_;rintro e w2 ⟨hb2,hq2⟩;have hB2:=HB.o.trans hb2;clear v1 v2 v3 v4 v5 v6 v7 c0 c1 k0 k1 k2 d0 d1;rcases hq:bB (t::r) with _|⟨n1,r1⟩
 ·rw [hq] at hq2;obtain ⟨ce,rfl,hce⟩:=hq2;have HN:=κ (show pX 8 d (t::r)=none by rw [HQ.o,mM,hq]);clear hq;unfold aT;go_wp2;exact ⟨rfl,gE hB2 HN.o hce⟩
 ·rw [hq] at hq2;obtain ⟨rfl,hp2⟩:=hq2;have hx2:=aM HX0.o hb2 HP1.o am;have hR2:=HR1.o.but HP1.o hb2;have hz2:=hB2.size;have hPlt:=HP1.o.lt;have hb3:Below w2 w2 (w2.alloc (.cells #[(),n1] 206)):=ρ;have hp3:=hp2.below hb3;have hx3:=aB hx2 (.cells #[(),n1] 206);have hc3:=heap_alloc_new w2 (.cells #[(),n1] 206);have hR3:=cC hR2 hb3;have HB3:=κ (hB2.trans (But.of hb3));have HC3:=κ hc3;have HP3:=κ hp3;have HX3:=κ hx3;have HR3:=κ hR3;have HQ1:=mi;have d3:=β hx3 0;have hgP:P<w2:=by have:=hp2.lt;exact this
  cases hi:isF [46] r1
  ·have HI:=κ (bS P d r1 ⟨#[46]⟩ _ hp3 false hi);have HN:=κ (HQ.o.trans (aAA hq hi));clear hq hi hp2 hx2 hR2 hb3 hp3 hx3 hc3 hR3;go_wp2_with fail;refine μ HI ?_;rintro e w3 ⟨rfl,hb4,hp4⟩;have hc4:=aL hb4 HC3.o (Nat.ne_of_gt hgP);have HX:=κ (show PX w w3 (.col [] n1) (.iface 192 w2) from ⟨_,hz2,rfl,hc4⟩);clear hc4 d3;go_wp2;go_ret;refine ⟨HB3.o.trans hb4, ?_⟩;rw [HN.o];exact ⟨_,_,rfl,HX.o,hp4⟩
  ·have HI:=κ (bS P d r1 ⟨#[46]⟩ _ hp3 true hi);have HN:=κ (HQ.o.trans (aFF hq hi));clear hq hi hp2 hx2 hR2 hb3 hp3 hx3 hc3 hR3;go_wp2_with fail;refine μ HI ?_;rintro e w3 ⟨rfl,hb4,hp4⟩;simp only [if_true] at hp4;have hc4:=aL hb4 HC3.o (Nat.ne_of_gt hgP);have hx4:=aM HX3.o hb4 HP3.o am;have hR4:=HR3.o.but HP3.o hb4;have hB4:=HB3.o.trans hb4;have HM:=κ (eD P d r1.tail w3.drew hp4 hR4);have f0:=β hx4 0;have f1:=β hc4;have f1':=f1 1;have HP4:=κ hp4;have HC4:=κ hc4;have HB4:=κ hB4;clear d3 hp4 hR4 hB4 hb4 hx4 hc4;rcases hq4:bB r1.tail with _|⟨n2,r2⟩
   ·have HN2:=κ (HN.o.trans (by rw [hq4]));have HM0:=κ (HM.o.mono (λe w2 (hx:qF P w3.drew d (bB r1.tail) e w2)=>(show But P w3.drew w2∧∃ c,e=aT c∧c≠0 by unfold qF at hx;rw [hq4] at hx;exact hx)));clear HM hq4;go_wp2_with fail;refine wp_region_held_drew (S:=λw'=>w'.cell? ⟨w2,1,none⟩=some (.string n1)∧w'.cell? ⟨w.heap.size,0,none⟩=some (.pointer (some ⟨P,0,none⟩))) aj ⟨f1',f0⟩ (λhHeld => ?_);refine wpAnyH_take (i:=0) (v:=.pointer (some ⟨w2,0,none⟩)) rfl aj aj aj (λ_ _ _ h=>h) (Or.inl ⟨eh,λw hSw=>oo⟩) hHeld ?_;refine wpAnyH_take (i:=1) (v:=.pointer (some ⟨w2,0,none⟩)) rfl aj aj aj (λ_ _ _ h=>h) (Or.inl ⟨eh,λw hSw=>oo⟩) hHeld ?_;refine wpAnyH_take (i:=2) (v:=.pointer (some ⟨w2,0,none⟩)) rfl aj aj aj (λ_ _ _ h=>h) (Or.inl ⟨eh,λw hSw=>oo⟩) hHeld ?_;refine wpAnyH_take (i:=3) (v:=.pointer (some ⟨w2,0,none⟩)) rfl aj aj aj (λ_ _ _ h=>h) (Or.inl ⟨eh,λw hSw=>oo⟩) hHeld ?_;refine wpAnyH_take (i:=4) (v:=.pointer (some ⟨w2,1,none⟩)) rfl aj aj aj (λ_ _ _ h=>h) (Or.inl ⟨eh,λw hSw=>oo⟩) hHeld ?_
    refine wpAnyH_take (i:=5) (v:=.string n1) rfl aj aj aj (λ_ _ _ h=>h) (Or.inl ⟨eh,λw hSw=>oq⟩) hHeld ?_;refine wpAnyH_take (i:=6) (v:=.pointer (some ⟨P,0,none⟩)) rfl aj aj aj (λ_ _ _ h=>h) (Or.inl ⟨eh,λw hSw=>oq⟩) hHeld ?_;refine wpAnyH_ready (rs:=[7]) aj aa ?_;refine AllReadyH.cons rfl (λK hK => ?_) AllReadyH.nil;go_simp;refine μ HM0 ?_;rintro e w5 ⟨hb5,ce,rfl,hc⟩;unfold aT;go_wp2;exact ⟨rfl,gE ((HB4.o.trans (But.refl _ _).drew).trans hb5) HN2.o hc⟩
   ·have HN2:=κ (HN.o.trans (by rw [hq4]));have HM0:=κ (HM.o.mono (λe w2 (hx:qF P w3.drew d (bB r1.tail) e w2)=>(show But P w3.drew w2∧e=.returned (.string n2)∧PS w2 P r2 d by unfold qF at hx;rw [hq4] at hx;exact hx)));have HCd:=κ (show w3.drew.heap[w2.heap.size]? = some (.cells #[(),n1] 206 (0,0)) from HC4.o);clear HM hq4;go_wp2_with fail
    go_region_with ((go_at_call 119;refine μ HM0 ?_;rintro e w5 ⟨hb5,rfl,hp5⟩;have g1:=β (aL hb5 HCd.o (Nat.ne_of_gt hgP));have gz:=λj=>frozen_of_row w5 w2 j _ _ (aL hb5 HCd.o (Nat.ne_of_gt hgP))))
    all_goals
     have hc6:=heap_setCell_same _ w2 1 _ _ (.string n2) (heap_setCell_same _ w2 0 _ _ (.string n1) (aL hb5 HCd.o (Nat.ne_of_gt hgP)));have HX:=κ (show PX w ((w5.setCell ⟨w2,0,none⟩ (.string n1)).setCell ⟨w2,1,none⟩ (.string n2)) (.col n1 n2) (.iface 192 w2) from ⟨_,hz2,rfl,by simpa using hc6⟩);have HE:=κ (ι ((((HB4.o.trans (But.refl _ _).drew).trans hb5).setNew (o:=0) hz2 (.string n1)).setNew (o:=1) hz2 (.string n2)) ((hp5.setNew (o:=0) hgP (.string n1)).setNew (o:=1) hgP (.string n2)));clear hc6 g1 gz hb5 hp5;go_wp2;go_ret;refine ⟨HE.o.1, ?_⟩;rw [HN2.o];exact ⟨_,_,rfl,HX.o,HE.o.2⟩
