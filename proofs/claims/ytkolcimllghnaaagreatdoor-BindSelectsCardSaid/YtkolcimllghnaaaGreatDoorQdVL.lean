/-
 Contracts. Conditions: those of each.
-/
import Derived.Test.YtkolcimllghnaaaGreatDoorQdVK
set_option maxRecDepth 100000
set_option maxHeartbeats 8000000
namespace Go.Proofs.YtkolcimllghnaaaGreatDoor
open Lp Go.Proofs.Tryz
open Go.RowKit
variable{k:Int}{x:Lp.X}{P bp bx g gi i:Nat}{S:Nat->Prop}{r:RC}{w w' w0:World}{op t:ZS}{A:ZT}
def Eo (P:Nat) (w:World) (q:Option (ZS×List (ZS×Lp.X)×Option Lp.X×ZW)) (e:Ending) (w':World):Prop :=
 But P w w'∧match q with
 | none=>∃ c,e=aT c∧c≠0
 | some (t,ss,_,r)=>∃ gi A c vs v,e=.returned (.iface 61 (.pointer (some ⟨gi,0,none⟩)))∧w.heap.size≤gi∧w'.heap[gi]? = some (.cells #[t,.slice A ss.length c,v] 68 (0,0)) ∧
  w'.ownsRow w 129 2 (.slice A ss.length c) ss.length vs∧SetsX w w' ss vs∧PS w' P r 0
theorem sC {q:Option (ZS×List (ZS×Lp.X)×Option Lp.X×ZW)} {c:Int} (hb:But P w w') (hq:q=none) (hc:c≠0):Eo P w q (aT c) w':=by
 subst hq;exact mu
theorem Mr {acc:List (ZS×Lp.X)} (hi:UI P bp bx gi t w0 acc w) (hn:bx≠gi) (v:Value):(w.setCell ⟨gi,2,none⟩ v).cell? ⟨bx,0,none⟩=some (.pointer (some ⟨gi,0,none⟩)):=β (cA hi.hbx hn v) 0
theorem Mq {ss:List (ZS×Lp.X)} {r:ZW} {c:Nat} {vs:ZU} (hi:UI P bp bx gi t w0 ss w) (hp:PS w P r 0) (hP0:P<w0) (hgi:w0.heap.size≤gi) (hu:UE gi t w0 ss A c vs w) (v:Value) :
 But P w0 (w.setCell ⟨gi,2,none⟩ v)∧∃ gi' A c vs v',Ending.returned (.iface 61 gi)=.returned (.iface 61 (.pointer (some ⟨gi',0,none⟩)))∧w0.heap.size≤gi'∧(w.setCell ⟨gi,2,none⟩ v).heap[gi']? = some (.cells #[t,.slice A ss.length c,v'] 68 (0,0)) ∧
  (w.setCell ⟨gi,2,none⟩ v).ownsRow w0 129 2 (.slice A ss.length c) ss.length vs∧SetsX w0 (w.setCell ⟨gi,2,none⟩ v) ss vs∧PS (w.setCell ⟨gi,2,none⟩ v) P r 0:=by
 have h2:=heap_setCell_same w gi 2 _ _ v hu.1;refine ⟨hi.but.setNew hgi v,gi,A,c,vs,v,rfl,hgi,db,lJ hu.2.1 hu.1 am,SetsX.stays (StaysT.set hu.1 am) hu.2.2,hp.setNew (Nat.lt_of_lt_of_le hP0 hgi) v⟩
theorem aET:∀ args w,Sem.run prog (callFunc 125 args) w=.ok (.enter 125 args) w:=λ_ _=>rfl
theorem Ru (P bp bx gi:Nat) (t:ZS) (l0 l:ZW) (w0 w:World) (hR0:Resv w0) (hp0:PS w0 P l0 0) (hgi:w0.heap.size≤gi) (hne:gi≠bp) (hnx:gi≠bx) (hi:UI P bp bx gi t w0 [] w) (hp:PS w P l 0) (hs:Lsane l) :
 Calls prog 120 #[P,.int .i64 8,.func (.func 125) #[] #[bp,bx]]
  w (EachPost P (UI P bp bx gi t w0) (RJ P w0) (dO qZ 8 l)) :=
 mE qZ Ik aCG 8 ac ac _ aET #[bp,bx] P (UI P bp bx gi t w0) (RJ P w0) (λ_ _ h=>h.but) (λ_ _ h k=>But.trans h k) (λ_ _ _ _ h hp hb=>h.next hp hb)
  (λacc l' w' ha hi hp' hs'=>Vc P bp bx gi 0 t l0 w0 hR0 hp0 hgi hne hnx acc l' w' ha hi hp' hs') l w hi hp hs
theorem Jn (P:Nat) (l:ZW) (w:World) (h:PS w P l 0) (hs:Lsane l) (hR:Resv w) :
 Calls prog 67 #[P] w (Eo P w (wJ l)):=by
 have hb0:=nk;have hx0:=ns;have HNm:=κ (eD P 0 l _ (h.below hb0) (cC hR hb0));have H0:=pu;clear h hs hR hb0 hx0;go_enter func67,ntmps67;go_wp2_with fail;refine μ HNm ?_;rintro e w2 ⟨hb2,hq2⟩;rcases hq:bB l with _|⟨t,r2⟩
 ·rw [hq] at hq2;obtain ⟨ce,rfl,hce⟩:=hq2;have HN:=κ (show wJ l=none by rw [wJ,hq]);have HB:=κ (H0.o.2.2.2.1.trans hb2);clear hq hb2 HNm;unfold aT;go_wp2;exact ⟨rfl,sC HB.o HN.o hce⟩
 ·rw [hq] at hq2;obtain ⟨rfl,hp2⟩:=hq2;have hx2:=aM H0.o.2.2.2.2.1 hb2 H0.o.2.2.2.2.2 am;have hs2:=H0.o.2.1.sfx (bZ hq);have hb3:Below w2 w2 ((w2.alloc (.cells #[t,.slice none 0 0,.nilIface] 68)).alloc (.cells #[w2] 61)):=(ρ).alloc aa _;have hg3:=aB (heap_alloc_new w2 (.cells #[t,.slice none 0 0,.nilIface] 68)) (.cells #[w2] 61);have hv3:=bG w2 (.cells #[t,.slice none 0 0,.nilIface] 68) (.cells #[w2] 61);have hbx3:=aA hx2 hb3;have c3:=β hbx3 0;have hz:=(H0.o.2.2.2.1.trans hb2).size;have hlt2:=aG hx2;have HN3:=κ (bQ P 0 aHG r2 _ (hp2.below hb3));have H3:=κ (ι ((H0.o.2.2.2.1.trans hb2).trans (But.of hb3)) (ι hg3 (ι hv3 (ι hbx3 (ι (hp2.below hb3) (ι hs2 (ι hq (ι hz hlt2))))))));clear hq hb2 hp2 hx2 hs2 hb3 hg3 hv3 hbx3 HNm hlt2 hz;rw [World.size_alloc,World.size_alloc] at HN3;go_wp2_with fail;refine μ HN3 ?_;rintro e w4 hn;rcases hq4:aD aHG r2 with _|r3
  ·obtain ⟨rfl,hb4⟩:=hn.no hq4;have HN:=κ (show wJ l=none by rw [wJ,H3.o.2.2.2.2.2.2.1];simp only [hq4]);have HB:=κ (H3.o.1.trans hb4);clear hq4 hn HN3 hb4;unfold aT;go_wp2;exact ⟨rfl,sC HB.o HN.o am⟩
  ·obtain ⟨rfl,hb4,hp4⟩:=hn.yes hq4;have hbp4:=py;have hi4:UI P w (w2+1) w2 t w [] w4:=⟨H3.o.1.trans hb4,hbp4,aM H3.o.2.2.1 hb4 H3.o.2.2.2.2.1 am,none,0,[],aM H3.o.2.1 hb4 H3.o.2.2.2.2.1 am,World.ownsRow_nil _ _ _ _,trivial⟩;have hs4:=H3.o.2.2.2.2.2.1.sfx (aU hq4);have HE:=κ (Ru P w (w2+1) w2 t l r3 w w4 H0.o.2.2.1 H0.o.1 H3.o.2.2.2.2.2.2.2.1 (Nat.ne_of_gt H3.o.2.2.2.2.2.2.2.2) ac hi4 hp4 hs4);have c4:=β hbp4 0;have HQ4:=κ (ι hq4 hs4);clear hn hq4 hb4 hp4 hbp4 hi4 HN3 c3 hs4;go_wp2_with fail;refine μ HE ?_;rintro e w5 hn;rcases hq5:dO qZ 8 r3 with _|⟨ss,r4⟩
   ·rw [hq5] at hn;obtain ⟨ce,rfl,hc,hj⟩:=hn;have HN:=κ (show wJ l=none by rw [wJ,H3.o.2.2.2.2.2.2.1];simp only [HQ4.o.1,hq5]);have HB:=κ (ι hc hj);clear hq5 hc hj HE;unfold aT;go_wp2;exact ⟨rfl,sC HB.o.2 HN.o HB.o.1⟩
   ·rw [hq5] at hn;obtain ⟨rfl,hp5,hi5⟩:=hn;have hs5:=HQ4.o.2.sfx (lQ Ik 8 _ _ _ _ _ hq5).2;have HWh:=κ (tQ P r4 w5.drew hp5 hs5 (show Resv w5.drew from H0.o.2.2.1.but H0.o.1 hi5.but.drew));have HP5:=κ (show PS w5.drew P r4 0 from hp5);have HI5:=κ (ι hi5 hq5);have c5:w5.cell? ⟨w2+1,0,none⟩=some (.pointer (some ⟨w2,0,none⟩)):=β hi5.hbx 0;have c6:w5.cell? ⟨w,0,none⟩=some (.pointer (some ⟨P,0,none⟩)):=β hi5.hbp 0;have hl5:=aG hi5.hbx;clear hq5 hp5 hi5 HE hs5;generalize hqw:lB r4=qw at *;rcases qw with _|⟨x,r5⟩
    ·have HC0:=κ (HWh.o.mono (λe w2 (hx:nY P w5.drew none e w2)=>(show But P w5.drew w2∧∃ c,e=aT c∧c≠0 from hx)));have HN:=κ (show wJ l=none by rw [wJ,H3.o.2.2.2.2.2.2.1];simp only [HQ4.o.1,HI5.o.2];exact (congrArg (Option.map _) hqw));clear HWh hqw;go_wp2_with fail;refine wp_region_held_drew (S:=λw'=>w'.cell? ⟨w2+1,0,none⟩=some (.pointer (some ⟨w2,0,none⟩))∧w'.cell? ⟨w.heap.size,0,none⟩=some (.pointer (some ⟨P,0,none⟩))) aj ⟨c5,c6⟩ (λhHeld => ?_);refine wpAnyH_take (i:=0) (v:=.pointer (some ⟨w2,0,none⟩)) rfl aj aj aj (λ_ _ _ h=>h) (Or.inl ⟨eh,λw hSw=>oq⟩) hHeld ?_;refine wpAnyH_take (i:=1) (v:=.pointer (some ⟨P,0,none⟩)) rfl aj aj aj (λ_ _ _ h=>h) (Or.inl ⟨eh,λw hSw=>oq⟩) hHeld ?_;refine wpAnyH_ready (rs:=[2]) aj aa ?_;refine AllReadyH.cons rfl (λK hK => ?_) AllReadyH.nil;go_simp;refine μ HC0 ?_;rintro e w6 ⟨hb6,ce,rfl,hc⟩;have HB:=κ (HI5.o.1.but.drew.trans hb6);clear hb6 c5 c6;unfold aT;go_wp2;exact ⟨rfl,sC HB.o HN.o hc⟩
    ·have HN:=κ (show wJ l=some (t,ss,x,r5) by rw [wJ,H3.o.2.2.2.2.2.2.1];simp only [HQ4.o.1,HI5.o.2];exact (congrArg (Option.map _) hqw));have HI6:=κ (show UI P w (w2+1) w2 t w ss w5.drew from ⟨HI5.o.1.but.drew,HI5.o.1.hbp,HI5.o.1.hbx,(HI5.o.1.next (w':=w5.drew) HP5.o (But.refl _ _).drew).sets⟩);clear hqw;rcases x with _|x
     ·have HC0:=κ (HWh.o.mono (λe w2 (hx:nY P w5.drew (some (none,r5)) e w2)=>(show But P w5.drew w2∧e=.returned .nilIface∧PS w2 P r5 0 from by obtain ⟨h1,v,h2,h3,h4⟩:=hx;exact ⟨h1,by rw [h2,show v=.nilIface from h3],h4⟩)));clear HWh;go_wp2_with fail
      go_region_law (first
       | (go_simp;go_at_call 126;refine μ HC0 ?_;rintro e w6 ⟨hb6,rfl,hp6⟩;have hi6:=HI6.o.next HP5.o hb6;obtain ⟨A6,c6',vs6,k1,k2,k3⟩:=hi6.sets;have d5:w6.cell? ⟨w2+1,0,none⟩=some (.pointer (some ⟨w2,0,none⟩)):=β hi6.hbx 0;have d6:w6.cell? ⟨w2,2,none⟩=some .nilIface:=β k1 2;have f6:=λj=>frozen_of_row w6 w2 j _ _ k1)
       | fail)
      all_goals
       have hE:=Mq hi6 hp6 H0.o.1.lt H3.o.2.2.2.2.2.2.2.1 ⟨k1,k2,k3⟩ (.nilIface);have d7:=Mr hi6 ac (.nilIface);clear HI6 HI5 HP5 HC0 hi6 hp6 k1 k2 k3 hb6 HQ4 H3;go_wp2;go_ret;refine ⟨hE.1, ?_⟩;rw [HN.o];exact hE.2
     ·have HC0:=κ (HWh.o.mono (λe w2 (hx:nY P w5.drew (some (some x,r5)) e w2)=>(show But P w5.drew w2∧∃ T g,e=.returned (.iface T (.pointer (some ⟨g,0,none⟩)))∧PS w2 P r5 0 from by obtain ⟨h1,v,h2,⟨⟨T,g,h3⟩,_⟩,h4⟩:=hx;exact ⟨h1,T,g,by rw [h2,h3],h4⟩)));clear HWh;go_wp2_with fail
      go_region_law (first
       | (go_simp;go_at_call 126;refine μ HC0 ?_;rintro e w6 ⟨hb6,T,g,rfl,hp6⟩;have hi6:=HI6.o.next HP5.o hb6;obtain ⟨A6,c6',vs6,k1,k2,k3⟩:=hi6.sets;have d5:w6.cell? ⟨w2+1,0,none⟩=some (.pointer (some ⟨w2,0,none⟩)):=β hi6.hbx 0;have d6:w6.cell? ⟨w2,2,none⟩=some .nilIface:=β k1 2;have f6:=λj=>frozen_of_row w6 w2 j _ _ k1)
       | fail)
      all_goals
       have hE:=Mq hi6 hp6 H0.o.1.lt H3.o.2.2.2.2.2.2.2.1 ⟨k1,k2,k3⟩ (.iface T g);have d7:=Mr hi6 ac (.iface T g);clear HI6 HI5 HP5 HC0 hi6 hp6 k1 k2 k3 hb6 HQ4 H3;go_wp2;go_ret;refine ⟨hE.1, ?_⟩;rw [HN.o];exact hE.2
theorem qN (P d:Nat) (bad:Int) (l:ZW) (w:World) (h:RS w P l d bad) (hf:(decide (bad=0)&&isF Ck l)=false) :
 Calls prog 86 #[P] w λe w'=>e=.returned (.slice none 0 0)∧But P w w'∧RS w' P l d bad:=by
 have HI:=κ (aH P d bad l ⟨#[119,104,101,114,101]⟩ w h false hf);clear h hf;go_enter func86,ntmps86;go_wp2_with fail;refine μ HI ?_;rintro e w1 ⟨rfl,hb1,hp1⟩;have H1:=rj;clear hb1 hp1 HI;go_wp2;go_ret;exact ⟨rfl,H1.o.1,H1.o.2⟩
theorem Qc (P d:Nat) (w:World) (h:RBad P w d) :
 Calls prog 80 #[P] w λe w'=>e=.returned (.string ⟨#[]⟩)∧But P w w'∧RBad P w' d:=by
 obtain ⟨l,d',b',hb',hp,h1,h2⟩:=h;have H:=κ (λ(w':World) (h':RS w' P l d' b')=>fH P d' b' 4 l w' h');have HRS:=ef;have HD:=κ (ι h1 (ι h2 hb'));obtain ⟨A,c,i,k1, -, -⟩:=hp;have hc3:=β k1 3;have eb:=wd;have eb2:=yy
 clear k1 h1 h2 hb';go_enter func80,ntmps80;go_wp2_with fail;go_quiet (fail);go_wp2_with fail;refine (H.o (w.drewN nq) (HRS.o.drawn ⟨nq,rfl⟩)).mono ?_;rintro e w1 ⟨rfl,hb1,hp1⟩;have HE:=rj;clear hb1 hp1;go_wp2;go_ret;exact ⟨rfl,(Drawn.but ⟨nq,rfl⟩).trans HE.o.1,l,d',_,by rw [tK,if_neg HD.o.2.2];exact HD.o.2.2,HE.o.2,HD.o.1,HD.o.2.1⟩
def RO (P:Nat) (w:World):Option ZW->Prop
 | none=>RBad P w 0
 | some l=>RS w P l 0 0
theorem RO.low {P B:Nat} {w w':World} {o:Option ZW} (h:RO P w o) (hP:P<B) (hb:Below B w w'):RO P w' o:=by
 cases o with
 | none=>exact RBad.low h hP hb
 | some l=>exact RS.low h hP hb
theorem RO.lt {P:Nat} {w:World} {o:Option ZW} (h:RO P w o):P<w:=by
 cases o with
 | none=>obtain ⟨l',d',b', -,hp, -⟩:=h;exact hp.lt
 | some l=>exact RS.lt h
theorem RO.below {o:Option ZW} (h:RO P w o) (hb:Below w w w'):RO P w' o:=h.low h.lt hb
theorem RO.box {o:Option ZW} {cs:ZV} {t:TypeId} (hp:RO P w o) (hg:w.heap[g]? = some (.cells cs t (0,0))) (ht:t≠108):g≠P:=by
 cases o with
 | none=>obtain ⟨l',d',b', -,hp, -⟩:=hp;exact uB hp hg ht
 | some l=>exact uB (show RS w P l 0 0 from hp) hg ht
theorem RO.own {B n size:Nat} {o:Option ZW} {e:TypeId} {v:Value} {xs:ZU} (hp:RO P w o) (h:w.ownsRow B e size v n xs) (hb:But P w w') (he:e≠108):w'.ownsRow B e size v n xs:=by
 cases o with
 | none=>obtain ⟨l',d',b', -,hp, -⟩:=hp;exact sO h hb hp he
 | some l=>exact sO h hb (show RS w P l 0 0 from hp) he
def aDO:Option ZW->Nat
 | none=>0
 | some l=>l.length
theorem RO.len {o:Option ZW} (h:RO P w o):aDO o≤2000:=by
 cases o with
 | none=>exact Nat.zero_le _
 | some l=>obtain ⟨A,c,i, -, -,h3⟩:=(show RS w P l 0 0 from h);show l.length≤2000;omega
def lC (s:ZS):Option ZW->Bool
 | none=>false
 | some l=>isF s l
theorem fB (P:Nat) (o:Option ZW) (s:ByteArray) (w:World) (h:RO P w o) (b:Bool) (hb:lC s.data.toList o=b) :
 Calls prog 34 #[P,s] w λe w'=>e=.returned (.bool b)∧But P w w'∧RO P w' (if b then o.map List.tail else o):=by
 cases o with
 | none =>
   obtain ⟨l,d,bd,h1,h2,h3,h4⟩:=h;obtain rfl:false=b:=hb;refine (aH P d bd l s w h2 false GO).mono ?_;rintro e w' ⟨k1,k2,k3⟩;exact ⟨k1,k2,l,d,bd,h1,k3,h3,h4⟩
 | some l =>
   refine (aH P 0 0 l s w h b (by simpa [lC] using hb)).mono ?_;rintro e w' ⟨k1,k2,k3⟩;cases b<;>exact ⟨k1,k2,k3⟩
theorem Hd (P:Nat) (o:Option ZW) (s:ByteArray) (w:World) (h:RO P w o) :
 Calls prog 81 #[P,s] w λe w'=>e=.returned (.tuple #[])∧But P w w'∧RO P w' (o.bind (aD s.data.toList)):=by
 cases o with
 | none =>
   obtain ⟨l,d,bd,h1,h2,h3,h4⟩:=h;refine (dV P d bd l s w h2 GO).mono ?_;rintro e w' ⟨k1,k2,b',k3,k4⟩;exact ⟨k1,k2,l,d,b',k3,k4,h3,h4⟩
 | some l =>
   cases hf:isF s.data.toList l with
   | false =>
     refine (dV P 0 0 l s w h QB).mono ?_;rintro e w' ⟨k1,k2,b',k3,k4⟩;refine ⟨k1,k2, ?_⟩;rw [show (some l).bind (aD s.data.toList)=none by simp [aD,hf]];exact ⟨l,0,b',k3,k4,ν _,ac⟩
   | true =>
     refine (dI P 0 l s w h hf).mono ?_;rintro e w' ⟨k1,k2,k3⟩;refine ⟨k1,k2, ?_⟩;rw [show (some l).bind (aD s.data.toList)=some l.tail by simp [aD,hf]];exact k3
theorem Ih (P:Nat) (o:Option ZW) (c:Int) (hc:c≠0) (w:World) (h:RO P w o) :
 Calls prog 35 #[P,.int .i64 c] w λe w'=>e=.returned (.tuple #[])∧But P w w'∧RO P w' none:=by
 obtain ⟨l,d,bd,h2,h4⟩:∃ l d bd,RS w P l d bd∧d≤100000:=by
  cases o with
  | none=>obtain ⟨l,d,bd,h1,h2,h3,h4⟩:=h;exact ⟨l,d,bd,h2,h4⟩
  | some l=>exact ⟨l,0,0,h,ac⟩
 refine (fH P d bd c l w h2).mono ?_;rintro e w' ⟨k1,k2,k3⟩;exact ⟨k1,k2,l,d,_,jN hc,k3,Nat.zero_le _,h4⟩
theorem Ns (P:Nat) (o:Option ZW) (w:World) (h:RO P w o) :
 Calls prog 80 #[P] w λe w'=>∃ n:ZS,e=.returned (.string n)∧But P w w'∧RO P w' ((o.bind bB).map (·.2))∧∀ q,o.bind bB=some q->q.1=n:=by
 cases o with
 | none =>
   refine (Qc P 0 w h).mono ?_;rintro e w' ⟨k1,k2,k3⟩;exact ⟨[],k1,k2,k3,λq hq=>by cases hq⟩
 | some l =>
   refine (qO P 0 l w h ac).mono ?_;rintro e w' ⟨k1,k2⟩;rcases hq:bB l with _|⟨n,r⟩
   ·rw [hq] at k2;refine ⟨[],k2.1,k1, ?_,λq hq'=>GP⟩;rw [Option.bind_some,hq];exact k2.2
   ·rw [hq] at k2;refine ⟨n,k2.1,k1, ?_,λq hq'=>by rw [Option.bind_some,hq] at hq';injection hq' with hq';rw [<-hq']⟩;rw [Option.bind_some,hq];exact k2.2
theorem Od (P:Nat) (o:Option ZW) (w:World) (h:RO P w o) :
 Calls prog 85 #[P,.int .i64 1] w λe w'=>∃ rr:RC,e=.returned rr.val∧But P w w'∧RO P w' ((o.bind (pX 1 0)).map (·.2))∧∀ q,o.bind (pX 1 0)=some q->RX (λg=>w.heap.size≤g) w' q.1 rr:=by
 cases o with
 | none =>
   refine (nU 1 P 0 w h).mono ?_;rintro e w' ⟨k1,k2,k3⟩;exact ⟨rcZ,k1,k2,k3,λq hq=>by cases hq⟩
 | some l =>
   refine ((Dc P l.length 0 ac).e1 w l (ν _) h).mono ?_;rintro e w' ⟨k1,rr,k2,k3⟩;rcases hq:pX 1 0 l with _|⟨x,r⟩
   ·rw [hq] at k3;refine ⟨rr,k2,k1, ?_,λq hq'=>GP⟩;rw [Option.bind_some,hq];exact k3
   ·rw [hq] at k3;refine ⟨rr,k2,k1, ?_,λq hq'=>by rw [Option.bind_some,hq] at hq';injection hq' with hq';rw [<-hq'];exact k3.1⟩;rw [Option.bind_some,hq];exact k3.2
def rE (n most:Nat):Option ZW->Bool×Option ZW
 | none=>(false,none)
 | some l=>if isF eI l then (if most≤n∧0<l.tail.length then (false,none) else (true,some l.tail)) else (false,some l)
theorem Xm (P n most:Nat) (o:Option ZW) (w:World) (h:RO P w o) :
 Calls prog 84 #[P,.int .i64 n,.int .i64 most] w λe w'=>e=.returned (.bool (rE n most o).1)∧But P w w'∧RO P w' (rE n most o).2:=by
 cases o with
 | none=>exact xW P 0 n most w h
 | some l =>
   refine (xX P 0 0 n most l w h).mono ?_;rintro e w' ⟨k1,k2⟩;have hcb:mJ 0 l=isF eI l:=by simp [mJ]
   rw [hcb] at k2;unfold rE
   by_cases hc:isF eI l=true
   ·simp only [hc,if_true] at k2 |-
    by_cases hz:most≤n∧0<l.tail.length
    ·rw [if_pos hz] at k2 |-;exact ⟨k2.1,k1,l.tail,0,2,am,k2.2,ν _,ac⟩
    ·rw [if_neg hz] at k2 |-;exact ⟨k2.1,k1,k2.2⟩
   ·simp only [hc] at k2 |-;exact ⟨k2.1,k1,k2.2⟩
def RLs (B:Nat) (w:World) (xs:List Lp.X) (v:Value):Prop:=∃ A c rs,v=.slice A xs.length c∧w.ownsRow B 60 8 v xs.length (rcv rs)∧RXL (eK B v) w xs rs
theorem aGV (P most:Nat) (o:Option ZW) (w:World) (h:RO P w o) (hm:most≤100) (h1m:1≤most) :
 Calls prog 83 #[P,.int .i64 most] w λe w'=>∃ A n c,e=.returned (.slice A n c)∧But P w w'∧RO P w' ((o.bind (dO (pX 1 0) most)).map (·.2))∧∀ q,o.bind (dO (pX 1 0) most)=some q->RLs w w' q.1 (.slice A n c):=by
 cases o with
 | none =>
   refine (Xv P 0 most w h).mono ?_;rintro e w' ⟨⟨A,n,c,k1⟩,k2,k3⟩;exact ⟨A,n,c,k1,k2,k3,λq hq=>by cases hq⟩
 | some l =>
   refine (Xw P most l w h hm h1m).mono ?_;rintro e w' ⟨k1,k2⟩;rcases hq:dO (pX 1 0) most l with _|⟨xs,r⟩
   ·rw [hq] at k2;obtain ⟨⟨A,n,c,k3⟩,k4⟩:=k2;refine ⟨A,n,c,k3,k1, ?_,λq hq'=>GP⟩;rw [Option.bind_some,hq];exact k4
   ·rw [hq] at k2;obtain ⟨A,c,rs,k3,k4,k5,k6⟩:=k2;refine ⟨A,_,c,k3,k1, ?_,λq hq'=>by rw [Option.bind_some,hq] at hq';injection hq' with hq';rw [<-hq'];exact ⟨A,c,rs,rfl,k4,k5⟩⟩;rw [Option.bind_some,hq];exact k6
def whO (o:Option ZW):Option ZW:=(o.bind whF).map (·.2)
theorem aHF (P:Nat) (o:Option ZW) (w:World) (h:RO P w o) :
 Calls prog 86 #[P] w λe w'=>(∃ A n c,e=.returned (.slice A n c))∧But P w w'∧RO P w' (whO o):=by
 cases o with
 | none =>
   obtain ⟨l,d,bd,h1,h2,h3,h4⟩:=h;refine (qN P d bd l w h2 GO).mono ?_;rintro e w' ⟨k1,k2,k3⟩;exact ⟨⟨_,_,_,k1⟩,k2,l,d,bd,h1,k3,h3,h4⟩
 | some l =>
   cases hf:isF Ck l with
   | false =>
     refine (qN P 0 0 l w h QB).mono ?_;rintro e w' ⟨k1,k2,k3⟩;refine ⟨⟨_,_,_,k1⟩,k2, ?_⟩;rw [show whO (some l)=some l by unfold whO;rw [Option.bind_some,whF,hf];rfl];exact k3
   | true =>
     refine (rQ P l w h hf).mono ?_;rintro e w' ⟨g,rr,k1,k2,k3,k4,k5⟩;refine ⟨⟨_,_,_,k1⟩,k2, ?_⟩;rw [show whO (some l)=(pX 1 0 l.tail).map (·.2) by unfold whO;rw [Option.bind_some,whF,if_pos hf,Option.map_map];rfl];rcases hq:pX 1 0 l.tail with _|⟨x,r⟩
     ·rw [hq] at k5;exact k5
     ·rw [hq] at k5;exact k5.2
def Lp.allK (l:List Int) (k:Int):Bool:=l.all λx=>x==0||x==k
theorem Sz {l:List Int} {x:Int} (h:i<l.length) (hx:l[i]=x) (ha:Lp.allK (l.take i) k=true) (hr:(x==0||x==k)=true):Lp.allK (l.take (i+1)) k=true:=by
 unfold Lp.allK at *;rw [List.take_succ_eq_append_getElem h,List.all_append,ha,hx]
 simpa using hr
theorem aFY {l:List Int} {x:Int} (h:i<l.length) (hx:l[i]=x) (hr:(x==0||x==k)=false):Lp.allK l k=false:=by
 unfold Lp.allK;rw [List.all_eq_false];exact ⟨l[i],List.getElem_mem h,by rw [hx,hr];decide⟩
def kv (l:List Int):ZU:=l.map λx=>.int .u8 x
theorem Nv {l:List Int} (h:i<l.length):(kv l)[i]? = some (.int .u8 l[i]):=by simp [kv,h]
theorem Ta (A:ZT) (c:Nat) (l:List Int) (k:Int) (w:World) (h:Rds w A (kv l)) (hn:l.length≤100) :
 Calls prog 90 #[.slice A l.length c,.int .u8 k] w λe w'=>e=.returned (.bool (Lp.allK l k))∧w=w':=by
 have H:=da;have hnI:=jo
 clear h;go_enter func90,ntmps90;go_wp2_with fail
 go_loopw [6,9] (λ_ s9 wr=>∃ i:Nat,i≤l.length∧s9=.int .i64 i∧Lp.allK (l.take i) k=true∧w=wr) (λ_ s9 _=>l.length-(intOf s9).toNat)
 case atStart=>exact ⟨0,Nat.zero_le _,rfl,rfl,rfl⟩
 case round =>
  obtain ⟨i,hi,rfl,ha,rfl⟩:=dd;have HAL:=κ ha;clear ha
  by_cases hlt:i<l.length
  ·obtain ⟨b,off,hA,q0⟩:=H.o.at_ (Nv hlt);subst hA;have hltI:(i:Int)<(l.length:Int):=ac
   have hno:=λ(x:Int) (hx:l[i]=x) (hr:(x==0||x==k)=false)=>aFY hlt hx hr;have hyes:=λ(x:Int) (hx:l[i]=x) (hr:(x==0||x==k)=true)=>Sz hlt hx HAL.o hr;have HNO:=κ (hno _ rfl);have HYE:=κ (hyes _ rfl);generalize l[i]=x at *;clear hno hyes;cases e1:(x==0)
   ·cases e2:(x==k)
    ·have n1:(x !=0)=true:=kf
     have n2:(x !=k)=true:=ur
     have HR:=κ (HNO.o (by rw [e1,e2];rfl));clear HNO HYE;go_wp2;go_ret;exact ⟨FQ,rfl⟩
    ·have n1:(x !=0)=true:=kf
     have n2:(x !=k)=false:=ur
     have HR:=κ (HYE.o (by rw [e1,e2];rfl));clear HNO HYE;go_wp2
     go_roundw
     case rel=>exact ⟨i+1,ac,de,HR.o,by trivial⟩
     case measure=>simp [intOf];omega
   ·have n1:(x !=0)=false:=kf
    have HR:=κ (HYE.o (by rw [e1];rfl));clear HNO HYE;go_wp2
    go_roundw
    case rel=>exact ⟨i+1,ac,de,HR.o,by trivial⟩
    case measure=>simp [intOf];omega
  ·have hi2:=ka
   have h1:=HAL.o;rw [hi2,List.take_length] at h1;have HR:=κ h1;clear h1 hi2;go_wp2;go_ret;exact ⟨FQ,rfl⟩
def vB (p:Int×Int) (w:World) (e:Ending) (w':World):Prop:=e=.returned (.tuple #[.int .u8 p.1,.int .i64 p.2])∧Below w w w'
theorem aKP (s:ByteArray) (k:Int) (w:World):(Instr.field 116 (.agg #[s,.int .u8 k]) 1).run prog w=.ok (.int .u8 k) w:=aj
attribute [local go_sem] aKP
theorem Lf (A:ZT) (c n:Nat) (k i:Int) (s:ZS) (b gr:Bool) (w:World) :
 Calls prog 38 #[.slice A n c,(rcL k i s b).val,gr] w (vB (k,0) w):=by
 have hb0:=FR;have hz:=heap_alloc_new w (.cells #[.int .u8 1,.int .u8 k,.int .i64 i,s,b,(),(),.slice none 0 0] 60);have hc:=β hz;have HB:=sv;simp only [RC.val,rcL];clear hb0 hz;go_enter func38,ntmps38;go_wp2_with fail;generalize (w.alloc (.cells #[.int .u8 1,.int .u8 k,.int .i64 i,s,b,(),(),.slice none 0 0] 60))=W at *
 go_loopw [22] (λs22 wr=>s22=.int .i64 0∧W=wr) (λ_ _=>0)
 case atStart=>exact ⟨rfl,rfl⟩
 case round =>
  obtain ⟨rfl,rfl⟩:=dd;go_wp2;go_ret2;exact sm
theorem Lh (A:ZT) (c n:Nat) (gr:Bool) (w:World) :
 Calls prog 38 #[.slice A n c,(rc0 6 aJ).val,gr] w (vB (if gr then (1,0) else (0,3)) w):=by
 have hb0:Below w w (w.alloc (.cells #[.int .u8 6,.int .u8 0,.int .i64 0,(),false,(),.string ⟨#[67,79,85,78,84]⟩,.slice none 0 0] 60)):=ρ;have hz:=heap_alloc_new w (.cells #[.int .u8 6,.int .u8 0,.int .i64 0,(),false,(),.string ⟨#[67,79,85,78,84]⟩,.slice none 0 0] 60);have hc:=β hz;have HB:=sv;simp only [RC.val,rc0,aJ];clear hb0 hz;cases gr
 ·go_enter func38,ntmps38;go_wp2;go_ret2;exact sm
 ·go_enter func38,ntmps38;go_wp2_with fail;generalize (w.alloc (.cells #[.int .u8 6,.int .u8 0,.int .i64 0,(),false,(),.string ⟨#[67,79,85,78,84]⟩,.slice none 0 0] 60))=W at *
  go_loopw [22] (λs22 wr=>s22=.int .i64 0∧W=wr) (λ_ _=>0)
  case atStart=>exact ⟨rfl,rfl⟩
  case round =>
   obtain ⟨rfl,rfl⟩:=dd;go_wp2;go_ret2;exact sm
theorem Lg (A:ZT) (c:Nat) (l:List dW) (t s:ZS) (gr:Bool) (w:World) (hA:ScA w A l) (hn:l.length≤100) (hw:bY (aE l)≤10000) :
 Calls prog 38 #[.slice A l.length c,(rcC t s).val,gr] w (vB (aC (aE l) (.col t s) gr) w):=by
 have hb0:=QA;have hz:=heap_alloc_new w (.cells #[.int .u8 2,.int .u8 0,.int .i64 0,(),false,t,s,.slice none 0 0] 60);have hc:=β hz;have HB:=sv;have hf:=Bf A c l t s _ (hA.below hb0) hn hw;have hco:=λ(n:Nat) (k:Int) (w':World) (hb:Below w w w') (hk:(kU (aE l))[n]? = some k)=>Ee A c l n k w' (hA.below hb) hn hw hk;have HF:=mh;have HCO:=κ hco;simp only [RC.val,rcC];clear hb0 hz hf hco hA;have hq:(dX (aE l) t s=none∧atX (aE l) t s = -1∧aC (aE l) (.col t s) gr=(0,6))∨∃ p,dX (aE l) t s=some p∧atX (aE l) t s=(p.1:Int)∧aC (aE l) (.col t s) gr=(p.2,0):=by
  cases h:dX (aE l) t s with
  | none=>exact .inl ⟨rfl,by simp [atX,h],by simp [aC,h]⟩
  | some p=>exact .inr ⟨p,rfl,by simp [atX,h],by simp [aC,h]⟩
 rcases hq with ⟨h1,h2,h3⟩|⟨p,h1,h2,h3⟩
 all_goals
  rw [h3];rw [h2] at HF;clear h2 h3;have H1:=κ h1;clear h1;go_enter func38,ntmps38;go_wp2_with fail;generalize (w.alloc (.cells #[.int .u8 2,.int .u8 0,.int .i64 0,(),false,t,s,.slice none 0 0] 60))=W at *
  go_loopw [22] (λs22 wr=>s22=.int .i64 0∧W=wr) (λ_ _=>0)
  case atStart=>exact ⟨rfl,rfl⟩
  case round =>
   obtain ⟨rfl,rfl⟩:=dd;go_wp2_with fail;refine μ HF ?_;rintro e w1 ⟨rfl,hb1⟩;have HB1:=κ (HB.o.trans (hb1.mono HB.o.size));clear hb1 HF
   first
    | (go_wp2;go_ret2;exact ⟨rfl,HB1.o⟩)
    | (go_wp2_with fail
       refine (HCO.o p.1 p.2 _ HB1.o (tC H1.o)).mono ?_;rintro e w2 ⟨⟨nc,rfl⟩,hb2⟩;have HB2:=κ (HB1.o.trans (hb2.mono HB1.o.size));clear hb2;go_wp2;go_ret2;exact ⟨rfl,HB2.o⟩)
def rcs (l:List RC):ZU:=l.flatMap RC.cells
theorem Wm {l:List RC} {k:Nat} (hi:i<l.length) (hk:k<8):(rcs l)[i*8+k]? = ((l[i]).cells)[k]? := vZ (f:=RC.cells) (n:=8) (λ_=>rfl) l i k hi hk
theorem iW {l:List RC} (h:Rds w A (rcs l)) (hi:i<l.length):∃ b off,A=some ⟨b,off,none⟩∧w.cell? ⟨b,off+i*8,none⟩=some (.int .u8 (l[i]).k)∧w.cell? ⟨b,off+i*8+1,none⟩=some (.int .u8 (l[i]).vk)∧w.cell? ⟨b,off+i*8+2,none⟩=some (.int .i64 (l[i]).vi)∧w.cell? ⟨b,off+i*8+3,none⟩=some (.string (l[i]).vs)∧w.cell? ⟨b,off+i*8+4,none⟩=some (.bool (l[i]).vb)∧w.cell? ⟨b,off+i*8+5,none⟩=some (.string (l[i]).t)∧w.cell? ⟨b,off+i*8+6,none⟩=some (.string (l[i]).s)∧w.cell? ⟨b,off+i*8+7,none⟩=some (.slice (l[i]).A (l[i]).n (l[i]).c):=by
 rcases h with hn|⟨b,off,rfl,hc⟩
 ·have:=Wm hi (k:=0) am;rw [hn] at this;simp [RC.cells] at this
 ·have at_:=λ(k:Nat) (hk:k<8) (u:Value) (hu:((l[i]).cells)[k]? = some u)=>hc (i*8+k) u ((Wm hi hk).trans hu);exact ⟨b,off,rfl,at_ 0 am _ rfl,at_ 1 am _ rfl,at_ 2 am _ rfl,at_ 3 am _ rfl,at_ 4 am _ rfl,at_ 5 am _ rfl,at_ 6 am _ rfl,at_ 7 am _ rfl⟩
def Pts (S:Nat->Prop) (w:World) (A:ZT) (xs:List Lp.X) (rs:List RC):Prop:=rs.length=xs.length∧Rds w A (rcs rs)∧∀ (i:Nat) (hx:i<xs.length) (hr:i<rs.length),RX S w xs[i] rs[i]
theorem Pts.below {S:Nat->Prop} {w w':World} {A:ZT} {xs:List Lp.X} {rs:List RC} (h:Pts S w A xs rs) (hb:Below w w w'):Pts S w' A xs rs:=⟨h.1,h.2.1.below hb,λi hx hr=>(h.2.2 i hx hr).below hb⟩
def rcN (k:Int) (s:ZS) (A:ZT) (n:Nat):RC:=⟨k,0,0,⟨#[]⟩,false,⟨#[]⟩,⟨s.toArray⟩,A,n,n⟩
def dR:Lp.X->List Lp.X
 | .un _ x=>[x]
 | .bin _ a b=>[a,b]
 | .isn _ x=>[x]
 | .agg _ x=>[x]
 | _=>[]
def iO:Lp.X->Int
 | .un .. => 3
 | .bin .. => 4
 | .isn .. => 5
 | .agg .. => 6
 | .cnt=>6
 | .lit .. => 1
 | .col .. => 2
def rU:Lp.X->ZS
 | .un op _=>op
 | .bin op _ _=>op
 | .isn n _=>if n then fG else []
 | .agg op _=>op
 | .cnt=>aJ
 | _=>[]
theorem Dn (h:w.heap[g]? = some (.cells r.cells.toArray 60 (0,0))) (hx:RX S w x r):Pts S w (some ⟨g,0,none⟩) [x] [r]:=by
 refine ⟨rfl, ?_, ?_⟩
 ·have:=aS r.cells h
  simpa [rcs] using this
 ·intro i h1 h2;obtain rfl:i=0:=fu
  exact hx
theorem Cz (h:RX S w x r) (hk:dR x≠[]):∃ A rs,r=rcN (iO x) (rU x) A (dR x).length∧Pts S w A (dR x) rs:=by
 cases x with
 | lit=>exact absurd rfl hk
 | col=>exact absurd rfl hk
 | cnt=>exact absurd rfl hk
 | un op x=>obtain ⟨g,r1,rfl, -,h2,h3⟩:=h;exact FT
 | isn n x=>obtain ⟨g,r1,rfl, -,h2,h3⟩:=h;exact FT
 | agg op x=>obtain ⟨g,r1,rfl, -,h2,h3⟩:=h;exact FT
 | bin op a b =>
   obtain ⟨g,r1,r2,rfl, -,h2,h3,h4⟩:=h;refine ⟨_,[r1,r2],rfl,rfl, ?_, ?_⟩
   ·have:=aS (r1.cells++r2.cells) h2
    simpa [rcs] using this
   ·intro i h1 h2
    match i,h1 with
    | 0,_=>exact h3
    | 1,_=>exact h4
def Ij:Lp.X->List Int->Int×Int
 | .un op _,ks=>hY op (ks.headD 0)
 | .bin op _ _,ks=>iZ op (ks.headD 0) (ks.tail.headD 0)
 | .agg op _,ks=>kS op (ks.headD 0)
 | _,_=>(3,0)
theorem Xy (sc:List Tb) (x:Lp.X) {gr gr2:Bool} (hk:dR x≠[]) (hg:iO x=6∧gr=true∧gr2=false∨iO x≠6∧gr2=gr):aC sc x gr=if aF sc gr2 (dR x)=0 then Ij x ((dR x).map λy=>(aC sc y gr2).1) else (0,aF sc gr2 (dR x)):=by
 have one:∀ (y:Lp.X) (f:Int->Int×Int),cY (aC sc y gr2) f=if aF sc gr2 [y]=0 then f (aC sc y gr2).1 else (0,aF sc gr2 [y]):=by
  intro y f;have e:aF sc gr2 [y]=(aC sc y gr2).2:=by
   show (if (aC sc y gr2).2=0 then (0:Int) else _)=_
   split
   ·rename_i h;exact h.symm
   ·rfl
  rw [e];rfl
 cases x with
 | lit=>exact absurd rfl hk
 | col=>exact absurd rfl hk
 | cnt=>exact absurd rfl hk
 | un op y =>
   obtain rfl:gr2=gr:=by rcases hg with ⟨h, -⟩|⟨-,h⟩;cases h;exact h
   exact one y _
 | isn n y =>
   obtain rfl:gr2=gr:=by rcases hg with ⟨h, -⟩|⟨-,h⟩;cases h;exact h
   exact one y _
 | agg op y =>
   obtain ⟨rfl,rfl⟩:gr=true∧gr2=false:=by rcases hg with ⟨-,h⟩|⟨h, -⟩;exact h;exact absurd rfl h
   exact one y _
 | bin op a b =>
   obtain rfl:gr2=gr:=by rcases hg with ⟨h, -⟩|⟨-,h⟩;cases h;exact h
   show (if (aC sc a gr2).2=0 then (if (aC sc b gr2).2=0 then iZ op (aC sc a gr2).1 (aC sc b gr2).1 else (0,(aC sc b gr2).2)) else (0,(aC sc a gr2).2))=if (if (aC sc a gr2).2=0 then (if (aC sc b gr2).2=0 then (0:Int) else (aC sc b gr2).2) else (aC sc a gr2).2)=0 then iZ op (aC sc a gr2).1 (aC sc b gr2).1 else (0,if (aC sc a gr2).2=0 then (if (aC sc b gr2).2=0 then (0:Int) else (aC sc b gr2).2) else (aC sc a gr2).2)
   by_cases h1:(aC sc a gr2).2=0
   ·by_cases h2:(aC sc b gr2).2=0
    ·simp [h1,h2]
    ·simp [h1,h2]
   ·simp [h1]
def Eh:List ZS:=[[61],[60,62],[60],[60,61],[62],[62,61]]
def NoL (k:Int):Prop:=(k==1)=false∧(k==2)=false∧(k==5)=false
inductive EndK (x:Lp.X):Prop
 | isn (h1:iO x=5) (h2:∀ ks,Ij x ks=(3,0))
 | tru (hk:NoL (iO x)) (h1:rU x=fG∨rU x=lE∨rU x=uOr) (h2:∀ ks,ks.length=(dR x).length->Ij x ks=if Lp.allK ks 3 then (3,0) else (0,8))
 | num (hk:NoL (iO x)) (h1:rU x∈([[45],[43],[42],[47],[37],dZ]:List ZS)) (h2:∀ ks,ks.length=(dR x).length->Ij x ks=if Lp.allK ks 1 then (1,0) else (0,8))
 | cnt (hk:NoL (iO x)) (h1:rU x=aJ) (h2:∀ ks,Ij x ks=(1,0))
 | low (hk:NoL (iO x)) (h1:rU x=fT∨rU x=fX) (h0:(dR x).length=1) (h2:∀ a,Ij x [a]=(a,0))
 | cmp (hk:NoL (iO x)) (h1:rU x∈Eh) (h0:(dR x).length=2) (h2:∀ a b,Ij x [a,b]=if a≠0∧b≠0∧a≠b then (0,8) else (3,0))
theorem Dr {ks:List Int} (h:ks.length=1):∃ a,ks=[a]:=by
 match ks,h with
 | [a],_=>exact ⟨a,rfl⟩
theorem Jp {ks:List Int} (h:ks.length=2):∃ a b,ks=[a,b]:=by
 match ks,h with
 | [a,b],_=>exact ⟨a,b,rfl⟩
theorem yM (a k:Int):Lp.allK [a] k=fitK a k:=FU
theorem Ia (a b k:Int):Lp.allK [a,b] k=(fitK a k&&fitK b k):=FU
theorem aES (a b:Int):(if fitK a b||fitK b a then ((3,0):Int×Int) else (0,8))=if a≠0∧b≠0∧a≠b then (0,8) else (3,0):=by
 unfold fitK
 by_cases h1:a=0
 ·subst h1;simp
 ·by_cases h2:b=0
  ·subst h2;simp
  ·by_cases h3:a=b
   ·subst h3;simp
   ·have h4:¬b=a:=λh=>h3 h.symm;simp [h1,h2,h3,h4]
theorem aFN (a b:Lp.X) (h:op=lE∨op=uOr) (h1:op=fG∨op=lE∨op=uOr):EndK (.bin op a b) :=
 .tru ⟨rfl,rfl,rfl⟩ h1 λks hl=>by
  obtain ⟨p,q,rfl⟩:=Jp hl;rw [Ia];exact if_pos h
theorem aFO (a b:Lp.X) (h:¬(op=lE∨op=uOr)) (h1:op∈jQ) (h2:op∈([[45],[43],[42],[47],[37],dZ]:List ZS)):EndK (.bin op a b) :=
 .num ⟨rfl,rfl,rfl⟩ h2 λks hl=>by
  obtain ⟨p,q,rfl⟩:=Jp hl;rw [Ia];show iZ op p q=_;unfold iZ;rw [if_neg h,if_pos h1]
theorem aFQ (a b:Lp.X) (h:¬(op=lE∨op=uOr)) (h1:¬op∈jQ) (h2:op∈Eh):EndK (.bin op a b) :=
 .cmp ⟨rfl,rfl,rfl⟩ h2 rfl λp q=>by
  show iZ op p q=_;unfold iZ;rw [if_neg h,if_neg h1];exact aES p q
theorem aFR:∀ op∈nH,((op=lE∨op=uOr)∧(op=fG∨op=lE∨op=uOr))∨(¬(op=lE∨op=uOr)∧op∈jQ∧op∈([[45],[43],[42],[47],[37],dZ]:List ZS))∨(¬(op=lE∨op=uOr)∧¬op∈jQ∧op∈Eh):=am
theorem aGA:∀ op∈kG,op=aJ∨op=dZ∨op=fT∨op=fX:=am
theorem Zd (hw:x.wf) (hk:dR x≠[]):EndK x:=by
 cases x with
 | lit=>exact absurd rfl hk
 | col=>exact absurd rfl hk
 | cnt=>exact absurd rfl hk
 | isn n y=>exact .isn rfl λ_=>rfl
 | un op y =>
   rcases hw.1 with rfl|rfl
   ·refine .tru ⟨rfl,rfl,rfl⟩ (.inl rfl) λks hl => ?_;obtain ⟨p,rfl⟩:=Dr hl;rw [yM];rfl
   ·refine .num ⟨rfl,rfl,rfl⟩ (by show ([45]:ZS)∈_;decide) λks hl => ?_;obtain ⟨p,rfl⟩:=Dr hl;rw [yM];rfl
 | bin op a b =>
   rcases aFR op hw.1 with ⟨h1,h2⟩|⟨h1,h2,h3⟩|⟨h1,h2,h3⟩
   ·exact aFN a b h1 h2
   ·exact aFO a b h1 h2 h3
   ·exact aFQ a b h1 h2 h3
 | agg op y =>
   rcases aGA op hw.1 with rfl|rfl|rfl|rfl
   ·exact .cnt ⟨rfl,rfl,rfl⟩ rfl λ_=>rfl
   ·refine .num ⟨rfl,rfl,rfl⟩ (by show dZ∈_;decide) λks hl => ?_;obtain ⟨p,rfl⟩:=Dr hl;rw [yM];rfl
   ·exact .low ⟨rfl,rfl,rfl⟩ (.inl rfl) rfl λ_=>rfl
   ·exact .low ⟨rfl,rfl,rfl⟩ (.inr rfl) rfl λ_=>rfl
theorem Sf:∀ o∈Eh,(o==[78,79,84])=false∧(o==[65,78,68])=false∧(o==[79,82])=false∧(o==[45])=false∧(o==[43])=false∧(o==[42])=false∧(o==[47])=false∧(o==[37])=false∧(o==[83,85,77])=false∧(o==[67,79,85,78,84])=false∧(o==[77,73,78])=false∧(o==[77,65,88])=false:=am
