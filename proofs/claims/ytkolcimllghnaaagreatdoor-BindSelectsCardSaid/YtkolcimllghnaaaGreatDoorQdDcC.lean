/-
 Contracts. Conditions: those of each.
-/
import Derived.Test.YtkolcimllghnaaaGreatDoorQdVR
set_option maxRecDepth 100000
set_option maxHeartbeats 40000000
namespace Go.Proofs.YtkolcimllghnaaaGreatDoor
open Lp Go.Proofs.Tryz
open Go.RowKit
variable{B P:Nat}{w:World}
def zCh:ZV:=#[.int .u8 8,.string ⟨#[]⟩,.string ⟨#[]⟩,.string ⟨#[]⟩,.slice none 0 0,.slice none 0 0,.slice none 0 0,.slice none 0 0,.slice none 0 0,.slice none 0 0,.slice none 0 0,.slice none 0 0,.int .i64 (-1)]
theorem aHA:Cs13 zCh.toList:=by
 refine ⟨rfl,λj v h => ?_⟩;have hj:j<13:=by
  rcases Nat.lt_or_ge j 13 with h1|h1
  ·exact h1
  ·rw [List.getElem?_eq_none (by exact h1)] at h;cases h
 match j,hj with
 | 0,_=>injection h with h;subst h;exact ⟨λ_=>⟨8,rfl⟩,λh=>ac,λh=>ac,λh=>ac⟩
 | 1,_=>injection h with h;subst h;exact LA
 | 2,_=>injection h with h;subst h;exact LA
 | 3,_=>injection h with h;subst h;exact LA
 | 4,_=>injection h with h;subst h;exact LB
 | 5,_=>injection h with h;subst h;exact LB
 | 6,_=>injection h with h;subst h;exact LB
 | 7,_=>injection h with h;subst h;exact LB
 | 8,_=>injection h with h;subst h;exact LB
 | 9,_=>injection h with h;subst h;exact LB
 | 10,_=>injection h with h;subst h;exact LB
 | 11,_=>injection h with h;subst h;exact LB
 | 12,_=>injection h with h;subst h;exact Ms _
theorem nX {a:World} (m:Nat) (h:Below B a w):Below B a (w.drewN m):=⟨h.os,h.tape,h.output,h.size,h.block⟩
theorem RLs.gr {n c:Nat} {xs:List Lp.X} {A:ZT} (h:RLs B w xs (.slice A n c)):GR (λg=>B≤g) w xs (.slice A n c):=by
 obtain ⟨A',c',rs,h1,h2,h3⟩:=h;rw [h1] at h2;exact ⟨A',c',rs,h1,RdS.own h2,fZ (λg hg _=>⟨hg.1,rfl⟩) h3⟩
theorem aHE (P:Nat) (o:Option ZW) (w:World) (h:RO P w o) :
 Calls prog 86 #[P] w λe w'=>∃ A n c,e=.returned (.slice A n c)∧But P w w'∧RO P w' (whO o)∧∀ q,o.bind whF=some q->OXR (λg=>w.heap.size≤g) w' q.1 (.slice A n c):=by
 cases o with
 | none =>
   obtain ⟨l,d,bd,h1,h2,h3,h4⟩:=h;refine (qN P d bd l w h2 GO).mono ?_;rintro e w' ⟨k1,k2,k3⟩;exact ⟨_,_,_,k1,k2,⟨l,d,bd,h1,k3,h3,h4⟩,λq hq=>by cases hq⟩
 | some l =>
   cases hf:isF Ck l with
   | false =>
     refine (qN P 0 0 l w h QB).mono ?_;rintro e w' ⟨k1,k2,k3⟩;refine ⟨_,_,_,k1,k2, ?_,λq hq => ?_⟩
     ·rw [show whO (some l)=some l by unfold whO;rw [Option.bind_some,whF,hf];rfl];exact k3
     ·rw [Option.bind_some,whF,hf] at hq;injection hq with hq;rw [<-hq];rfl
   | true =>
     refine (rQ P l w h hf).mono ?_;rintro e w' ⟨g,rr,k1,k2,k3,k4,k5⟩;have hw:(some l).bind whF=(pX 1 0 l.tail).map λp=>(some p.1,p.2):=by rw [Option.bind_some,whF,if_pos hf]
     refine ⟨_,_,_,k1,k2, ?_,λq hq => ?_⟩
     ·rw [show whO (some l)=(pX 1 0 l.tail).map (·.2) by unfold whO;rw [hw,Option.map_map];rfl];rcases hq:pX 1 0 l.tail with _|⟨x,r⟩
      ·rw [hq] at k5;exact k5
      ·rw [hq] at k5;exact k5.2
     ·rw [hw] at hq;obtain ⟨⟨x,r⟩,h1,h2⟩:=LC;rw [h1] at k5;rw [<-h2];exact ⟨g,rr,rfl,k3,k4,k5.1⟩
theorem XC.lt {o:Option ZW} {S:Lp.SS} {K:List Nat} {w0:World} (h:XC P o S K w0 w):w0+1<w.heap.size:=by obtain ⟨-, -, -,cs, -,h5, -⟩:=h;exact aG h5
theorem XC.new {l:ZW} (h:RO P w (some l)):XC P ((aX l 0).map (·.2)) (aX l 0) [7,11] w ((w.alloc (.cells stZ.toArray 38)).alloc (.cells zCh 38)):=by
 have hb:Below w w ((w.alloc (.cells stZ.toArray 38)).alloc (.cells zCh 38)):=(ρ).alloc aa _;refine ⟨But.of hb,h.below hb,aB (heap_alloc_new w _) _,zCh.toList,aHA,bG w _ _,λk hk=>by simp at hk;rcases hk with rfl|rfl<;>rfl,λq hq j u hu => ?_⟩;injection hq with hq;subst hq
 match j,hu with
 | 0,hu=>injection hu with hu;exact hu.symm
 | 7,hu=>injection hu with hu;exact LD
 | 8,hu=>injection hu with hu;exact hu.symm
 | 9,hu=>injection hu with hu;exact hu.symm
 | 10,hu=>injection hu with hu;exact ⟨none,0,[],hu.symm,.inl rfl,trivial⟩
 | 11,hu=>injection hu with hu;exact LD
 | 12,hu=>injection hu with hu;exact hu.symm
 | 1,_|2,_|3,_|4,_|5,_|6,_=>trivial
 | _+13,_=>trivial
theorem aHV {i:Nat} {t:Tok} {r:ZW} (ho:RO P w (some (t::r))) (hc:w.cell? ⟨P,1,none⟩=some (.int .i64 (i:Nat))):RO P (w.setCell ⟨P,1,none⟩ (.int .i64 ((i:Int)+1))) (some r):=by
 obtain ⟨A,c,i',h1,h2,h3⟩:=ho;have e:=(β h1 1).symm.trans hc;simp only [γ,δ,ε,Option.some.injEq,Value.int.injEq,true_and] at e;have hi:i'=i:=ac
 subst hi;have h4:=heap_setCell_same w P 1 _ _ (.int .i64 ((i':Int)+1)) h1;refine ⟨A,c,i'+1, ?_,h2.tail.but (But.set _ _ _ _),by simp at h3 |-;omega⟩;rw [show i'+1+r.length=i'+(t::r).length by simp;omega]
 simpa using h4
def aGY (P:Nat) (w:World) (l:ZW) (e:Ending) (w':World):Prop:=But P w w'∧RO P w' ((mK l).map (·.2))∧∃ cs:ZU,Cs13 cs∧e=.returned (.agg cs.toArray)∧∀ q,mK l=some q->∀ j u,cs[j]? = some u->FldR (Zb w) w' q.1 j u
theorem Gk (P:Nat) (l:ZW) (w:World) (h:RO P w (some l)) :
 Calls prog 87 #[P] w (aGY P w l):=by
 obtain ⟨iE,hiE,hz0,hz1,hz2⟩:=KK;have hP0:P<w:=h.lt;have HS:=κ (XC.new h);clear h;go_enter func87,ntmps87;obtain ⟨b,hbq⟩:∃ b,lC Ey (some l)=b:=cw;have HC:=κ (fB P _ ⟨#[42]⟩ _ HS.o.ro b hbq);have HF:=κ hbq;clear hbq;go_wp2_with fail;refine μ HC ?_;rintro e w1 ⟨rfl,hb,hp⟩;replace HS:=LE;clear hb hp HC;replace HF:=κ (show isF Ey l=b from HF.o);go_upto_if 9 with fail
 go_cut [] (λwx=>XC P ((aX l 1).map (·.2)) (aX l 1) [11] w wx)
 case first =>
  cases b
  ·replace HS:=κ (show XC P (some l) (aX l 0) [7,11] w w1 from HS.o);obtain ⟨oi,hoi⟩:∃ oi,some l=oi:=cw;have HO:=κ hoi;have HL:=κ (show LX P 7 (aX l 0) [11] 0 none 0 [] (some []) (eK (w+2) (.slice none 0 0)) w _ from HS.o.lx am am);have HR:=κ (show RO P _ oi from hoi▸HS.o.ro);clear HS hoi;go_wp2_with fail
   go_loopg [4] 17 (λgk _ wr=>∃ (acc:List (Lp.X×ZS)) (A:ZT) (c:Nat) (vs:ZU) (o:Option ZW),acc.length≤16∧gk=17-acc.length∧LX P 7 (aX l 0) [11] acc.length A c vs (some (acc.map (λp:Lp.X×ZS=>(p.1,p.2,false)))) (eK (w+2) (.slice A acc.length c)) w wr∧RO P wr o∧(acc.length=16->o=none∨o=some [])∧oi.bind (dO dA 16)=tF dA 16 (17-acc.length) acc o)
   case atStart=>exact ⟨[],none,0,[],oi,Nat.zero_le _,rfl,HL.o,HR.o,λh=>ar,rfl⟩
   case round =>
    clear HL HR;obtain ⟨acc,A,c,vs,o,ha,rfl,hl,hr,hend,hQ⟩:=dd;have HL:=κ hl;have HR:=κ hr;have HQ:=κ (ι hend hQ);have HC:=κ (Od P o wr hr);obtain ⟨i,hi⟩:∃ i,acc.length=i:=cw;have HA:=κ hi;have hiI:(i:Int)≤16:=ac
    have hiN:i≤16:=ac
    clear hl hr hend hQ ha hi;go_wp2_with fail;refine μ HC ?_;rintro e w2 ⟨⟨k,vk,vi,s0,vb,tt,ss,Ae,nn,ce⟩,rfl,hb,hp,hx⟩;simp only [RC.val];have HS:=κ (show PtX P 7 (aX l 0) [11] acc.length A c vs (some (acc.map (λp:Lp.X×ZS=>(p.1,p.2,false)))) w2 ⟨k,vk,vi,s0,vb,tt,ss,Ae,nn,ce⟩ [] false ((o.bind (pX 1 0)).map (·.1)) w (w2.alloc (.cells #[.int .u8 k,.int .u8 vk,vi,s0,vb,tt,ss,.slice Ae nn ce,(),false] 72)) from PtX.new (s:=[]) (d:=false) HL.o hP0 HR.o hb (λx hq=>by
     obtain ⟨q,h1,h2⟩:=LC;subst h2;exact hx q h1))
    replace HR:=LG;clear hb hp hx HC HL;obtain ⟨b2,hbq⟩:∃ b,lC wAs ((o.bind (pX 1 0)).map (·.2))=b:=cw;have HC:=κ (fB P _ ⟨#[97,115]⟩ _ HR.o b2 hbq);have HF:=κ hbq;clear hbq;go_wp2_with fail;refine μ HC ?_;rintro e w3 ⟨rfl,hb,hp⟩;replace HS:=LF;replace HR:=ef;clear hb hp HC;go_upto_if 14 with fail
    go_cut [4] (λs4 wx=>s4=.pointer (some ⟨w2,0,none⟩)∧∃ (s:ZS) (d:Bool),PtX P 7 (aX l 0) [11] acc.length A c vs (some (acc.map (λp:Lp.X×ZS=>(p.1,p.2,false)))) w2 ⟨k,vk,vi,s0,vb,tt,ss,Ae,nn,ce⟩ s d ((o.bind (pX 1 0)).map (·.1)) w wx∧RO P wx ((o.bind dA).map (·.2))∧∀ p,(o.bind dA).map (·.1)=some p->(o.bind (pX 1 0)).map (·.1)=some p.1∧(λp:Lp.X×ZS=>(p.1,p.2,false)) p=(p.1,s,d))
    case first =>
     cases b2
     ·replace HR:=LH;have HZ:=κ (show ∃ (s:ZS) (d:Bool),PtX P 7 (aX l 0) [11] acc.length A c vs (some (acc.map (λp:Lp.X×ZS=>(p.1,p.2,false)))) w2 ⟨k,vk,vi,s0,vb,tt,ss,Ae,nn,ce⟩ s d ((o.bind (pX 1 0)).map (·.1)) w _∧RO P _ ((o.bind dA).map (·.2))∧∀ p,(o.bind dA).map (·.1)=some p->(o.bind (pX 1 0)).map (·.1)=some p.1∧(λp:Lp.X×ZS=>(p.1,p.2,false)) p=(p.1,s,d) from ⟨[],false,HS.o,(Ny o HF.o).1▸HR.o,λp hp=>by obtain ⟨k1,k2⟩:=(Ny o HF.o).2 p hp;exact ⟨k1,by show (p.1,p.2,false)=_;rw [k2]⟩⟩);clear HS HR;go_wp2
      go_meet
      exact ⟨rfl,HZ.o⟩
     ·replace HR:=LJ;have HC:=κ (Ns P _ _ HR.o);go_wp2_with fail;refine μ HC ?_;rintro e w4 ⟨s,rfl,hb,hp,hs⟩;replace HS:=LF;replace HR:=ef;have HN:=κ hs;have f0:=λj=>frozen_of_row _ w2 j _ _ HS.o.pt;have c8:w4.cell? ⟨w2,8,none⟩=some (.string ⟨#[]⟩):=β HS.o.pt 8;replace HS:=κ (HS.o.set 8 (.string s) s false rfl);replace HR:=κ (HR.o.low (B:=w) hP0 ((θ).setCell (p:=⟨w2,8,none⟩) LI (.string s)));clear hb hp HC hs;have HZ:=κ (show ∃ (s:ZS) (d:Bool),PtX P 7 (aX l 0) [11] acc.length A c vs (some (acc.map (λp:Lp.X×ZS=>(p.1,p.2,false)))) w2 ⟨k,vk,vi,s0,vb,tt,ss,Ae,nn,ce⟩ s d ((o.bind (pX 1 0)).map (·.1)) w _∧RO P _ ((o.bind dA).map (·.2))∧∀ p,(o.bind dA).map (·.1)=some p->(o.bind (pX 1 0)).map (·.1)=some p.1∧(λp:Lp.X×ZS=>(p.1,p.2,false)) p=(p.1,s,d) from ⟨s,false,HS.o,(Hs o HF.o).1▸HR.o,λp hp=>by obtain ⟨k1,r,k2⟩:=(Hs o HF.o).2 p hp;exact ⟨k1,by show (p.1,p.2,false)=_;rw [show p.2=s from HN.o _ k2]⟩⟩);clear HS HR;go_wp2
      go_meet
      exact ⟨rfl,HZ.o⟩
    case rest =>
     clear HS HR HF;obtain ⟨rfl,s,d,hS,hr,ht⟩:=sn;have HS:=lf;have HR:=κ hr;have HT:=κ ht;have cg:=β hS.pt;obtain ⟨cr,cf,ca⟩:=hS.lx.row;have ho2:=hS.lx.own;have hsz:=hS.lx.but.size;have hg0:=hS.g0;have hlt:=aG hS.pt;rw [HA.o] at cr ho2 ca;simp only [prc,RC.cells,List.cons_append,List.nil_append] at cg;clear hS hr ht;go_upto_region 7 with (at_builtin;refine bJ _ rfl (.tmp 19) (.tmp 21) _ rfl (w+2) 72 iE _ 10 128 underlying35 hiE hz0 hz1 hz2 rfl ac A i c vs rfl (ho2.alloc _) _ 1 1 [.int .u8 k,.int .u8 vk,.int .i64 vi,.string s0,.bool vb,.string tt,.string ss,.slice Ae nn ce,.string ⟨s.toArray⟩,.bool d] rfl rfl (aS [.int .u8 k,.int .u8 vk,.int .i64 vi,.string s0,.bool vb,.string tt,.string ss,.slice Ae nn ce,.string ⟨s.toArray⟩,.bool d] (heap_alloc_new _ _)) GF kt ac FO ?_;intro A5 c5 w5 ho5 hb5 _ hk5;obtain ⟨d5,f5⟩:=HS.o.lx.keep LK;rw [HA.o] at d5);have hl5:=Nk (M':=((o.bind dA).map (·.1)).map λp=>acc.map (λp:Lp.X×ZS=>(p.1,p.2,false))++[(λp:Lp.X×ZS=>(p.1,p.2,false)) p]) HS.o am am (λl' hl'=>by
      obtain ⟨p,h1,h2⟩:=Option.map_eq_some_iff.1 hl';obtain ⟨k1,k2⟩:=HT.o p h1;exact ⟨_,p.1,rfl,k1,by rw [<-h2,k2]⟩) (by rw [HA.o];exact ho5) hb5 LK
     have hr5:RO P (w5.setCell ⟨w+1,7,none⟩ (.slice A5 (i+1) c5)) ((o.bind dA).map (·.2)):=(HR.o.low (B:=w.heap.size+2) ac ((ρ |>.mono ac).trans hb5)).low (B:=w) hP0 ((θ).setCell (p:=⟨w+1,7,none⟩) (Nat.le_succ _) _);rw [HA.o] at hl5;obtain ⟨W6,hW6⟩:∃ W6,w5.setCell ⟨w+1,7,none⟩ (.slice A5 (i+1) c5)=W6:=cw;rw [hW6] at hl5 hr5 |-;clear hW6 ho5 hb5 hk5 d5 f5 cg cr cf ca HS HR ho2 hlt;have HL:=κ hl5;have HR:=κ hr5;have HM:=κ (Xm P (i+1) 16 _ W6 hr5);obtain ⟨cr,cf, -⟩:=hl5.row;clear hl5 hr5;obtain ⟨bm,hbm⟩:∃ b,(rE (i+1) 16 ((o.bind dA).map (·.2))).1=b:=cw;rw [hbm] at HM;have HB:=κ hbm;clear hbm;go_wp2_with fail;refine μ HM ?_;rintro e w7 ⟨rfl,hb,hp⟩;replace HL:=κ (HL.o.next hP0 HR.o hb);replace HR:=ef;clear hb hp HM cr cf hsz hg0;cases bm
     ·have HZ:=κ (show XC P ((aX l 1).map (·.2)) (aX l 1) [11] w w7 from by
       obtain ⟨m1,m2⟩:=Nu (f:=dA) (k:=16-acc.length) LN HQ.o.1 yG LM;have e1:aX l 1=(tF dA 16 (17-acc.length) acc o).map λa=>({ tY with items:=a.1 },a.2):=by
        rw [bO (show aX l 0=some (tY,l) from rfl), <-HQ.o.2, <-HO.o];show (gS l).map _=_;rw [gS,HF.o];rfl
       rw [show 17-acc.length=16-acc.length+1 by have:=HA.o;omega] at e1;refine HL.o.xc (show RO P w7 ((aX l 1).map (·.2)) by
        have h:=lc;rw [<-HA.o,m1] at h;rw [e1,Option.map_map];exact h) λq' hq' => ?_
       rw [e1] at hq';obtain ⟨p,h1,h2⟩:=Option.map_eq_some_iff.1 hq';obtain ⟨x,r',h3,h4⟩:=m2 p h1;subst h2;refine ⟨(tY,l),acc.map (λp:Lp.X×ZS=>(p.1,p.2,false))++[(x.1,x.2,false)],rfl,by rw [h3];rfl,LO,λi u hi h=>by match i,hi,h with|7,hi,_=>exact absurd rfl hi|0,_,h|1,_,h|2,_,h|3,_,h|4,_,h|5,_,h|6,_,h|8,_,h|9,_,h|10,_,h|11,_,h|12,_,h=>exact h|_+13,_,_=>trivial,λu hu => ?_⟩;show PR _ _ (itL { tY with items:=p.1 }) u;rw [show itL { tY with items:=p.1 }=acc.map (λp:Lp.X×ZS=>(p.1,p.2,false))++[(x.1,x.2,false)] by show p.1.map _=_;rw [h4,List.map_append];rfl];exact hu)
      clear HL HR;go_wp2
      go_meet
      exact HZ.o
     ·obtain ⟨x,r',m1,m2,m3,m4,m5⟩:=Hf (f:=dA) (k:=16-acc.length) LN HQ.o.1 yG LM;rw [HA.o] at m2;have HZ:=κ (show LX P 7 (aX l 0) [11] (acc++[x]).length A5 c5 _ (some ((acc++[x]).map (λp:Lp.X×ZS=>(p.1,p.2,false)))) (eK (w+2) (.slice A5 (acc++[x]).length c5)) w w7 by
       have:=HL.o;rw [m1] at this;rw [List.length_append,List.map_append,HA.o];exact this)
      have HZ2:=κ (show oi.bind (dO dA 16)=tF dA 16 (17-(acc++[x]).length) (acc++[x]) (some r'.tail) by
       rw [HQ.o.2,show 17-acc.length=16-acc.length+1 by have:=HA.o;omega,m3,List.length_append]
       congr 1
       have:=HA.o
       (try simp);(try omega))
      have HZ3:=LP;have hm4:=m4;have hm5:=m5;clear HL HR m1 m2 m3 m4 m5;go_wp2
      go_roundg (17-(i+1))
      case measure=>(have:=HA.o;omega)
      case rel=>exact ⟨acc++[x],A5,c5,_,some r'.tail,LT,LR,HZ.o,HZ3.o,λh=>.inr LQ,HZ2.o⟩
  ·have HZ:=κ (show XC P ((aX l 1).map (·.2)) (aX l 1) [11] w w1 by
    have e1:aX l 1=some (tY,l.tail):=by
     rw [bO (show aX l 0=some (tY,l) from rfl)];show (gS l).map _=_;rw [gS,HF.o];rfl
    rw [e1];exact (show XC P (some l.tail) (aX l 0) [7,11] w w1 from HS.o).up rfl am λq' hq'=>⟨_,rfl,λj u h=>by injection hq' with hq';rw [<-hq'];exact h⟩)
   clear HS;go_wp2
   go_meet
   exact HZ.o
 case rest =>
  clear HF;clear HS;have HS:=κ hcut;clear hcut;have HC:=κ (Hd P ((aX l 1).map (·.2)) ⟨#[102,114,111,109]⟩ _ HS.o.ro);go_wp2_with fail;refine μ HC ?_;rintro e w3 ⟨rfl,hb,hp⟩;replace HS:=LE;clear hb hp HC;have HC:=κ (Ns P (((aX l 1).map (·.2)).bind (aD Lp.rG)) _ HS.o.ro);go_wp2_with fail;refine μ HC ?_;rintro e w4 ⟨s,rfl,hb,hp, -⟩;replace HS:=LE;clear hb hp HC;obtain ⟨f0,f1⟩:=LV;obtain ⟨u,f2⟩:=LU;clear f1;replace HS:=κ (HS.o.set hP0 2 am (.string s) (sD ac ac _) (aX l 2) (λq' hq'=>by obtain ⟨q,h1,h2⟩:=(Yu (aX l 1)).2 q' hq';exact ⟨q,h1,λi u _ h=>by rw [h2];exact h,trivial⟩));replace HS:=κ (HS.o.up (o':=(aX l 2).map (·.2)) (Yu (aX l 1)).1 (K':=[11]) (λ_ h=>h) (S':=aX l 2) (λq' h=>⟨q',h,λ_ _ h=>h⟩));obtain ⟨b,hbq⟩:∃ b,lC wG ((aX l 2).map (·.2))=b:=cw;have HC:=κ (fB P _ ⟨#[106,111,105,110]⟩ _ HS.o.ro b hbq);have HF:=κ hbq;clear hbq;go_wp2_with fail;refine μ HC ?_;rintro e w5 ⟨rfl,hb,hp⟩;replace HS:=LE;clear hb hp HC;clear f0 f2;go_upto_if 36 with fail
  go_cut [] (λwx=>XC P ((aX l 3).map (·.2)) (aX l 3) [11] w wx)
  case first =>
   cases b
   ·have HZ:=κ (show XC P ((aX l 3).map (·.2)) (aX l 3) [11] w w5 from (show XC P ((aX l 2).map (·.2)) (aX l 2) [11] w w5 from HS.o).up (Nx _ HF.o).1 (λ_ h=>h) λq' hq'=>by
     obtain ⟨q,h1,h2⟩:=(Nx _ HF.o).2 q' hq';refine ⟨q,h1,λj u h => ?_⟩;rw [h2, <-(fY h1).1 am];exact h)
    clear HS;go_wp2
    go_meet
    exact HZ.o
   ·replace HS:=κ (show XC P (((aX l 2).map (·.2)).map List.tail) (aX l 2) [11] w w5 from HS.o);have HC:=κ (Ns P (((aX l 2).map (·.2)).map List.tail) _ HS.o.ro);go_wp2_with fail;refine μ HC ?_;rintro e w6 ⟨s,rfl,hb,hp, -⟩;replace HS:=LE;clear hb hp HC;obtain ⟨f0,f1⟩:=LV;obtain ⟨u,f2⟩:=LZ;clear f1;replace HS:=κ (HS.o.set hP0 1 am (.string s) (sD ac ac _) (aX l 2) (λq' hq'=>⟨q',hq',λi u _ h=>h,trivial⟩));have HC:=κ (Hd P (((((aX l 2).map (·.2)).map List.tail).bind bB).map (·.2)) ⟨#[111,110]⟩ _ HS.o.ro);go_wp2_with fail;refine μ HC ?_;rintro e w7 ⟨rfl,hb,hp⟩;replace HS:=LE;clear hb hp HC;clear f0 f2;have HC:=κ (Od P ((((((aX l 2).map (·.2)).map List.tail).bind bB).map (·.2)).bind (aD Lp.wOn)) _ HS.o.ro);go_wp2_with fail;refine μ HC ?_;rintro e w8 ⟨⟨k,vk,vi,s0,vb,tt,ss,Ae,nn,ce⟩,rfl,hb,hp,hx⟩;simp only [RC.val];have HX:=κ (ι hx (ι HS.o.but.size HS.o.lt));replace HS:=LE;have hbs:=hb.size;have HB8:=κ hbs;clear hb hp hx HC hbs;have HG:=κ (heap_alloc_new w8 (.cells #[.int .u8 k,.int .u8 vk,vi,s0,vb,tt,ss,.slice Ae nn ce] 60));replace HS:=κ (HS.o.below (w':=w8.alloc (.cells #[.int .u8 k,.int .u8 vk,vi,s0,vb,tt,ss,.slice Ae nn ce] 60)) (ρ));obtain ⟨f0,f1⟩:=LV;obtain ⟨u,f2⟩:=LY;clear f1
    replace HS:=κ (HS.o.set hP0 8 am (.slice (some ⟨w8,0,none⟩) 1 1) (oQ ac ac _ _ _) (aX l 3) (λq' hq'=>by
     obtain ⟨q,p,h1,h2,h3⟩:=(Bz _ HF.o).2 q' hq';refine ⟨q,h1,λi u hi h => ?_, ?_⟩
     ·rw [h3];exact (λi u hi h=>by match i,hi,h with|8,hi,_=>exact absurd rfl hi|0,_,h|1,_,h|2,_,h|3,_,h|4,_,h|5,_,h|6,_,h|7,_,h|9,_,h|10,_,h|11,_,h|12,_,h=>exact h|_+13,_,_=>trivial:∀ i u,i≠8->FldR (Zb w) _ q.1 i u->FldR (Zb w) _ { q.1 with on:=some p.1 } i u) i u hi h
     ·rw [h3];have hz1:=HX.o.2.2;have hz2:=HB8.o;exact ⟨w8.heap.size,⟨k,vk,vi,s0,vb,tt,ss,Ae,nn,ce⟩,rfl,by show w+2≤w8.heap.size;omega,HG.o,qM (λg hg hl=>⟨by have:w7.heap.size≤g:=hg;show w.heap.size+2≤g;omega,((θ:Below w8 w8 w8).alloc (ν _) _).block g hl⟩) (HX.o.1 p h2)⟩))
    replace HS:=κ (HS.o.up (o':=(aX l 3).map (·.2)) (Bz _ HF.o).1 (K':=[11]) (λ_ h=>h) (S':=aX l 3) (λq' h=>⟨q',h,λ_ _ h=>h⟩));clear HX HG HB8;go_wp2
    go_meet
    exact HS.o
  case rest =>
   clear HF;clear HS;have HS:=κ hcut;clear hcut;have HC:=κ (aHE P ((aX l 3).map (·.2)) _ HS.o.ro);go_wp2_with fail;refine μ HC ?_;rintro e w9 ⟨A,k,c,rfl,hb,hp,hx⟩;have HX:=κ (ι hx HS.o.lt);clear hx;replace HS:=LE;clear hb hp HC;obtain ⟨f0,f1⟩:=LV;obtain ⟨u,f2⟩:=MA;clear f1;replace HS:=κ (HS.o.set hP0 9 am (.slice A k c) (oQ ac ac _ _ _) (aX l 4) (λq' hq'=>by
    obtain ⟨q,p,h1,h2,h3⟩:=(aJS (aX l 3)).2 q' hq';refine ⟨q,h1,λi u hi h => ?_, ?_⟩
    ·rw [h3];exact (λi u hi h=>by match i,hi,h with|9,hi,_=>exact absurd rfl hi|0,_,h|1,_,h|2,_,h|3,_,h|4,_,h|5,_,h|6,_,h|7,_,h|8,_,h|10,_,h|11,_,h|12,_,h=>exact h|_+13,_,_=>trivial:∀ i u,i≠9->FldR (Zb w) _ q.1 i u->FldR (Zb w) _ { q.1 with wh:=p.1 } i u) i u hi h
    ·rw [h3];have hz1:=HX.o.2;exact OXR.turn (λg hg _=>⟨by have:wc.heap.size≤g:=hg;show w.heap.size+2≤g;omega,rfl⟩) (HX.o.1 p h2)))
   replace HS:=κ (HS.o.up (o':=(aX l 4).map (·.2)) (aJS (aX l 3)).1 (K':=[11]) (λ_ h=>h) (S':=aX l 4) (λq' h=>⟨q',h,λ_ _ h=>h⟩));clear HX;obtain ⟨b,hbq⟩:∃ b,lC gR ((aX l 4).map (·.2))=b:=cw;have HC:=κ (fB P _ ⟨#[103,114,111,117,112]⟩ _ HS.o.ro b hbq);have HF:=κ hbq;clear hbq;go_wp2_with fail;refine μ HC ?_;rintro e w10 ⟨rfl,hb,hp⟩;replace HS:=LE;clear hb hp HC;clear f0 f2;go_upto_if 50 with fail
   go_cut [] (λwx=>XC P ((aX l 5).map (·.2)) (aX l 5) [11] w wx)
   case first =>
    cases b
    ·have HZ:=κ (show XC P ((aX l 5).map (·.2)) (aX l 5) [11] w w10 from (show XC P ((aX l 4).map (·.2)) (aX l 4) [11] w w10 from HS.o).up (Ol gR (pX 1 0) (λs a=>{ s with group:=a }) _ HF.o).1 (λ_ h=>h) λq' hq'=>by
      obtain ⟨q,h1,h2⟩:=(Ol gR (pX 1 0) (λs a=>{ s with group:=a }) _ HF.o).2 q' hq';refine ⟨q,h1,λj u h => ?_⟩;rw [h2];show FldR _ _ { q.1 with group:=[] } j u;rw [<-(fY h1).2.1 am];exact h)
     clear HS;go_wp2
     go_meet
     exact HZ.o
    ·replace HS:=κ (show XC P (((aX l 4).map (·.2)).map List.tail) (aX l 4) [11] w w10 from HS.o);have HC:=κ (Hd P (((aX l 4).map (·.2)).map List.tail) ⟨#[98,121]⟩ _ HS.o.ro);go_wp2_with fail;refine μ HC ?_;rintro e w11 ⟨rfl,hb,hp⟩;replace HS:=LE;clear hb hp HC;have HC:=κ (aGV P 8 ((((aX l 4).map (·.2)).map List.tail).bind (aD wBy)) _ HS.o.ro ac ac);go_wp2_with fail;refine μ HC ?_;rintro e w12 ⟨A,k,c,rfl,hb,hp,hx⟩;have HX:=κ (ι hx HS.o.lt);clear hx;replace HS:=LE;clear hb hp HC;obtain ⟨f0,f1⟩:=LV;obtain ⟨u,f2⟩:=MB;clear f1;replace HS:=κ (HS.o.set hP0 10 am (.slice A k c) (oQ ac ac _ _ _) (aX l 5) (λq' hq'=>by
      obtain ⟨q,p,h1,h2,h3⟩:=(Mb gR (pX 1 0) (λs a=>{ s with group:=a }) _ HF.o).2 q' hq';refine ⟨q,h1,λi u hi h => ?_, ?_⟩
      ·rw [h3];exact (λi u hi h=>by match i,hi,h with|10,hi,_=>exact absurd rfl hi|0,_,h|1,_,h|2,_,h|3,_,h|4,_,h|5,_,h|6,_,h|7,_,h|8,_,h|9,_,h|11,_,h|12,_,h=>exact h|_+13,_,_=>trivial:∀ i u,i≠10->FldR (Zb w) _ q.1 i u->FldR (Zb w) _ { q.1 with group:=p.1 } i u) i u hi h
      ·rw [h3];have hz1:=HX.o.2;exact GR.turn (λg hg _=>⟨by have:w11.heap.size≤g:=hg;show w.heap.size+2≤g;omega,rfl⟩) (RLs.gr (HX.o.1 p h2))))
     replace HS:=κ (HS.o.up (o':=(aX l 5).map (·.2)) (Mb gR (pX 1 0) (λs a=>{ s with group:=a }) _ HF.o).1 (K':=[11]) (λ_ h=>h) (S':=aX l 5) (λq' h=>⟨q',h,λ_ _ h=>h⟩));clear HX;go_wp2
     go_meet
     exact HS.o
   case rest =>
    clear HF;clear HS;have HS:=κ hcut;clear hcut;obtain ⟨b,hbq⟩:∃ b,lC iG ((aX l 5).map (·.2))=b:=cw;have HC:=κ (fB P _ ⟨#[111,114,100,101,114]⟩ _ HS.o.ro b hbq);have HF:=κ hbq;clear hbq;go_wp2_with fail;refine μ HC ?_;rintro e w13 ⟨rfl,hb,hp⟩;replace HS:=LE;clear hb hp HC;go_upto_if 57 with fail
    go_cut [] (λwx=>XC P ((aX l 6).map (·.2)) (aX l 6) [] w wx)
    case first =>
     cases b
     ·have HZ:=κ (show XC P ((aX l 6).map (·.2)) (aX l 6) [] w w13 from (show XC P ((aX l 5).map (·.2)) (aX l 5) [11] w w13 from HS.o).up (Ol iG bK (λs a=>{ s with order:=a }) _ HF.o).1 (λ_ h=>lq) λq' hq'=>by
       obtain ⟨q,h1,h2⟩:=(Ol iG bK (λs a=>{ s with order:=a }) _ HF.o).2 q' hq';refine ⟨q,h1,λj u h => ?_⟩;rw [h2];show FldR _ _ { q.1 with order:=[] } j u;rw [<-(fY h1).2.2.1 am];exact h)
      clear HS;go_wp2
      go_meet
      exact HZ.o
     ·replace HS:=κ (show XC P (((aX l 5).map (·.2)).map List.tail) (aX l 5) [11] w w13 from HS.o);have HC:=κ (Hd P (((aX l 5).map (·.2)).map List.tail) ⟨#[98,121]⟩ _ HS.o.ro);go_wp2_with fail;refine μ HC ?_;rintro e w14 ⟨rfl,hb,hp⟩;replace HS:=LE;clear hb hp HC;have HF6:=κ HF.o;clear HF;obtain ⟨oi,hoi⟩:∃ oi,(((aX l 5).map (·.2)).map List.tail).bind (aD wBy)=oi:=cw;have HO:=κ hoi;have HL:=κ (show LX P 11 (aX l 5) [] 0 none 0 [] (some []) (eK (w+2) (.slice none 0 0)) w _ from HS.o.lx am am);have HR:=κ (show RO P _ oi from hoi▸HS.o.ro);clear HS hoi;go_wp2_with fail
      go_loopg [5] 9 (λgk _ wr=>∃ (acc:List (Lp.X×Bool)) (A:ZT) (c:Nat) (vs:ZU) (o:Option ZW),acc.length≤8∧gk=9-acc.length∧LX P 11 (aX l 5) [] acc.length A c vs (some (acc.map (λp:Lp.X×Bool=>(p.1,([]:ZS),p.2)))) (eK (w+2) (.slice A acc.length c)) w wr∧RO P wr o∧(acc.length=8->o=none∨o=some [])∧oi.bind (dO bK 8)=tF bK 8 (9-acc.length) acc o)
      case atStart=>exact ⟨[],none,0,[],oi,Nat.zero_le _,rfl,HL.o,HR.o,λh=>ar,rfl⟩
      case round =>
       clear HL HR;obtain ⟨acc,A,c,vs,o,ha,rfl,hl,hr,hend,hQ⟩:=dd;have HL:=κ hl;have HR:=κ hr;have HQ:=κ (ι hend hQ);have HC:=κ (Od P o wr hr);obtain ⟨i,hi⟩:∃ i,acc.length=i:=cw;have HA:=κ hi;have hiI:(i:Int)≤8:=ac
       have hiN:i≤8:=ac
       clear hl hr hend hQ ha hi;go_wp2_with fail;refine μ HC ?_;rintro e w2 ⟨⟨k,vk,vi,s0,vb,tt,ss,Ae,nn,ce⟩,rfl,hb,hp,hx⟩;simp only [RC.val];have HS:=κ (show PtX P 11 (aX l 5) [] acc.length A c vs (some (acc.map (λp:Lp.X×Bool=>(p.1,([]:ZS),p.2)))) w2 ⟨k,vk,vi,s0,vb,tt,ss,Ae,nn,ce⟩ [] false ((o.bind (pX 1 0)).map (·.1)) w (w2.alloc (.cells #[.int .u8 k,.int .u8 vk,vi,s0,vb,tt,ss,.slice Ae nn ce,(),false] 72)) from PtX.new (s:=[]) (d:=false) HL.o hP0 HR.o hb (λx hq=>by
        obtain ⟨q,h1,h2⟩:=LC;subst h2;exact hx q h1))
       replace HR:=LG;clear hb hp hx HC HL;obtain ⟨b2,hbq⟩:∃ b,lC wH ((o.bind (pX 1 0)).map (·.2))=b:=cw;have HC:=κ (fB P _ ⟨#[100,101,115,99]⟩ _ HR.o b2 hbq);have HF:=κ hbq;clear hbq;go_wp2_with fail;refine μ HC ?_;rintro e w3 ⟨rfl,hb,hp⟩;replace HS:=LF;replace HR:=ef;clear hb hp HC;go_upto_if 64 with fail
       go_cut [5] (λs5 wx=>s5=.pointer (some ⟨w2,0,none⟩)∧∃ (s:ZS) (d:Bool),PtX P 11 (aX l 5) [] acc.length A c vs (some (acc.map (λp:Lp.X×Bool=>(p.1,([]:ZS),p.2)))) w2 ⟨k,vk,vi,s0,vb,tt,ss,Ae,nn,ce⟩ s d ((o.bind (pX 1 0)).map (·.1)) w wx∧RO P wx ((o.bind bK).map (·.2))∧∀ p,(o.bind bK).map (·.1)=some p->(o.bind (pX 1 0)).map (·.1)=some p.1∧(λp:Lp.X×Bool=>(p.1,([]:ZS),p.2)) p=(p.1,s,d))
       case first =>
        cases b2
        rotate_left
        ·replace HR:=LJ;have f0:=λj=>frozen_of_row _ w2 j _ _ HS.o.pt;have c9:w3.cell? ⟨w2,9,none⟩=some (.bool false):=β HS.o.pt 9;replace HS:=κ (HS.o.set 9 (.bool true) [] true rfl);replace HR:=κ (HR.o.low (B:=w) hP0 ((θ).setCell (p:=⟨w2,9,none⟩) LI (.bool true)));have HZ:=κ (show ∃ (s:ZS) (d:Bool),PtX P 11 (aX l 5) [] acc.length A c vs (some (acc.map (λp:Lp.X×Bool=>(p.1,([]:ZS),p.2)))) w2 ⟨k,vk,vi,s0,vb,tt,ss,Ae,nn,ce⟩ s d ((o.bind (pX 1 0)).map (·.1)) w _∧RO P _ ((o.bind bK).map (·.2))∧∀ p,(o.bind bK).map (·.1)=some p->(o.bind (pX 1 0)).map (·.1)=some p.1∧(λp:Lp.X×Bool=>(p.1,([]:ZS),p.2)) p=(p.1,s,d) from ⟨[],true,HS.o,(Bq o HF.o).1▸HR.o,λp hp=>by obtain ⟨k1,k2⟩:=(Bq o HF.o).2 p hp;exact ⟨k1,by show (p.1,_,p.2)=_;rw [k2]⟩⟩);clear HS HR;go_wp2
         go_meet
         exact ⟨rfl,HZ.o⟩
        ·replace HR:=LH;obtain ⟨b3,hbq⟩:∃ b,lC Tj ((o.bind (pX 1 0)).map (·.2))=b:=cw;have HC:=κ (fB P _ ⟨#[97,115,99]⟩ _ HR.o b3 hbq);have HF3:=κ hbq;clear hbq;go_wp2_with fail;refine μ HC ?_;rintro e w4 ⟨rfl,hb,hp⟩;replace HS:=LF;replace HR:=ef;clear hb hp HC;have HZ:=κ (show ∃ (s:ZS) (d:Bool),PtX P 11 (aX l 5) [] acc.length A c vs (some (acc.map (λp:Lp.X×Bool=>(p.1,([]:ZS),p.2)))) w2 ⟨k,vk,vi,s0,vb,tt,ss,Ae,nn,ce⟩ s d ((o.bind (pX 1 0)).map (·.1)) w _∧RO P _ ((o.bind bK).map (·.2))∧∀ p,(o.bind bK).map (·.1)=some p->(o.bind (pX 1 0)).map (·.1)=some p.1∧(λp:Lp.X×Bool=>(p.1,([]:ZS),p.2)) p=(p.1,s,d) from ⟨[],false,HS.o,(Gw o b3 HF.o HF3.o).1▸HR.o,λp hp=>by obtain ⟨k1,k2⟩:=(Gw o b3 HF.o HF3.o).2 p hp;exact ⟨k1,by show (p.1,_,p.2)=_;rw [k2]⟩⟩);clear HS HR;go_wp2
         go_meet
         exact ⟨rfl,HZ.o⟩
       case rest =>
        clear HS HR HF;obtain ⟨rfl,s,d,hS,hr,ht⟩:=sn;have HS:=lf;have HR:=κ hr;have HT:=κ ht;have cg:=β hS.pt;obtain ⟨cr,cf,ca⟩:=hS.lx.row;have ho2:=hS.lx.own;have hsz:=hS.lx.but.size;have hg0:=hS.g0;have hlt:=aG hS.pt;rw [HA.o] at cr ho2 ca;simp only [prc,RC.cells,List.cons_append,List.nil_append] at cg;clear hS hr ht;go_upto_region 25 with (at_builtin;refine bJ _ rfl (.tmp 69) (.tmp 71) _ rfl (w+2) 72 iE _ 10 128 underlying35 hiE hz0 hz1 hz2 rfl ac A i c vs rfl (ho2.alloc _) _ 1 1 [.int .u8 k,.int .u8 vk,.int .i64 vi,.string s0,.bool vb,.string tt,.string ss,.slice Ae nn ce,.string ⟨s.toArray⟩,.bool d] rfl rfl (aS [.int .u8 k,.int .u8 vk,.int .i64 vi,.string s0,.bool vb,.string tt,.string ss,.slice Ae nn ce,.string ⟨s.toArray⟩,.bool d] (heap_alloc_new _ _)) GF kt ac FO ?_;intro A5 c5 w5 ho5 hb5 _ hk5;obtain ⟨d5,f5⟩:=HS.o.lx.keep LK;rw [HA.o] at d5);have hl5:=Nk (M':=((o.bind bK).map (·.1)).map λp=>acc.map (λp:Lp.X×Bool=>(p.1,([]:ZS),p.2))++[(λp:Lp.X×Bool=>(p.1,([]:ZS),p.2)) p]) HS.o am am (λl' hl'=>by
         obtain ⟨p,h1,h2⟩:=Option.map_eq_some_iff.1 hl';obtain ⟨k1,k2⟩:=HT.o p h1;exact ⟨_,p.1,rfl,k1,by rw [<-h2,k2]⟩) (by rw [HA.o];exact ho5) hb5 LK
        have hr5:RO P (w5.setCell ⟨w+1,11,none⟩ (.slice A5 (i+1) c5)) ((o.bind bK).map (·.2)):=(HR.o.low (B:=w.heap.size+2) ac ((ρ |>.mono ac).trans hb5)).low (B:=w) hP0 ((θ).setCell (p:=⟨w+1,11,none⟩) (Nat.le_succ _) _);rw [HA.o] at hl5;obtain ⟨W6,hW6⟩:∃ W6,w5.setCell ⟨w+1,11,none⟩ (.slice A5 (i+1) c5)=W6:=cw;rw [hW6] at hl5 hr5 |-;clear hW6 ho5 hb5 hk5 d5 f5 cg cr cf ca HS HR ho2 hlt;have HL:=κ hl5;have HR:=κ hr5;have HM:=κ (Xm P (i+1) 8 _ W6 hr5);obtain ⟨cr,cf, -⟩:=hl5.row;clear hl5 hr5;obtain ⟨bm,hbm⟩:∃ b,(rE (i+1) 8 ((o.bind bK).map (·.2))).1=b:=cw;rw [hbm] at HM;have HB:=κ hbm;clear hbm;go_wp2_with fail;refine μ HM ?_;rintro e w7 ⟨rfl,hb,hp⟩;replace HL:=κ (HL.o.next hP0 HR.o hb);replace HR:=ef;clear hb hp HM cr cf hsz hg0;cases bm
        ·have HZ := κ (show XC P ((aX l 6).map (·.2)) (aX l 6) [] w w7 from by
                 obtain ⟨m1,m2⟩:=Nu (f:=bK) (k:=8-acc.length) LN HQ.o.1 uG LM;obtain ⟨b1,b2⟩:=Mb iG bK (λs a=>{ s with order:=a }) (aX l 5) HF6.o;have e1:=HQ.o.2;rw [<-HO.o,show 9-acc.length=8-acc.length+1 by have:=HA.o;omega] at e1;refine HL.o.xc (show RO P w7 ((aX l 6).map (·.2)) by
                  have h:=lc;rw [<-HA.o,m1, <-e1] at h;exact b1▸h) λq' hq' => ?_
                 obtain ⟨q,p,h1,h2,h3⟩:=b2 q' hq';rw [e1] at h2;obtain ⟨x,r',h4,h5⟩:=m2 p h2;refine ⟨q,acc.map (λp:Lp.X×Bool=>(p.1,([]:ZS),p.2))++[(x.1,[],x.2)],h1,by rw [h4];rfl,LO,λi u hi h => ?_,λu hu => ?_⟩
                 ·rw [h3];exact (λi u hi h=>by match i,hi,h with|11,hi,_=>exact absurd rfl hi|0,_,h|1,_,h|2,_,h|3,_,h|4,_,h|5,_,h|6,_,h|7,_,h|8,_,h|9,_,h|10,_,h|12,_,h=>exact h|_+13,_,_=>trivial:∀ i u,i≠11->FldR (Zb w) _ q.1 i u->FldR (Zb w) _ { q.1 with order:=p.1 } i u) i u hi h
                 ·rw [h3];show PR _ _ (orL { q.1 with order:=p.1 }) u;rw [show orL { q.1 with order:=p.1 }=acc.map (λp:Lp.X×Bool=>(p.1,([]:ZS),p.2))++[(x.1,[],x.2)] by show p.1.map _=_;rw [h5,List.map_append];rfl];exact hu)
         clear HL HR;go_wp2
         go_meet
         exact HZ.o
        ·obtain ⟨x,r',m1,m2,m3,m4,m5⟩:=Hf (f:=bK) (k:=8-acc.length) LN HQ.o.1 uG LM;rw [HA.o] at m2;have HZ:=κ (show LX P 11 (aX l 5) [] (acc++[x]).length A5 c5 _ (some ((acc++[x]).map (λp:Lp.X×Bool=>(p.1,([]:ZS),p.2)))) (eK (w+2) (.slice A5 (acc++[x]).length c5)) w w7 by
          have:=HL.o;rw [m1] at this;rw [List.length_append,List.map_append,HA.o];exact this)
         have HZ2:=κ (show oi.bind (dO bK 8)=tF bK 8 (9-(acc++[x]).length) (acc++[x]) (some r'.tail) by
          rw [HQ.o.2,show 9-acc.length=8-acc.length+1 by have:=HA.o;omega,m3,List.length_append]
          congr 1
          have:=HA.o
          (try simp);(try omega))
         have HZ3:=LP;have hm4:=m4;have hm5:=m5;clear HL HR m1 m2 m3 m4 m5;go_wp2
         go_roundg (9-(i+1))
         case measure=>(have:=HA.o;omega)
         case rel=>exact ⟨acc++[x],A5,c5,_,some r'.tail,LT,LR,HZ.o,HZ3.o,λh=>.inr LQ,HZ2.o⟩
    case rest =>
     clear HF;clear HS;have HS:=κ hcut;clear hcut;obtain ⟨b,hbq⟩:∃ b,lC oW ((aX l 6).map (·.2))=b:=cw;have HC:=κ (fB P _ ⟨#[108,105,109,105,116]⟩ _ HS.o.ro b hbq);have HF:=κ hbq;clear hbq;go_wp2_with fail;refine μ HC ?_;rintro e w15 ⟨rfl,hb,hp⟩;replace HS:=LE;clear hb hp HC;go_upto_if 81 with fail
     go_cut [] (λwx=>XC P ((aX l 7).map (·.2)) (aX l 7) [] w wx)
     case first =>
      cases b
      ·have HZ:=κ (show XC P ((aX l 7).map (·.2)) (aX l 7) [] w w15 from (show XC P ((aX l 6).map (·.2)) (aX l 6) [] w w15 from HS.o).up (Xx _ HF.o).1 (λ_ h=>h) λq' hq'=>by
        obtain ⟨q,h1,h2⟩:=(Xx _ HF.o).2 q' hq';refine ⟨q,h1,λj u h => ?_⟩;rw [h2, <-(fY h1).2.2.2 am];exact h)
       clear HS;go_wp2
       go_meet
       exact HZ.o
      ·replace HS:=κ (show XC P (((aX l 6).map (·.2)).map List.tail) (aX l 6) [] w w15 from HS.o);obtain ⟨ol,hol⟩:∃ ol,((aX l 6).map (·.2)).map List.tail=ol:=cw;have HO:=κ hol;have ho:RO P w15 ol:=hol▸HS.o.ro;clear hol;rcases ol with _|lt
       ·obtain ⟨l1,d,bd,hbd,⟨A,c,i,k1, -, -⟩, -, -⟩:=ho;have c3:=β k1 3;have eb:(bd==0)=false:=η hbd;clear k1 hbd;go_wp2_with fail;go_quiet (fail);replace HS:=MD;have HC:=MC;go_wp2_with fail;refine μ HC ?_;rintro e w16 ⟨rfl,hb,hp⟩;replace HS:=LE;clear hb hp HC;have HZ:=κ (show XC P ((aX l 7).map (·.2)) (aX l 7) [] w w16 by
         have e1:aX l 7=none:=by
          rcases h7:aX l 7 with _|q'
          ·rfl
          ·obtain ⟨q,p,h1,h2,h3⟩:=(sT _ HF.o).2 q' h7;rw [HO.o] at h2;cases h2
         rw [e1];exact HS.o.up rfl (λ_ h=>h) λq' h=>lq)
        clear HS;go_wp2
        go_meet
        exact HZ.o
       ·have HL:=κ ho;obtain ⟨A,c,i,h1,h2,h3⟩:=ho;have c0:=cq;have c1:=ee;have c3:=β h1 3;simp only [γ,δ,ε] at c0 c1 c3;rcases lt with _|⟨t,r⟩
        ·have hI:=uc
         clear h1 h2 h3;go_wp2_with fail;go_quiet (fail);replace HS:=MD;have HC:=MC;go_wp2_with fail;refine μ HC ?_;rintro e w16 ⟨rfl,hb,hp⟩;replace HS:=LE;clear hb hp HC;have HZ:=κ (show XC P ((aX l 7).map (·.2)) (aX l 7) [] w w16 by
          have e1:aX l 7=none:=by
           rcases h7:aX l 7 with _|q'
           ·rfl
           ·obtain ⟨q,p,h1,h2,h3⟩:=(sT _ HF.o).2 q' h7;rw [HO.o] at h2;cases h2
          rw [e1];exact HS.o.up rfl (λ_ h=>h) λq' h=>lq)
         clear HS;go_wp2
         go_meet
         exact HZ.o
        ·obtain ⟨b,off,rfl,hlt,q0, -,q2⟩:=ue;obtain ⟨n,hn⟩:∃ n,i+(t::r).length=n:=cw;rw [hn] at c0;have hin:=ud
         have hinN:=uf
         have hin0:=ug
         have hi2:=uh
         have fp:=λj=>frozen_of_row _ P j _ _ h1;have HP:=κ (ι h1 (ι h2 h3));clear h1 h2 h3 hn
         by_cases hk:t.k=2
         ·have ek:=nl
          have HK:=κ hk;clear hk;go_wp2_with fail;go_quiet (fail);obtain ⟨f0,f1⟩:=LV;obtain ⟨u,f2⟩:=ME;clear f1;go_wp2_with fail
          first|go_region|fail
          all_goals
           have hS1:=HS.o.next (w':=w15.drewN (nq+1)) hP0 (Drawn.but ⟨nq+1,rfl⟩) (HS.o.ro.low HS.o.ro.lt (nX (nq+1) (θ)));have hS2:=hS1.set hP0 12 am (.int .i64 t.n) (Ms _) (aX l 7) (λq' hq'=>by
            obtain ⟨q,p,h1,h2,h3⟩:=(sT _ HF.o).2 q' hq';rw [HO.o,Option.bind_some,rD,if_pos HK.o] at h2;injection h2 with h2;refine ⟨q,h1,λi u hi h => ?_, ?_⟩
            ·rw [h3];exact (λi u hi h=>by match i,hi,h with|12,hi,_=>exact absurd rfl hi|0,_,h|1,_,h|2,_,h|3,_,h|4,_,h|5,_,h|6,_,h|7,_,h|8,_,h|9,_,h|10,_,h|11,_,h=>exact h|_+13,_,_=>trivial:∀ i u,i≠12->FldR (Zb w) _ q.1 i u->FldR (Zb w) _ { q.1 with limit:=p.1 } i u) i u hi h
            ·rw [h3, <-h2];rfl)
           have hG:Below (w+1) w15 ((w15.drewN (nq+1)).setCell ⟨w+1,12,none⟩ (.int .i64 t.n)):=((θ:Below (w+1) w15 w15) |> nX (nq+1)).setCell (p:=⟨w+1,12,none⟩) (ν _) _;have hadv:=aHV (i:=i) (HL.o.low (Nat.lt_succ_of_lt hP0) hG) ((hG.cell (p:=⟨P,1,none⟩) (Nat.lt_succ_of_lt hP0)).trans c1);have e7:(aX l 7).map (·.2)=some r:=by
            rw [<-show _=(aX l 7).map (·.2) from (sT _ HF.o).1,HO.o,Option.bind_some,rD,if_pos HK.o];rfl
           have HZ:=κ (show XC P ((aX l 7).map (·.2)) (aX l 7) [] w _ from hS2.next hP0 (But.set _ _ _ _) (e7▸hadv));clear hG hS1 hS2 hadv e7;go_wp2
           go_meet
           exact HZ.o
         ·have ek:(t.k==2)=false:=η hk;have HK:=κ hk;clear hk;go_wp2_with fail;go_quiet (fail);replace HS:=MD;have HC:=MC;go_wp2_with fail;refine μ HC ?_;rintro e w16 ⟨rfl,hb,hp⟩;replace HS:=LE;clear hb hp HC;have HZ:=κ (show XC P ((aX l 7).map (·.2)) (aX l 7) [] w w16 by
           have e1:aX l 7=none:=by
            rcases h7:aX l 7 with _|q'
            ·rfl
            ·obtain ⟨q,p,h1,h2,h3⟩:=(sT _ HF.o).2 q' h7;rw [HO.o] at h2;rw [Option.bind_some,rD,if_neg HK.o] at h2;cases h2
           rw [e1];exact HS.o.up rfl (λ_ h=>h) λq' h=>lq)
          clear HS;go_wp2
          go_meet
          exact HZ.o
     case rest =>
      clear HF;clear HS;have HS:=κ hcut;clear hcut;obtain ⟨hb,hp,hz,cs,hl,hx, -,hq⟩:=HS.o;have HL:=κ hl;obtain ⟨k,s1,s2,s3,A4,n4,c4,A5,n5,c5,A6,n6,c6,A7,n7,c7,A8,n8,c8,A9,n9,c9,A10,n10,c10,A11,n11,c11,li,rfl⟩:=nE hl;have cx:=β hx;have cz:=β hz;have fz:=MF;simp only [stZ,stC] at cz fz;have h13:=kP [.int .u8 k,.string s1,.string s2,.string s3,.slice A4 n4 c4,.slice A5 n5 c5,.slice A6 n6 c6,.slice A7 n7 c7,.slice A8 n8 c8,.slice A9 n9 c9,.slice A10 n10 c10,.slice A11 n11 c11,.int .i64 li] 0 wc stZ hz rfl;rw [List.take_zero,List.nil_append] at h13
      have HE:=κ (show aGY P w l (.returned (.agg ([.int .u8 k,.string s1,.string s2,.string s3,.slice A4 n4 c4,.slice A5 n5 c5,.slice A6 n6 c6,.slice A7 n7 c7,.slice A8 n8 c8,.slice A9 n9 c9,.slice A10 n10 c10,.slice A11 n11 c11,.int .i64 li]:ZU).toArray)) (puts wc w [.int .u8 k,.string s1,.string s2,.string s3,.slice A4 n4 c4,.slice A5 n5 c5,.slice A6 n6 c6,.slice A7 n7 c7,.slice A8 n8 c8,.slice A9 n9 c9,.slice A10 n10 c10,.slice A11 n11 c11,.int .i64 li] 0) from ⟨But.puts (g:=w) (ν _) [.int .u8 k,.string s1,.string s2,.string s3,.slice A4 n4 c4,.slice A5 n5 c5,.slice A6 n6 c6,.slice A7 n7 c7,.slice A8 n8 c8,.slice A9 n9 c9,.slice A10 n10 c10,.slice A11 n11 c11,.int .i64 li] 0 wc hb,hp.low hP0 (gZ (g:=w) (ν _) [.int .u8 k,.string s1,.string s2,.string s3,.slice A4 n4 c4,.slice A5 n5 c5,.slice A6 n6 c6,.slice A7 n7 c7,.slice A8 n8 c8,.slice A9 n9 c9,.slice A10 n10 c10,.slice A11 n11 c11,.int .i64 li] 0 wc (θ)),_,HL.o,rfl,λq hq' j u hu=>(hq q hq' j u hu).turn λg hg _=>⟨hg,jG (by have:w.heap.size+2≤g:=hg;omega) _ 0 wc⟩⟩);clear hb hp hz hl hx HS hq;go_wp2;change bodyPost _ _ _ _ _ (puts wc w [.int .u8 k,.string s1,.string s2,.string s3,.slice A4 n4 c4,.slice A5 n5 c5,.slice A6 n6 c6,.slice A7 n7 c7,.slice A8 n8 c8,.slice A9 n9 c9,.slice A10 n10 c10,.slice A11 n11 c11,.int .i64 li] 0)
      generalize puts wc w [.int .u8 k,.string s1,.string s2,.string s3,.slice A4 n4 c4,.slice A5 n5 c5,.slice A6 n6 c6,.slice A7 n7 c7,.slice A8 n8 c8,.slice A9 n9 c9,.slice A10 n10 c10,.slice A11 n11 c11,.int .i64 li] 0=WE at *;have hcE:=β h13;exact bodyPost_ret (v:=.agg #[.int .u8 k,s1,s2,s3,.slice A4 n4 c4,.slice A5 n5 c5,.slice A6 n6 c6,.slice A7 n7 c7,.slice A8 n8 c8,.slice A9 n9 c9,.slice A10 n10 c10,.slice A11 n11 c11,.int .i64 li]) (by simp [results,results87,go_sem,hcE]) rfl HE.o
