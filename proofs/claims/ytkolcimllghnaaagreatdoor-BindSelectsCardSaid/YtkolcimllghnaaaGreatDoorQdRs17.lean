/-
 Contracts. Conditions: those of each.
-/
import Derived.Test.YtkolcimllghnaaaGreatDoorQdVQ
set_option maxRecDepth 100000
set_option maxHeartbeats 40000000
namespace Go.Proofs.YtkolcimllghnaaaGreatDoor
open Lp Go.Proofs.Tryz
open Go.RowKit
variable{gr:Bool}{l xs:List Lp.X}{sc:List Tb}{i:Nat}
theorem ri_ {a b:Int} (h:b=a):Ending.returned (.int .i64 a)=.returned (.int .i64 b):=ch
theorem Lo (h:i<l.length) (h0:aF sc gr (l.take i)=0):aF sc gr (l.take (i+1))=(aC sc l[i] gr).2:=by
 rw [List.take_succ_eq_append_getElem h];exact kV sc gr _ _ h0
theorem Hz (h:i<l.length) (h0:aF sc gr (l.take i)=0) (hk:(aC sc l[i] gr).2≠0):aF sc gr l=(aC sc l[i] gr).2:=by
 have h1:=Lo h h0;have:=mC sc gr (l.take (i+1)) (l.drop (i+1)) (by rw [h1];exact hk);rw [List.take_append_drop] at this;rw [this,h1]
theorem aJJ {f:Lp.X->Bool} (h:i<xs.length) (ha:(xs.take i).all f=true):(xs.take (i+1)).all f=f xs[i]:=by
 rw [List.take_succ_eq_append_getElem h,List.all_append,ha];simp
theorem aBA {f:Lp.X->Bool} (h:i<xs.length) (hf:f xs[i]=false):xs.all f=false:=by
 rw [List.all_eq_false];exact ⟨xs[i],List.getElem_mem h,QB⟩
theorem Yt {w:World} {A:ZT} {n c:Nat} (h:GR (λ_=>True) w xs (.slice A n c)):n=xs.length∧∃ rg,Pts (λ_=>True) w A xs rg:=by
 obtain ⟨A',c',rg,e,h1,h2⟩:=h;injection e with e1 e2 e3;subst e1 e2;exact ⟨rfl,rg,Nc h2,h1.rds,λi hx hr=>Ki h2 hx hr⟩
theorem Kl (A:ZT) (c:Nat) (l:List dW) (s:Sel) (cs:ZU) (w:World) (hA:ScA w A l) (hok:nA (aE l)) (h13:Cs13 cs) (hf:∀ j u,cs[j]? = some u->FldR (λ_=>True) w s j u) (hli:(aY (aE l) s).length≤30) (hlo:s.order.length≤10) (hs:SelWf s) (hz:∀ x,x∈s.group∨x∈dJ (aE l) s->x.size≤10000) :
 Calls prog 18 #[.slice A l.length c,.agg cs.toArray] w λe w'=>e=.returned (.int .i64 (fO (aE l) s))∧Below w w w':=by
 have hft:=λ(W:World) (hb:Below w w W) j u hj=>(hf j u hj).turn (w':=W) (S':=λ_=>True) λg _ hl=>⟨trivial,hb.block g hl⟩;have HI:=λ(W:World) (hb:Below w w W)=>pS A c l s cs W (hA.below hb) hok h13 (hft W hb);have HGr:=λ(W:World) (hb:Below w w W)=>rJ A c l s cs W (hA.below hb) hok h13 (hft W hb) hli hlo;have hln:l.length≤2:=by have:=hok.1;rwa [pG] at this
 have hn100:l.length≤100:=ac
 have hnI:(l.length:Int)≤2:=ac
 have hwd:bY (aE l)≤10000:=JU
 obtain ⟨k,s1,s2,s3,A4,n4,c4,A5,n5,c5,A6,n6,c6,A7,n7,c7,A8,n8,c8,A9,n9,c9,A10,n10,c10,A11,n11,c11,li,rfl⟩:=nE h13;obtain ⟨Ae,ce,qr,e11,r11,p11⟩:PR (λ_=>True) w (orL s) (.slice A11 n11 c11):=hf 11 _ rfl;injection e11 with eA e11 eC;subst eA eC;have hqn:qr.length=n11:=by rw [e11,gM p11]
 have hq10:n11≤10:=KM
 obtain ⟨e10,rg,hrg⟩:=Yt (show GR (λ_=>True) w s.group (.slice A10 n10 c10) from hf 10 _ rfl);subst e10;have F8:OXR (λ_=>True) w s.on (.slice A8 n8 c8):=hf 8 _ rfl;have F9:OXR (λ_=>True) w s.wh (.slice A9 n9 c9):=hf 9 _ rfl;obtain ⟨iP,hiP,hz0,hz1,hz2⟩:=KK;have hb0:Below w w (w.alloc (.cells #[.int .u8 k,s1,s2,s3,.slice A4 n4 c4,.slice A5 n5 c5,.slice A6 n6 c6,.slice A7 n7 c7,.slice A8 n8 c8,.slice A9 n9 c9,.slice A10 s.group.length c10,.slice A11 n11 c11,.int .i64 li] 38)):=ρ;have HBX:=κ (heap_alloc_new w (.cells #[.int .u8 k,s1,s2,s3,.slice A4 n4 c4,.slice A5 n5 c5,.slice A6 n6 c6,.slice A7 n7 c7,.slice A8 n8 c8,.slice A9 n9 c9,.slice A10 s.group.length c10,.slice A11 n11 c11,.int .i64 li] 38));have hc:=β HBX.o;have HB:=sv;have HAW:=κ (hA.below hb0);have HF:=κ (ι (F8.turn (S':=λ_=>True) λg _ hl=>⟨trivial,hb0.block g hl⟩) (F9.turn (S':=λ_=>True) λg _ hl=>⟨trivial,hb0.block g hl⟩));have HRG:=κ (hrg.below hb0);have HSW:=κ (ι hs hz);have HRw:=κ (ι r11 (ι p11 hqn));have HPI:=κ (Mx (aE l) s);have hl30:=KN
 have hll:=KO
 have hg100:s.group.length≤100:=by have:=hs.lg;omega
 have hgI:(s.group.length:Int)≤100:=ac
 have HOK:=κ hok;clear hft F8 F9 hrg e11 r11 p11 hqn hf h13 hA hb0 hs hz hok;go_enter func18,ntmps18;go_upto_region 1 with fail;generalize hW:(w.alloc (.cells #[.int .u8 k,s1,s2,s3,.slice A4 n4 c4,.slice A5 n5 c5,.slice A6 n6 c6,.slice A7 n7 c7,.slice A8 n8 c8,.slice A9 n9 c9,.slice A10 s.group.length c10,.slice A11 n11 c11,.int .i64 li] 38))=W at *;clear hW hc
 go_cut [31] (λs31 wx=>s31=.bool (oJ (aE l))∧Below W W wx)
 case first =>
  as_aux_lemma =>
   by_cases h2:l.length=2
   ·have e2:((l.length:Int)==2)=true:=by rw [h2];rfl
    have hl1:=HAW.o.1;have HDB:=κ (show ∀ n0 k0 n1 k1 a b,l=[(⟨n0,k0⟩,a),(⟨n1,k1⟩,b)]->oJ (aE l)=(n0==n1) from λ_ _ _ _ _ _ h=>lp);obtain ⟨n0,k0,B0,d0,n1,k1,B1,d1,hl⟩:∃ n0 k0 B0 d0 n1 k1 B1 d1,l=[((⟨n0,k0⟩:Tb),((B0:ZT),(d0:Nat))),(⟨n1,k1⟩,(B1,d1))]:=by
     match l,h2 with
     | [(⟨n0,k0⟩,B0,d0),(⟨n1,k1⟩,B1,d1)],_=>exact ⟨_,_,_,_,_,_,_,_,rfl⟩
    obtain ⟨b,off,hA,z0⟩:=hl1.at_ (k:=0) (u:=.string n0) (by rw [hl];rfl);obtain ⟨b',off',hA',z1⟩:=hl1.at_ (k:=2) (u:=.string n1) (by rw [hl];rfl);subst hA;simp only [Option.some.injEq,Addr.mk.injEq,and_true] at hA';obtain ⟨rfl,rfl⟩:=hA';have HQ:=κ (HDB.o _ _ _ _ _ _ hl);have hI1:(1:Int)<(l.length:Int):=ac
    have hI0:(0:Int)<(l.length:Int):=ac
    rw [Nat.add_zero] at z0;clear hl1 hl h2 HDB;go_quiet (fail);go_wp2
    go_meet
    exact ⟨by rw [HQ.o],dH _ (θ)⟩
   ·have e2:((l.length:Int)==2)=false:=gf
    have HDB:=κ (show oJ (aE l)=false by
     unfold oJ
     split
     ·rename_i h
      exact absurd (by rw [<-pG,h];rfl) h2
     ·rfl)
    clear h2;go_quiet (fail);go_wp2
    go_meet
    exact JV
 case rest =>
  obtain ⟨rfl,hb0⟩:=sn;generalize wc=w0 at *;have HY0:=κ (HB.o.trans (hb0.mono HB.o.size));cases hdb:oJ (aE l)
  ·have HD:=κ hdb;have HT1:=κ (Fb A c l s.on (.slice A8 n8 c8) w0 (λ_=>True) (HAW.o.below hb0) hn100 hwd HSW.o.1.on (HF.o.1.turn λg _ hl=>⟨trivial,hb0.block g hl⟩));have y:=β (aA HBX.o hb0);have HW0:=sv;clear hdb hb0;go_wp2_with fail;refine μ HT1 ?_;rintro e w2 ⟨rfl,hb2⟩;have hW2:=HW0.o.trans (hb2.mono HW0.o.size);have HW2:=κ hW2;clear y
   by_cases hk:jB (aE l) s.on=0
   ·have HE1:=κ hk;rw [hk];have HT2:=κ (Fb A c l s.wh (.slice A9 n9 c9) w2 (λ_=>True) (HAW.o.below hW2) hn100 hwd HSW.o.1.wh (HF.o.2.turn λg _ hl=>⟨trivial,hW2.block g hl⟩));have y:=β (aA HBX.o hW2);clear hk hb2 hW2 HT1;go_wp2_with fail;refine μ HT2 ?_;rintro e w3 ⟨rfl,hb3⟩;have hW3:=HW2.o.trans (hb3.mono HW2.o.size);have HW3:=κ hW3;clear y
    by_cases hk:jB (aE l) s.wh=0
    ·have HE2:=κ hk;rw [hk];have y:=β (aA HBX.o hW3);clear hk hb3 hW3 HT2;go_wp2_with fail
     go_loopw [8,9,10,49] (λ_ _ _ s49 wr=>∃ i:Nat,i≤s.group.length∧s49=.int .i64 i∧aF (aE l) false (s.group.take i)=0∧Below W W wr) (λ_ _ _ s49 _=>s.group.length-(intOf s49).toNat)
     case atStart=>exact ⟨0,Nat.zero_le _,rfl,rfl,HW3.o⟩
     case round =>
      obtain ⟨i,hi,rfl,ha,hb⟩:=dd;have HY:=ua;clear y
      by_cases hlt:i<s.group.length
      ·as_aux_lemma =>
        have hpw:=HRG.o.below hb;have hri:i<rg.length:=IM
        obtain ⟨bR,oR,hAR,q0,q1,q2,q3,q4,q5,q6,q7⟩:=GD;have hrx:=GC;have HN:=κ (Lo hlt ha);have HST:=κ (λh=>Hz hlt ha h);have hwf:=HSW.o.1.grp _ (List.getElem_mem hlt);subst hAR;generalize rg[i]=r at *;generalize s.group[i]=x at *;obtain ⟨rk,rvk,rvi,rvs,rvb,rt,rs0,rA,rn,rc⟩:=r;simp only at hrx q0 q1 q2 q3 q4 q5 q6 q7;have hbP:=GA;have y:=β (heap_alloc_new wr (.cells #[.int .u8 rk,.int .u8 rvk,rvi,rvs,rvb,rt,rs0,.slice rA rn rc] 60));have HQ:=KW;have HC:=κ (rW A c l hn100 hwd x hwf false _ _ _ (HAW.o.below HQ.o) (RX.below hbP hrx));simp only [RC.val] at HC;clear ha hb hrx hbP hpw hri hwf;go_wp2_with fail;refine μ HC ?_;rintro e w9 ⟨rfl,hb9⟩;have HQ9:=KV;clear hb9 y q0 q1 q2 q3 q4 q5 q6 q7
        by_cases hk:(aC (aE l) x false).2=0
        ·have HK:=κ hk;rw [hk];generalize (aC (aE l) x false).1=K1 at *;clear hk;go_wp2
         go_roundw
         case rel=>exact ⟨i+1,ac,de,by rw [HN.o,HK.o],HQ9.o⟩
         case measure=>simp [intOf];omega
        ·have HS:=κ (show fO (aE l) s=(aC (aE l) x false).2 by unfold fO;rw [HD.o,if_neg am,if_neg (λh=>h HE1.o),if_neg (λh=>h HE2.o),HST.o hk,if_pos hk]);have HY2:=κ (HB.o.trans (HQ9.o.mono HB.o.size));generalize (aC (aE l) x false).1=K1 at *;generalize (aC (aE l) x false).2=E at *;have e1:=kw;have e2:=ku
         clear hk;go_wp2;go_ret;exact ⟨ri_ HS.o,HY2.o⟩
      ·have hi2:i=s.group.length:=ac
       rw [hi2,List.take_length] at ha;have HE3:=κ ha;have HGW:=κ (λg (hg:g∈s.group)=>ι (ι (HSW.o.1.grp g hg) (sX (aE l) g false (mD ha g hg))) (HSW.o.2 g (.inl hg)));have HTW:=κ (λx (hx:x∈dJ (aE l) s)=>ι (Fg HOK.o HD.o HSW.o.1 x hx) (HSW.o.2 x (.inr hx)));have HWo:=dm;have HBo:=κ (aA HBX.o hb);have HIq:=κ (λ(Wq:World) (hq:Below wr wr Wq)=>HI Wq (HY.o.trans (hq.mono HY.o.size)));have HR:=κ (ι (RdS.turn (S':=λ_=>True) (λg _ hl=>⟨trivial,HY.o.block g hl⟩) HRw.o.1) (ι (iX HY.o HRw.o.2.1) HRw.o.2.2));clear hi2 ha hb HRw HI;go_upto_region 16 with fail;generalize jR (aY (aE l) s)=PI at *;generalize hLL:dJ (aE l) s=LL at *;have HX:=κ hLL;clear hLL;generalize wr=Wb at *
       go_cut [11] (λs11 wx=>∃ At ct tr,s11=.slice At tr.length ct∧TR wx At LL tr∧Below Wb Wb wx)
       case first =>
        as_aux_lemma =>
         clear HBX;have HBX:=HBo;clear HBo;refine eR (S:=λw'=>∀ j,w'.cell? ⟨w.heap.size,j,none⟩=(#[.int .u8 k,s1,s2,s3,.slice A4 n4 c4,.slice A5 n5 c5,.slice A6 n6 c6,.slice A7 n7 c7,.slice A8 n8 c8,.slice A9 n9 c9,.slice A10 s.group.length c10,.slice A11 n11 c11,.int .i64 li]:ZV)[j]?) (λ_=>True) 99 aj (β HBX.o) trivial (λhS hT => ?_);refine tkE false 1 64 ?_;refine tkE false 2 65 ?_;refine tkE false 5 68 ?_;refine tkE false 6 69 ?_;simp only [Act.put,dT,gX,gY];refine aCE 0 3 (λK hK => ?_) λK hK => ?_
         ·go_simp;refine hK.out _ _ (β (aB HBX.o _)) trivial (λhS hT => ?_);clear hK K;refine stE 3 λK hK => ?_;go_simp;go_at_call 19;refine (HIq.o _ (ρ).drew).mono ?_;rintro e w2 ⟨⟨u,rfl,Ai,ci,pr,rfl,hr1,hr2⟩,hb2⟩;have ho0:=aN (World.ownsRow_made (e:=72) (size:=10) Wb #[] 0 (ν _) FF rfl).drew hb2;have hb3:Below Wb Wb w2:=((ρ).drew).trans (hb2.mono aa);have hrr:=hr1.rds;refine hK.out _ _ (β (aA HBX.o hb3)) trivial (λhS hT => ?_);clear hK K hr1 hb2;refine stE 4 λK hK => ?_;refine bL _ rfl (.tmp 63) (.tmp 66) _ rfl Wb 72 iP _ 10 128 underlying35 hiP hz0 hz1 hz2 rfl ac _ 0 0 [] rfl ho0 Ai PI.length ci (prv pr) rfl KP hrr (mR pr) ?_ ?_ ?_ ?_
          ·simp only [maxLen];omega
          ·omega
          ·exact hb3.size
          intro A5' c5' w5 ho5 hb5 hg5 hk5;have hb6:=hb3.trans hb5;change K (Act.put _ (some 67) _) _;refine hK.out _ _ (β (aA HBX.o hb6)) trivial (λhS hT => ?_);have hr5:=KR;clear hK K hk5 hg5;refine stE 7 λK hK => ?_;refine bL _ rfl (.tmp 67) (.tmp 69) _ rfl Wb 72 iP _ 10 128 underlying35 hiP hz0 hz1 hz2 rfl ac A5' (0+PI.length) c5' _ rfl ho5 A11 n11 c11 (prv qr) rfl KQ (HR.o.1.rds.below hb6) (mR qr) ?_ ?_ ?_ ?_
          ·simp only [maxLen];omega
          ·omega
          ·exact hb6.size
          intro A8' c8' w8 ho8 hb8 hg8 hk8;have hb9:=hb6.trans hb8;change K (Act.put _ (some 70) _) _;refine hK.out _ _ (β (aA HBX.o hb9)) trivial (λhS hT => ?_);have HTR:=KU;have HLn:=KT;have HB9:=κ hb9;clear hK K hk8 hg8 hr5 ho0 hb3 hrr hr2 ho5 hb5 hb6 ho8 hb8 hb9 hS hT;rw [HLn.o];generalize pr++qr=tr at *;have hS:=PM;refine tkE false 8 11 ?_;simp only [Act.put,dT,gX,gY];refine dY ?_ rfl _;clear hS hT;go_wp2
          go_meet
          exact ⟨A8',c8',tr,rfl,HTR.o,HB9.o⟩
         ·go_simp;go_at_call 19;refine (HIq.o _ (θ).drew).mono ?_;rintro e w2 ⟨⟨u,rfl,Ai,ci,pr,rfl,hr1,hr2⟩,hb2⟩;have hbq:Below Wb Wb w2:=(θ).drew.trans hb2;refine hK.out _ _ (β (aA HBX.o hbq)) trivial (λhS hT => ?_);clear hK K;refine stE 0 λK hK => ?_;go_simp;have ho0:=World.ownsRow_made (base:=Wb.heap.size) (e:=72) (size:=10) w2 #[] 0 hbq.size FF rfl;have hbA:Below w2 w2 (w2.alloc (.cells #[] 72)):=ρ;have hb3:=hbq.trans (hbA.mono hbq.size);have hrr:=hr1.rds.below hbA;replace hr2:=iX hbA hr2;refine hK.out _ _ (β (aA HBX.o hb3)) trivial (λhS hT => ?_);clear hK K hr1 hb2 hbq hbA;refine stE 4 λK hK => ?_;refine bL _ rfl (.tmp 63) (.tmp 66) _ rfl Wb 72 iP _ 10 128 underlying35 hiP hz0 hz1 hz2 rfl ac _ 0 0 [] rfl ho0 Ai PI.length ci (prv pr) rfl KP hrr (mR pr) ?_ ?_ ?_ ?_
          ·simp only [maxLen];omega
          ·omega
          ·exact hb3.size
          intro A5' c5' w5 ho5 hb5 hg5 hk5;have hb6:=hb3.trans hb5;change K (Act.put _ (some 67) _) _;refine hK.out _ _ (β (aA HBX.o hb6)) trivial (λhS hT => ?_);have hr5:=KR;clear hK K hk5 hg5;refine stE 7 λK hK => ?_;refine bL _ rfl (.tmp 67) (.tmp 69) _ rfl Wb 72 iP _ 10 128 underlying35 hiP hz0 hz1 hz2 rfl ac A5' (0+PI.length) c5' _ rfl ho5 A11 n11 c11 (prv qr) rfl KQ (HR.o.1.rds.below hb6) (mR qr) ?_ ?_ ?_ ?_
          ·simp only [maxLen];omega
          ·omega
          ·exact hb6.size
          intro A8' c8' w8 ho8 hb8 hg8 hk8;have hb9:=hb6.trans hb8;change K (Act.put _ (some 70) _) _;refine hK.out _ _ (β (aA HBX.o hb9)) trivial (λhS hT => ?_);have HTR:=KU;have HLn:=KT;have HB9:=κ hb9;clear hK K hk8 hg8 hr5 ho0 hb3 hrr hr2 ho5 hb5 hb6 ho8 hb8 hb9 hS hT;rw [HLn.o];generalize pr++qr=tr at *;have hS:=PM;refine tkE false 8 11 ?_;simp only [Act.put,dT,gX,gY];refine dY ?_ rfl _;clear hS hT;go_wp2
          go_meet
          exact ⟨A8',c8',tr,rfl,HTR.o,HB9.o⟩
       case rest =>
        obtain ⟨At,ct,tr,rfl,h1,h2⟩:=sn;generalize wc=W1 at *;have HT:=κ h1;have hl1:=Nat.le_of_eq h1.1;have hl2:=Nat.le_of_eq h1.1.symm;have HW1:=κ (HWo.o.trans (h2.mono HWo.o.size));have HA1:=κ (HAW.o.below HW1.o);clear h1 h2 HR HPI HIq;go_wp2_with fail
        go_loopw [13,14,15,73] (λ_ _ _ s73 wr=>∃ i:Nat,i≤tr.length∧s73=.int .i64 i∧aF (aE l) true (LL.take i)=0∧Below W1 W1 wr) (λ_ _ _ s73 _=>tr.length-(intOf s73).toNat)
        case atStart=>exact ⟨0,Nat.zero_le _,rfl,rfl,θ⟩
        case round =>
         obtain ⟨i,hi,rfl,ha,hb⟩:=dd
         by_cases hlt:i<tr.length
         ·have hiL:i<LL.length:=ac
          as_aux_lemma =>
           obtain ⟨bR,oR,hAR,hrx,q0,q1,q2,q3,q4,q5,q6,q7,q8,q9⟩:=KZ;have HXi:=PN;have HN:=κ (Lo hiL ha);have HST:=κ (λh=>Hz hiL ha h);subst hAR;generalize tr[i]=p at *;generalize LL[i]=x at *;obtain ⟨⟨rk,rvk,rvi,rvs,rvb,rt,rs0,rA,rn,rc⟩,nm,ds⟩:=p;simp only at hrx q0 q1 q2 q3 q4 q5 q6 q7 q8 q9;have hbP:=KY;have y:=KX;have HQ:=KW;have hAq:=HA1.o.below HQ.o;have HC:=κ (rW A c l hn100 hwd x HXi.o.1.1 true _ _ _ hAq (RX.below hbP hrx));simp only [RC.val] at HC;clear ha hb hrx hbP hAq;go_wp2_with fail;refine μ HC ?_;rintro e w9 ⟨rfl,hb9⟩;have HQ9:=KV;clear hb9 y q0 q1 q2 q3 q4 q5 q6 q7 q8 q9
           by_cases hk:(aC (aE l) x true).2=0
           ·have HK:=κ hk;rw [hk];generalize (aC (aE l) x true).1=K1 at *;clear hk;go_wp2
            go_roundw
            case rel=>exact ⟨i+1,ac,de,by rw [HN.o,HK.o],HQ9.o⟩
            case measure=>simp [intOf];omega
           ·have HS:=κ (show fO (aE l) s=(aC (aE l) x true).2 by rw [nP HD.o HE1.o HE2.o HE3.o,HX.o,HST.o hk,if_pos hk]);have HY:=κ (HB.o.trans ((HW1.o.trans (HQ9.o.mono HW1.o.size)).mono HB.o.size));generalize (aC (aE l) x true).1=K1 at *;generalize (aC (aE l) x true).2=E at *;have e1:=kw;have e2:=ku
            clear hk;go_wp2;go_ret;exact ⟨ri_ HS.o,HY.o⟩
         ·have hi2:i=LL.length:=ac
          rw [hi2,List.take_length] at ha;have HSEL:=κ (show fO (aE l) s=if mL (aE l) s && !LL.all (setX (aE l) s.group) then 3 else 0 by rw [nP HD.o HE1.o HE2.o HE3.o,HX.o,ha,if_neg (λh=>h rfl)]);have HKn:=κ (λx (hx:x∈LL)=>sX (aE l) x true (mD ha x hx));have HQ:=κ (HW1.o.trans (hb.mono HW1.o.size));have y:=β (aA HBX.o HQ.o);have HG:=κ (HGr wr (HB.o.trans (HQ.o.mono HB.o.size)));clear hi2 ha;go_wp2_with fail;refine μ HG ?_;rintro e W2 ⟨rfl,hb2⟩;have HQ2:=κ (HQ.o.trans (hb2.mono HQ.o.size));have HT2:=κ ((HT.o.below hb).below hb2);clear hb hb2 y HT HG;generalize wr=wo at *;cases hgq:mL (aE l) s
          ·have HS:=κ (show fO (aE l) s=0 by rw [HSEL.o,hgq];rfl);have HY:=κ (HB.o.trans (HQ2.o.mono HB.o.size));clear hgq;go_wp2;go_ret;exact ⟨ri_ HS.o,HY.o⟩
          ·have HS:=κ (show fO (aE l) s=if !LL.all (setX (aE l) s.group) then 3 else 0 by rw [HSEL.o,hgq,Bool.true_and]);have HT:=HT2;have HA2:=κ (HAW.o.below HQ2.o);clear hgq HSEL HT2 HA1;have HA1:=HA2;clear HA2
           as_aux_lemma =>
            go_wp2_with fail
            go_loopw [17,93] (λ_ s93 wr=>∃ i:Nat,i≤tr.length∧s93=.int .i64 i∧(LL.take i).all (setX (aE l) s.group)=true∧Below W2 W2 wr) (λ_ s93 _=>tr.length-(intOf s93).toNat)
            case atStart=>exact ⟨0,Nat.zero_le _,rfl,rfl,θ⟩
            case round =>
             obtain ⟨i,hi,rfl,ha,hb⟩:=dd;have HRB:=κ (aA HBX.o (HQ2.o.trans (hb.mono HQ2.o.size)));have HY:=κ (HB.o.trans ((HQ2.o.trans (hb.mono HQ2.o.size)).mono HB.o.size))
             by_cases hlt:i<tr.length
             ·have hiL:i<LL.length:=ac
              obtain ⟨bR,oR,hAR,hrx,q0,q1,q2,q3,q4,q5,q6,q7,q8,q9⟩:=KZ;have HXi:=PN;have HN:=κ (aJJ (f:=setX (aE l) s.group) hiL ha);have HST:=κ (λh=>aBA (f:=setX (aE l) s.group) hiL h);subst hAR;generalize tr[i]=p at *;generalize LL[i]=x at *;obtain ⟨⟨rk,rvk,rvi,rvs,rvb,rt,rs0,rA,rn,rc⟩,nm,ds⟩:=p;simp only at hrx q0 q1 q2 q3 q4 q5 q6 q7 q8 q9;have hbP:=KY;have y:=KX;have HQ:=KW;have hAq:=HA1.o.below HQ.o;have zc:(wr.alloc (.cells #[.int .u8 rk,.int .u8 rvk,rvi,rvs,rvb,rt,rs0,.slice rA rn rc,nm,ds] 72)).cell? ⟨w,10,none⟩=some (.slice A10 s.group.length c10):=β (aA HRB.o hbP) 10;have HC:=κ (Pm A c l hn100 hwd s.group HGW.o hg100 x HXi.o.1.1 (HKn.o _ HXi.o.2) HXi.o.1.2 _ _ _ A10 c10 rg hAq (RX.below hbP hrx) (HRG.o.below ((HQ2.o.trans (hb.mono HQ2.o.size)).trans (hbP.mono (Nat.le_trans HQ2.o.size hb.size)))));simp only [RC.val] at HC;generalize setX (aE l) s.group x=b at *;clear ha hb hrx hbP hAq;go_wp2_with fail;refine μ HC ?_
              rintro e w9 ⟨rfl,hb9⟩;have HQ9:=KV;clear hb9 y zc q0 q1 q2 q3 q4 q5 q6 q7 q8 q9;cases b
              ·have HZ:=κ (show fO (aE l) s=3 by rw [HS.o,HST.o rfl];rfl);have HY2:=κ (HB.o.trans ((HQ2.o.trans (HQ9.o.mono HQ2.o.size)).mono HB.o.size));go_wp2;go_ret;exact ⟨ri_ HZ.o,HY2.o⟩
              ·go_wp2
               go_roundw
               case rel=>exact ⟨i+1,ac,de,HN.o,HQ9.o⟩
               case measure=>simp [intOf];omega
             ·have hi2:i=LL.length:=ac
              rw [hi2,List.take_length] at ha;have HZ:=κ (show fO (aE l) s=0 by rw [HS.o,ha];rfl);clear hi2 ha hb;go_wp2;go_ret;exact ⟨ri_ HZ.o,HY.o⟩
    ·have HS:=κ (show fO (aE l) s=jB (aE l) s.wh by unfold fO;rw [HD.o,if_neg am,if_neg (λh=>h HE1.o),if_pos hk]);have HY2:=κ (HB.o.trans (HW3.o.mono HB.o.size));generalize jB (aE l) s.wh=E at *;have e1:=kw;have e2:=ku
     clear hk hb3 hW3;go_wp2;go_ret;exact ⟨ri_ HS.o,HY2.o⟩
   ·have HS:=κ (show fO (aE l) s=jB (aE l) s.on by unfold fO;rw [HD.o,if_neg am,if_pos hk]);have HY2:=κ (HB.o.trans (HW2.o.mono HB.o.size));generalize jB (aE l) s.on=E at *;have e1:=kw;have e2:=ku
    clear hk hb2 hW2;go_wp2;go_ret;exact ⟨ri_ HS.o,HY2.o⟩
  ·have HS:=κ (show fO (aE l) s=6 by unfold fO;rw [hdb];rfl);clear hdb hb0;go_wp2;go_ret;exact ⟨ri_ HS.o,HY0.o⟩
