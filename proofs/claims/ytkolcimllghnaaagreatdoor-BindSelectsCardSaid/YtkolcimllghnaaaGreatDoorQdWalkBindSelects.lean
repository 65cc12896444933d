/-
 Contracts. Conditions: those of each.
-/
import Derived.Test.YtkolcimllghnaaaGreatDoorQdWR
import Derived.Test.YtkolcimllghnaaaGreatDoorQdQS
import Derived.Test.YtkolcimllghnaaaGreatDoorQdVT
set_option maxRecDepth 100000
set_option maxHeartbeats 40000000
namespace Go.Proofs.YtkolcimllghnaaaGreatDoor
open Lp Go.Proofs.Tryz
open Go.RowKit
theorem Vh (A:ZT) (c:Nat) (la:List dW) (s:ByteArray) (w:World) (hA:ScA w A la) (hT:eQ w) (hR:Resv w) (hL:LitT w) :
 Calls prog 4 #[.slice A la.length c,s] w λe w'=>e=.returned (.bool true)∧Below w w w':=by
 have HA:=κ (aFS w hT hR hL);have HT:=κ (ι hT (ι hR hL));have HS:=κ hA;have hfs:=yQ s;have HOK:=κ (aCA (l:=(vL s).data.toList) (by rw [yR];simp;omega));clear hT hR hL hA;go_enter func4,ntmps4;go_wp2_with fail;refine μ HA ?_;rintro e w1 ⟨rfl,hb1⟩;go_wp2_with fail;refine (Fv A c la 2 am w1 (HS.o.below hb1)).mono ?_;rintro e w2 hsc0;obtain ⟨A1,n1,c1,A2,c2,ok,rfl,hb2,hsc⟩:=aHT hsc0;have hB:=hb1.trans (hb2.mono hb1.size);have HB:=κ hB;have HSC:=κ hsc;clear hsc0 hb1 hb2 hsc hB HA HS;go_wp2_with fail;refine (nT s w2).mono ?_;rintro e w' ⟨rfl,rfl⟩;have HP:=κ (aDD (vL s) w2 (aQ HT.o.1 HB.o) (cC HT.o.2.1 HB.o) ac);go_wp2_with fail;refine μ HP ?_;rintro e w3 hp;obtain ⟨v,e1,rfl,hb3,hpk⟩:=aDB hp;have HPK:=κ hpk;have HB3:=κ hb3;have HR3:=κ (Vt (vL s) w3 ac);clear hp hpk hb3 HP;go_wp2_with fail;refine (nT s w3).mono ?_;rintro e w' ⟨rfl,rfl⟩;go_wp2_with fail;refine μ HR3 ?_;rintro e w4 ⟨hb4,cs,f1,hc,rfl,hq⟩;have HQ:=mi;obtain ⟨k,s1,s2,s3,A4,n4,c4,A5,n5,c5,A6,n6,c6,A7,n7,c7,A8,n8,c8,A9,n9,c9,A10,n10,c10,A11,n11,c11,li,rfl⟩:=nE hc;have hbx:Below w4 w4 (w4.alloc (.cells #[.int .u8 k,s1,s2,s3,.slice A4 n4 c4,.slice A5 n5 c5,.slice A6 n6 c6,.slice A7 n7 c7,.slice A8 n8 c8,.slice A9 n9 c9,.slice A10 n10 c10,.slice A11 n11 c11,.int .i64 li] 38)):=ρ;have hk3:=hb4.trans (hbx.mono hb4.size);have hk2:=HB3.o.trans (hk3.mono HB3.o.size)
 have HZ:=κ (ι (HB.o.trans (hk2.mono HB.o.size)) (ι (heap_alloc_new w4 (.cells #[.int .u8 k,s1,s2,s3,.slice A4 n4 c4,.slice A5 n5 c5,.slice A6 n6 c6,.slice A7 n7 c7,.slice A8 n8 c8,.slice A9 n9 c9,.slice A10 n10 c10,.slice A11 n11 c11,.int .i64 li] 38)) (ι hk2 (ι hk3 hbx))));clear hc hq hb4 hbx hk3 hk2 HR3 hfs;generalize Ka (vL s).data.toList=q at *;generalize vL s=fs at *;go_upto_region 6 with fail
 by_cases h1:ok=true
 case neg =>
  obtain rfl:ok=false:=fu
  go_wp2;go_ret;exact PW
 subst h1
 by_cases h2:e1=0
 case neg =>
  have x1:(e1 !=0)=true:=GG
  clear h2;go_wp2;go_ret;exact PW
 subst h2
 by_cases h3:f1=0
 case neg =>
  have x1:(f1 !=0)=true:=by rw [bne,η h3];rfl
  clear h3;go_wp2;go_ret;exact PW
 subst h3;have hpk:=(HPK.o rfl).below HZ.o.2.2.2.1;rcases q with _|(s|_)
 ·exact hpk.elim
 case some.oth =>
  obtain ⟨k',hk8,hk0⟩:=HQ.o rfl;obtain rfl:k=k':=by simpa using hk0
  have x1:(k !=8)=true:=by rw [bne,η hk8];rfl
  have y:=β HZ.o.2.1;clear hpk hk0 hk8;go_wp2;go_ret;exact PW
 obtain ⟨l,rfl,hS1,hS2,hok⟩:=HSC.o rfl;obtain ⟨-,hfl⟩:=HQ.o;obtain rfl:k=8:=by have:=hfl 0 _ rfl;injection this
 obtain ⟨e10,rg0,hrg0⟩:=Yt (show GR (λ_=>True) w4 s.group (.slice A10 n10 c10) from hfl 10 _ rfl);obtain ⟨e11,tr0,htr0⟩:=aGS (show PR (λ_=>True) w4 (orL s) (.slice A11 n11 c11) from hfl 11 _ rfl);rw [orL,List.length_map] at e11;obtain rfl:li=s.limit:=by have:=hfl 12 _ rfl;injection this
 subst e10 e11
 by_cases h4:l.length=0
 ·have y:=β HZ.o.2.1;have y0:((l.length:Int)==0)=true:=by rw [h4];rfl
  clear hpk h4;go_wp2;go_ret;exact PW
 have y0:((l.length:Int)==0)=false:=gf
 have hb0:=HZ.o.1;have hz0:=HZ.o.2.1;have hwx:=HZ.o.2.2.2.2;have HL:=κ (HT.o.2.2.below hb0);have HI:=κ (ι (hS1.below HZ.o.2.2.1) (ι (hS2.below HZ.o.2.2.1) hok));have HF:=κ (λj u hj=>(hfl j u hj).turn (w':=(w4.alloc (.cells #[.int .u8 8,s1,s2,s3,.slice A4 n4 c4,.slice A5 n5 c5,.slice A6 n6 c6,.slice A7 n7 c7,.slice A8 n8 c8,.slice A9 n9 c9,.slice A10 s.group.length c10,.slice A11 s.order.length c11,.int .i64 s.limit] 38))) (S':=λ_=>True) λg _ hl=>⟨trivial,hwx.block g hl⟩);have HSO:=κ (show SelOk s from HOK.o);have HW:=OU;have HYR:=κ (ι (hrg0.below hwx) (ι (htr0.1.below hwx) htr0.2));clear h4 hS1 hS2 HSC HPK HB HB3 HT HZ HQ HOK hfl hrg0 htr0 hb0 hok;have hc0:=sw;generalize (w4.alloc (.cells #[.int .u8 8,s1,s2,s3,.slice A4 n4 c4,.slice A5 n5 c5,.slice A6 n6 c6,.slice A7 n7 c7,.slice A8 n8 c8,.slice A9 n9 c9,.slice A10 s.group.length c10,.slice A11 s.order.length c11,.int .i64 s.limit] 38))=W at *;obtain ⟨g,zs,rfl,hzb,hzc⟩:=hpk;have HZ:=κ (ι hzb hzc);clear hzb hzc hwx hz0;go_upto_region 8 with fail
 go_cut [69] (λs69 wx=>wx=W∧∃ b,s69=.bool b)
 case first =>
  go_wp2
  go_meet
  exact qy
 case rest =>
  obtain ⟨rfl,b,rfl⟩:=sn;clear hc0;cases b
  case true =>
   go_wp2;go_ret;exact ⟨rfl,HW.o.1⟩
  have ta:=λwq=>aJT g wq;have HSel:=κ (show Calls prog 17 #[.slice A1 l.length c1,g] wc (Jk (aE l) s wc) from by
   have:=aAJ A1 c1 (aE l) g zs s wc HI.o.1.scm HI.o.2.2 HZ.o.1 HZ.o.2 (Fu HSO.o);rwa [pG] at this)
  generalize wc=W at *;go_wp2_with fail;refine μ HSel ?_;rintro e W2 hq2;obtain ⟨hb2,v2,rfl,hv0,hv1⟩:=aKI hq2;have HV:=κ (ι hb2 (ι hv0 hv1));have hln2:l.length≤2:=by have:=HI.o.2.2.1;rwa [pG] at this
  have hli17:(aY (aE l) s).length≤30:=by
   have h1:=lW HI.o.2.2;have h2:=HSO.o.itm.2;unfold aY
   split<;>omega
  have hlo17:s.order.length≤10:=by have:=HSO.o.ord.2;omega
  have HRS:=κ (λ(Wq:World) (hq:Below W W Wq)=>Kl A2 c2 l s _ Wq (HI.o.2.1.below hq) HI.o.2.2 PY (λj u hj=>(HF.o j u hj).turn (w':=Wq) (S':=λ_=>True) λg _ hl=>⟨trivial,hq.block g hl⟩) hli17 hlo17 (Fu HSO.o) (Aq HSO.o));have hc2:=β (aA HW.o.2 hb2);have HW2:=κ (HW.o.1.trans (hb2.mono HW.o.1.size));clear hq2 hb2 hv0 hv1 HSel ta;go_wp2_with fail;refine (HRS.o W2 HV.o.1).mono ?_;rintro e W3 ⟨rfl,hb3⟩;have hb23:=HV.o.1.trans (hb3.mono HV.o.1.size);have HW3:=κ (HW.o.1.trans (hb23.mono HW.o.1.size));have HB23:=κ (ι hb23 hb3);clear hb3 hb23 hc2
  by_cases hE:fO (aE l) s=0
  case neg =>
   obtain rfl:=HV.o.2.1 hE;generalize fO (aE l) s=E at *;have x1:(E !=0)=true:=by rw [bne,η hE];rfl
   clear hE;go_wp2;go_ret;exact ⟨rfl,HW3.o⟩
  obtain ⟨q,An,cn,Bi,ci,on,wh,Ag,cg,Ao,co,Ad,cd,gi,gg,go,rfl,hqv⟩:=HV.o.2.2 hE;rw [hE];have HQV:=κ (hqv.below HB23.o.2);have hc3:=β (aA HW.o.2 HB23.o.1);have HIt:=κ (λ(Wq:World) (hq:Below W W Wq)=>pS A2 c2 l s _ Wq (HI.o.2.1.below hq) HI.o.2.2 PY (λj u hj=>(HF.o j u hj).turn (w':=Wq) (S':=λ_=>True) λg _ hl=>⟨trivial,hq.block g hl⟩));have HGr:=κ (λ(Wq:World) (hq:Below W W Wq)=>rJ A2 c2 l s _ Wq (HI.o.2.1.below hq) HI.o.2.2 PY (λj u hj=>(HF.o j u hj).turn (w':=Wq) (S':=λ_=>True) λg _ hl=>⟨trivial,hq.block g hl⟩) hli17 hlo17);clear hqv hE HV HRS HW2;go_wp2_with fail;refine (HIt.o W3 HB23.o.1).mono ?_;rintro e W4 ⟨⟨u,rfl,hpr⟩,hb4⟩;obtain ⟨Ai,cI,pr,rfl,hpr2⟩:=hpr;have hpr3:PR (λ_=>True) W4 (jR (aY (aE l) s)) (.slice Ai (jR (aY (aE l) s)).length cI):=⟨Ai,cI,pr,rfl,hpr2⟩;obtain ⟨-,tr,htr,htr2⟩:=aGS hpr3;have hnI:(jR (aY (aE l) s)).length=(aY (aE l) s).length:=by rw [jR,List.length_map]
  rw [hnI];have hb14:=HB23.o.1.trans (hb4.mono HB23.o.1.size);have HB4:=κ hb14;have HW4:=κ (HW.o.1.trans (hb14.mono HW.o.1.size));have hqv4:=HQV.o.below hb4;have HQ4:=κ (ι hqv4.bx (ι hqv4.on_ (ι hqv4.wh_ (ι hqv4.nm_ (ι hqv4.it_ (ι hqv4.gr_ (ι hqv4.or_ hqv4.ds_)))))));have HTI:=κ (ι htr htr2);have hxI:∀ p∈aY (aE l) s,p.1.wf∧p.1.size≤10000:=λp hp=>⟨Fh HI.o.2.2 HSO.o p hp,Aq HSO.o _ (.inr (List.mem_append_left _ (List.mem_map_of_mem hp)))⟩;have HXI:=κ hxI;have hq9:=hqv4.bx;have hy13:=aA HW.o.2 hb14;clear hqv4 hb4 hb14 hpr2 hpr3 htr htr2 hnI hc3 HQV HIt hxI;generalize hII:aY (aE l) s=II at *;generalize hnI:II.length=nI at *;have HnI:=κ hnI;clear hII hnI;go_upto_region 19 with fail;refine aKH _ _ W4 q w4 _ A2 l.length c2 rfl rfl rfl hq9 8 s1 s2 s3 A4 A5 A6 A7 A8 A9 A10 A11 Ai An Bi Ag Ao Ad n4 c4 n5 c5 n6 c6 n7 c7 n8 c8 n9 c9 s.group.length c10 s.order.length c11 nI cI cn ci cg co cd s.limit (mL (aE l) s) rfl rfl rfl rfl rfl rfl rfl rfl rfl hy13 (λWq hq=>HGr.o Wq (HB4.o.trans (hq.mono HB4.o.size))) ?_;intro y W5 hy hb45;have H45:=κ hb45;clear hb45 hq9 hy13 HGr;simp only [mT,dT,gX,gY,hy];have HS0:=H45;have hn100:l.length≤100:=ac
  have hwd:bY (aE l)≤10000:=by have:=lW HI.o.2.2;rw [gI] at this;omega
  have hgI:(s.group.length:Int)≤10:=by have:=HSO.o.grp.2;omega
  have hoI:(s.order.length:Int)≤10:=ac
  have hnII:(nI:Int)≤30:=ac
  have HYR4:=κ (ι (HYR.o.1.below HB4.o) (ι (HYR.o.2.1.below HB4.o) HYR.o.2.2));have HXG:=κ (λx (hx:x∈s.group)=>ι (HSO.o.grp.1 x hx).1 (show x.size≤10000 by have:=(HSO.o.grp.1 x hx).2;omega));have HXO:=κ (λp (hp:p∈s.order)=>ι (HSO.o.ord.1 p hp).1 (show p.1.size≤10000 by have:=(HSO.o.ord.1 p hp).2;omega));clear HYR;go_wp2_with fail
  go_loopw [17,18,171] (λ_ _ s171 wr=>∃ i:Nat,i≤nI∧s171=.int .i64 i∧Below W4 W4 wr) (λ_ _ s171 _=>nI-(intOf s171).toNat)
  case atStart=>exact ⟨0,Nat.zero_le _,rfl,HS0.o⟩
  case round =>
   obtain ⟨i,hi,rfl,hb⟩:=dd
   by_cases hlt:i<nI
   ·have hiI:i<II.length:=by rw [HnI.o];exact hlt
    have hLs:i<(jR II).length:=by rw [jR,List.length_map];exact hiI
    have hLt:i<((jR II).map (·.1)).length:=by rw [List.length_map];exact hLs
    have htr:=HTI.o.1.below hb;have hit:i<tr.length:=by rw [htr.1];exact hLt
    obtain ⟨bR,oR,hAR,hrx,q0,q1,q2,q3,q4,q5,q6,q7,q8,q9⟩:=Fe htr hit hLt;have e2:=HTI.o.2 i hLs hit;rw [show ((jR II).map (·.1))[i]=II[i].1 by simp [jR]] at hrx;rw [show (jR II)[i].2=(II[i].2,false) by simp [jR]] at e2;have hn1:(II.map nmV)[i]? = some (nmV II[i]):=by rw [List.getElem?_map,List.getElem?_eq_getElem hiI];rfl
    obtain ⟨bN,oN,hAN,zn⟩:=(HQ4.o.2.2.2.1.below hb).at_ hn1;have hgi:i<gi.length:=by rw [NTs.length HQ4.o.2.2.2.2.1.2];rw [List.length_map];exact hiI
    obtain ⟨bI,oI,hAbI,zi⟩:=(HQ4.o.2.2.2.2.1.1.below hb).at_ (show (gi.map ptr)[i]? = some (ptr gi[i]) by rw [List.getElem?_map,List.getElem?_eq_getElem hgi];rfl);unfold ptr at zi;have hnt:=(Ds HQ4.o.2.2.2.2.1.2 (by rw [List.length_map];exact hiI) hgi).below hb;rw [List.getElem_map] at hnt;have hxo:=HXI.o _ (List.getElem_mem hiI);clear hn1;generalize II[i]=p at *;generalize gi[i]=gk at *;generalize tr[i]=t at *;obtain ⟨x,nmq⟩:=p;obtain ⟨⟨rk,rvk,rvi,rvs,rvb,rt,rs0,rA,rn,rc⟩,nm,ds⟩:=t;simp only [Prod.mk.injEq] at e2;obtain ⟨rfl,rfl⟩:=e2;simp only [nmV] at hrx q0 q1 q2 q3 q4 q5 q6 q7 q8 q9 zn hxo hnt;subst hAR hAN hAbI;have hbP:Below wr wr (wr.alloc (.cells #[.int .u8 rk,.int .u8 rvk,rvi,rvs,rvb,rt,rs0,.slice rA rn rc,nm,false] 72)):=ρ;have hz:=heap_alloc_new wr (.cells #[.int .u8 rk,.int .u8 rvk,rvi,rvs,rvb,rt,rs0,.slice rA rn rc,nm,false] 72);have HX:=KW;have HAS:=κ (λ(Wq:World) (hq:Below (wr.alloc (.cells #[.int .u8 rk,.int .u8 rvk,rvi,rvs,rvb,rt,rs0,.slice rA rn rc,nm,false] 72)) (wr.alloc (.cells #[.int .u8 rk,.int .u8 rvk,rvi,rvs,rvb,rt,rs0,.slice rA rn rc,nm,false] 72)) Wq)=>(HI.o.2.1.below (HB4.o.trans (HX.o.mono HB4.o.size))).below hq)
    have H1:=κ (λ(Wq:World) (hq:Below (wr.alloc (.cells #[.int .u8 rk,.int .u8 rvk,rvi,rvs,rvb,rt,rs0,.slice rA rn rc,nm,false] 72)) (wr.alloc (.cells #[.int .u8 rk,.int .u8 rvk,rvi,rvs,rvb,rt,rs0,.slice rA rn rc,nm,false] 72)) Wq)=>pE (aE l) hwd x hxo.1 hxo.2 _ _ Wq gk (hnt.below hbP) (HL.o.below (HB4.o.trans (HX.o.mono HB4.o.size))) hq);have H2:=κ (λ(Wq:World) (hq:Below (wr.alloc (.cells #[.int .u8 rk,.int .u8 rvk,rvi,rvs,rvb,rt,rs0,.slice rA rn rc,nm,false] 72)) (wr.alloc (.cells #[.int .u8 rk,.int .u8 rvk,rvi,rvs,rvb,rt,rs0,.slice rA rn rc,nm,false] 72)) Wq)=>jT A2 c2 l hn100 hwd x hxo.1 hxo.2 _ Wq _ (HAS.o Wq hq) ((hrx.below hbP).below hq));simp only [RC.val] at H2;unfold ptr at H1;have H3:=κ (λ(Wq:World) (hq:Below (wr.alloc (.cells #[.int .u8 rk,.int .u8 rvk,rvi,rvs,rvb,rt,rs0,.slice rA rn rc,nm,false] 72)) (wr.alloc (.cells #[.int .u8 rk,.int .u8 rvk,rvi,rvs,rvb,rt,rs0,.slice rA rn rc,nm,false] 72)) Wq)=>Le hxo.1 ((hrx.below hbP).below hq) nm false);have hqP:=aA (aA HQ4.o.1 hb) hbP;have ziP:=bW zi hbP;have znP:=bW zn hbP;have y:=β hz
    clear hb hbP hrx hnt hxo zi zn;go_upto_region 24 with fail;refine aKF _ _ _ q wr _ A2 l.length c2 rfl rfl rfl hqP i nI cn ci gk bN oN bI oI _ _ nm rk rvk rvi rvs rvb rt rs0 rA rn rc false hlt rfl rfl rfl rfl ziP znP hz H1.o H2.o H3.o ?_;intro y w8 hy hb8;have HEnd:=PZ;clear hb8 H1 H2 H3 HAS hqP hz ziP znP;simp only [mT,dT,gX,gY,hy];go_wp2
    go_roundw
    case rel=>exact ⟨i+1,ac,de,HEnd.o⟩
    case measure=>simp [intOf];omega
   ·have HS1:=dm;have y:=β (aA (aA HW.o.2 HB4.o) hb);clear hb HS0;have HS0:=HS1;clear HS1;generalize wr=wo at *;go_wp2_with fail
    go_loopw [19,20,205] (λ_ _ s205 wr=>∃ i:Nat,i≤s.group.length∧s205=.int .i64 i∧Below W4 W4 wr) (λ_ _ s205 _=>s.group.length-(intOf s205).toNat)
    case atStart=>exact ⟨0,Nat.zero_le _,rfl,HS0.o⟩
    case round =>
     obtain ⟨i,hi,rfl,hb⟩:=dd
     by_cases hlt:i<s.group.length
     ·have hpw:=HYR4.o.1.below hb;have hri:i<rg0.length:=IM
      obtain ⟨bR,oR,hAR,q0,q1,q2,q3,q4,q5,q6,q7⟩:=GD;have hrx:=GC;have hgi:i<gg.length:=by rw [NTs.length HQ4.o.2.2.2.2.2.1.2];exact hlt
      obtain ⟨bI,oI,hAbI,zi⟩:=(HQ4.o.2.2.2.2.2.1.1.below hb).at_ (show (gg.map ptr)[i]? = some (ptr gg[i]) by rw [List.getElem?_map,List.getElem?_eq_getElem hgi];rfl);unfold ptr at zi;have hnt:=(Ds HQ4.o.2.2.2.2.2.1.2 hlt hgi).below hb;have hxo:=HXG.o _ (List.getElem_mem hlt);generalize s.group[i]=x at *;generalize gg[i]=gk at *;generalize rg0[i]=t at *;obtain ⟨rk,rvk,rvi,rvs,rvb,rt,rs0,rA,rn,rc⟩:=t;simp only at hrx q0 q1 q2 q3 q4 q5 q6 q7;subst hAR hAbI;have hbP:=GA;have hz:=IE;have HX:=KW;have HAS:=κ (λ(Wq:World) (hq:Below (wr.alloc (.cells #[.int .u8 rk,.int .u8 rvk,rvi,rvs,rvb,rt,rs0,.slice rA rn rc] 60)) (wr.alloc (.cells #[.int .u8 rk,.int .u8 rvk,rvi,rvs,rvb,rt,rs0,.slice rA rn rc] 60)) Wq)=>(HI.o.2.1.below (HB4.o.trans (HX.o.mono HB4.o.size))).below hq)
      have H1:=κ (λ(Wq:World) (hq:Below (wr.alloc (.cells #[.int .u8 rk,.int .u8 rvk,rvi,rvs,rvb,rt,rs0,.slice rA rn rc] 60)) (wr.alloc (.cells #[.int .u8 rk,.int .u8 rvk,rvi,rvs,rvb,rt,rs0,.slice rA rn rc] 60)) Wq)=>pE (aE l) hwd x hxo.1 hxo.2 _ _ Wq gk (hnt.below hbP) (HL.o.below (HB4.o.trans (HX.o.mono HB4.o.size))) hq);have H2:=κ (λ(Wq:World) (hq:Below (wr.alloc (.cells #[.int .u8 rk,.int .u8 rvk,rvi,rvs,rvb,rt,rs0,.slice rA rn rc] 60)) (wr.alloc (.cells #[.int .u8 rk,.int .u8 rvk,rvi,rvs,rvb,rt,rs0,.slice rA rn rc] 60)) Wq)=>jT A2 c2 l hn100 hwd x hxo.1 hxo.2 _ Wq _ (HAS.o Wq hq) ((hrx.below hbP).below hq));simp only [RC.val] at H2;unfold ptr at H1;have hqP:=aA (aA HQ4.o.1 hb) hbP;have ziP:=bW zi hbP;have y:=β hz;clear hb hbP hrx hnt hxo zi;go_upto_region 30 with fail;refine aKE _ _ _ q wr _ A2 l.length c2 rfl rfl rfl hqP i s.group.length cg gk bI oI _ rk rvk rvi rvs rvb rt rs0 rA rn rc hlt rfl rfl rfl ziP hz H1.o H2.o ?_;intro y w8 hy hb8;have HEnd:=PZ;clear hb8 H1 H2 HAS hqP hz ziP;simp only [mT,dT,gX,gY,hy];go_wp2
      go_roundw
      case rel=>exact ⟨i+1,ac,de,HEnd.o⟩
      case measure=>simp [intOf];omega
     ·have HS1:=dm;have y:=β (aA (aA HW.o.2 HB4.o) hb);clear hb HS0;have HS0:=HS1;clear HS1;generalize wr=wo at *;go_wp2_with fail
      go_loopw [21,22,226] (λ_ _ s226 wr=>∃ i:Nat,i≤s.order.length∧s226=.int .i64 i∧Below W4 W4 wr) (λ_ _ s226 _=>s.order.length-(intOf s226).toNat)
      case atStart=>exact ⟨0,Nat.zero_le _,rfl,HS0.o⟩
      case round =>
       obtain ⟨i,hi,rfl,hb⟩:=dd
       by_cases hlt:i<s.order.length
       ·have hLs:i<(orL s).length:=by rw [orL,List.length_map];exact hlt
        have hLt:i<((orL s).map (·.1)).length:=by rw [List.length_map];exact hLs
        have htr:=HYR4.o.2.1.below hb;have hit:i<tr0.length:=by rw [htr.1];exact hLt
        obtain ⟨bR,oR,hAR,hrx,q0,q1,q2,q3,q4,q5,q6,q7,q8,q9⟩:=Fe htr hit hLt;have e2:=HYR4.o.2.2 i hLs hit;rw [show ((orL s).map (·.1))[i]=s.order[i].1 by simp [orL]] at hrx;rw [show (orL s)[i].2=([],s.order[i].2) by simp [orL]] at e2;have hn1:(s.order.map λp=>Value.bool p.2)[i]? = some (.bool s.order[i].2):=by rw [List.getElem?_map,List.getElem?_eq_getElem hlt];rfl
        obtain ⟨bN,oN,hAN,zn⟩:=(HQ4.o.2.2.2.2.2.2.2.below hb).at_ hn1;have hgi:i<go.length:=by rw [NTs.length HQ4.o.2.2.2.2.2.2.1.2];rw [List.length_map];exact hlt
        obtain ⟨bI,oI,hAbI,zi⟩:=(HQ4.o.2.2.2.2.2.2.1.1.below hb).at_ (show (go.map ptr)[i]? = some (ptr go[i]) by rw [List.getElem?_map,List.getElem?_eq_getElem hgi];rfl);unfold ptr at zi;have hnt:=(Ds HQ4.o.2.2.2.2.2.2.1.2 (by rw [List.length_map];exact hlt) hgi).below hb;rw [List.getElem_map] at hnt;have hxo:=HXO.o _ (List.getElem_mem hlt);clear hn1;generalize s.order[i]=p at *;generalize go[i]=gk at *;generalize tr0[i]=t at *;obtain ⟨x,bd⟩:=p;obtain ⟨⟨rk,rvk,rvi,rvs,rvb,rt,rs0,rA,rn,rc⟩,nm,ds⟩:=t;simp only [Prod.mk.injEq] at e2;obtain ⟨rfl,rfl⟩:=e2;simp only at hrx q0 q1 q2 q3 q4 q5 q6 q7 q8 q9 zn hxo hnt;subst hAR hAN hAbI;have hbP:Below wr wr (wr.alloc (.cells #[.int .u8 rk,.int .u8 rvk,rvi,rvs,rvb,rt,rs0,.slice rA rn rc,.string ⟨[].toArray⟩,ds] 72)):=ρ;have hz:=heap_alloc_new wr (.cells #[.int .u8 rk,.int .u8 rvk,rvi,rvs,rvb,rt,rs0,.slice rA rn rc,.string ⟨[].toArray⟩,ds] 72);have HX:=KW;have HAS:=κ (λ(Wq:World) (hq:Below (wr.alloc (.cells #[.int .u8 rk,.int .u8 rvk,rvi,rvs,rvb,rt,rs0,.slice rA rn rc,.string ⟨[].toArray⟩,ds] 72)) (wr.alloc (.cells #[.int .u8 rk,.int .u8 rvk,rvi,rvs,rvb,rt,rs0,.slice rA rn rc,.string ⟨[].toArray⟩,ds] 72)) Wq)=>(HI.o.2.1.below (HB4.o.trans (HX.o.mono HB4.o.size))).below hq)
        have H1:=κ (λ(Wq:World) (hq:Below (wr.alloc (.cells #[.int .u8 rk,.int .u8 rvk,rvi,rvs,rvb,rt,rs0,.slice rA rn rc,.string ⟨[].toArray⟩,ds] 72)) (wr.alloc (.cells #[.int .u8 rk,.int .u8 rvk,rvi,rvs,rvb,rt,rs0,.slice rA rn rc,.string ⟨[].toArray⟩,ds] 72)) Wq)=>pE (aE l) hwd x hxo.1 hxo.2 _ _ Wq gk (hnt.below hbP) (HL.o.below (HB4.o.trans (HX.o.mono HB4.o.size))) hq);have H2:=κ (λ(Wq:World) (hq:Below (wr.alloc (.cells #[.int .u8 rk,.int .u8 rvk,rvi,rvs,rvb,rt,rs0,.slice rA rn rc,.string ⟨[].toArray⟩,ds] 72)) (wr.alloc (.cells #[.int .u8 rk,.int .u8 rvk,rvi,rvs,rvb,rt,rs0,.slice rA rn rc,.string ⟨[].toArray⟩,ds] 72)) Wq)=>jT A2 c2 l hn100 hwd x hxo.1 hxo.2 _ Wq _ (HAS.o Wq hq) ((hrx.below hbP).below hq));simp only [RC.val] at H2;unfold ptr at H1;have hqP:=aA (aA HQ4.o.1 hb) hbP;have ziP:=bW zi hbP;have znP:=bW zn hbP;have y:=β hz;clear hb hbP hrx hnt hxo zi zn;go_upto_region 36 with fail;refine aKC _ _ _ q wr _ A2 l.length c2 rfl rfl rfl hqP i s.order.length co cd gk bN oN bI oI _ ⟨[].toArray⟩ rk rvk rvi rvs rvb rt rs0 rA rn rc ds hlt rfl rfl rfl rfl ziP znP hz H1.o H2.o ?_;intro y w8 hy hb8;have HEnd:=PZ;clear hb8 H1 H2 HAS hqP hz ziP znP;simp only [mT,dT,gX,gY,hy];go_wp2
        go_roundw
        case rel=>exact ⟨i+1,ac,de,HEnd.o⟩
        case measure=>simp [intOf];omega
       ·have hq9:=aA HQ4.o.1 hb;have hy13:=aA (aA HW.o.2 HB4.o) hb;have HBW:=dm;have O1:=κ (λ(Wq:World) (hq:Below wr wr Wq)=>aGO (w:=Wq) (W:=Wq) hwd (λx h=>⟨(HSO.o.on x h).1,show x.size≤10000 by have:=(HSO.o.on x h).2;omega⟩) (HQ4.o.2.1.turn (Turn.below (hb.trans (hq.mono hb.size)))) (HL.o.below (HB4.o.trans ((hb.trans (hq.mono hb.size)).mono HB4.o.size))) (Below.refl _ Wq));have O2:=κ (λ(Wq:World) (hq:Below wr wr Wq)=>aGO (w:=Wq) (W:=Wq) hwd (λx h=>⟨(HSO.o.wh x h).1,show x.size≤10000 by have:=(HSO.o.wh x h).2;omega⟩) (HQ4.o.2.2.1.turn (Turn.below (hb.trans (hq.mono hb.size)))) (HL.o.below (HB4.o.trans ((hb.trans (hq.mono hb.size)).mono HB4.o.size))) (Below.refl _ Wq));have P1:=κ (λ(Wq:World) (hq:Below wr wr Wq)=>Na A2 c2 l s.on (.slice A8 n8 c8) Wq (λ_=>True) (HI.o.2.1.below (HB4.o.trans ((hb.trans (hq.mono hb.size)).mono HB4.o.size))) hn100 hwd (λx h=>⟨(HSO.o.on x h).1,show x.size≤10000 by have:=(HSO.o.on x h).2;omega⟩) (OXR.turn (w':=Wq) (S':=λ_=>True) (λg _ hl=>⟨trivial,(HB4.o.trans ((hb.trans (hq.mono hb.size)).mono HB4.o.size)).block g hl⟩) (HF.o 8 _ rfl)))
        have P2:=κ (λ(Wq:World) (hq:Below wr wr Wq)=>Na A2 c2 l s.wh (.slice A9 n9 c9) Wq (λ_=>True) (HI.o.2.1.below (HB4.o.trans ((hb.trans (hq.mono hb.size)).mono HB4.o.size))) hn100 hwd (λx h=>⟨(HSO.o.wh x h).1,show x.size≤10000 by have:=(HSO.o.wh x h).2;omega⟩) (OXR.turn (w':=Wq) (S':=λ_=>True) (λg _ hl=>⟨trivial,(HB4.o.trans ((hb.trans (hq.mono hb.size)).mono HB4.o.size)).block g hl⟩) (HF.o 9 _ rfl)));go_upto_region 39 with fail;refine aKB _ _ _ q w4 _ A2 l.length c2 rfl rfl rfl hq9 8 s1 s2 s3 A4 A5 A6 A7 A8 A9 A10 A11 n4 c4 n5 c5 n6 c6 n7 c7 n8 c8 n9 c9 s.group.length c10 s.order.length c11 s.limit on wh _ _ rfl rfl rfl hy13 O1.o P1.o O2.o P2.o ?_;intro y z w9 hz hb9;subst hz;have HEnd:=κ (HW4.o.trans ((HBW.o.trans (hb9.mono HBW.o.size)).mono HW4.o.size));clear hb hb9 hq9 hy13 O1 O2 P1 P2;simp only [mT,dT,gX,gY];go_wp2;go_ret;exact ⟨rfl,HEnd.o⟩
