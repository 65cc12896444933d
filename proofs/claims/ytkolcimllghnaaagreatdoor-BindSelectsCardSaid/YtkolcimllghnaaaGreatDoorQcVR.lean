/-
 Contracts. Conditions: those of each.
-/
import Derived.Test.YtkolcimllghnaaaGreatDoorQcVP
import Derived.Test.YtkolcimllghnaaaGreatDoorQcGS
set_option maxRecDepth 100000
set_option maxHeartbeats 16000000
namespace Go.Proofs.YtkolcimllghnaaaGreatDoor
open Lp Go.Proofs.Tryz
open Go.RowKit
variable{xs:List Lp.X}{x:Lp.X}{i:Nat}{q:Option Lp.X}{w:World}
theorem Li:(prog.info? 56).map (λi=>(i.zero,i.size,i.bytes))=some (some (.int .u8 0),1,1):=aj
def Ho (sc:List Tb) (gr:Bool) (xs:List Lp.X):List Int:=xs.map λy=>(aC sc y gr).1
theorem aIL (sc:List Tb) (gr:Bool) (xs:List Lp.X):(Ho sc gr xs).length=xs.length:=by simp [Ho]
theorem aEI (sc:List Tb) (gr:Bool) (h:i<xs.length):kv (Ho sc gr (xs.take i))++[.int .u8 (aC sc xs[i] gr).1]=kv (Ho sc gr (xs.take (i+1))):=by
 rw [List.take_succ_eq_append_getElem h];simp only [kv,Ho,List.map_append,List.map_cons,List.map_nil]
theorem uX (sc:List Tb) (gr:Bool) (h:i<xs.length) (h0:aF sc gr (xs.take i)=0):aF sc gr (xs.take (i+1))=(aC sc xs[i] gr).2:=by
 rw [List.take_succ_eq_append_getElem h,kV _ _ _ _ h0]
theorem Ic (sc:List Tb) (gr:Bool) (h:i<xs.length) (h0:aF sc gr (xs.take i)=0) (h1:(aC sc xs[i] gr).2≠0):aF sc gr xs=(aC sc xs[i] gr).2:=by
 have h2:=uX sc gr h h0;have h3:=mC sc gr (xs.take (i+1)) (xs.drop (i+1)) (by rw [h2];exact h1);rw [List.take_append_drop] at h3;rw [h3,h2]
def Es (A:ZT) (c:Nat) (l:List dW) (x:Lp.X):Prop:=∀ (gr:Bool) (S:Nat->Prop) (w:World) (r:RC),ScA w A l->RX S w x r->Calls prog 38 #[.slice A l.length c,r.val,gr] w (vB (aC (aE l) x gr) w)
theorem fQ {w':World} {p q:Int×Int} (h:p=q) (hb:Below w w w'):vB p w (.returned (.tuple #[.int .u8 q.1,.int .i64 q.2])) w':=by subst h;exact ⟨rfl,hb⟩
theorem Xc (A:ZT) (c:Nat) (l:List dW) (x:Lp.X) (gr gr2:Bool) (hk:dR x≠[]) (hg:iO x=6/\gr=true/\gr2=false\/iO x≠6/\gr2=gr) (hend:EndK x) (S:Nat->Prop) (w:World) (Ar:ZT) (rs:List RC) (hA:ScA w A l) (hp:Pts S w Ar (dR x) rs) (ho:∀ y∈dR x,Es A c l y) :
 Calls prog 38 #[.slice A l.length c,(rcN (iO x) (rU x) Ar (dR x).length).val,gr] w (vB (aC (aE l) x gr) w):=by
 obtain ⟨iK,hiK,hz0,hz1,hz2⟩:=info_parts Li;have hkx:=Xy (aE l) x hk hg;obtain ⟨R,hR0⟩:∃ R,aC (aE l) x gr=R:=da;rw [hR0] at hkx |-;have HKX:=κ hkx;clear hkx hR0;have hn2:=sY x;have HE:=κ hend;have key:∀ G:Bool,G=gr2->∀ y∈dR x,∀ (S:Nat->Prop) (w:World) (r:RC),ScA w A l->RX S w y r->Calls prog 38 #[.slice A l.length c,r.val,G] w (vB (aC (aE l) y gr2) w):=by
  rintro G rfl y hy S w r h1 h2;exact ho y hy G S w r h1 h2
 have HO:=κ key;simp only [RC.val,rcN];have hb0:Below w w (w.alloc (.cells #[.int .u8 (iO x),.int .u8 0,.int .i64 0,(),false,(),.string ⟨(rU x).toArray⟩,.slice Ar (dR x).length (dR x).length] 60)):=ρ;have hz:=heap_alloc_new w (.cells #[.int .u8 (iO x),.int .u8 0,.int .i64 0,(),false,(),.string ⟨(rU x).toArray⟩,.slice Ar (dR x).length (dR x).length] 60);have hc:=β hz;have HB:=κ (ι hb0 (ι hz (ι (hA.below hb0) (hp.below hb0))));have h6:((iO x==6)=true/\gr=true/\gr2=false)\/((iO x==6)=false/\gr2=gr):=by
  rcases hg with ⟨h1,h2,h3⟩|⟨h1,h2⟩
  ·exact .inl ⟨beq_iff_eq.2 h1,h2,h3⟩
  ·exact .inr ⟨η h1,h2⟩
 obtain ⟨xs,hxs⟩:∃ xs,dR x=xs:=da;rw [hxs] at HKX hn2 HO hb0 hz hc HB |-;have HXS:=κ hxs;obtain ⟨k,hkk⟩:∃ k,iO x=k:=da;rw [hkk] at hb0 hz hc HB h6 |-;have HKK:=κ hkk;obtain ⟨op,hop⟩:∃ op,rU x=op:=da;rw [hop] at hb0 hz hc HB |-;have HOP:=κ hop;have hnI:=IV
 clear hb0 hz hA hp hk hg hend ho key hxs hkk hop;go_enter func38,ntmps38;rcases h6 with ⟨h6,rfl,hg2⟩|⟨h6,hg2⟩
 case' inl =>
  have HO2:=κ (HO.o false hg2.symm);clear HO hg2
 case' inr =>
  obtain rfl:gr2=gr:=hg2;have HO2:=κ (HO.o gr2 rfl);clear HO
 all_goals
  go_wp2_with fail;generalize (w.alloc (.cells #[.int .u8 k,.int .u8 0,.int .i64 0,(),false,(),op,.slice Ar xs.length xs.length] 60))=W at *;clear hc
  go_loopw [8,10,11,12,22] (λs8 _ _ _ s22 wr=>∃ (i:Nat) (A8:ZT) (c8:Nat),i<=xs.length/\s22=.int .i64 i/\s8=.slice A8 i c8/\aF (aE l) gr2 (xs.take i)=0/\wr.ownsRow W 56 1 (.slice A8 i c8) i (kv (Ho (aE l) gr2 (xs.take i)))/\Below W W wr) (λ_ _ _ _ s22 _=>xs.length-(intOf s22).toNat)
  case atStart=>exact ⟨0,none,0,Nat.zero_le _,rfl,rfl,rfl,World.ownsRow_nil _ _ _ _,θ⟩
  case round =>
   obtain ⟨i,A8,c8,hi,rfl,rfl,hf,hown,hb⟩:=de;have hkw:=IW
   by_cases hlt:i<xs.length
   ·have HR:=κ (ι hf (ι hown hb));have hpw:=HB.o.2.2.2.below hb;have hri:=IX
    obtain ⟨bR,oR,hAR,q0,q1,q2,q3,q4,q5,q6,q7⟩:=JC;have hrx:=JB;have hok:=HO2.o _ (List.getElem_mem hlt);have HNX:=κ (uX (aE l) gr2 hlt hf);have HST:=κ (Ic (aE l) gr2 hlt hf);have HKS:=κ (aEI (aE l) gr2 hlt);subst hAR;generalize rs[i]=r at *;generalize xs[i]=y at *;obtain ⟨rk,rvk,rvi,rvs,rvb,rt,rs0,rA,rn,rc⟩:=r;have hbx:=IZ;have HC:=κ (hok S _ _ ((HB.o.2.2.1.below hb).below hbx) (RX.below hbx hrx));simp only [RC.val] at HC;have HX:=κ (ι (aN hown hbx) (hb.trans (hbx.mono hb.size)));clear hf hown hb hpw hri hrx hok hbx hkw;go_wp2_with fail;refine μ HC ?_;rintro e w9 ⟨rfl,hb9⟩;have hown9:=aN HX.o.1 hb9;have hb9w:=HX.o.2.trans (hb9.mono HX.o.2.size)
    by_cases h2:(aC (aE l) y gr2).2=0
    ·have HN:=κ (HNX.o.trans h2);have HKS2:=κ HKS.o;have hsz:=hb9w.size;rw [h2];generalize (aC (aE l) y gr2).1=p1 at *;have HY:=κ (ι hown9 hb9w);clear hown9 hb9w hb9 q0 q1 q2 q3 q4 q5 q6 q7 HX HC h2 HST HNX;go_wp2_with (at_builtin;refine bJ _ rfl (.tmp 36) (.tmp 38) _ rfl W 56 iK _ 1 1 underlying185 hiK hz0 hz1 hz2 rfl ac _ _ _ _ rfl (HY.o.1.alloc _) _ 1 1 [.int .u8 p1] rfl rfl (dL _ _ _) JF rf ac bo ?_;intro A4 c4 w4 hown4 hb4 hg4 _);have hb5:=(HY.o.2.alloc hsz _).trans hb4;rw [HKS2.o] at hown4;have HZ:=κ (ι hown4 hb5);clear hown4 hb4 hg4 hb5 HY;go_wp2
     go_roundw
     case rel=>exact ⟨i+1,A4,c4,ac,dg,by trivial,HN.o,HZ.o.1,HZ.o.2⟩
     case measure=>simp [intOf];omega
    ·have HS:=κ (HST.o h2);have e1:((aC (aE l) y gr2).2 !=0)=true:=JV
     have HQ:=κ (HB.o.1.trans (hb9w.mono HB.o.1.size));have HH2:=κ h2;generalize (aC (aE l) y gr2).2=p2 at *;clear hown9 hb9w hb9 q0 q1 q2 q3 q4 q5 q6 q7 HX HC h2 HST HNX HKS;go_wp2;go_ret2;exact fQ (q:=(0,p2)) (by rw [HKX.o,HS.o,if_neg HH2.o]) HQ.o
   ·have hi2:=rl
    subst hi2;rw [List.take_length] at hf hown;have hR:R=Ij x (Ho (aE l) gr2 xs):=by rw [HKX.o,hf];exact if_pos rfl
    have hkl:=aIL (aE l) gr2 xs;generalize Ho (aE l) gr2 xs=ks at *;have hzr:=aA HB.o.2.1 hb;have hc:=β hzr;have HQ:=κ hkw;have HR:=κ hR;have HL:=κ (show ks.length=(dR x).length by rw [HXS.o];exact hkl);have HW:=κ (ι hown hzr);have hal:=λ(q:Int)=>Ta A8 c8 ks q wr (Rds.own hown) ac;rw [hkl] at hal;have HAL:=κ hal;clear hf hb hkw hR hal hlt;rcases HE.o with ⟨h1,h2⟩|⟨hkn,h1,h2⟩|⟨hkn,h1,h2⟩|⟨hkn,h1,h2⟩|⟨hkn,h1,h0,h2⟩|⟨hkn,h1,h0,h2⟩
    ·obtain rfl:k=5:=by rw [<-HKK.o];exact h1
     have HV:=κ (h2 ks);clear h2 HE hkl hown hzr;go_wp2;go_ret2;exact fQ (q:=(3,0)) JW HQ.o
    ·rw [HKK.o] at hkn;rw [HOP.o] at h1;obtain ⟨k1,k2,k5⟩:=hkn;have HV:=κ (h2 ks HL.o);have HC:=κ (HAL.o 3);clear h2 HE hkl hown hzr;generalize Lp.allK ks 3=b at *;rcases h1 with rfl|rfl|rfl
     all_goals
      simp only [fG,lE,uOr] at *;cases b
      all_goals
       go_wp2_with fail;refine μ HC ?_;rintro e w' ⟨rfl,rfl⟩;go_wp2;go_ret2
       first|exact fQ (q:=(3,0)) JX HQ.o|exact fQ (q:=(0,8)) JX HQ.o
    ·rw [HKK.o] at hkn;rw [HOP.o] at h1;obtain ⟨k1,k2,k5⟩:=hkn;have HV:=κ (h2 ks HL.o);have HC:=κ (HAL.o 1);clear h2 HE hkl hown hzr;generalize Lp.allK ks 1=b at *;simp only [List.mem_cons,List.not_mem_nil,or_false] at h1;rcases h1 with rfl|rfl|rfl|rfl|rfl|rfl
     all_goals
      try simp only [dZ] at *
      cases b
      all_goals
       go_wp2_with fail;refine μ HC ?_;rintro e w' ⟨rfl,rfl⟩;go_wp2;go_ret2
       first|exact fQ (q:=(1,0)) JX HQ.o|exact fQ (q:=(0,8)) JX HQ.o
    ·rw [HKK.o] at hkn;rw [HOP.o] at h1;obtain ⟨k1,k2,k5⟩:=hkn;have HV:=κ (h2 ks);subst h1;simp only [aJ] at *;clear h2 HE hkl hown hzr;go_wp2;go_ret2;exact fQ (q:=(1,0)) JW HQ.o
    ·rw [HKK.o] at hkn;rw [HOP.o] at h1;obtain ⟨k1,k2,k5⟩:=hkn;obtain ⟨a,rfl⟩:=Dr (HL.o.trans h0);have HV:=κ (h2 a);obtain ⟨b,off,hA8,q0⟩:=(Rds.own hown).at_ (Nv (l:=[a]) (i:=0) aa);subst hA8;simp only [Nat.add_zero,List.getElem_cons_zero] at q0;have hx1:xs.length=1:=by simpa using hkl.symm
     clear h2 HE hkl hown hzr HAL;rcases h1 with rfl|rfl
     all_goals
      simp only [fT,fX] at *;go_wp2;go_ret2;exact fQ (q:=(a,0)) JW HQ.o
    ·rw [HKK.o] at hkn;rw [HOP.o] at h1;obtain ⟨k1,k2,k5⟩:=hkn;obtain ⟨a,b,rfl⟩:=Jp (HL.o.trans h0);have HV:=κ (h2 a b);obtain ⟨bb,off,hA8,q0⟩:=(Rds.own hown).at_ (Nv (l:=[a,b]) (i:=0) aa);obtain ⟨bb2,off2,hA82,q1⟩:=(Rds.own hown).at_ (Nv (l:=[a,b]) (i:=1) aa);subst hA8;simp only [Option.some.injEq,Addr.mk.injEq,and_true] at hA82;obtain ⟨rfl,rfl⟩:=hA82;simp only [Nat.add_zero,List.getElem_cons_zero,List.getElem_cons_succ] at q0 q1;have hx1:xs.length=2:=by simpa using hkl.symm
     obtain ⟨o1,o2,o3,o4,o5,o6,o7,o8,o9,o10,o11,o12⟩:=Sf op h1;clear h2 HE hkl hown hzr HAL h1;cases e1:(a==0)
     ·have n1:(a !=0)=true:=qu
      cases e2:(b==0)
      ·have n2:(b !=0)=true:=yb
       cases e3:(a==b)
       ·have n3:(a !=b)=true:=qx
        have HT:=κ (show (if a≠0/\b≠0/\a≠b then ((0,8):Int×Int) else (3,0))=(0,8) from if_pos ⟨ne_of_beq_false e1,ne_of_beq_false e2,ne_of_beq_false e3⟩);go_wp2_with fail
        go_region
        go_wp2;go_ret2;exact fQ (q:=(0,8)) JY HQ.o.drew
       ·have n3:(a !=b)=false:=qx
        have HT:=κ (show (if a≠0/\b≠0/\a≠b then ((0,8):Int×Int) else (3,0))=(3,0) from if_neg λh=>h.2.2 (eq_of_beq e3));go_wp2_with fail
        go_region
        go_wp2;go_ret2;exact JZ
      ·have n2:(b !=0)=false:=yb
       have HT:=κ (show (if a≠0/\b≠0/\a≠b then ((0,8):Int×Int) else (3,0))=(3,0) from if_neg λh=>h.2.1 (eq_of_beq e2));go_wp2_with fail
       go_region
       go_wp2;go_ret2;exact JZ
     ·have n1:(a !=0)=false:=qu
      have HT:=κ (show (if a≠0/\b≠0/\a≠b then ((0,8):Int×Int) else (3,0))=(3,0) from if_neg λh=>h.1 (eq_of_beq e1));go_wp2_with fail
      go_region
      go_wp2;go_ret2;exact JZ
theorem yE (A:ZT) (c:Nat) (l:List dW) (hx:x.wf) (hk:dR x≠[]) (ho:∀ y∈dR x,Es A c l y) (h6:iO x≠6):Es A c l x:=by
 intro gr S w r hA hr;obtain ⟨Ar,rs,rfl,hp⟩:=Cz hr hk;exact Xc A c l x gr gr hk (.inr ⟨h6,rfl⟩) (Zd hx hk) S w Ar rs hA hp ho
theorem Xz (A:ZT) (n c:Nat) (r:RC) (hr:r.k=6) (w:World) :
 Calls prog 38 #[.slice A n c,r.val,false] w (vB (0,3) w):=by
 obtain ⟨k,vk,vi,vs,vb,t,s,Ar,rn,rc⟩:=r;simp only at hr;subst hr;have HB:=κ (show Below w w (w.alloc (.cells #[.int .u8 6,.int .u8 vk,vi,vs,vb,t,s,.slice Ar rn rc] 60)) from ρ);simp only [RC.val];go_enter func38,ntmps38;go_wp2;go_ret2;exact ph
theorem rW (A:ZT) (c:Nat) (l:List dW) (hn:l.length<=100) (hw:bY (aE l)<=10000):∀ x:Lp.X,x.wf->Es A c l x:=by
 have nil_ne:=KA
 intro x
 induction x with
 | lit k i s b=>intro _ gr S w r hA hr;obtain rfl:r=rcL k i s b:=hr;exact Lf A c l.length k i s b gr w
 | col t s=>intro _ gr S w r hA hr;obtain rfl:r=rcC t s:=hr;exact Lg A c l t s gr w hA hn hw
 | cnt =>
   intro _ gr S w r hA hr;obtain rfl:r=rc0 6 aJ:=hr;exact Lh A c l.length gr w
 | un op x ih=>intro hx;exact yE A c l hx KD (λy hy=>KB) (by show (3:Int)≠6;decide)
 | isn n x ih=>intro hx;exact yE A c l hx KD (λy hy=>by rw [List.mem_singleton.1 hy];exact ih hx) (by show (5:Int)≠6;decide)
 | bin op a b iha ihb =>
   intro hx;refine yE A c l hx KD (λy hy => ?_) (by show (4:Int)≠6;decide);rcases List.mem_cons.1 hy with rfl|hy
   ·exact iha hx.2.1
   ·rw [List.mem_singleton.1 hy];exact ihb hx.2.2
 | agg op x ih =>
   intro hx gr S w r hA hr;obtain ⟨Ar,rs,rfl,hp⟩:=Cz (x:=.agg op x) hr KD;cases gr
   ·exact Xz A l.length c _ rfl w
   ·exact Xc A c l (.agg op x) true false KD (.inl ⟨rfl,rfl,rfl⟩) (Zd hx KD) S w Ar rs hA hp λy hy=>KB
theorem Fc (A:ZT) (c:Nat) (l:List dW) (x:Lp.X) (r:RC) (g:Nat) (w:World) (hA:ScA w A l) (hn:l.length<=100) (hw:bY (aE l)<=10000) (hx:x.wf) (hg:w.heap[g]? = some (.cells r.cells.toArray 60 (0,0))) (S:Nat->Prop) (hr:RX S w x r) :
 Calls prog 57 #[.slice A l.length c,.slice (some ⟨g,0,none⟩) 1 1] w λe w'=>e=.returned (.int .i64 (tS (aE l) x))/\Below w w w':=by
 obtain ⟨rk,rvk,rvi,rvs,rvb,rt,rs,rA,rn,rc⟩:=r;have hbx:Below w w (w.alloc (.cells #[.int .u8 rk,.int .u8 rvk,rvi,rvs,rvb,rt,rs,.slice rA rn rc] 60)):=ρ;have HC:=κ (rW A c l hn hw x hx false S _ _ (hA.below hbx) (RX.below hbx hr));simp only [RC.val] at HC;have hc:=β hg;simp only [RC.cells] at hc;have HB:=κ hbx;have HT:=κ (show tS (aE l) x=if (aC (aE l) x false).2=0 then (if fitK (aC (aE l) x false).1 3 then 0 else 8) else (aC (aE l) x false).2 from rfl);generalize aC (aE l) x false=p at *;obtain ⟨p1,p2⟩:=p;generalize tS (aE l) x=E at *;clear hA hn hw hx hg hr hbx;go_enter func57,ntmps57;go_wp2_with fail
 go_loopw [6,7,8,11] (λ_ _ _ s11 wr=>(s11=.int .i64 0/\w=wr)\/(s11=.int .i64 1/\E=0/\Below w w wr)) (λ_ _ _ s11 _=>1-(intOf s11).toNat)
 case atStart=>exact .inl ⟨rfl,rfl⟩
 case round =>
  rcases hrel with ⟨rfl,rfl⟩|⟨rfl,hE,hb⟩
  ·go_wp2_with fail;refine μ HC ?_;rintro e w2 ⟨rfl,hb2⟩;have HQ:=tu
   by_cases h2:p2=0
   ·subst h2;cases e1:(p1==0)
    ·have n1:(p1 !=0)=true:=qu
     cases e2:(p1==3)
     ·have n2:(p1 !=3)=true:=yb
      have HE:=κ (show E=8 by rw [HT.o];simp [fitK,e1,e2]);clear hb2 hc HT;go_wp2;go_ret;exact KF
     ·have n2:(p1 !=3)=false:=yb
      have HE:=κ (show E=0 by rw [HT.o];simp [fitK,e2]);clear hb2 hc HT;go_wp2
      go_roundw
      case rel=>exact .inr ⟨dg,HE.o,HQ.o⟩
      case measure=>simp [intOf]
    ·have n1:(p1 !=0)=false:=qu
     have HE:=κ (show E=0 by rw [HT.o];simp [fitK,e1]);clear hb2 hc HT;go_wp2
     go_roundw
     case rel=>exact .inr ⟨dg,HE.o,HQ.o⟩
     case measure=>simp [intOf]
   ·have e1:(p2 !=0)=true:=JV
    have HE:=κ (show E=p2 by rw [HT.o];exact if_neg h2);clear hb2 hc HT h2;go_wp2;go_ret;exact KF
  ·have HE:=κ hE;have HQ:=dn;clear hE hb hc;go_wp2;go_ret;exact KF
theorem Cs (A:ZT) (n c:Nat) (w:World):Calls prog 57 #[.slice A n c,.slice none 0 0] w λe w'=>e=.returned (.int .i64 0)/\Below w w w':=by
 go_enter func57,ntmps57;go_wp2_with fail
 go_loopw [6,7,8,11] (λ_ _ _ s11 wr=>s11=.int .i64 0/\Below w w wr) (λ_ _ _ _ _=>0)
 case atStart=>exact ⟨rfl,θ⟩
 case round =>
  obtain ⟨rfl,hb⟩:=de;go_wp2;go_ret;exact ja
theorem Fb (A:ZT) (c:Nat) (l:List dW) (o:Option Lp.X) (u:Value) (w:World) (S:Nat->Prop) (hA:ScA w A l) (hn:l.length<=100) (hw:bY (aE l)<=10000) (hx:∀ x,o=some x->x.wf) (hu:OXR S w o u) :
 Calls prog 57 #[.slice A l.length c,u] w λe w'=>e=.returned (.int .i64 (jB (aE l) o))/\Below w w w':=by
 cases o with
 | none =>
   rw [show u=.slice none 0 0 from hu];exact Cs A l.length c w
 | some x =>
   obtain ⟨g,rr,rfl, -,h2,h3⟩:=hu;exact Fc A c l x rr g w hA hn hw (hx x rfl) h2 S h3
theorem Wr {s:ByteArray} {k:Nat} (h:k<s.size):quo (s.data.toList.take (k+1))=quo (s.data.toList.take k)++(if s[k]'h=39 then [39,39] else [s[k]'h]):=by
 rw [iV s k h,Wp]
theorem Dk (s:ByteArray) (k:Nat):(quo (s.data.toList.take k)).length<=2*s.size:=by
 rw [Dm];have h1:=List.count_le_length (a:=(39:UInt8)) (l:=s.data.toList.take k);have h2:(s.data.toList.take k).length<=s.size:=by
  rw [List.length_take];have:s.data.toList.length=s.size:=jy
  omega
 omega
theorem Oi (T:ZS):(T:ByteArray)++(⟨#[39]⟩:ByteArray)=⟨(T++[39]).toArray⟩:=zC T [39]
theorem Wc (k i:Int) (s:ByteArray) (b:Bool) (w:World) (hi:inR i) (hs:s.size<=1000000) :
 Calls prog 92 #[.agg #[.int .u8 k,.int .i64 i,s,b]] w λe w'=>e=.returned (.string ⟨(Lp.lit ⟨k,i,s,b⟩).toArray⟩)/\Below w w w':=by
 have hb0:=rx;rcases Yh k with rfl|rfl|rfl|hk
 ·have e:Lp.lit ⟨1,i,s,b⟩=Lib.itoa i:=rfl;rw [e];clear e;have HI:=κ hi;clear hi;go_enter func92,ntmps92;go_wp2_with fail;refine (Gj _ _ HI.o).mono ?_;rintro e w' ⟨rfl,rfl⟩;go_wp2;go_ret;exact ⟨rfl,hb0⟩
 ·have e:(⟨(Lp.lit ⟨2,i,s,b⟩).toArray⟩:ByteArray)=⟨(([39]++quo s.data.toList)++[39]).toArray⟩:=rfl;rw [e];clear e;obtain ⟨R,hR⟩:∃ R:ByteArray,(⟨(([39]++quo s.data.toList)++[39]).toArray⟩:ByteArray)=R:=da;rw [hR];have HR:=κ hR;clear hR;go_enter func92,ntmps92;go_wp2_with fail
  go_loop [3,4] (λs3 s4=>∃ (k:Nat) (T:ZS),k<=s.size/\s4=.int .i64 k/\s3=.string ⟨T.toArray⟩/\Hd0 ([39]++quo (s.data.toList.take k)=T)/\T.length<=2*s.size+1) (λ_ s4=>s.size-(intOf s4).toNat)
  case atStart=>exact ⟨0,[39],Nat.zero_le _,rfl,rfl,rfl,aa⟩
  case round =>
   obtain ⟨k,T,hk,rfl,rfl,HT,hTl⟩:=de
   by_cases hlt:k<s.size
   ·have hN:=Wr hlt;have hTl2:=Dk s (k+1);have hca:=aJE T s k hlt
    by_cases hq:s[k]'hlt=39
    ·have hc:(s[k]'hlt).toNat=39:=by rw [hq];rfl
     have HT2:Hd0 ([39]++quo (s.data.toList.take (k+1))=T++[s[k]'hlt,39]):=by
      show _=_;rw [hN,if_pos hq, <-HT.o,hq];simp
     have hl2:(T++[s[k]'hlt,39]).length<=2*s.size+1:=by
      rw [<-HT2.o];simp;omega
     have hl1:T.length+1+1<=2*s.size+1:=by simpa using hl2
     have hc1:=Oi (T++[s[k]'hlt]);have h0:(0:Int)<=(k:Int):=ac
     have h1:(k:Int)<(s.size:Int):=ac
     have HQ:=fa;clear hq hN hTl2 HT;go_wp2
     go_round
     case rel=>exact ⟨k+1,_,ac,dg,rfl,HT2,hl2⟩
     case measure=>simp [intOf];omega
    ·have hc:(((s[k]'hlt).toNat:Int)==39)=false:=by
      rw [beq_eq_false_iff_ne];intro g;exact hq (UInt8.toNat_inj.1 KG)
     have HT2:Hd0 ([39]++quo (s.data.toList.take (k+1))=T++[s[k]'hlt]):=by
      show _=_;rw [hN,if_neg hq, <-HT.o];simp
     have hl2:(T++[s[k]'hlt]).length<=2*s.size+1:=by
      rw [<-HT2.o];simp;omega
     have hl1:T.length+1<=2*s.size+1:=by simpa using hl2
     have HQ:=fa;clear hq hN hTl2 HT;go_wp2
     go_round
     case rel=>exact ⟨k+1,_,ac,dg,rfl,HT2,hl2⟩
     case measure=>simp [intOf];omega
   ·obtain rfl:k=s.size:=ac
    have HT2:Hd0 ([39]++quo s.data.toList=T):=by have:=HT.o;rw [kM] at this;exact this
    have hc1:=Oi T;clear HT;go_wp2;go_ret;exact ⟨congrArg (λx=>Ending.returned (.string x)) (by rw [<-HR.o,HT2.o]),hb0⟩
 ·cases b
  ·go_enter func92,ntmps92;go_wp2;go_ret;exact ⟨rfl,hb0⟩
  ·go_enter func92,ntmps92;go_wp2;go_ret;exact ⟨rfl,hb0⟩
 ·rw [aGU hk];obtain ⟨h1,h2,h3⟩:=hk;go_enter func92,ntmps92;go_wp2;go_ret;exact ⟨rfl,hb0⟩
def tT:List Tb:=[⟨[116],[⟨[97],1⟩,⟨[98],2⟩]⟩]
theorem aBX (w:World):Calls prog 61 #[] w λe w'=>∃ g,e=.returned (.slice (some ⟨g,0,none⟩) 1 1)/\ScM w' (some ⟨g,0,none⟩) tT/\Below w w w':=by
 have hb0:Below w w (w.alloc (.cells #[.string ⟨#[97]⟩,.int .u8 1,.string ⟨#[98]⟩,.int .u8 2] 116)):=ρ;have hb1:Below w w ((w.alloc (.cells #[.string ⟨#[97]⟩,.int .u8 1,.string ⟨#[98]⟩,.int .u8 2] 116)).alloc (.cells #[.string ⟨#[116]⟩,.slice (some ⟨w,0,none⟩) 2 2] 50)):=hb0.alloc aa _;have hx0:=aB (heap_alloc_new w (.cells #[.string ⟨#[97]⟩,.int .u8 1,.string ⟨#[98]⟩,.int .u8 2] 116)) (.cells #[.string ⟨#[116]⟩,.slice (some ⟨w,0,none⟩) 2 2] 50);have hx1:=bG w (.cells #[.string ⟨#[97]⟩,.int .u8 1,.string ⟨#[98]⟩,.int .u8 2] 116) (.cells #[.string ⟨#[116]⟩,.slice (some ⟨w,0,none⟩) 2 2] 50);have hS:ScM ((w.alloc (.cells #[.string ⟨#[97]⟩,.int .u8 1,.string ⟨#[98]⟩,.int .u8 2] 116)).alloc (.cells #[.string ⟨#[116]⟩,.slice (some ⟨w,0,none⟩) 2 2] 50)) (some ⟨w+1,0,none⟩) tT:=by
  refine ⟨[(⟨[116],[⟨[97],1⟩,⟨[98],2⟩]⟩,some ⟨w,0,none⟩,2)],rfl,aS _ hx1, ?_⟩;intro p hp;rw [List.mem_singleton] at hp;subst hp;exact aS _ hx0
 have HR:=κ (ι hS hb1);clear hb0 hb1 hx0 hx1 hS;go_enter func61,ntmps61;go_wp2;go_ret;exact ⟨_,rfl,HR.o.1,HR.o.2⟩
def Aj (q:Option Lp.X):ByteArray:=match q with
 | none=>⟨#[]⟩
 | some x=>if (aC tT x false).2=0 then shB tT x else ⟨#[]⟩
def Ak (q:Option Lp.X):Int:=match q with
 | none=>4
 | some x=>(aC tT x false).2
theorem Jc:bY tT<=10000:=am
theorem aAU (h:q=none):Aj q=⟨#[]⟩/\Ak q=4:=by subst h;exact ⟨rfl,rfl⟩
theorem aFV (h:q=some x) (hk:¬(aC tT x false).2=0):Aj q=⟨#[]⟩/\Ak q=(aC tT x false).2:=by
 subst h;exact ⟨if_neg hk,rfl⟩
theorem aFU (h:q=some x) (hk:(aC tT x false).2=0):Aj q=shB tT x/\Ak q=0:=by
 subst h;exact ⟨if_pos hk,hk⟩
theorem aFT (s:ByteArray) (w:World) (hT:eQ w) (hR:Resv w) (hL:LitT w) :
 Calls prog 23 #[s] w λe w'=>e=.returned (.tuple #[.string (Aj (eN (s.data.toList.take 600))),.int .i64 (Ak (eN (s.data.toList.take 600)))])/\Below w w w':=by
 have HC:=κ (Aa s w hT hR);have HL:=κ hL;have hok:∀ x,eN (s.data.toList.take 600)=some x->x.wf/\x.size<=2000:=λx h=>Zv xf h;have HO:=κ hok;generalize hq:eN (s.data.toList.take 600)=q at *;clear hT hR hL hok hq;go_enter func23,ntmps23;go_wp2_with fail;refine μ HC ?_;rintro e w1 ⟨hb1,hc⟩;cases q with
 | none =>
   obtain ⟨⟨k,vk,vi,vs,vb,tt,ss,A,nn,c⟩,rfl⟩:=hc;have HB:=κ hb1;obtain ⟨q1,q2⟩:=aAU (q:=none) rfl;have Q1:=κ q1;have Q2:=κ q2;simp only [RC.val];clear hb1 HC q1 q2;go_wp2;go_ret2;exact ⟨QC,HB.o.alloc HB.o.size _⟩
 | some x =>
   obtain ⟨T,g,⟨k,vk,vi,vs,vb,tt,ss,A,nn,c⟩,rfl,hp, -⟩:=hc;have hw:=HO.o x rfl;simp only [RC.val];have hba:=yv;have HP:=κ (PX.mono (Nat.zero_le _) (PX.keep (aP hba) hp));have HB:=κ (hb1.trans (hba.mono hb1.size));have HW:=κ hw;clear hp hba hb1 HC hw;go_wp2_with fail;refine (aBX _).mono ?_;rintro e w2 ⟨g2,rfl,hS,hb2⟩;have HB2:=tu;have HE:=κ (tJ (some ⟨g2,0,none⟩) 1 tT false x (.iface T g) w2 am Jc HW.o.1 (PX.keep (aP hb2) HP.o) hS);clear hS hb2 HP HB;go_wp2_with fail;refine μ HE ?_;rintro e w3 ⟨hb3,hr⟩;have HB3:=κ (HB2.o.trans (hb3.mono HB2.o.size))
   by_cases hk:(aC tT x false).2=0
   ·rw [if_pos hk] at hr;obtain ⟨g3,rfl,hnt⟩:=hr;have HSh:=κ (pE tT Jc x HW.o.1 (by have:=HW.o.2;omega) _ w3 w3 g3 hnt (HL.o.below HB3.o) (θ));obtain ⟨q1,q2⟩:=aFU rfl hk;have Q1:=κ q1;have Q2:=κ q2;clear hnt hb3 HB2 HE hk q1 q2;go_wp2_with fail;refine μ HSh ?_;rintro e w4 ⟨rfl,hb4⟩;have HB4:=κ (HB3.o.trans (hb4.mono HB3.o.size));clear hb4;go_wp2;go_ret2;exact ⟨QC,HB4.o⟩
   ·rw [if_neg hk] at hr;subst hr;obtain ⟨q1,q2⟩:=aFV rfl hk;have Q1:=κ q1;have Q2:=κ q2;clear hb3 HB2 HE hk q1 q2;generalize (aC tT x false).2=E at *;go_wp2_with fail;refine (Us _).mono ?_;rintro e w4 ⟨rfl,rfl⟩;go_wp2;go_ret2;exact ⟨QC,HB3.o⟩
theorem aFD:eN [97,32,43,32,49]=some (.bin [43] (.col [] [97]) (.lit 1 1 [] false)):=aj
theorem aFC:eN [98,32,43,32,49]=some (.bin [43] (.col [] [98]) (.lit 1 1 [] false)):=aj
theorem aJB:eN [120]=some (.col [] [120]):=aj
theorem Zs:eN [83,85,77,40,97,41]=some (.agg dZ (.col [] [97])):=aj
theorem aKU:Aj (eN [97,32,43,32,49])=⟨#[40,35,48,32,43,32,49,41]⟩/\Ak (eN [97,32,43,32,49])=0:=by
 rw [aFD];have h0:Lib.itoa 0=[48]:=by
  have:=Lib.decDigits_one (i:=0) am;show (if (0:Int)<0 then _ else Lib.decDigits (0:Int).toNat)=_;rw [if_neg am];exact ah
 have h1:Lib.itoa 1=[49]:=by
  have:=Lib.decDigits_one (i:=1) am;show (if (1:Int)<0 then _ else Lib.decDigits (1:Int).toNat)=_;rw [if_neg am];exact ah
 have hf:dX tT [] [97]=some (0,1):=am
 have hk:aC tT (.bin [43] (.col [] [97]) (.lit 1 1 [] false)) false=(1,0):=am
 refine ⟨?_, ?_⟩
 ·unfold Aj;simp only [hk,if_true];apply kF;simp [shB,aO,atX,hf,h0,rV,Lp.lit,h1]
 ·unfold Ak;simp only [hk]
theorem aLQ:Ak (eN [98,32,43,32,49])=8:=by rw [aFC];decide
theorem aLP:Ak (eN [120])=6:=by rw [aJB];decide
theorem aLO:Ak (eN [83,85,77,40,97,41])=3:=by rw [Zs];decide
theorem tL (s:ByteArray) (l:ZS) (T:ByteArray) (E:Int) (hl:s.data.toList.take 600=l) (h1:Aj (eN l)=T) (h2:Ak (eN l)=E) {W:World} (hT:eQ w) (hR:Resv w) (hL:LitT w) (hb:Below w w W) :
 Calls prog 23 #[s] W λe w'=>e=.returned (.tuple #[T,.int .i64 E])/\Below w w w':=by
 subst h1 h2 hl;exact (aFT s W (aQ hT hb) (cC hR hb) (hL.below hb)).mono λe w' h=>⟨h.1,hb.trans (h.2.mono hb.size)⟩
theorem aFS (w:World) (hT:eQ w) (hR:Resv w) (hL:LitT w) :
 Calls prog 5 #[] w λe w'=>e=.returned (.bool true)/\Below w w w':=by
 have H1:=κ (λ(W:World) (hb:Below w w W)=>tL ⟨#[97,32,43,32,49]⟩ _ _ _ rfl aKU.1 aKU.2 hT hR hL hb);have H2:=κ (λ(W:World) (hb:Below w w W)=>tL ⟨#[98,32,43,32,49]⟩ _ _ _ rfl rfl aLQ hT hR hL hb);have H3:=κ (λ(W:World) (hb:Below w w W)=>tL ⟨#[120]⟩ _ _ _ rfl rfl aLP hT hR hL hb);have H4:=κ (λ(W:World) (hb:Below w w W)=>tL ⟨#[83,85,77,40,97,41]⟩ _ _ _ rfl rfl aLO hT hR hL hb);generalize Aj (eN [98,32,43,32,49])=T2 at *;generalize Aj (eN [120])=T3 at *;generalize Aj (eN [83,85,77,40,97,41])=T4 at *;clear hT hR hL;go_enter func5,ntmps5;go_wp2_with fail;refine (H1.o _ (θ)).mono ?_;rintro e w1 ⟨rfl,hb1⟩;go_wp2_with fail;refine (H2.o _ hb1).mono ?_;rintro e w2 ⟨rfl,hb2⟩;go_wp2_with fail;refine (H3.o _ hb2).mono ?_;rintro e w3 ⟨rfl,hb3⟩;go_wp2_with fail;refine (H4.o _ hb3).mono ?_;rintro e w4 ⟨rfl,hb4⟩;go_wp2;go_ret;exact ⟨rfl,hb4⟩
