/-
 Contracts. Conditions: those of each.
-/
import Derived.Test.YtkolcimllghnaaaGreatDoorQdGP
import Derived.Test.YtkolcimllghnaaaGreatDoorQdVP
set_option maxRecDepth 100000
set_option maxHeartbeats 8000000
namespace Go.Proofs.YtkolcimllghnaaaGreatDoor
open Lp Go.Proofs.Tryz
open Go.RowKit
variable{sc:List Tb}{g:Nat}{w:World}
def mJ (bad:Int) (l:ZW):Bool:=decide (bad=0)&&isF eI l
def aGG (P:Nat) (w:World) (n most d:Nat) (bad:Int) (l:ZW) (e:Ending) (w':World):Prop :=
 But P w w'∧if mJ bad l=true then (if most≤n∧0<l.tail.length then e=.returned (.bool false)∧RS w' P l.tail d 2 else e=.returned (.bool true)∧RS w' P l.tail d 0) else e=.returned (.bool false)∧RS w' P l d bad
theorem xX (P d:Nat) (bad:Int) (n most:Nat) (l:ZW) (w:World) (h:RS w P l d bad) :
 Calls prog 84 #[P,.int .i64 n,.int .i64 most] w (aGG P w n most d bad l):=by
 have HP:=κ (aH P d bad l ⟨#[44]⟩ w h (mJ bad l) rfl);have HB:=κ (λ(hc:mJ bad l=true)=>(show bad=0 from by unfold mJ at hc;simp at hc;exact hc.1));clear h;cases hc:mJ bad l
 ·rw [hc] at HP;have HC:=κ hc;clear hc HB;go_enter func84,ntmps84;go_wp2_with fail;refine μ HP ?_;rintro e w1 ⟨rfl,hb1,hp1⟩;have H1:=rj;clear hb1 hp1 HP;go_wp2;go_ret;refine ⟨H1.o.1, ?_⟩;rw [HC.o];exact ⟨rfl,H1.o.2⟩
 ·rw [hc] at HP;obtain rfl:=HB.o hc;have HC:=κ hc;clear hc HB;go_enter func84,ntmps84;go_wp2_with fail;refine μ HP ?_;rintro e w1 ⟨rfl,hb1,hp1⟩;simp only [if_true] at hp1;have H1:=rj;obtain ⟨A,c,i,h1,h2,h3⟩:=hp1;have c0:w1.cell? ⟨P,0,none⟩=some (.slice A (i+l.tail.length) c):=β h1 0;have c1:w1.cell? ⟨P,1,none⟩=some (.int .i64 (i:Nat)):=β h1 1;have c3:w1.cell? ⟨P,3,none⟩=some (.int .i64 0):=β h1 3;obtain ⟨m,hm2⟩:∃ m,l.tail.length=m:=cw;have HM:=κ hm2;rw [hm2] at c0 h3;clear hb1 h1 h2 HP hm2
  by_cases hnm:most≤n
  ·have e1:((most:Int)≤(n:Int)):=ac
   have e2:decide ((most:Int)≤(n:Int))=true:=bl
   by_cases hz:0<m
   ·have e3:((i:Int)<((i+m:Nat):Int)):=ac
    have e4:decide ((i:Int)<((i+m:Nat):Int))=true:=bl
    have HF:=κ (λw' (hd:RS w' P l.tail d 0)=>fH P d 0 2 l.tail w' hd);have e5:(i:Int)<(i:Int)+(m:Int):=ac
    have e6:0<m:=hz;go_wp2_with fail;go_quiet (fail);go_wp2_with fail;have hd:=EC;refine (HF.o _ (H1.o.2.drawn hd)).mono ?_;rintro e w2 ⟨rfl,hb2,hp2⟩;have H2:=κ (ι (H1.o.1.trans (hd.but.trans hb2)) hp2);obtain ⟨A2,c2,i2,k1,_,_⟩:=hp2;have c4:w2.cell? ⟨P,3,none⟩=some (.int .i64 2):=β k1 3;clear hb2 k1 hd c0 c1 c3;go_wp2;go_ret;refine ⟨H2.o.1, ?_⟩;rw [if_pos HC.o,if_pos ⟨hnm,by rw [HM.o];exact hz⟩];exact ⟨rfl,H2.o.2⟩
   ·have e3:decide ((i:Int)<((i+m:Nat):Int))=false:=bl
    have e4:¬((i:Int)<(i:Int)+(m:Int)):=ac
    have e5:¬(0<m):=hz;go_wp2_with fail;go_quiet (fail);have hd:=EC;have H2:=EE;have c4:=ED;clear hd;go_wp2;go_ret;refine ⟨H2.o.1, ?_⟩;rw [if_pos HC.o,if_neg (by rw [HM.o];omega)];exact ⟨rfl,H2.o.2⟩
  ·have e1:decide ((most:Int)≤(n:Int))=false:=bl
   go_wp2_with fail;go_quiet (fail);have hd:=EC;have H2:=EE;have c4:=ED;clear hd;go_wp2;go_ret;refine ⟨H2.o.1, ?_⟩;rw [if_pos HC.o,if_neg ac];exact ⟨rfl,H2.o.2⟩
def Hy (l:List (Nat×Int)):Int:=match l.getLast? with
 | none => -1
 | some p=>(p.1:Int)
theorem Rq (l:List (Nat×Int)) (a:Nat) (k:Int):Hy (l++[(a,k)])=(a:Int):=by simp [Hy]
theorem Bb (l:List dW) {i:Nat} (h:i<l.length):aE (l.take (i+1))=aE (l.take i)++[(l[i]).1]:=by
 unfold aE;rw [List.take_succ_eq_append_getElem h,List.map_append];rfl
theorem Yv {t s:ZS} {HL:List (Nat×Int)} {TN:Nat} (h:gT t s 0 sc=HL) (ht:fV t sc=TN):atX sc t s=if HL.length=1∧(t=[]∨TN=1) then Hy HL else -1:=by
 unfold atX dX;rw [h,ht]
 split
 ·rename_i hn
  split at hn
  ·rename_i hc
   rw [if_pos hc];unfold Hy;rw [hn]
  ·rename_i hc
   rw [if_neg hc]
 ·rename_i p hn
  split at hn
  ·rename_i hc
   rw [if_pos hc];unfold Hy;rw [hn]
  ·cases hn
theorem Bf (A:ZT) (c:Nat) (l:List dW) (t s:ZS) (w:World) (hA:ScA w A l) (hn:l.length≤100) (hw:bY (aE l)≤10000) :
 Calls prog 16 #[.slice A l.length c,t,s] w λe w'=>e=.returned (.int .i64 (atX (aE l) t s))∧Below w w w':=by
 have HA:=κ hA;have HW:=κ hw;have hnI:=jo
 clear hA hw;go_enter func16,ntmps16;go_wp2_with fail
 go_loopw [7,8,9,10,18] (λs7 s8 s9 s10 s18 wr=>∃ i:Nat,i≤l.length∧s18=.int .i64 i∧s7=.int .i64 (Hy (gT t s 0 (aE (l.take i))))∧s8=.int .i64 ((gT t s 0 (aE (l.take i))).length:Nat)∧s9=.int .i64 (fV t (aE (l.take i)):Nat)∧s10=.int .i64 (bY (aE (l.take i)):Nat)∧Below w w wr) (λ_ _ _ _ s18 _=>l.length-(intOf s18).toNat)
 case atStart=>exact ⟨0,Nat.zero_le _,rfl,rfl,rfl,rfl,rfl,θ⟩
 case round =>
  obtain ⟨i,hi,rfl,rfl,rfl,rfl,rfl,hb⟩:=dd;have HB:=dm
  by_cases hlt:i<l.length
  ·obtain ⟨bT,oT,hAT,q0,q1⟩:=qK ((HA.o.below hb).1) hlt;have hok:=(HA.o.below hb).2 _ (List.getElem_mem hlt);have hT1:=Bb l hlt;have hwd:bY (aE (l.take (i+1)))≤10000:=by
    have:=nJ (aE l) (i+1);rw [show (aE l).take (i+1)=aE (l.take (i+1)) from EF] at this;have:=HW.o;omega
   have hwd0:=EG
   have htn:fV t (aE (l.take i))≤100:=by
    have:=List.length_filter_le (jJ t) (aE (l.take i));rw [show (aE (l.take i)).length=(l.take i).length from by simp [aE],List.length_take] at this;unfold fV;omega
   have hhn:(gT t s 0 (aE (l.take i))).length≤bY (aE (l.take i)):=yJ t s 0 _;have hh1:gT t s 0 (aE (l.take (i+1)))=gT t s 0 (aE (l.take i))++(if jJ t (l[i]).1 then cJ s (bY (aE (l.take i))) (l[i]).1.cs else []):=by rw [hT1,uJ,Nat.zero_add]
   have hh2:fV t (aE (l.take (i+1)))=fV t (aE (l.take i))+(if jJ t (l[i]).1 then 1 else 0):=by rw [hT1,wW]
   generalize gT t s 0 (aE (l.take i))=HL at *;generalize fV t (aE (l.take i))=TN at *;generalize bY (aE (l.take i))=ND at *;generalize (l[i])=p at *;obtain ⟨⟨tn,cs⟩,At,ct⟩:=p;simp only at q0 q1 hok hwd0 hh1 hh2;subst hAT;have hcsI:=jr
   have hNI:(ND:Int)+(cs.length:Int)≤10000:=ac
   have hTI:(TN:Int)≤100:=ac
   have hHI:(HL.length:Int)≤(ND:Int):=ac
   have hbT:=EI;have x2:=EH;have HT:=κ (ι (hok.2.1.below hbT) (ι (hb.trans (hbT.mono hb.size)) (heap_alloc_new wr (.cells #[tn,.slice At cs.length ct] 52))));have HH:=κ (ι hh1 (ι hh2 hwd0));clear hok hT1 hwd hwd0 htn hhn hh1 hh2 hb hbT;cases hh:jJ t ⟨tn,cs⟩
   ·have e1:=js
    have e2:=jt
    have HH2:=HH.o;rw [hh] at HH2;simp only [φ,if_false,List.append_nil,Nat.add_zero] at HH2;have HG:=κ HH2;clear HH HH2 hh;go_wp2_with fail;generalize (wr.alloc (.cells #[tn,.slice At cs.length ct] 52))=W1 at *;clear x2 q0 q1 e1 e2
    go_loopw [7,8,10,36] (λs7 s8 s10 s36 wq=>∃ j:Nat,j≤cs.length∧s36=.int .i64 j∧s7=.int .i64 (Hy HL)∧s8=.int .i64 (HL.length:Nat)∧s10=.int .i64 ((ND+j:Nat):Int)∧Below W1 W1 wq) (λ_ _ _ s36 _=>cs.length-(intOf s36).toNat)
    case atStart=>exact ⟨0,Nat.zero_le _,rfl,rfl,rfl,rfl,θ⟩
    case round =>
     obtain ⟨j,hj,rfl,rfl,rfl,rfl,hbq⟩:=dd
     by_cases hjl:j<cs.length
     ·obtain ⟨bC,oC,hAC,r0,r1⟩:=kE (HT.o.1.below hbq) hjl;subst hAC;generalize (cs[j]).k=kc at *;generalize (⟨(cs[j]).n.toArray⟩:ByteArray)=nc at *;have hjI:=ju
      have HQ:=κ (hbq.trans ((θ).alloc (ν _) (.cells #[nc,.int .u8 kc] 116) |>.mono hbq.size));clear hbq;go_wp2
      go_roundw
      case rel=>exact ⟨j+1,ac,de,rfl,rfl,de,HQ.o⟩
      case measure=>simp [intOf];omega
     ·have hj2:=jz
      subst hj2;have HQ:=EJ;clear hbq hj hjl;go_wp2
      go_roundw
      case rel=>exact ⟨i+1,ac,de,EK,EK,by rw [HG.o.2.1],by rw [HG.o.2.2],HQ.o⟩
      case measure=>simp [intOf];omega
   ·have hee:((t==[])=true)∨((t==[])=false∧(tn==t)=true):=by
     unfold jJ at hh;rcases Bool.eq_false_or_eq_true (t==[]) with h|h
     ·exact .inl h
     ·rw [h] at hh;exact .inr ⟨h,by simpa using hh⟩
    have HH2:=HH.o;rw [hh] at HH2;simp only [if_true] at HH2;have HG:=κ HH2;clear HH HH2 hh;rcases hee with e1|⟨e1,e2⟩
    all_goals
     go_wp2_with fail;generalize (wr.alloc (.cells #[tn,.slice At cs.length ct] 52))=W1 at *;clear x2 q0 q1 e1
     go_loopw [7,8,10,36] (λs7 s8 s10 s36 wq=>∃ j:Nat,j≤cs.length∧s36=.int .i64 j∧s7=.int .i64 (Hy (HL++cJ s ND (cs.take j)))∧s8=.int .i64 ((HL++cJ s ND (cs.take j)).length:Nat)∧s10=.int .i64 ((ND+j:Nat):Int)∧Below W1 W1 wq) (λ_ _ _ s36 _=>cs.length-(intOf s36).toNat)
     case atStart=>exact ⟨0,Nat.zero_le _,rfl,bt,bt,rfl,θ⟩
     case round =>
      obtain ⟨j,hj,rfl,rfl,rfl,rfl,hbq⟩:=dd
      by_cases hjl:j<cs.length
      ·obtain ⟨bC,oC,hAC,r0,r1⟩:=kE (HT.o.1.below hbq) hjl;subst hAC;have hstep:=Is s ND cs hjl;have hlen:(HL++cJ s ND (cs.take j)).length≤20000:=by
        have h1:=qV s ND (cs.take j);rw [List.length_take] at h1;rw [List.length_append];omega
       obtain ⟨HJ,hHJ⟩:∃ HJ,HL++cJ s ND (cs.take j)=HJ:=cw;have hlen2:(HJ.length:Int)≤20000:=by rw [<-hHJ];omega
       generalize (cs[j])=cj at *;obtain ⟨cn,ck⟩:=cj;simp only at r0 r1 hstep;have hjI:=ju
       have hNJ:(ND:Int)+(j:Int)≤10000:=ac
       have hbC:=jw;have q2:=jv;have HQ:=κ (hbq.trans (hbC.mono hbq.size));have HSt:=jy;rw [hHJ];clear hbq hbC hstep hlen hHJ;cases e3:(cn==s)
       ·rw [e3] at HSt;simp only [φ,if_false,List.append_nil] at HSt;go_wp2
        go_roundw
        case rel=>exact ⟨j+1,ac,de,by rw [HSt.o],by rw [HSt.o],de,HQ.o⟩
        case measure=>simp [intOf];omega
       ·rw [e3] at HSt;simp only [if_true] at HSt;go_wp2
        go_roundw
        case rel=>exact ⟨j+1,ac,de,by rw [HSt.o,Rq],by rw [HSt.o];simp,de,HQ.o⟩
        case measure=>simp [intOf];omega
      ·have hj2:=jz
       subst hj2;have HQ:=EJ;rw [List.take_length];clear hbq hj hjl;go_wp2
       go_roundw
       case rel=>exact ⟨i+1,ac,de,EK,EK,by rw [HG.o.2.1];go_num,by rw [HG.o.2.2],HQ.o⟩
       case measure=>simp [intOf];omega
  ·have hi2:=ka
   rw [hi2,List.take_length];obtain ⟨HL,hHL⟩:∃ HL,gT t s 0 (aE l)=HL:=cw;obtain ⟨TN,hTN⟩:∃ TN,fV t (aE l)=TN:=cw;have hF:=Yv hHL hTN;rw [hHL,hTN];have HF:=κ hF;clear hi2 hb hF hHL hTN HA HW hlt hi
   by_cases hN:HL.length=1
   ·have n1:((HL.length:Int)==1)=true:=by rw [hN];rfl
    have n2:((HL.length:Int) !=1)=false:=kb
    by_cases hOk:t=[]∨TN=1
    ·have HR:=κ (HF.o.trans (if_pos ⟨hN,hOk⟩));have hee:((t==[])=true∧(t != [])=false)∨((t==[])=false∧(t != [])=true∧((TN:Int)==1)=true∧((TN:Int) !=1)=false):=by
      by_cases ht:t=[]
      ·subst ht;exact .inl ⟨rfl,rfl⟩
      ·have e1:(t==[])=false:=η ht;have e4:TN=1:=by rcases hOk with h|h;exact absurd h ht;exact h
       subst e4;exact .inr ⟨e1,kf,rfl,rfl⟩
     clear hOk hN HF;rcases hee with ⟨e1,e2⟩|⟨e1,e2,e3,e4⟩
     all_goals
      go_wp2;go_ret;exact EL
    ·have HR:=κ (HF.o.trans (if_neg (λh=>hOk h.2)));have ht:t≠[]:=λh=>hOk (.inl h);have hT:TN≠1:=λh=>hOk (.inr h);have e1:(t==[])=false:=η ht;have e2:(t != [])=true:=kf
     have e3:((TN:Int)==1)=false:=gf
     have e4:((TN:Int) !=1)=true:=kh
     clear hOk hN ht hT HF;go_wp2;go_ret;exact EL
   ·have HR:=κ (HF.o.trans (if_neg (λh=>hN h.1)));have n1:=kl
    have n2:((HL.length:Int) !=1)=true:=kb
    clear hN HF;go_wp2;go_ret;exact EL
theorem Pk {t:TypeId} {a0 a1:Value} (h:w.heap[g]? = some (.cells #[a0,a1] t (0,0))) (u0 u1:Value) :
 ((w.setCell ⟨g,0,none⟩ u0).setCell ⟨g,1,none⟩ u1).heap[g]? = some (.cells #[u0,u1] t (0,0)):=by
 simp [World.setCell,Array.getElem?_modify,h]
theorem Mh {w1:World} (h:Below w w w1) (hg:w.heap.size≤g) (u0 u1:Value):Below w w ((w1.setCell ⟨g,0,none⟩ u0).setCell ⟨g,1,none⟩ u1) :=
 (h.setCell (p:=⟨g,0,none⟩) hg u0).setCell (p:=⟨g,1,none⟩) hg u1
theorem Lq :∀ {t j:Nat} (h:t<sc.length) (hj:j<(sc[t]).cs.length),(kU sc)[bY (sc.take t)+j]? = some ((sc[t]).cs[j]).k:=by
 induction sc with
 | nil=>intro t j h;simp at h
 | cons tb sc ih =>
   intro t j h hj;have e:kU (tb::sc)=tb.cs.map (·.k)++kU sc:=by simp [kU]
   rw [e];cases t with
   | zero =>
     simp only [List.take_zero,List.getElem_cons_zero] at hj |-;rw [show bY []=0 from rfl,Nat.zero_add,List.getElem?_append_left ll];simp [List.getElem?_eq_getElem hj]
   | succ t =>
     have h2:=ih (t:=t) (j:=j) an ll;have e2:bY ((tb::sc).take (t+1))=tb.cs.length+bY (sc.take t):=by simp [bY]
     rw [e2,List.getElem?_append_right bl,show tb.cs.length+bY (sc.take t)+j-(tb.cs.map (·.k)).length=bY (sc.take t)+j by simp;omega,h2];simp
theorem Ee (A:ZT) (c:Nat) (l:List dW) (n:Nat) (k:Int) (w:World) (hA:ScA w A l) (hn:l.length≤100) (hw:bY (aE l)≤10000) (hk:(kU (aE l))[n]? = some k) :
 Calls prog 89 #[.slice A l.length c,.int .i64 n] w λe w'=>(∃ s,e=.returned (.agg #[.string s,.int .u8 k]))∧Below w w w':=by
 have HA:=κ hA;have HW:=κ hw;have HK:=κ hk;have hnI:=jo
 clear hA hw hk;go_enter func89,ntmps89;go_wp2_with fail;have hz:=heap_alloc_new w (.cells #[(),.int .u8 0] 116);have hb0:Below w w (w.alloc (.cells #[(),.int .u8 0] 116)):=ρ;have HZ:=κ (ι hz hb0);generalize (w.alloc (.cells #[(),.int .u8 0] 116))=W0 at *;clear hz hb0
 go_loopw [1,6,9] (λs1 _ s9 wr=>∃ i m:Nat,i≤l.length∧s9=.int .i64 i∧s1=.int .i64 m∧n=bY (aE (l.take i))+m∧Below W0 W0 wr) (λ_ _ s9 _=>l.length-(intOf s9).toNat)
 case atStart=>exact ⟨0,n,Nat.zero_le _,rfl,rfl,by show n=0+n;omega,θ⟩
 case round =>
  obtain ⟨i,m,hi,rfl,rfl,hm,hb⟩:=dd;have HB:=dm
  by_cases hlt:i<l.length
  ·obtain ⟨bT,oT,hAT,q0,q1⟩:=qK ((HA.o.below (HZ.o.2.trans (hb.mono HZ.o.2.size))).1) hlt;have hok:=(HA.o.below (HZ.o.2.trans (hb.mono HZ.o.2.size))).2 _ (List.getElem_mem hlt);have hT1:=Bb l hlt;have hlt2:i<(aE l).length:=by simpa [aE] using hlt
   have htk:aE (l.take i)=(aE l).take i:=EF
   have hel:(aE l)[i]=(l[i]).1:=by simp [aE]
   have hwd0:=EG
   have hwd:bY (aE (l.take (i+1)))≤10000:=by
    have:=nJ (aE l) (i+1);rw [show (aE l).take (i+1)=aE (l.take (i+1)) from EF] at this;have:=HW.o;omega
   have hat:∀ (hj:m<(l[i]).1.cs.length),((l[i]).1.cs[m]).k=k:=by
    intro hj;have h:=Lq (sc:=aE l) hlt2 (j:=m) (by rw [hel];exact hj);rw [<-htk, <-hm,HK.o] at h;simp only [hel] at h;exact (Option.some.inj h).symm
   generalize (l[i])=p at *;obtain ⟨⟨tn,cs⟩,At,ct⟩:=p;simp only at q0 q1 hok hwd0 hat;subst hAT;have hbT:=EI;have x2:=EH;have hrT:=hok.2.1.below hbT;have hzT:=aA (aA HZ.o.1 hb) hbT;have hkW:=HZ.o.2.trans ((hb.trans (hbT.mono hb.size)).mono HZ.o.2.size);have HBT:=κ (hb.trans (hbT.mono hb.size));have hcsI:=jr
   have hmI:(m:Int)≤10000∨cs.length≤m:=ac
   have HWD:=κ hwd0;clear hT1 htk hel hwd hwd0 hok hb hbT hlt2
   by_cases hml:m<cs.length
   ·have hkm:=hat hml;obtain ⟨bC,oC,hAC,r0,r1⟩:=kE hrT hml;subst hAC;rw [hkm] at r1;generalize (⟨(cs[m]).n.toArray⟩:ByteArray)=nc at *;have cz:=β hzT;have fz:=λj=>frozen_of_row _ _ j _ _ hzT;have HCE:=κ (β (Pk hzT (.string nc) (.int .u8 k)));have HKS:=κ (Mh hkW (ν _) (.string nc) (.int .u8 k));have hmI2:(m:Int)<(cs.length:Int):=ac
    clear hat hrT hzT hkW hm hkm hmI;go_wp2;have hcE:=HCE.o;exact bodyPost_ret (v:=.agg #[nc,.int .u8 k]) (by simp [results,results89,go_sem,hcE]) rfl ⟨⟨_,rfl⟩,HKS.o⟩
   ·have hmI2:(cs.length:Int)≤(m:Int):=ac
    have hmI3:(m:Int)≤20000:=by
     have:=(List.getElem?_eq_some_iff.1 HK.o).1;have h2:(kU (aE l)).length≤10000:=by
      have h3:=HW.o;unfold bY at h3;unfold kU;rw [List.length_flatMap]
      simpa using h3
     omega
    have HM:=κ hm;clear hat hrT hzT hkW hm;go_wp2
    go_roundw
    case rel=>exact ⟨i+1,m-cs.length,ac,de,de,by rw [HWD.o];have:=HM.o;omega,HBT.o⟩
    case measure=>simp [intOf];omega
  ·exfalso
   have hi2:=ka
   rw [hi2,List.take_length] at hm;have h1:=(List.getElem?_eq_some_iff.1 HK.o).1;have h2:(kU (aE l)).length=bY (aE l):=by
    unfold bY kU;rw [List.length_flatMap];simp
   omega
