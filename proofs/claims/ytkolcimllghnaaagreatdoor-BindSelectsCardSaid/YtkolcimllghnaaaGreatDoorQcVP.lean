/-
 Contracts. Conditions: those of each.
-/
import Derived.Test.YtkolcimllghnaaaGreatDoorQcVO
set_option maxRecDepth 100000
set_option maxHeartbeats 8000000
namespace Go.Proofs.YtkolcimllghnaaaGreatDoor
open Lp Go.Proofs.Tryz
open Go.RowKit
variable{k:Int}{xs:List Lp.X}{x:Lp.X}{g i:Nat}{S:Nat->Prop}{r:RC}{w:World}{op:ZS}
theorem Pk {t:TypeId} {a0 a1:Value} (h:w.heap[g]? = some (.cells #[a0,a1] t (0,0))) (u0 u1:Value) :
 ((w.setCell ⟨g,0,none⟩ u0).setCell ⟨g,1,none⟩ u1).heap[g]? = some (.cells #[u0,u1] t (0,0)):=by
 simp [World.setCell,Array.getElem?_modify,h]
theorem Mh {w1:World} (h:Below w w w1) (hg:w.heap.size<=g) (u0 u1:Value):Below w w ((w1.setCell ⟨g,0,none⟩ u0).setCell ⟨g,1,none⟩ u1) :=
 (h.setCell (p:=⟨g,0,none⟩) hg u0).setCell (p:=⟨g,1,none⟩) hg u1
theorem Lq {sc:List Tb}:∀ {t j:Nat} (h:t<sc.length) (hj:j<(sc[t]).cs.length),(kU sc)[bY (sc.take t)+j]? = some ((sc[t]).cs[j]).k:=by
 induction sc with
 | nil=>intro t j h;simp at h
 | cons tb sc ih =>
   intro t j h hj;have e:kU (tb::sc)=tb.cs.map (·.k)++kU sc:=by simp [kU]
   rw [e];cases t with
   | zero =>
     simp only [List.take_zero,List.getElem_cons_zero] at hj |-;rw [show bY []=0 from rfl,Nat.zero_add,List.getElem?_append_left ru];simp [List.getElem?_eq_getElem hj]
   | succ t =>
     have h2:=ih (t:=t) (j:=j) an ru;have e2:bY ((tb::sc).take (t+1))=tb.cs.length+bY (sc.take t):=by simp [bY]
     rw [e2,List.getElem?_append_right bo,show tb.cs.length+bY (sc.take t)+j-(tb.cs.map (·.k)).length=bY (sc.take t)+j by simp;omega,h2];simp
theorem Ee (A:ZT) (c:Nat) (l:List dW) (n:Nat) (k:Int) (w:World) (hA:ScA w A l) (hn:l.length<=100) (hw:bY (aE l)<=10000) (hk:(kU (aE l))[n]? = some k) :
 Calls prog 89 #[.slice A l.length c,.int .i64 n] w λe w'=>(∃ s,e=.returned (.agg #[.string s,.int .u8 k]))/\Below w w w':=by
 have HA:=κ hA;have HW:=κ hw;have HK:=κ hk;have hnI:=qa
 clear hA hw hk;go_enter func89,ntmps89;go_wp2_with fail;have hz:=heap_alloc_new w (.cells #[(),.int .u8 0] 116);have hb0:Below w w (w.alloc (.cells #[(),.int .u8 0] 116)):=ρ;have HZ:=κ (ι hz hb0);generalize (w.alloc (.cells #[(),.int .u8 0] 116))=W0 at *;clear hz hb0
 go_loopw [1,6,9] (λs1 _ s9 wr=>∃ i m:Nat,i<=l.length/\s9=.int .i64 i/\s1=.int .i64 m/\n=bY (aE (l.take i))+m/\Below W0 W0 wr) (λ_ _ s9 _=>l.length-(intOf s9).toNat)
 case atStart=>exact ⟨0,n,Nat.zero_le _,rfl,rfl,by show n=0+n;omega,θ⟩
 case round =>
  obtain ⟨i,m,hi,rfl,rfl,hm,hb⟩:=de;have HB:=dn
  by_cases hlt:i<l.length
  ·obtain ⟨bT,oT,hAT,q0,q1⟩:=qK ((HA.o.below (HZ.o.2.trans (hb.mono HZ.o.2.size))).1) hlt;have hok:=(HA.o.below (HZ.o.2.trans (hb.mono HZ.o.2.size))).2 _ (List.getElem_mem hlt);have hT1:=Bb l hlt;have hlt2:i<(aE l).length:=by simpa [aE] using hlt
   have htk:aE (l.take i)=(aE l).take i:=IE
   have hel:(aE l)[i]=(l[i]).1:=by simp [aE]
   have hwd0:=IF
   have hwd:bY (aE (l.take (i+1)))<=10000:=by
    have:=nJ (aE l) (i+1);rw [show (aE l).take (i+1)=aE (l.take (i+1)) from IE] at this;have:=HW.o;omega
   have hat:∀ (hj:m<(l[i]).1.cs.length),((l[i]).1.cs[m]).k=k:=by
    intro hj;have h:=Lq (sc:=aE l) hlt2 (j:=m) (by rw [hel];exact hj);rw [<-htk, <-hm,HK.o] at h;simp only [hel] at h;exact (Option.some.inj h).symm
   generalize (l[i])=p at *;obtain ⟨⟨tn,cs⟩,At,ct⟩:=p;simp only at q0 q1 hok hwd0 hat;subst hAT;have hbT:=IH;have x2:=IG;have hrT:=hok.2.1.below hbT;have hzT:=aA (aA HZ.o.1 hb) hbT;have hkW:=HZ.o.2.trans ((hb.trans (hbT.mono hb.size)).mono HZ.o.2.size);have HBT:=κ (hb.trans (hbT.mono hb.size));have hcsI:=qf
   have hmI:(m:Int)<=10000\/cs.length<=m:=ac
   have HWD:=κ hwd0;clear hT1 htk hel hwd hwd0 hok hb hbT hlt2
   by_cases hml:m<cs.length
   ·have hkm:=hat hml;obtain ⟨bC,oC,hAC,r0,r1⟩:=kE hrT hml;subst hAC;rw [hkm] at r1;generalize (⟨(cs[m]).n.toArray⟩:ByteArray)=nc at *;have cz:=β hzT;have fz:=λj=>frozen_of_row _ _ j _ _ hzT;have HCE:=κ (β (Pk hzT (.string nc) (.int .u8 k)));have HKS:=κ (Mh hkW (ν _) (.string nc) (.int .u8 k));have hmI2:(m:Int)<(cs.length:Int):=ac
    clear hat hrT hzT hkW hm hkm hmI;go_wp2;have hcE:=HCE.o;exact bodyPost_ret (v:=.agg #[nc,.int .u8 k]) (by simp [results,results89,go_sem,hcE]) rfl ⟨⟨_,rfl⟩,HKS.o⟩
   ·have hmI2:(cs.length:Int)<=(m:Int):=ac
    have hmI3:(m:Int)<=20000:=by
     have:=(List.getElem?_eq_some_iff.1 HK.o).1;have h2:(kU (aE l)).length<=10000:=by
      have h3:=HW.o;unfold bY at h3;unfold kU;rw [List.length_flatMap]
      simpa using h3
     omega
    have HM:=κ hm;clear hat hrT hzT hkW hm;go_wp2
    go_roundw
    case rel=>exact ⟨i+1,m-cs.length,ac,dg,dg,by rw [HWD.o];have:=HM.o;omega,HBT.o⟩
    case measure=>simp [intOf];omega
  ·exfalso
   have hi2:=qs
   rw [hi2,List.take_length] at hm;have h1:=(List.getElem?_eq_some_iff.1 HK.o).1;have h2:(kU (aE l)).length=bY (aE l):=by
    unfold bY kU;rw [List.length_flatMap];simp
   omega
def Lp.allK (l:List Int) (k:Int):Bool:=l.all λx=>x==0||x==k
theorem Sz {l:List Int} {x:Int} (h:i<l.length) (hx:l[i]=x) (ha:Lp.allK (l.take i) k=true) (hr:(x==0||x==k)=true):Lp.allK (l.take (i+1)) k=true:=by
 unfold Lp.allK at *;rw [List.take_succ_eq_append_getElem h,List.all_append,ha,hx]
 simpa using hr
theorem aFY {l:List Int} {x:Int} (h:i<l.length) (hx:l[i]=x) (hr:(x==0||x==k)=false):Lp.allK l k=false:=by
 unfold Lp.allK;rw [List.all_eq_false];exact ⟨l[i],List.getElem_mem h,by rw [hx,hr];decide⟩
def kv (l:List Int):ZU:=l.map λx=>.int .u8 x
theorem Nv {l:List Int} (h:i<l.length):(kv l)[i]? = some (.int .u8 l[i]):=by simp [kv,h]
theorem Ta (A:ZT) (c:Nat) (l:List Int) (k:Int) (w:World) (h:Rds w A (kv l)) (hn:l.length<=100) :
 Calls prog 90 #[.slice A l.length c,.int .u8 k] w λe w'=>e=.returned (.bool (Lp.allK l k))/\w=w':=by
 have H:=db;have hnI:=qa
 clear h;go_enter func90,ntmps90;go_wp2_with fail
 go_loopw [6,9] (λ_ s9 wr=>∃ i:Nat,i<=l.length/\s9=.int .i64 i/\Lp.allK (l.take i) k=true/\w=wr) (λ_ s9 _=>l.length-(intOf s9).toNat)
 case atStart=>exact ⟨0,Nat.zero_le _,rfl,rfl,rfl⟩
 case round =>
  obtain ⟨i,hi,rfl,ha,rfl⟩:=de;have HAL:=κ ha;clear ha
  by_cases hlt:i<l.length
  ·obtain ⟨b,off,hA,q0⟩:=H.o.at_ (Nv hlt);subst hA;have hltI:(i:Int)<(l.length:Int):=ac
   have hno:=λ(x:Int) (hx:l[i]=x) (hr:(x==0||x==k)=false)=>aFY hlt hx hr;have hyes:=λ(x:Int) (hx:l[i]=x) (hr:(x==0||x==k)=true)=>Sz hlt hx HAL.o hr;have HNO:=κ (hno _ rfl);have HYE:=κ (hyes _ rfl);generalize l[i]=x at *;clear hno hyes;cases e1:(x==0)
   ·cases e2:(x==k)
    ·have n1:(x !=0)=true:=qu
     have n2:(x !=k)=true:=yb
     have HR:=κ (HNO.o (by rw [e1,e2];rfl));clear HNO HYE;go_wp2;go_ret;exact ⟨IM,rfl⟩
    ·have n1:(x !=0)=true:=qu
     have n2:(x !=k)=false:=yb
     have HR:=κ (HYE.o (by rw [e1,e2];rfl));clear HNO HYE;go_wp2
     go_roundw
     case rel=>exact ⟨i+1,ac,dg,HR.o,by trivial⟩
     case measure=>simp [intOf];omega
   ·have n1:(x !=0)=false:=qu
    have HR:=κ (HYE.o (by rw [e1];rfl));clear HNO HYE;go_wp2
    go_roundw
    case rel=>exact ⟨i+1,ac,dg,HR.o,by trivial⟩
    case measure=>simp [intOf];omega
  ·have hi2:=qs
   have h1:=HAL.o;rw [hi2,List.take_length] at h1;have HR:=κ h1;clear h1 hi2;go_wp2;go_ret;exact ⟨IM,rfl⟩
def vB (p:Int×Int) (w:World) (e:Ending) (w':World):Prop:=e=.returned (.tuple #[.int .u8 p.1,.int .i64 p.2])/\Below w w w'
theorem aKP (s:ByteArray) (k:Int) (w:World):(Instr.field 116 (.agg #[s,.int .u8 k]) 1).run prog w=.ok (.int .u8 k) w:=aj
attribute [local go_sem] aKP
theorem Lf (A:ZT) (c n:Nat) (k i:Int) (s:ZS) (b gr:Bool) (w:World) :
 Calls prog 38 #[.slice A n c,(rcL k i s b).val,gr] w (vB (k,0) w):=by
 have hb0:=IN;have hz:=heap_alloc_new w (.cells #[.int .u8 1,.int .u8 k,.int .i64 i,s,b,(),(),.slice none 0 0] 60);have hc:=β hz;have HB:=se;simp only [RC.val,rcL];clear hb0 hz;go_enter func38,ntmps38;go_wp2_with fail;generalize (w.alloc (.cells #[.int .u8 1,.int .u8 k,.int .i64 i,s,b,(),(),.slice none 0 0] 60))=W at *
 go_loopw [22] (λs22 wr=>s22=.int .i64 0/\W=wr) (λ_ _=>0)
 case atStart=>exact ⟨rfl,rfl⟩
 case round =>
  obtain ⟨rfl,rfl⟩:=de;go_wp2;go_ret2;exact ph
theorem Lh (A:ZT) (c n:Nat) (gr:Bool) (w:World) :
 Calls prog 38 #[.slice A n c,(rc0 6 aJ).val,gr] w (vB (if gr then (1,0) else (0,3)) w):=by
 have hb0:Below w w (w.alloc (.cells #[.int .u8 6,.int .u8 0,.int .i64 0,(),false,(),.string ⟨#[67,79,85,78,84]⟩,.slice none 0 0] 60)):=ρ;have hz:=heap_alloc_new w (.cells #[.int .u8 6,.int .u8 0,.int .i64 0,(),false,(),.string ⟨#[67,79,85,78,84]⟩,.slice none 0 0] 60);have hc:=β hz;have HB:=se;simp only [RC.val,rc0,aJ];clear hb0 hz;cases gr
 ·go_enter func38,ntmps38;go_wp2;go_ret2;exact ph
 ·go_enter func38,ntmps38;go_wp2_with fail;generalize (w.alloc (.cells #[.int .u8 6,.int .u8 0,.int .i64 0,(),false,(),.string ⟨#[67,79,85,78,84]⟩,.slice none 0 0] 60))=W at *
  go_loopw [22] (λs22 wr=>s22=.int .i64 0/\W=wr) (λ_ _=>0)
  case atStart=>exact ⟨rfl,rfl⟩
  case round =>
   obtain ⟨rfl,rfl⟩:=de;go_wp2;go_ret2;exact ph
theorem Lg (A:ZT) (c:Nat) (l:List dW) (t s:ZS) (gr:Bool) (w:World) (hA:ScA w A l) (hn:l.length<=100) (hw:bY (aE l)<=10000) :
 Calls prog 38 #[.slice A l.length c,(rcC t s).val,gr] w (vB (aC (aE l) (.col t s) gr) w):=by
 have hb0:=IP;have hz:=heap_alloc_new w (.cells #[.int .u8 2,.int .u8 0,.int .i64 0,(),false,t,s,.slice none 0 0] 60);have hc:=β hz;have HB:=se;have hf:=Bf A c l t s _ (hA.below hb0) hn hw;have hco:=λ(n:Nat) (k:Int) (w':World) (hb:Below w w w') (hk:(kU (aE l))[n]? = some k)=>Ee A c l n k w' (hA.below hb) hn hw hk;have HF:=ez;have HCO:=κ hco;simp only [RC.val,rcC];clear hb0 hz hf hco hA;have hq:(dX (aE l) t s=none/\atX (aE l) t s = -1/\aC (aE l) (.col t s) gr=(0,6))\/∃ p,dX (aE l) t s=some p/\atX (aE l) t s=(p.1:Int)/\aC (aE l) (.col t s) gr=(p.2,0):=by
  cases h:dX (aE l) t s with
  | none=>exact .inl ⟨rfl,by simp [atX,h],by simp [aC,h]⟩
  | some p=>exact .inr ⟨p,rfl,by simp [atX,h],by simp [aC,h]⟩
 rcases hq with ⟨h1,h2,h3⟩|⟨p,h1,h2,h3⟩
 all_goals
  rw [h3];rw [h2] at HF;clear h2 h3;have H1:=κ h1;clear h1;go_enter func38,ntmps38;go_wp2_with fail;generalize (w.alloc (.cells #[.int .u8 2,.int .u8 0,.int .i64 0,(),false,t,s,.slice none 0 0] 60))=W at *
  go_loopw [22] (λs22 wr=>s22=.int .i64 0/\W=wr) (λ_ _=>0)
  case atStart=>exact ⟨rfl,rfl⟩
  case round =>
   obtain ⟨rfl,rfl⟩:=de;go_wp2_with fail;refine μ HF ?_;rintro e w1 ⟨rfl,hb1⟩;have HB1:=κ (HB.o.trans (hb1.mono HB.o.size));clear hb1 HF
   first
    | (go_wp2;go_ret2;exact ⟨rfl,HB1.o⟩)
    | (go_wp2_with fail
       refine (HCO.o p.1 p.2 _ HB1.o (tC H1.o)).mono ?_;rintro e w2 ⟨⟨nc,rfl⟩,hb2⟩;have HB2:=κ (HB1.o.trans (hb2.mono HB1.o.size));clear hb2;go_wp2;go_ret2;exact ⟨rfl,HB2.o⟩)
def rcs (l:List RC):ZU:=l.flatMap RC.cells
theorem Wm {l:List RC} {k:Nat} (hi:i<l.length) (hk:k<8):(rcs l)[i*8+k]? = ((l[i]).cells)[k]? := vZ (f:=RC.cells) (n:=8) (λ_=>rfl) l i k hi hk
theorem iW {A:ZT} {l:List RC} (h:Rds w A (rcs l)) (hi:i<l.length):∃ b off,A=some ⟨b,off,none⟩/\w.cell? ⟨b,off+i*8,none⟩=some (.int .u8 (l[i]).k)/\w.cell? ⟨b,off+i*8+1,none⟩=some (.int .u8 (l[i]).vk)/\w.cell? ⟨b,off+i*8+2,none⟩=some (.int .i64 (l[i]).vi)/\w.cell? ⟨b,off+i*8+3,none⟩=some (.string (l[i]).vs)/\w.cell? ⟨b,off+i*8+4,none⟩=some (.bool (l[i]).vb)/\w.cell? ⟨b,off+i*8+5,none⟩=some (.string (l[i]).t)/\w.cell? ⟨b,off+i*8+6,none⟩=some (.string (l[i]).s)/\w.cell? ⟨b,off+i*8+7,none⟩=some (.slice (l[i]).A (l[i]).n (l[i]).c):=by
 rcases h with hn|⟨b,off,rfl,hc⟩
 ·have:=Wm hi (k:=0) am;rw [hn] at this;simp [RC.cells] at this
 ·have at_:=λ(k:Nat) (hk:k<8) (u:Value) (hu:((l[i]).cells)[k]? = some u)=>hc (i*8+k) u ((Wm hi hk).trans hu);exact ⟨b,off,rfl,at_ 0 am _ rfl,at_ 1 am _ rfl,at_ 2 am _ rfl,at_ 3 am _ rfl,at_ 4 am _ rfl,at_ 5 am _ rfl,at_ 6 am _ rfl,at_ 7 am _ rfl⟩
def Pts (S:Nat->Prop) (w:World) (A:ZT) (xs:List Lp.X) (rs:List RC):Prop:=rs.length=xs.length/\Rds w A (rcs rs)/\∀ (i:Nat) (hx:i<xs.length) (hr:i<rs.length),RX S w xs[i] rs[i]
theorem Pts.below {S:Nat->Prop} {w w':World} {A:ZT} {xs:List Lp.X} {rs:List RC} (h:Pts S w A xs rs) (hb:Below w w w'):Pts S w' A xs rs:=⟨h.1,h.2.1.below hb,λi hx hr=>(h.2.2 i hx hr).below hb⟩
def rcN (k:Int) (s:ZS) (A:ZT) (n:Nat):RC:=⟨k,0,0,⟨#[]⟩,false,⟨#[]⟩,⟨s.toArray⟩,A,n,n⟩
def dR:Lp.X->List Lp.X
 | .un _ x=>[x]
 | .bin _ a b=>[a,b]
 | .isn _ x=>[x]
 | .agg _ x=>[x]
 | _=>[]
def iO:Lp.X->Int
 | .un .. => 3
 | .bin .. => 4
 | .isn .. => 5
 | .agg .. => 6
 | .cnt=>6
 | .lit .. => 1
 | .col .. => 2
def rU:Lp.X->ZS
 | .un op _=>op
 | .bin op _ _=>op
 | .isn n _=>if n then fG else []
 | .agg op _=>op
 | .cnt=>aJ
 | _=>[]
theorem Dn (h:w.heap[g]? = some (.cells r.cells.toArray 60 (0,0))) (hx:RX S w x r):Pts S w (some ⟨g,0,none⟩) [x] [r]:=by
 refine ⟨rfl, ?_, ?_⟩
 ·have:=aS r.cells h
  simpa [rcs] using this
 ·intro i h1 h2;obtain rfl:i=0:=ji
  exact hx
theorem Cz (h:RX S w x r) (hk:dR x≠[]):∃ A rs,r=rcN (iO x) (rU x) A (dR x).length/\Pts S w A (dR x) rs:=by
 cases x with
 | lit=>exact absurd rfl hk
 | col=>exact absurd rfl hk
 | cnt=>exact absurd rfl hk
 | un op x=>obtain ⟨g,r1,rfl, -,h2,h3⟩:=h;exact IQ
 | isn n x=>obtain ⟨g,r1,rfl, -,h2,h3⟩:=h;exact IQ
 | agg op x=>obtain ⟨g,r1,rfl, -,h2,h3⟩:=h;exact IQ
 | bin op a b =>
   obtain ⟨g,r1,r2,rfl, -,h2,h3,h4⟩:=h;refine ⟨_,[r1,r2],rfl,rfl, ?_, ?_⟩
   ·have:=aS (r1.cells++r2.cells) h2
    simpa [rcs] using this
   ·intro i h1 h2
    match i,h1 with
    | 0,_=>exact h3
    | 1,_=>exact h4
def Ij:Lp.X->List Int->Int×Int
 | .un op _,ks=>hY op (ks.headD 0)
 | .bin op _ _,ks=>iZ op (ks.headD 0) (ks.tail.headD 0)
 | .agg op _,ks=>kS op (ks.headD 0)
 | _,_=>(3,0)
theorem Xy (sc:List Tb) (x:Lp.X) {gr gr2:Bool} (hk:dR x≠[]) (hg:iO x=6/\gr=true/\gr2=false\/iO x≠6/\gr2=gr):aC sc x gr=if aF sc gr2 (dR x)=0 then Ij x ((dR x).map λy=>(aC sc y gr2).1) else (0,aF sc gr2 (dR x)):=by
 have one:∀ (y:Lp.X) (f:Int->Int×Int),cY (aC sc y gr2) f=if aF sc gr2 [y]=0 then f (aC sc y gr2).1 else (0,aF sc gr2 [y]):=by
  intro y f;have e:aF sc gr2 [y]=(aC sc y gr2).2:=by
   show (if (aC sc y gr2).2=0 then (0:Int) else _)=_
   split
   ·rename_i h;exact h.symm
   ·rfl
  rw [e];rfl
 cases x with
 | lit=>exact absurd rfl hk
 | col=>exact absurd rfl hk
 | cnt=>exact absurd rfl hk
 | un op y =>
   obtain rfl:gr2=gr:=by rcases hg with ⟨h, -⟩|⟨-,h⟩;cases h;exact h
   exact one y _
 | isn n y =>
   obtain rfl:gr2=gr:=by rcases hg with ⟨h, -⟩|⟨-,h⟩;cases h;exact h
   exact one y _
 | agg op y =>
   obtain ⟨rfl,rfl⟩:gr=true/\gr2=false:=by rcases hg with ⟨-,h⟩|⟨h, -⟩;exact h;exact absurd rfl h
   exact one y _
 | bin op a b =>
   obtain rfl:gr2=gr:=by rcases hg with ⟨h, -⟩|⟨-,h⟩;cases h;exact h
   show (if (aC sc a gr2).2=0 then (if (aC sc b gr2).2=0 then iZ op (aC sc a gr2).1 (aC sc b gr2).1 else (0,(aC sc b gr2).2)) else (0,(aC sc a gr2).2))=if (if (aC sc a gr2).2=0 then (if (aC sc b gr2).2=0 then (0:Int) else (aC sc b gr2).2) else (aC sc a gr2).2)=0 then iZ op (aC sc a gr2).1 (aC sc b gr2).1 else (0,if (aC sc a gr2).2=0 then (if (aC sc b gr2).2=0 then (0:Int) else (aC sc b gr2).2) else (aC sc a gr2).2)
   by_cases h1:(aC sc a gr2).2=0
   ·by_cases h2:(aC sc b gr2).2=0
    ·simp [h1,h2]
    ·simp [h1,h2]
   ·simp [h1]
def Eh:List ZS:=[[61],[60,62],[60],[60,61],[62],[62,61]]
def NoL (k:Int):Prop:=(k==1)=false/\(k==2)=false/\(k==5)=false
inductive EndK (x:Lp.X):Prop
 | isn (h1:iO x=5) (h2:∀ ks,Ij x ks=(3,0))
 | tru (hk:NoL (iO x)) (h1:rU x=fG\/rU x=lE\/rU x=uOr) (h2:∀ ks,ks.length=(dR x).length->Ij x ks=if Lp.allK ks 3 then (3,0) else (0,8))
 | num (hk:NoL (iO x)) (h1:rU x∈([[45],[43],[42],[47],[37],dZ]:List ZS)) (h2:∀ ks,ks.length=(dR x).length->Ij x ks=if Lp.allK ks 1 then (1,0) else (0,8))
 | cnt (hk:NoL (iO x)) (h1:rU x=aJ) (h2:∀ ks,Ij x ks=(1,0))
 | low (hk:NoL (iO x)) (h1:rU x=fT\/rU x=fX) (h0:(dR x).length=1) (h2:∀ a,Ij x [a]=(a,0))
 | cmp (hk:NoL (iO x)) (h1:rU x∈Eh) (h0:(dR x).length=2) (h2:∀ a b,Ij x [a,b]=if a≠0/\b≠0/\a≠b then (0,8) else (3,0))
theorem Dr {ks:List Int} (h:ks.length=1):∃ a,ks=[a]:=by
 match ks,h with
 | [a],_=>exact ⟨a,rfl⟩
theorem Jp {ks:List Int} (h:ks.length=2):∃ a b,ks=[a,b]:=by
 match ks,h with
 | [a,b],_=>exact ⟨a,b,rfl⟩
theorem yM (a k:Int):Lp.allK [a] k=fitK a k:=IR
theorem Ia (a b k:Int):Lp.allK [a,b] k=(fitK a k&&fitK b k):=IR
theorem aES (a b:Int):(if fitK a b||fitK b a then ((3,0):Int×Int) else (0,8))=if a≠0/\b≠0/\a≠b then (0,8) else (3,0):=by
 unfold fitK
 by_cases h1:a=0
 ·subst h1;simp
 ·by_cases h2:b=0
  ·subst h2;simp
  ·by_cases h3:a=b
   ·subst h3;simp
   ·have h4:¬b=a:=λh=>h3 h.symm;simp [h1,h2,h3,h4]
theorem aFN (a b:Lp.X) (h:op=lE\/op=uOr) (h1:op=fG\/op=lE\/op=uOr):EndK (.bin op a b) :=
 .tru ⟨rfl,rfl,rfl⟩ h1 λks hl=>by
  obtain ⟨p,q,rfl⟩:=Jp hl;rw [Ia];exact if_pos h
theorem aFO (a b:Lp.X) (h:¬(op=lE\/op=uOr)) (h1:op∈jQ) (h2:op∈([[45],[43],[42],[47],[37],dZ]:List ZS)):EndK (.bin op a b) :=
 .num ⟨rfl,rfl,rfl⟩ h2 λks hl=>by
  obtain ⟨p,q,rfl⟩:=Jp hl;rw [Ia];show iZ op p q=_;unfold iZ;rw [if_neg h,if_pos h1]
theorem aFQ (a b:Lp.X) (h:¬(op=lE\/op=uOr)) (h1:¬op∈jQ) (h2:op∈Eh):EndK (.bin op a b) :=
 .cmp ⟨rfl,rfl,rfl⟩ h2 rfl λp q=>by
  show iZ op p q=_;unfold iZ;rw [if_neg h,if_neg h1];exact aES p q
theorem aFR:∀ op∈nH,((op=lE\/op=uOr)/\(op=fG\/op=lE\/op=uOr))\/(¬(op=lE\/op=uOr)/\op∈jQ/\op∈([[45],[43],[42],[47],[37],dZ]:List ZS))\/(¬(op=lE\/op=uOr)/\¬op∈jQ/\op∈Eh):=am
theorem aGA:∀ op∈kG,op=aJ\/op=dZ\/op=fT\/op=fX:=am
theorem Zd (hw:x.wf) (hk:dR x≠[]):EndK x:=by
 cases x with
 | lit=>exact absurd rfl hk
 | col=>exact absurd rfl hk
 | cnt=>exact absurd rfl hk
 | isn n y=>exact .isn rfl λ_=>rfl
 | un op y =>
   rcases hw.1 with rfl|rfl
   ·refine .tru ⟨rfl,rfl,rfl⟩ (.inl rfl) λks hl => ?_;obtain ⟨p,rfl⟩:=Dr hl;rw [yM];rfl
   ·refine .num ⟨rfl,rfl,rfl⟩ (by show ([45]:ZS)∈_;decide) λks hl => ?_;obtain ⟨p,rfl⟩:=Dr hl;rw [yM];rfl
 | bin op a b =>
   rcases aFR op hw.1 with ⟨h1,h2⟩|⟨h1,h2,h3⟩|⟨h1,h2,h3⟩
   ·exact aFN a b h1 h2
   ·exact aFO a b h1 h2 h3
   ·exact aFQ a b h1 h2 h3
 | agg op y =>
   rcases aGA op hw.1 with rfl|rfl|rfl|rfl
   ·exact .cnt ⟨rfl,rfl,rfl⟩ rfl λ_=>rfl
   ·refine .num ⟨rfl,rfl,rfl⟩ (by show dZ∈_;decide) λks hl => ?_;obtain ⟨p,rfl⟩:=Dr hl;rw [yM];rfl
   ·exact .low ⟨rfl,rfl,rfl⟩ (.inl rfl) rfl λ_=>rfl
   ·exact .low ⟨rfl,rfl,rfl⟩ (.inr rfl) rfl λ_=>rfl
theorem Sf:∀ o∈Eh,(o==[78,79,84])=false/\(o==[65,78,68])=false/\(o==[79,82])=false/\(o==[45])=false/\(o==[43])=false/\(o==[42])=false/\(o==[47])=false/\(o==[37])=false/\(o==[83,85,77])=false/\(o==[67,79,85,78,84])=false/\(o==[77,73,78])=false/\(o==[77,65,88])=false:=am
theorem Do (S:Nat->Prop) (w:World):Pts S w none [] []:=⟨rfl,.inl rfl,λ_ h=>absurd h (Nat.not_lt_zero _)⟩
theorem Nf (h:RX S w x r):r.k=iO x/\r.n=(dR x).length/\∃ rs,Pts S w r.A (dR x) rs:=by
 by_cases hk:dR x=[]
 ·cases x with
  | lit k i s b=>obtain rfl:r=rcL k i s b:=h;exact IU
  | col t s=>obtain rfl:r=rcC t s:=h;exact IU
  | cnt=>obtain rfl:r=rc0 6 aJ:=h;exact IU
  | un op x=>cases hk
  | bin op a b=>cases hk
  | isn n x=>cases hk
  | agg op x=>cases hk
 ·obtain ⟨A,rs,rfl,hp⟩:=Cz h hk;exact ⟨rfl,rfl,rs,hp⟩
theorem Yn (x:Lp.X):jC x=((dR x).any jC||iO x==6):=by cases x<;>simp [jC,dR,iO]
theorem sY (x:Lp.X):(dR x).length<=2:=by cases x<;>simp [dR]
theorem Hp {P:Lp.X->Prop} (hs:∀ x,(∀ z∈dR x,P z)->P x):∀ x:Lp.X,P x:=by
 intro x
 induction x with
 | lit=>exact hs _ λz h=>by cases h
 | col=>exact hs _ λz h=>by cases h
 | cnt=>exact hs _ λz h=>by cases h
 | un op x ih=>exact hs _ λz h=>th
 | isn n x ih=>exact hs _ λz h=>th
 | agg op x ih=>exact hs _ λz h=>th
 | bin op a b iha ihb =>
   refine hs _ λz h => ?_;rcases List.mem_cons.1 h with rfl|h
   ·exact iha
   ·rw [List.mem_singleton.1 h];exact ihb
def aBI (x:Lp.X):Prop:=∀ (S:Nat->Prop) (w:World) (r:RC),RX S w x r->Calls prog 59 #[r.val] w λe w'=>e=.returned (.bool (jC x))/\Below w w w'
theorem Je {f:Lp.X->Bool} (h:i<xs.length) (ha:(xs.take i).any f=false) (hr:f xs[i]=false):(xs.take (i+1)).any f=false:=by
 rw [List.take_succ_eq_append_getElem h,List.any_append,ha];simp [hr]
theorem Om {f:Lp.X->Bool} (h:i<xs.length) (hr:f xs[i]=true):xs.any f=true:=List.any_eq_true.2 ⟨xs[i],List.getElem_mem h,hr⟩
theorem Ym (x:Lp.X) (ho:∀ y∈dR x,aBI y):aBI x:=by
 intro S w r hr;have hf:=Yn x;have hkl:=sY x;obtain ⟨h1,h2,rs,hp⟩:=Nf hr;obtain ⟨k,vk,vi,vs,vb,t,op,Ar,n,c⟩:=r;simp only at h1 h2 hp;subst h1 h2;have HF:=ez;clear hf;generalize iO x=k at *;generalize dR x=xs at *;simp only [RC.val];have hb0:Below w w (w.alloc (.cells #[.int .u8 k,.int .u8 vk,vi,vs,vb,t,op,.slice Ar xs.length c] 60)):=ρ;have hz:=heap_alloc_new w (.cells #[.int .u8 k,.int .u8 vk,vi,vs,vb,t,op,.slice Ar xs.length c] 60);have hc:=β hz;have HB:=κ (ι hb0 (ι hz (hp.below hb0)));have HO:=κ ho;have hnI:=IV
 clear hb0 hz hp ho hr;go_enter func59,ntmps59;go_wp2_with fail;generalize (w.alloc (.cells #[.int .u8 k,.int .u8 vk,vi,vs,vb,t,op,.slice Ar xs.length c] 60))=W at *;clear hc
 go_loopw [4,8] (λ_ s8 wr=>∃ i:Nat,i<=xs.length/\s8=.int .i64 i/\(xs.take i).any jC=false/\Below W W wr) (λ_ s8 _=>xs.length-(intOf s8).toNat)
 case atStart=>exact ⟨0,Nat.zero_le _,rfl,rfl,θ⟩
 case round =>
  obtain ⟨i,hi,rfl,ha,hb⟩:=de;have hkw:=IW
  by_cases hlt:i<xs.length
  ·have hpw:=HB.o.2.2.below hb;have hri:=IX
   obtain ⟨bR,oR,hAR,q0,q1,q2,q3,q4,q5,q6,q7⟩:=JC;have hrx:=JB;have hok:=JA;have HNO:=κ (Je (f:=jC) hlt ha);have HYE:=κ (Om (f:=jC) hlt);subst hAR;generalize rs[i]=r at *;generalize xs[i]=y at *;obtain ⟨rk,rvk,rvi,rvs,rvb,rt,rs0,rA,rn,rc⟩:=r;have hbx:=IZ;have HC:=κ (hok S _ _ (RX.below hbx hrx));simp only [RC.val] at HC;have HX:=IY;generalize jC y=b at *;clear ha hb hpw hri hrx hok hbx hkw;go_wp2_with fail;refine μ HC ?_;rintro e w9 ⟨rfl,hb9⟩;have HQ:=κ (HX.o.trans (hb9.mono HX.o.size));cases b
   ·have HN:=κ (HNO.o rfl);clear hb9 q0 q1 q2 q3 q4 q5 q6 q7;go_wp2
    go_roundw
    case rel=>exact ⟨i+1,ac,dg,HN.o,HQ.o⟩
    case measure=>simp [intOf];omega
   ·have HN:=κ (HYE.o rfl);have HQ2:=κ (HB.o.1.trans (HQ.o.mono HB.o.1.size));clear hb9 q0 q1 q2 q3 q4 q5 q6 q7;go_wp2;go_ret;exact JD
  ·have hi2:=rl
   rw [hi2,List.take_length] at ha;have HAL:=κ ha;have hc:=β (aA HB.o.2.1 hb);have HQ:=κ hkw;clear hb hkw hi2 ha;go_wp2;go_ret;exact ⟨by rw [HF.o,HAL.o];rfl,HQ.o⟩
theorem Ri:∀ x:Lp.X,aBI x:=Hp Ym
