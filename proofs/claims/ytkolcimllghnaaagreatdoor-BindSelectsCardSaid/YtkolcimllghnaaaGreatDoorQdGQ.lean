/-
 Contracts. Conditions: those of each.
-/
import Derived.Test.YtkolcimllghnaaaGreatDoorQdGD
import Derived.Test.YtkolcimllghnaaaGreatDoorQdVA
import Derived.Lib.IndexBytes
import Derived.Deep.DeepCutAuto
import Derived.Deep.CutBlock
import Derived.Deep.QuietTactic
import Derived.BigQuiet
set_option maxRecDepth 100000
set_option maxHeartbeats 8000000
namespace Go.Proofs.YtkolcimllghnaaaGreatDoor
open Lp Go.Proofs.Tryz
open Go.RowKit
variable{m:Int}{c:UInt8}{w:World}{l:ZS}
theorem aIJ (h1:65≤c.toNat) (h2:c.toNat≤90):((jI c).toNat:Int)=(c.toNat:Int)+32:=by
 unfold jI;rw [if_pos ⟨h1,h2⟩,UInt8.toNat_add];have:(32:UInt8).toNat=32:=rfl;rw [this];omega
theorem aIK (h:c.toNat<65∨90<c.toNat):jI c=c:=by
 unfold jI;rw [if_neg ac]
theorem Xr {w:World} {B c k:Nat} {A:ZT} {s:ByteArray} (hk:k<s.size) (h:w.ownsRow B 5 1 (.slice A (k+1) c) (k+1) (bv ((s.data.toList.take k).map jI)++[.int .u8 ((jI (s[k]'hk)).toNat:Int)])) :
 w.ownsRow B 5 1 (.slice A (k+1) c) (k+1) (bv ((s.data.toList.take (k+1)).map jI)):=by
 rw [iV s k hk,List.map_append,uK];exact h
theorem Bx (s:ByteArray) (w:World) (hs:s.size≤1000000000) :
 Calls prog 75 #[s] w λe w'=>e=.returned (.string ⟨(s.data.toList.map jI).toArray⟩)∧Below w w w':=by
 obtain ⟨i0,hi0,hz0,hz1,hz2⟩:=info_parts Iz;go_enter func75,ntmps75;go_wp2_with fail
 go_loopg [3,4,5] (s.size+1) (λgk s3 s4 _ wr=>∃ (k:Nat) (A:ZT) (c:Nat),k≤s.size∧gk=s.size+1-k∧s4=.int .i64 k∧s3=.slice A k c∧wr.ownsRow w 5 1 (.slice A k c) k (bv ((s.data.toList.take k).map jI))∧Below w w wr)
 case atStart=>exact ⟨0,none,0,ac,ac,rfl,rfl,World.ownsRow_nil _ _ _ _,θ⟩
 case round =>
  obtain ⟨k,A,c,hle,rfl,rfl,rfl,hown,hbw⟩:=dd;have hsz:=hbw.size
  by_cases hlt:k<s.size
  ·have hbl:=(s[k]'hlt).toNat_lt;have hm:=λW A c h=>@Xr W w c k A s hlt h
   by_cases hup:65≤(s[k]'hlt).toNat∧(s[k]'hlt).toNat≤90
   ·obtain ⟨h1,h2⟩:=hup;have hlu:=κ (aIJ h1 h2);have HM:=κ hm;clear hm;obtain ⟨x,hx⟩:∃ x,(s[k]'hlt).toNat=x:=cw;rw [hx] at h1 h2 hbl;have hxa:¬x<65:=ac
    have hxb:¬90<x:=ac
    go_wp2_with (at_builtin;refine bJ _ rfl (.tmp 23) (.tmp 25) _ rfl w 5 i0 _ 1 1 underlying176 hi0 hz0 hz1 hz2 rfl ac _ _ _ _ rfl (hown.alloc _) _ 1 1 [.int .u8 ((x:Int)+32)] rfl rfl (dL _ _ _) GF kt ac bl ?_;intro A2 c2 w2 hown2 hb2 _ _);have hown3:=HM.o w2 A2 c2 (by rw [hlu.o,hx];exact hown2);have hbw3:=MZ;clear hown2 hb2 hown hbw;go_wp2
    go_roundg (s.size+1-(k+1))
    case measure=>omega
    case rel=>exact ⟨k+1,A2,c2,ac,rfl,de,rfl,hown3,hbw3⟩
   ·have hlo:=κ (aIK (c:=s[k]'hlt) ac);have HM:=κ hm;clear hm;obtain ⟨x,hx⟩:∃ x,(s[k]'hlt).toNat=x:=cw;rw [hx] at hup hbl;rcases (show x<65∨90<x by omega) with h1|h1
    all_goals
     clear hup;go_wp2_with (at_builtin;refine bJ _ rfl (.tmp 23) (.tmp 25) _ rfl w 5 i0 _ 1 1 underlying176 hi0 hz0 hz1 hz2 rfl ac _ _ _ _ rfl (hown.alloc _) _ 1 1 [.int .u8 ((x:Int))] rfl rfl (dL _ _ _) GF kt ac bl ?_;intro A2 c2 w2 hown2 hb2 _ _);have hown3:=HM.o w2 A2 c2 (by rw [hlo.o,hx];exact hown2);have hbw3:=MZ;clear hown2 hb2 hown hbw;go_wp2
     go_roundg (s.size+1-(k+1))
     case measure=>omega
     case rel=>exact ⟨k+1,A2,c2,ac,rfl,de,rfl,hown3,hbw3⟩
  ·obtain rfl:k=s.size:=ac
   have hr:Rds wr A (bv (s.data.toList.map jI)):=by
    have:=Rds.own hown;rw [kM] at this;exact ah
   have hcv:=yY s.size c (by rw [List.length_map,Array.length_toList];rfl) hr;go_wp2;go_ret;exact ⟨rfl,hbw⟩
theorem Ra (a:ZS):∀ b,(!Op.bytesLess a b && !(a==b))=Op.bytesLess b a:=by
 induction a with
 | nil=>intro b;cases b<;>simp [Op.bytesLess]
 | cons x a ih =>
   intro b;cases b with
   | nil=>simp [Op.bytesLess]
   | cons y b =>
     have h:=ih b;simp only [Op.bytesLess]
     by_cases hlt:x.toNat<y.toNat
     ·have h1:decide (x<y)=true:=by simpa using UInt8.lt_iff_toNat_lt.2 hlt
      have h2:decide (y<x)=false:=by simpa [UInt8.lt_iff_toNat_lt,UInt8.le_iff_toNat_le] using (by omega:x.toNat≤y.toNat)
      have h3:(y==x)=false:=by rw [beq_eq_false_iff_ne];intro e;rw [e] at hlt;omega
      simp [h1,h2,h3]
     ·by_cases heq:x.toNat=y.toNat
      ·have e:x=y:=UInt8.toNat_inj.1 heq;subst e;have h1:decide (x<x)=false:=aa
       simp only [h1,beq_self_eq_true,Bool.true_and,Bool.false_or];rw [<-h];simp
      ·have h1:decide (x<y)=false:=by simpa [UInt8.lt_iff_toNat_lt,UInt8.le_iff_toNat_le] using (by omega:y.toNat≤x.toNat)
       have h2:decide (y<x)=true:=by simpa using UInt8.lt_iff_toNat_lt.2 (by omega:y.toNat<x.toNat)
       have h3:(x==y)=false:=by rw [beq_eq_false_iff_ne];intro e;rw [e] at heq;exact heq rfl
       simp [h1,h2,h3]
def gQ (l:ZS) (w:World) (e:Ending) (w':World):Prop:=e=.returned (.tuple #[.int .i64 (kO l),.int .i64 (mP l)])∧w=w'
theorem uC (h:mN l=false):gQ l w (.returned (.tuple #[.int .i64 0,.int .i64 3])) w:=by
 unfold gQ;rw [Bj h,uD h];exact cm
theorem Pz (h:mN l=true) (hm:dvf 0 l=m) (hin:inR m):gQ l w (.returned (.tuple #[.int .i64 m,.int .i64 0])) w:=by
 subst hm;unfold gQ;rw [nQ h,nR h,Cp hin,Dz hin];exact cm
theorem Bd (h:mN l=true) (hm:dvf 0 l=m) (hin:¬inR m):gQ l w (.returned (.tuple #[.int .i64 0,.int .i64 9])) w:=by
 subst hm;unfold gQ;rw [nQ h,nR h,vQ hin,wA hin];exact cm
theorem Be (s:ByteArray) (w:World) (hs:s.size≤9223372036854775807) :
 Calls prog 76 #[s] w (gQ s.data.toList w):=by
 by_cases h0:s.size=0
 ·have Hall:=κ (show mN s.data.toList=false by
   have h0l:=gu;rw [h0l];rfl)
  have e0:((s.size:Int)==0)=true:=fv
  clear h0;go_enter func76,ntmps76;go_wp2;go_ret2;exact uC Hall.o
 ·have h1:1≤s.size:=ac
  have e0:((s.size:Int)==0)=false:=fv
  clear h0;go_enter func76,ntmps76;go_wp2
  go_loop [4] (λs4=>∃ k:Nat,k≤s.size∧s4=.int .i64 k∧Hd0 ((s.data.toList.take k).all aI=true)) (λs4=>s.size-(intOf s4).toNat)
  case atStart=>exact ⟨0,Nat.zero_le _,rfl,eh⟩
  case round =>
   obtain ⟨k,hk,rfl,HD⟩:=dd
   by_cases hlt:k<s.size
   ·cases hd:aI (s[k]'hlt)
    ·have Hall:=κ (Jf s k hlt hd);have hb:(s[k]'hlt).toNat<48∨57<(s[k]'hlt).toNat:=by
      simp only [aI,Bool.and_eq_false_iff,decide_eq_false_iff_not] at hd;omega
     clear hd HD;obtain ⟨c,hc⟩:∃ c,(s[k]'hlt).toNat=c:=cw;rw [hc] at hb;rcases hb with hb|hb
     ·go_wp2;go_ret2;exact uC Hall.o
     ·have hb2:¬c<48:=ac
      go_wp2;go_ret2;exact uC Hall.o
    ·have HD2:=κ (Lp.iD s k hlt HD.o hd);obtain ⟨hb1,hb2⟩:=iA hd;clear hd HD;obtain ⟨c,hc⟩:∃ c,(s[k]'hlt).toNat=c:=cw;rw [hc] at hb1 hb2;have hb3:¬c<48:=ac
     have hb4:¬57<c:=ac
     go_wp2
     go_round
     case rel=>exact ⟨k+1,ac,de,HD2⟩
     case measure=>simp [intOf];omega
   ·obtain rfl:k=s.size:=ac
    have HA:=gq
    have Hall:Hd0 (mN s.data.toList=true):=by
     show _=_;have hne:s.data.toList.isEmpty=false:=by
      rw [List.isEmpty_eq_false_iff];intro e;have:s.data.toList.length=0:=pc
      rw [Array.length_toList] at this;exact absurd (show s.size=0 from this) ac
     unfold mN;rw [HA.o,hne];rfl
    obtain ⟨V,hV⟩:∃ V,dvf 0 s.data.toList=V:=cw;have HV:=κ hV;clear HD hV e0;go_upto_block 2 with fail
    go_cut [0] (λs0 wx=>w=wx∧∃ B:ByteArray,s0=.string B∧1≤B.size∧B.size≤9223372036854775807∧Hd0 (B.data.toList.all aI=true)∧Hd0 (dvf 0 B.data.toList=V)∧Hd0 (B.size=1∨∃ h:0<B.size,B[0]≠48))
    case first =>
     go_wp2_with fail
     go_loopg [0] s.size (λgk s0 wr=>w=wr∧∃ B:ByteArray,s0=.string B∧gk=B.size∧1≤B.size∧B.size≤9223372036854775807∧Hd0 (B.data.toList.all aI=true)∧Hd0 (dvf 0 B.data.toList=V))
     case atStart=>exact ⟨rfl,s,rfl,rfl,h1,hs,HA,HV⟩
     case round =>
      clear HA HV hs h1;obtain ⟨rfl,B,rfl,rfl,hB1,hB2,HBA,HBV⟩:=dd
      by_cases hB:B.size=1
      ·have hB3:¬(1:Int)<(B.size:Int):=ac
       have HBE:=κ hB;clear hB;go_wp2
       go_meet
       exact ⟨rfl,B,rfl,hB1,hB2,HBA,HBV,.inl HBE.o⟩
      ·have hB3:(1:Int)<(B.size:Int):=ac
       have hB0:0<B.size:=ac
       by_cases hz:B[0]=48
       ·have hc:(B[0]'hB0).toNat=48:=by rw [hz];rfl
        have hd:(B.extract 1 B.size).data.toList=B.data.toList.drop 1:=by rw [Lib.extract_data];rw [List.take_of_length_le aa]
        have hdc:B.data.toList=48::B.data.toList.drop 1:=by have:=kC B 0 hB0;rw [List.drop_zero] at this;rw [this,hz];rfl
        have HA2:Hd0 ((B.extract 1 B.size).data.toList.all aI=true):=by
         show _=_;have:=HBA.o;rw [hdc,List.all_cons,Bool.and_eq_true] at this;rw [hd];exact this.2
        have HV2:Hd0 (dvf 0 (B.extract 1 B.size).data.toList=V):=by
         show _=_;have:=HBV.o;rw [hdc,Rx 0 _ rfl] at this;rw [hd];exact ah
        have hsz:(B.extract 1 B.size).size=B.size-1:=aa
        have HSZ:=κ hsz;clear hd hdc HBA HBV hB hsz hz;go_wp2
        go_roundg (B.size-1)
        case measure=>omega
        case rel=>exact ⟨rfl,B.extract 1 B.size,rfl,HSZ.o.symm,NA,NA,HA2,HV2⟩
       ·have hc:((B[0]'hB0).toNat:Int)≠48:=λg=>hz (UInt8.toNat_inj.1 (by show _=48;omega));have hce:(((B[0]'hB0).toNat:Int)==48)=false:=η hc;have HZ:=κ hz;clear hB hz hc;go_wp2
        go_meet
        exact ⟨rfl,B,rfl,hB1,hB2,HBA,HBV,.inr ⟨hB0,HZ.o⟩⟩
    case rest =>
     obtain ⟨rfl,B,rfl,hB1,hB2,HBA,HBV,HBX⟩:=sn;clear HA hs h1
     by_cases h20:19<B.size
     ·have hB0:0<B.size:=ac
      have HF:Hd0 (¬inR V):=by
       show ¬_;rw [<-HBV.o];have hdc:B.data.toList=B[0]::B.data.toList.drop 1:=by have:=kC B 0 hB0;rw [List.drop_zero] at this;exact this
       have hA:=HBA.o;rw [hdc] at hA |-;refine Xo hA ?_ ?_
       ·rcases HBX.o with h|⟨_,h⟩
        ·omega
        ·exact h
       ·rw [List.length_drop];show 19≤B.size-1;omega
      have h20':(19:Int)<(B.size:Int):=ac
      clear HBX;go_wp2;go_ret2;exact Bd Hall.o HV.o HF.o
     ·have hcase:(B.size=19∧Op.bytesLess B.toList vJ=false∧(B.toList==vJ)=false∧¬inR V)∨(B.size=19∧Op.bytesLess B.toList vJ=true∧inR V)∨(B.size=19∧Op.bytesLess B.toList vJ=false∧(B.toList==vJ)=true∧inR V)∨(B.size≤18∧inR V):=by
       by_cases h19:B.size=19
       ·have hbig:=aKS HBA.o (show B.data.toList.length=19 by simpa using h19);rw [HBV.o] at hbig;have ht:=Ra B.data.toList vJ;rw [ByteArray.toList_eq];cases h1:Op.bytesLess B.data.toList vJ
        ·cases h2:B.data.toList==vJ
         ·rw [h1,h2] at ht
          left;refine ⟨h19,rfl,rfl,λg => ?_⟩
          rw [hbig.1 g] at ht;cases ht
         ·rw [h1,h2] at ht
          right;right;left;exact ⟨h19,rfl,rfl,hbig.2 ht.symm⟩
        ·rw [h1] at ht
         right;left;exact ⟨h19,rfl,hbig.2 ht.symm⟩
       ·right;right;right
        refine ⟨ac, ?_⟩;rw [<-HBV.o];exact aIS HBA.o (by show B.data.toList.length≤18;rw [Array.length_toList];show B.size≤18;omega)
      have hn20:¬(19:Int)<(B.size:Int):=ac
      clear h20 HBX;unfold vJ at hcase;rcases hcase with ⟨h19,hl,he,hi⟩|⟨h19,hl,hi⟩|⟨h19,hl,he,hi⟩|⟨h19,hi⟩
      ·have e19:((B.size:Int)==19)=true:=by rw [h19];rfl
       have HF:=κ hi;clear h19 hi;go_wp2;go_ret2;exact Bd Hall.o HV.o HF.o
      all_goals
       first
        | (have e19:((B.size:Int)==19)=true:=by rw [h19];rfl)
        | (have e19:((B.size:Int)==19)=false:=η ac)
       have HF:=κ hi;clear h19 hi;go_wp2
       go_loop [5,6] (λs5 s6=>∃ k:Nat,k≤B.size∧s6=.int .i64 k∧s5=.int .i64 (dvf 0 (B.data.toList.take k))) (λ_ s6=>B.size-(intOf s6).toNat)
       case atStart=>exact ⟨0,Nat.zero_le _,rfl,rfl⟩
       case round =>
        obtain ⟨k,hk,rfl,rfl⟩:=dd
        by_cases hlt:k<B.size
        ·have hd:=aAY B k hlt HBA.o;obtain ⟨hb1,hb2⟩:=iA hd;have hall:(B.data.toList.take k).all aI=true:=by
          have:=HBA.o;rw [List.all_eq_true] at *;intro x hx;exact this x (List.mem_of_mem_take hx)
         have h0:=jZ hall;have hN:dvf 0 (B.data.toList.take (k+1))=10*dvf 0 (B.data.toList.take k)+(((B[k]'hlt).toNat:Int)-48):=by
          rw [iV B k hlt,yT,Int.mul_comm]
         have hin:inR (dvf 0 (B.data.toList.take (k+1))):=by
          apply Classical.byContradiction;intro g;have:=Lc B (k+1) HBA.o g;rw [HBV.o] at this;exact this HF.o
         rw [hN] at hin;unfold inR at hin;have HN:=κ hN;clear hN hd hall;obtain ⟨c,hc⟩:∃ c,(B[k]'hlt).toNat=c:=cw;rw [hc] at HN hin hb1 hb2;generalize dvf 0 (B.data.toList.take k)=m at *;obtain ⟨hin1,hin2⟩:=hin;go_wp2
         go_round
         case rel=>exact ⟨k+1,ac,de,by rw [HN.o]⟩
         case measure=>simp [intOf];omega
        ·obtain rfl:k=B.size:=ac
         have HE:=κ (kM B);rw [HE.o,HBV.o];go_wp2;go_ret2;exact Pz Hall.o HV.o HF.o
theorem wI (s:ByteArray) (w:World) (hs:s.size≤9223372036854775807) :
 Calls prog 131 #[s] w λe w'=>e=.returned (.bool (aR s.data.toList))∧w=w':=by
 go_enter func131,ntmps131;go_wp2
 go_loop [3] (λi=>∃ k:Nat,k≤s.size∧i=.int .i64 k∧Hd0 (aR s.data.toList=aR (s.data.toList.drop k))) (λi=>s.size-(intOf i).toNat)
 case atStart=>exact ⟨0,Nat.zero_le _,rfl,eh⟩
 case round =>
  obtain ⟨k,hk,rfl,HV⟩:=dd
  by_cases hlt:k<s.size
  ·have hd:=fF s k hlt;obtain ⟨b,hb⟩:∃ b,b=s[k]'hlt:=cw;rw [<-hb] at hd;have hbl:=b.toNat_lt
   by_cases c0:b.toNat=0
   ·have HF:Hd0 (aR s.data.toList=false):=by
     show _=_;rw [HV.o,hd];have:b=0:=UInt8.toNat_inj.1 c0;rw [this];exact aDP _
    clear HV hd;have hb':(s[k]'hlt).toNat=0:=by rw [<-hb];exact c0
    clear hb;go_wp2;go_ret;exact NB
   ·by_cases c1:b.toNat<128
    ·have HF:Hd0 (aR s.data.toList=aR (s.data.toList.drop (k+1))):=by
      show _=_;rw [HV.o,hd,Wz b _ c0 c1]
     clear HV hd;have hb':(s[k]'hlt).toNat=b.toNat:=by rw [<-hb]
     clear hb;generalize b.toNat=bn at *;go_wp2
     go_round
     case rel=>exact ⟨k+1,ac,de,HF⟩
     case measure=>simp [intOf];omega
    ·by_cases c2:b.toNat<192∨248≤b.toNat
     ·have HF:Hd0 (aR s.data.toList=false):=by
       show _=_;rw [HV.o,hd];exact aIG b _ ac
      clear HV hd;have hb':(s[k]'hlt).toNat=b.toNat:=by rw [<-hb]
      clear hb;generalize b.toNat=bn at *;rcases c2 with c2|c2
      ·go_wp2;go_ret;exact NB
      ·go_wp2;go_ret;exact NB
     ·clear hd;subst hb
      by_cases c3:(s[k]'hlt).toNat<224
      ·have HS:=κ (at2 s k hlt ac ac);rw [<-HV.o] at HS;clear HV
       by_cases hn:s.size≤k+1
       ·have HF:=κ (HS.o.1 hn);clear HS;obtain ⟨bn,hb⟩:∃ x,x=(s[k]'hlt).toNat:=cw;rw [<-hb] at hbl c0 c1 c2 c3
        try rw [<-hb] at c4
        try rw [<-hb] at HY HN
        replace hb:=hb.symm;go_wp2;go_ret;exact NB
       ·have HY:=NF;have HN:=NE;clear HS;have hl1:=NC;obtain ⟨bn,hb⟩:∃ x,x=(s[k]'hlt).toNat:=cw;rw [<-hb] at hbl c0 c1 c2 c3
        try rw [<-hb] at c4
        try rw [<-hb] at HY HN
        replace hb:=hb.symm;obtain ⟨x1,he1⟩:∃ x,x=(s[k+1]' ac).toNat:=cw;rw [<-he1] at hl1 HY HN;replace he1:=NG;have hn':(1:Int)<(s.size:Int)-k:=ac
        go_wp2
        go_loop [7,8] (λr kk=>(kk=.int .i64 1 ∧  r=.int .i32 ((bn:Int)-192))∨(kk=.int .i64 2∧dS x1∧r=.int .i32 (((bn:Int)-192)*64+((x1:Int)-128)))) (λr kk=>9-(intOf kk).toNat)
        case atStart=>exact .inl ⟨rfl,rfl⟩
        case round =>
         rcases hrel with ⟨rfl,rfl⟩|⟨rfl,p1,rfl⟩
         ·clear HY
          by_cases g:dS x1
          ·obtain ⟨g1,g2⟩:=g;clear HN;go_wp2
           go_round
           case rel=>exact .inr (⟨rfl,⟨g1,g2⟩,rfl⟩)
           case measure=>simp [intOf]
          ·have HF:=NI;clear HN;have g':=NH
           rcases g' with g'|g'
           ·go_wp2;go_ret;exact NB
           ·go_wp2;go_ret;exact NB
         ·by_cases g:eG (((bn:Int)-192)*64+((x1:Int)-128)) 128
          ·have HF:=κ (HY.o p1 g);clear HY HN;obtain ⟨g1,g2,g3⟩:=g;obtain ⟨q1,q1'⟩:=p1;go_wp2
           all_goals first|(exfalso;omega)|skip
           all_goals
            go_round
            case rel=>exact ⟨k+2,ac,de,HF⟩
            case measure=>simp [intOf];omega
          ·have HF:=κ (HN.o (λh=>g h.2));clear HY HN;have g':(((bn:Int)-192)*64+((x1:Int)-128))<128∨1114111<(((bn:Int)-192)*64+((x1:Int)-128))∨(55296≤(((bn:Int)-192)*64+((x1:Int)-128))∧(((bn:Int)-192)*64+((x1:Int)-128))<57344):=NJ
           clear g;obtain ⟨q1,q1'⟩:=p1;rcases g' with g'|g'|⟨g',g''⟩
           ·first
            | (exfalso;omega)
            | (go_wp2;all_goals first|(exfalso;omega)|(go_ret;exact ⟨FE,rfl⟩))
           ·first
            | (exfalso;omega)
            | (go_wp2;all_goals first|(exfalso;omega)|(go_ret;exact ⟨FE,rfl⟩))
           ·first
            | (exfalso;omega)
            | (go_wp2;all_goals first|(exfalso;omega)|(go_ret;exact ⟨FE,rfl⟩))
      ·by_cases c4:(s[k]'hlt).toNat<240
       ·have HS:=κ (at3 s k hlt ac ac);rw [<-HV.o] at HS;clear HV
        by_cases hn:s.size≤k+2
        ·have HF:=κ (HS.o.1 hn);clear HS;obtain ⟨bn,hb⟩:∃ x,x=(s[k]'hlt).toNat:=cw;rw [<-hb] at hbl c0 c1 c2 c3
         try rw [<-hb] at c4
         try rw [<-hb] at HY HN
         replace hb:=hb.symm;go_wp2;go_ret;exact NB
        ·have HY:=NF;have HN:=NE;clear HS;have hl1:=NC;have hl2:=(s[k+2]' ac).toNat_lt;obtain ⟨bn,hb⟩:∃ x,x=(s[k]'hlt).toNat:=cw;rw [<-hb] at hbl c0 c1 c2 c3
         try rw [<-hb] at c4
         try rw [<-hb] at HY HN
         replace hb:=hb.symm;obtain ⟨x1,he1⟩:∃ x,x=(s[k+1]' ac).toNat:=cw;obtain ⟨x2,he2⟩:∃ x,x=(s[k+2]' ac).toNat:=cw;rw [<-he1] at hl1 HY HN;rw [<-he2] at hl2 HY HN;replace he1:=NG;replace he2:(s[k+2]' ac).toNat=x2:=he2.symm;have hn':(2:Int)<(s.size:Int)-k:=ac
         go_wp2
         go_loop [7,8] (λr kk=>(kk=.int .i64 1 ∧  r=.int .i32 ((bn:Int)-224))∨(kk=.int .i64 2∧dS x1∧r=.int .i32 (((bn:Int)-224)*64+((x1:Int)-128)))∨(kk=.int .i64 3∧dS x1∧dS x2∧r=.int .i32 ((((bn:Int)-224)*64+((x1:Int)-128))*64+((x2:Int)-128)))) (λr kk=>9-(intOf kk).toNat)
         case atStart=>exact .inl ⟨rfl,rfl⟩
         case round =>
          rcases hrel with ⟨rfl,rfl⟩|⟨rfl,p1,rfl⟩|⟨rfl,p1,p2,rfl⟩
          ·clear HY
           by_cases g:dS x1
           ·obtain ⟨g1,g2⟩:=g;clear HN;go_wp2
            go_round
            case rel=>exact .inr (.inl ⟨rfl,⟨g1,g2⟩,rfl⟩)
            case measure=>simp [intOf]
           ·have HF:=NI;clear HN;have g':=NH
            rcases g' with g'|g'
            ·go_wp2;go_ret;exact NB
            ·go_wp2;go_ret;exact NB
          ·clear HY;obtain ⟨q1,q1'⟩:=p1
           by_cases g:dS x2
           ·obtain ⟨g1,g2⟩:=g;clear HN;go_wp2
            go_round
            case rel=>exact .inr (.inr (⟨rfl,⟨q1,q1'⟩,⟨g1,g2⟩,rfl⟩))
            case measure=>simp [intOf]
           ·have HF:=κ (HN.o (λh=>g h.2.1));clear HN;have g':x2<128∨192≤x2:=NK
            rcases g' with g'|g'
            ·go_wp2;go_ret;exact NB
            ·go_wp2;go_ret;exact NB
          ·by_cases g:eG ((((bn:Int)-224)*64+((x1:Int)-128))*64+((x2:Int)-128)) 2048
           ·have HF:=κ (HY.o p1 p2 g);clear HY HN;obtain ⟨g1,g2,g3⟩:=g;obtain ⟨q1,q1'⟩:=p1;obtain ⟨q2,q2'⟩:=p2;go_wp2
            all_goals first|(exfalso;omega)|skip
            all_goals
             go_round
             case rel=>exact ⟨k+3,ac,de,HF⟩
             case measure=>simp [intOf];omega
           ·have HF:=κ (HN.o (λh=>g h.2.2));clear HY HN;have g':((((bn:Int)-224)*64+((x1:Int)-128))*64+((x2:Int)-128))<2048∨1114111<((((bn:Int)-224)*64+((x1:Int)-128))*64+((x2:Int)-128))∨(55296≤((((bn:Int)-224)*64+((x1:Int)-128))*64+((x2:Int)-128))∧((((bn:Int)-224)*64+((x1:Int)-128))*64+((x2:Int)-128))<57344):=NJ
            clear g;obtain ⟨q1,q1'⟩:=p1;obtain ⟨q2,q2'⟩:=p2;rcases g' with g'|g'|⟨g',g''⟩
            ·first
             | (exfalso;omega)
             | (go_wp2;all_goals first|(exfalso;omega)|(go_ret;exact ⟨FE,rfl⟩))
            ·first
             | (exfalso;omega)
             | (go_wp2;all_goals first|(exfalso;omega)|(go_ret;exact ⟨FE,rfl⟩))
            ·first
             | (exfalso;omega)
             | (go_wp2;all_goals first|(exfalso;omega)|(go_ret;exact ⟨FE,rfl⟩))
       ·have HS:=κ (at4 s k hlt ac ac);rw [<-HV.o] at HS;clear HV
        by_cases hn:s.size≤k+3
        ·have HF:=κ (HS.o.1 hn);clear HS;obtain ⟨bn,hb⟩:∃ x,x=(s[k]'hlt).toNat:=cw;rw [<-hb] at hbl c0 c1 c2 c3
         try rw [<-hb] at c4
         try rw [<-hb] at HY HN
         replace hb:=hb.symm;go_wp2;go_ret;exact NB
        ·have HY:=NF;have HN:=NE;clear HS;have hl1:=NC;have hl2:=(s[k+2]' ac).toNat_lt;have hl3:=(s[k+3]' ac).toNat_lt;obtain ⟨bn,hb⟩:∃ x,x=(s[k]'hlt).toNat:=cw;rw [<-hb] at hbl c0 c1 c2 c3
         try rw [<-hb] at c4
         try rw [<-hb] at HY HN
         replace hb:=hb.symm;obtain ⟨x1,he1⟩:∃ x,x=(s[k+1]' ac).toNat:=cw;obtain ⟨x2,he2⟩:∃ x,x=(s[k+2]' ac).toNat:=cw;obtain ⟨x3,he3⟩:∃ x,x=(s[k+3]' ac).toNat:=cw;rw [<-he1] at hl1 HY HN;rw [<-he2] at hl2 HY HN;rw [<-he3] at hl3 HY HN;replace he1:=NG;replace he2:(s[k+2]' ac).toNat=x2:=he2.symm;replace he3:(s[k+3]' ac).toNat=x3:=he3.symm;have hn':(3:Int)<(s.size:Int)-k:=ac
         go_wp2
         go_loop [7,8] (λr kk=>(kk=.int .i64 1 ∧  r=.int .i32 ((bn:Int)-240))∨(kk=.int .i64 2∧dS x1∧r=.int .i32 (((bn:Int)-240)*64+((x1:Int)-128)))∨(kk=.int .i64 3∧dS x1∧dS x2∧r=.int .i32 ((((bn:Int)-240)*64+((x1:Int)-128))*64+((x2:Int)-128)))∨(kk=.int .i64 4∧dS x1∧dS x2∧dS x3∧r=.int .i32 (((((bn:Int)-240)*64+((x1:Int)-128))*64+((x2:Int)-128))*64+((x3:Int)-128)))) (λr kk=>9-(intOf kk).toNat)
         case atStart=>exact .inl ⟨rfl,rfl⟩
         case round =>
          rcases hrel with ⟨rfl,rfl⟩|⟨rfl,p1,rfl⟩|⟨rfl,p1,p2,rfl⟩|⟨rfl,p1,p2,p3,rfl⟩
          ·clear HY
           by_cases g:dS x1
           ·obtain ⟨g1,g2⟩:=g;clear HN;go_wp2
            go_round
            case rel=>exact .inr (.inl ⟨rfl,⟨g1,g2⟩,rfl⟩)
            case measure=>simp [intOf]
           ·have HF:=NI;clear HN;have g':=NH
            rcases g' with g'|g'
            ·go_wp2;go_ret;exact NB
            ·go_wp2;go_ret;exact NB
          ·clear HY;obtain ⟨q1,q1'⟩:=p1
           by_cases g:dS x2
           ·obtain ⟨g1,g2⟩:=g;clear HN;go_wp2
            go_round
            case rel=>exact .inr (.inr (.inl ⟨rfl,⟨q1,q1'⟩,⟨g1,g2⟩,rfl⟩))
            case measure=>simp [intOf]
           ·have HF:=κ (HN.o (λh=>g h.2.1));clear HN;have g':x2<128∨192≤x2:=NK
            rcases g' with g'|g'
            ·go_wp2;go_ret;exact NB
            ·go_wp2;go_ret;exact NB
          ·clear HY;obtain ⟨q1,q1'⟩:=p1;obtain ⟨q2,q2'⟩:=p2
           by_cases g:dS x3
           ·obtain ⟨g1,g2⟩:=g;clear HN;go_wp2
            go_round
            case rel=>exact .inr (.inr (.inr (⟨rfl,⟨q1,q1'⟩,⟨q2,q2'⟩,⟨g1,g2⟩,rfl⟩)))
            case measure=>simp [intOf]
           ·have HF:=κ (HN.o (λh=>g h.2.2.1));clear HN;have g':x3<128∨192≤x3:=NK
            rcases g' with g'|g'
            ·go_wp2;go_ret;exact NB
            ·go_wp2;go_ret;exact NB
          ·by_cases g:eG (((((bn:Int)-240)*64+((x1:Int)-128))*64+((x2:Int)-128))*64+((x3:Int)-128)) 65536
           ·have HF:=κ (HY.o p1 p2 p3 g);clear HY HN;obtain ⟨g1,g2,g3⟩:=g;obtain ⟨q1,q1'⟩:=p1;obtain ⟨q2,q2'⟩:=p2;obtain ⟨q3,q3'⟩:=p3;go_wp2
            all_goals first|(exfalso;omega)|skip
            all_goals
             go_round
             case rel=>exact ⟨k+4,ac,de,HF⟩
             case measure=>simp [intOf];omega
           ·have HF:=κ (HN.o (λh=>g h.2.2.2));clear HY HN;have g':(((((bn:Int)-240)*64+((x1:Int)-128))*64+((x2:Int)-128))*64+((x3:Int)-128))<65536∨1114111<(((((bn:Int)-240)*64+((x1:Int)-128))*64+((x2:Int)-128))*64+((x3:Int)-128))∨(55296≤(((((bn:Int)-240)*64+((x1:Int)-128))*64+((x2:Int)-128))*64+((x3:Int)-128))∧(((((bn:Int)-240)*64+((x1:Int)-128))*64+((x2:Int)-128))*64+((x3:Int)-128))<57344):=NJ
            clear g;obtain ⟨q1,q1'⟩:=p1;obtain ⟨q2,q2'⟩:=p2;obtain ⟨q3,q3'⟩:=p3;rcases g' with g'|g'|⟨g',g''⟩
            ·first
             | (exfalso;omega)
             | (go_wp2;all_goals first|(exfalso;omega)|(go_ret;exact ⟨FE,rfl⟩))
            ·first
             | (exfalso;omega)
             | (go_wp2;all_goals first|(exfalso;omega)|(go_ret;exact ⟨FE,rfl⟩))
            ·first
             | (exfalso;omega)
             | (go_wp2;all_goals first|(exfalso;omega)|(go_ret;exact ⟨FE,rfl⟩))
  ·have HF:Hd0 (aR s.data.toList=true):=by
    show _=_;rw [HV.o,aDR s k ac];rfl
   clear HV;go_wp2;go_ret;exact NB
theorem jM (B:Nat) (w:World) (n:Nat):Below B w (w.drewN n):=⟨rfl,rfl,rfl,ν _,λ_ _=>rfl⟩
def iU (k i:Int) (s:ByteArray) (b:Bool) (w:World) (e:Ending) (w':World):Prop:=e=.returned (.bool (cG k i s b))∧Below w w w'
theorem lZ {k i:Int} {s:ByteArray} {b r:Bool} {w':World} (h:r=cG k i s b) (hb:Below w w w'):iU k i s b w (.returned (.bool r)) w':=by
 subst h;exact fg
theorem Wg (i:Int) (s:ByteArray) (b:Bool) (w:World) :
 Calls prog 77 #[.agg #[.int .u8 0,.int .i64 i,s,b]] w (iU 0 i s b w):=by
 have hB:=NL;go_enter func77,ntmps77;go_wp2_with fail;go_quiet (fail);go_wp2
 all_goals (go_ret;exact lZ NM (hB _ _))
theorem Wf (i:Int) (s:ByteArray) (b:Bool) (w:World) :
 Calls prog 77 #[.agg #[.int .u8 1,.int .i64 i,s,b]] w (iU 1 i s b w):=by
 have hB:=NL;go_enter func77,ntmps77;go_wp2_with fail;go_quiet (fail);go_wp2
 all_goals (go_ret;exact lZ NM (hB _ _))
theorem We (i:Int) (s:ByteArray) (b:Bool) (w:World) (hs:s.size≤9223372036854775807) :
 Calls prog 77 #[.agg #[.int .u8 2,.int .i64 i,s,b]] w (iU 2 i s b w):=by
 have hB:=NL;go_enter func77,ntmps77;go_wp2_with fail;go_quiet (fail);go_wp2_with (go_at_call 131;refine (wI _ _ hs).mono ?_;rintro e w' ⟨rfl,rfl⟩)
 all_goals (go_ret;exact lZ (by clear hB;simp_all [cG]<;>(intros;omega)) (hB _ _))
theorem Wd (i:Int) (s:ByteArray) (b:Bool) (w:World) :
 Calls prog 77 #[.agg #[.int .u8 3,.int .i64 i,s,b]] w (iU 3 i s b w):=by
 have hB:=NL;go_enter func77,ntmps77;go_wp2_with fail;go_quiet (fail);go_wp2
 all_goals (go_ret;exact lZ NM (hB _ _))
theorem Dd (k i:Int) (s:ByteArray) (b:Bool) (w:World) (h0:(k==0)=false) (h1:(k==1)=false) (h2:(k==2)=false) (h3:(k==3)=false) :
 Calls prog 77 #[.agg #[.int .u8 k,.int .i64 i,s,b]] w (iU k i s b w):=by
 have hB:=NL;go_enter func77,ntmps77;go_wp2_with fail;go_quiet (fail);go_wp2
 all_goals (go_ret;exact lZ (by simp_all [cG]) (hB _ _))
theorem Kq (k i:Int) (s:ByteArray) (b:Bool) (w:World) (hs:s.size≤9223372036854775807) :
 Calls prog 77 #[.agg #[.int .u8 k,.int .i64 i,s,b]] w (iU k i s b w):=by
 by_cases h0:k=0
 ·subst h0;exact Wg i s b w
 ·by_cases h1:k=1
  ·subst h1;exact Wf i s b w
  ·by_cases h2:k=2
   ·subst h2;exact We i s b w hs
   ·by_cases h3:k=3
    ·subst h3;exact Wd i s b w
    ·exact Dd k i s b w fv fu db ft
theorem lN (k i:Int) (s:ByteArray) (b r:Bool) (hr:cG k i s b=r) (w:World) (hs:s.size≤9223372036854775807) :
 Calls prog 77 #[.agg #[.int .u8 k,.int .i64 i,s,b]] w λe w'=>e=.returned (.bool r)∧Below w w w':=by
 subst hr;exact Kq k i s b w hs
