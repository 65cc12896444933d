/-
 Contracts. Conditions: those of each.
-/
import Derived.Test.YtkolcimllghnaaaGreatDoorQdGQ
set_option maxRecDepth 100000
set_option maxHeartbeats 20000000
namespace Go.Proofs.YtkolcimllghnaaaGreatDoor
open Lp Go.Proofs.Tryz
open Go.RowKit
variable{s:ByteArray}{i j:Nat}{x y:UInt8}
theorem qG (s:ByteArray) (w:World) (hs:s.size≤9223372036854775807) :
 Calls prog 78 #[s] w λe w'=>e=.returned (.bool (aR s.data.toList))∧w=w':=by
 have C:=κ (λW=>wI s W hs);go_enter func78,ntmps78;go_wp2_with fail;refine (C.o _).mono ?_;rintro e w' ⟨rfl,rfl⟩;go_wp2;go_ret;exact cm
theorem Og (h:i<s.size) (hx:s[i]'h=x):s.data.toList.drop i=x::s.data.toList.drop (i+1):=by
 rw [kC s i h,hx]
theorem Mu {p:UInt8->Bool} {l:ZS} (hij:i≤j) (hall:((l.drop i).take (j-i)).all p=true) (hend:∀ h:j<l.length,p (l[j]'h)=false) (hj:j≤l.length):((l.drop i).takeWhile p).length=j-i∧(l.drop i).takeWhile p=(l.drop i).take (j-i):=by
 have h1:((l.drop i).takeWhile p).length=j-i:=by
  by_cases h:j<l.length
  ·refine lF (by rw [List.length_drop];omega) hall ?_;rw [List.getElem_drop];have e:i+(j-i)=j:=ac
   simp only [e];exact hend h
  ·have hjl:j=l.length:=ac
   have e:(l.drop i).take (j-i)=l.drop i:=List.take_of_length_le (by rw [List.length_drop];omega);rw [e] at hall;rw [nB hall,List.length_drop];omega
 exact ⟨h1,by rw [<-lU (p:=p),h1]⟩
theorem Cr {p:UInt8->Bool} (hij:i≤j) (hj:j<s.size) (hall:((s.data.toList.drop i).take (j-i)).all p=true) (hp:p (s[j]'hj)=true):((s.data.toList.drop i).take (j+1-i)).all p=true:=by
 have e:j+1-i=j-i+1:=ac
 rw [e,List.take_add_one,List.getElem?_drop,List.all_append,hall];have e2:i+(j-i)=j:=ac
 rw [e2,jK s j hj];simp [hp]
theorem gK {w:World} {B c:Nat} {A:ZT} {L:ZW} {t:Tok} (h:w.ownsRow B 173 3 (.slice A (L.length+1) c) (L.length+1) (tkv L++tkv [t])) :
 w.ownsRow B 173 3 (.slice A (L++[t]).length c) (L++[t]).length (tkv (L++[t])):=by
 rw [wQ,List.length_append];exact h
theorem oH (s:ByteArray) (i j:Nat):s.extract i j=⟨((s.data.toList.drop i).take (j-i)).toArray⟩:=by
 apply ByteArray.ext;apply Array.ext';rw [Lib.extract_data]
theorem aBP (h:wM x y=false):(((x.toNat:Int)==60)=true∧((y.toNat:Int)==61)=false∧((y.toNat:Int)==62)=false∧((x.toNat:Int)==62)=false)∨(((x.toNat:Int)==60)=false∧((x.toNat:Int)==62)=true∧((y.toNat:Int)==61)=false)∨(((x.toNat:Int)==60)=false∧((x.toNat:Int)==62)=false):=by
 rw [<-Bool.not_eq_true] at h;unfold wM at h;simp at h;simp only [beq_iff_eq,beq_eq_false_iff_ne];omega
theorem Tk (h:wM x y=true):(((x.toNat:Int)==60)=true∧((y.toNat:Int)==61)=true)∨(((x.toNat:Int)==60)=true∧((y.toNat:Int)==61)=false∧((y.toNat:Int)==62)=true)∨(((x.toNat:Int)==60)=false∧((x.toNat:Int)==62)=true∧((y.toNat:Int)==61)=true):=by
 unfold wM at h;simp at h;simp only [beq_iff_eq,beq_eq_false_iff_ne];omega
theorem aAP (h:eP x=true):x.toNat=32∨x.toNat=9∨x.toNat=10∨x.toNat=13:=by
 unfold eP at h;simp at h;omega
theorem aAO (h:eP x=false):((x.toNat:Int)==32)=false∧((x.toNat:Int)==9)=false∧((x.toNat:Int)==10)=false∧((x.toNat:Int)==13)=false:=by
 rw [<-Bool.not_eq_true] at h;unfold eP at h;simp at h;refine ⟨?_, ?_, ?_, ?_⟩<;>(rw [beq_eq_false_iff_ne];omega)
theorem rR (s:ByteArray) (w:World) (hs0:s.size≤9223372036854775807) :
 Calls prog 32 #[s] w (kK 173 w (eL s.data.toList)):=by
 have hsz:=bz
 by_cases hlong:2000<s.size
 ·have HF:=jl;have h2:(2000:Int)<(s.size:Int):=ac
  clear hsz;go_enter func32,ntmps32;go_wp2;go_ret2;exact dK HF.o (θ)
 ·have HF:=jm;have h2:¬(2000:Int)<(s.size:Int):=ac
  have hs2:s.size≤2000:=ac
  obtain ⟨iT,hiT,hz0,hz1,hz2⟩:=info_parts Vn;have HSZ:=κ hsz;clear hsz hlong;go_enter func32,ntmps32;go_wp2_with fail
  go_loopg [4,5,6,7,8,9,10,11,12] (s.size+1) (λgk s4 s5 _ _ _ _ _ _ _ wr=>∃ (i:Nat) (L:ZW) (A:ZT) (c:Nat),i≤s.size∧gk=s.size+1-i∧s5=.int .i64 i∧s4=.slice A L.length c∧wr.ownsRow w 173 3 (.slice A L.length c) L.length (tkv L)∧L.length≤i∧Hd0 (eL s.data.toList=dN L (s.data.toList.drop i))∧Below w w wr)
  case atStart=>exact ⟨0,[],none,0,ac,ac,rfl,rfl,World.ownsRow_nil _ _ _ _,aa,HF.o,θ⟩
  case round =>
   clear HF;obtain ⟨i,L,A,c,hi,rfl,rfl,rfl,hown,hLi,HR,hbw⟩:=dd;have hsz:=hbw.size
   by_cases hlt:i<s.size
   ·obtain ⟨x,hx⟩:∃ x,s[i]'hlt=x:=cw;have HD:=κ (Og hlt hx);have hlt':(i:Int)<(s.size:Int):=ac
    have hi0:=ug
    cases hbl:eP x
    ·obtain ⟨q1,q2,q3,q4⟩:=aAO hbl;cases hle:gP x
     ·cases hdi:aI x
      ·by_cases h39:x=39
       ·have cL:=NO;rw [fS,hle] at cL;unfold aW at cL;have CL:=κ cL;have cI:=NN;rw [eU,hdi] at cI;unfold aW at cI;have CI:=κ cI;clear cL cI;have q5:((x.toNat:Int)==39)=true:=by rw [h39];rfl
        have H39:=κ h39;clear h39;obtain ⟨i0,hi9,hy0,hy1,hy2⟩:=info_parts Iz;go_wp2_with fail;refine (CL.o _).mono ?_;rintro e w' ⟨rfl,rfl⟩;go_wp2_with fail;refine (CI.o _).mono ?_;rintro e w' ⟨rfl,rfl⟩;go_wp2_with fail;obtain ⟨wo,rfl⟩:∃ wo:World,wo=wr:=cw
        go_loopw [5,10,11] (λs5 s10 s11 w2=>∃ (q p:Nat) (acc:ZS) (A3:ZT) (c3:Nat) (cl:Bool),q≤i+1+p∧i+1+p≤q∧q≤s.size∧s5=.int .i64 q∧s10=.slice A3 acc.length c3∧OwnB w2 wo A3 c3 acc∧s11=.bool cl∧acc.length≤p∧Hd0 (if cl=true then txt (s.data.toList.drop (i+1))=some (acc,p) else gF (s.data.toList.drop (i+1)) acc p false)∧Below wo wo w2) (λs5 _ _ _=>s.size-(intOf s5).toNat)
        case atStart=>exact ⟨i+1,0,[],none,0,false,ac,ac,ac,de,rfl,World.ownsRow_nil _ _ _ _,rfl,aa,sF _,θ⟩
        case round =>
         obtain ⟨q,p,acc,A3,c3,cl,hq1,hq2,hq3,rfl,rfl,hown3,rfl,hac,HA,hbo⟩:=dd;have hq0:(0:Int)≤(q:Int):=ac
         cases cl
         ·by_cases hql:q<s.size
          ·have hql':(q:Int)<(s.size:Int):=ac
           obtain ⟨y,hy⟩:∃ y,s[q]'hql=y:=cw;have hgy:(s.data.toList.drop (i+1))[p]? = some y:=by rw [List.getElem?_drop,show i+1+p=q by omega,jK s q hql,hy]
           have HA1:gF (s.data.toList.drop (i+1)) acc p false:=HA.o
           by_cases hy39:y=39
           ·have r1:((y.toNat:Int)==39)=true:=by rw [hy39];rfl
            rw [hy39] at hgy;have HAq:=sG HA1 hgy
            by_cases hq4:q+1<s.size
            ·have hq4':(q:Int)+1<(s.size:Int):=ac
             have hq5':(0:Int)≤(q:Int)+1:=ac
             obtain ⟨z,hz⟩:∃ z,s[q+1]'hq4=z:=cw;have hgz:(s.data.toList.drop (i+1))[p+1]? = some z:=by rw [List.getElem?_drop,show i+1+(p+1)=q+1 by omega,jK s (q+1) hq4,hz]
             by_cases hz39:z=39
             ·as_aux_lemma =>
               have r2:((z.toNat:Int)==39)=true:=by rw [hz39];rfl
               rw [hz39] at hgz;have HA2:Hd0 (if false=true then txt (s.data.toList.drop (i+1))=some (acc++[39],p+2) else gF (s.data.toList.drop (i+1)) (acc++[39]) (p+2) false):=by
                have:=wU HAq hgz;show if false=true then _ else _
                simpa using this
               clear HA HA1 HAq hgz hz39 hy39 hgy HR HD hbl hle hdi;go_wp2_with (at_builtin;refine bJ _ rfl (.tmp 187) (.tmp 188) _ rfl wo 5 i0 _ 1 1 underlying176 hi9 hy0 hy1 hy2 rfl ac _ _ _ _ rfl (hown3.alloc _) _ 1 1 (bv [39]) rfl rfl (dL _ _ _) (by simp [bv,Value.oneCell']) kt ac NP ?_;intro A4 c4 w4 hown4 hb4 _ _);have hown5:OwnB w4 wo A4 c4 (acc++[39]):=by
                unfold OwnB;rw [uK,List.length_append];exact hown4
               have hbo5:=(hbo.alloc hbo.size _).trans hb4;clear hown3 hown4 hb4 hbo;go_wp2
               go_roundw
               case rel=>exact ⟨q+2,p+2,acc++[39],A4,c4,false,ac,ac,ac,de,aa,hown5,rfl,bl,HA2,hbo5⟩
               case measure=>simp [intOf];omega
             ·as_aux_lemma =>
               have r2:((z.toNat:Int)==39)=false:=by rw [beq_eq_false_iff_ne];intro e;exact hz39 (UInt8.toNat_inj.1 GU)
               have HA2:Hd0 (if true=true then txt (s.data.toList.drop (i+1))=some (acc,p+1) else gF (s.data.toList.drop (i+1)) acc (p+1) false):=by
                have:=wV HAq hgz hz39;show if true=true then _ else _
                simpa using this
               clear HA HA1 HAq hgz hz39 hy39 hgy HR HD hbl hle hdi;go_wp2
               go_roundw
               case rel=>exact ⟨q+1,p+1,acc,A3,c3,true,ac,ac,ac,de,rfl,hown3,rfl,ac,HA2,hbo⟩
               case measure=>simp [intOf];omega
            ·as_aux_lemma =>
              have hq4':¬(q:Int)+1<(s.size:Int):=ac
              have HA2:Hd0 (if true=true then txt (s.data.toList.drop (i+1))=some (acc,p+1) else gF (s.data.toList.drop (i+1)) acc (p+1) false):=by
               have:=uU HAq NQ;show if true=true then _ else _
               simpa using this
              clear HA HA1 HAq hy39 hgy HR HD hbl hle hdi;go_wp2
              go_roundw
              case rel=>exact ⟨q+1,p+1,acc,A3,c3,true,ac,ac,ac,de,rfl,hown3,rfl,ac,HA2,hbo⟩
              case measure=>simp [intOf];omega
           ·as_aux_lemma =>
             have r1:((y.toNat:Int)==39)=false:=by rw [beq_eq_false_iff_ne];intro e;exact hy39 (UInt8.toNat_inj.1 GU)
             have HA2:Hd0 (if false=true then txt (s.data.toList.drop (i+1))=some (acc++[y],p+1) else gF (s.data.toList.drop (i+1)) (acc++[y]) (p+1) false):=by
              have hty:((s.data.toList.drop (i+1)).drop p).take 1=[y]:=by
               obtain ⟨g1,g2⟩:=List.getElem?_eq_some_iff.1 hgy;rw [List.drop_eq_getElem_cons g1,g2];rfl
              have:=uS (k:=1) HA1 NQ (by rw [hty];simpa using λe=>hy39 e.symm);rw [hty] at this;show if false=true then _ else _
              simpa using this
             clear HA HA1 hy39 hgy HR HD hbl hle hdi;go_wp2_with (at_builtin;refine bJ _ rfl (.tmp 167) (.tmp 171) _ rfl wo 5 i0 _ 1 1 underlying176 hi9 hy0 hy1 hy2 rfl ac _ _ _ _ rfl (hown3.alloc _) _ 1 1 (bv [y]) rfl rfl (dL _ _ _) (by simp [bv,Value.oneCell']) kt ac NP ?_;intro A4 c4 w4 hown4 hb4 _ _);have hown5:OwnB w4 wo A4 c4 (acc++[y]):=by
              unfold OwnB;rw [uK,List.length_append];exact hown4
             have hbo5:=(hbo.alloc hbo.size _).trans hb4;clear hown3 hown4 hb4 hbo;go_wp2
             go_roundw
             case rel=>exact ⟨q+1,p+1,acc++[y],A4,c4,false,ac,ac,ac,de,aa,hown5,rfl,bl,HA2,hbo5⟩
             case measure=>simp [intOf];omega
          ·as_aux_lemma =>
            have hql':¬(q:Int)<(s.size:Int):=ac
            have ht:txt (s.data.toList.drop (i+1))=none:=uT HA.o NQ;have HF:Hd0 (eL s.data.toList=([],4)):=by
             have hE:bE (x::s.data.toList.drop (i+1))=(Jq,0,4):=by rw [H39.o,dE,ht];rfl
             show _=_;rw [HR.o,HD.o,eB _ hbl NR,hE]
            have hbw2:=hbw.trans (hbo.mono hsz);clear HA ht HR HD hbl hle hdi;go_wp2;go_ret2;exact dK HF.o hbw2
         ·by_cases hql:q<s.size
          ·as_aux_lemma =>
            have hql':(q:Int)<(s.size:Int):=ac
            have HAx:Hd0 (txt (s.data.toList.drop (i+1))=some (acc,p)):=HA;clear HA;have HA:=HAx;clear HAx;have hnx:=NS
            have hcv:=yY acc.length c3 rfl hown3.rds;cases hok:aR acc
            ·as_aux_lemma =>
              have hE:=NU
              have HF:Hd0 (eL s.data.toList=([],4)):=by
               show _=_;rw [HR.o,HD.o,eB _ hbl NR,hE]
              have hRt:cG 2 0 acc false=false:=by rw [fK,hok,Bool.and_false]
              have CR:=NY;have cWh:=NX;rw [show (acc:ByteArray).data.toList=acc from rfl,hok] at cWh;have CWh:=κ cWh;clear hRt cWh hE hnx HR HD HA hok hbl hle hdi;go_wp2_with fail;refine (CR.o _).mono ?_;rintro e w5 ⟨rfl,hb5⟩;have x5:=NW;have cv5:=β x5;have hbw5:=NV;clear x5 hb5 hbo hbw hown hown3 hcv;go_wp2_with fail;refine (CWh.o _).mono ?_;rintro e w' ⟨rfl,rfl⟩;go_wp2;go_ret2;exact dK HF.o hbw5
            ·by_cases h60:acc.length≤60
             ·as_aux_lemma =>
               have hE:=NZ
               have HR2:Hd0 (eL s.data.toList=dN (L++[⟨3,acc,0⟩]) (s.data.toList.drop q)):=by
                show _=_;rw [HR.o,HD.o,dM _ hbl (by rw [hE]),hE, <-HD.o,List.drop_drop,show i+(p+1)=q by omega]
               have hRt:=OA
               have CR:=NY;clear hRt hE hnx HR HD HA hok hbl hle hdi;go_wp2_with fail;refine (CR.o _).mono ?_;rintro e w5 ⟨rfl,hb5⟩;have x5:=NW;have cv5:=β x5;have hbw5:=OD;have hown5:=aN ((aN hown hbo).alloc _) hb5;have hsz5:=hbw5.size;clear x5 hb5 hbo hbw hown hown3 hcv;go_wp2_with (at_builtin;refine bJ _ rfl (.tmp 205) (.tmp 209) _ rfl w 173 iT _ 3 32 underlying103 hiT hz0 hz1 hz2 rfl ac _ _ _ _ rfl (hown5.alloc _) _ 1 1 (tkv [(⟨3,acc,0⟩:Tok)]) rfl rfl (dL _ _ _) OC kt ac bl ?_;intro A2 c2 w2 hown2 hb2 _ _);have hown3:=OB;have hbw3:=(hbw5.alloc hsz5 _).trans hb2;clear hown2 hb2 hown5 hbw5;go_wp2
               go_roundg (s.size+1-(q))
               case measure=>omega
               case rel=>exact ⟨q,_,A2,c2,ac,rfl,rfl,aa,hown3,bl,HR2,hbw3⟩
             ·as_aux_lemma =>
               have hE:=OE
               have HF:Hd0 (eL s.data.toList=([],2)):=by
                show _=_;rw [HR.o,HD.o,eB _ hbl NR,hE]
               have hRt:=OG
               have CR:=NY;have cWh:=NX;rw [show (acc:ByteArray).data.toList=acc from rfl,hok] at cWh;have CWh:=κ cWh;clear hRt cWh hE hnx HR HD HA hok hbl hle hdi h60;go_wp2_with fail;refine (CR.o _).mono ?_;rintro e w5 ⟨rfl,hb5⟩;have x5:=NW;have cv5:=β x5;have hbw5:=NV;clear x5 hb5 hbo hbw hown hown3 hcv;go_wp2_with fail;refine (CWh.o _).mono ?_;rintro e w' ⟨rfl,rfl⟩;go_wp2;go_ret2;exact dK HF.o hbw5
          ·as_aux_lemma =>
            have hql':¬(q:Int)<(s.size:Int):=ac
            have HAx:Hd0 (txt (s.data.toList.drop (i+1))=some (acc,p)):=HA;clear HA;have HA:=HAx;clear HAx;have hnx:=NS
            have hcv:=yY acc.length c3 rfl hown3.rds;cases hok:aR acc
            ·as_aux_lemma =>
              have hE:=NU
              have HF:Hd0 (eL s.data.toList=([],4)):=by
               show _=_;rw [HR.o,HD.o,eB _ hbl NR,hE]
              have hRt:cG 2 0 acc false=false:=by rw [fK,hok,Bool.and_false]
              have CR:=NY;have cWh:=NX;rw [show (acc:ByteArray).data.toList=acc from rfl,hok] at cWh;have CWh:=κ cWh;clear hRt cWh hE hnx HR HD HA hok hbl hle hdi;go_wp2_with fail;refine (CR.o _).mono ?_;rintro e w5 ⟨rfl,hb5⟩;have x5:=NW;have cv5:=β x5;have hbw5:=NV;clear x5 hb5 hbo hbw hown hown3 hcv;go_wp2_with fail;refine (CWh.o _).mono ?_;rintro e w' ⟨rfl,rfl⟩;go_wp2;go_ret2;exact dK HF.o hbw5
            ·by_cases h60:acc.length≤60
             ·as_aux_lemma =>
               have hE:=NZ
               have HR2:Hd0 (eL s.data.toList=dN (L++[⟨3,acc,0⟩]) (s.data.toList.drop q)):=by
                show _=_;rw [HR.o,HD.o,dM _ hbl (by rw [hE]),hE, <-HD.o,List.drop_drop,show i+(p+1)=q by omega]
               have hRt:=OA
               have CR:=NY;clear hRt hE hnx HR HD HA hok hbl hle hdi;go_wp2_with fail;refine (CR.o _).mono ?_;rintro e w5 ⟨rfl,hb5⟩;have x5:=NW;have cv5:=β x5;have hbw5:=OD;have hown5:=aN ((aN hown hbo).alloc _) hb5;have hsz5:=hbw5.size;clear x5 hb5 hbo hbw hown hown3 hcv;go_wp2_with (at_builtin;refine bJ _ rfl (.tmp 205) (.tmp 209) _ rfl w 173 iT _ 3 32 underlying103 hiT hz0 hz1 hz2 rfl ac _ _ _ _ rfl (hown5.alloc _) _ 1 1 (tkv [(⟨3,acc,0⟩:Tok)]) rfl rfl (dL _ _ _) OC kt ac bl ?_;intro A2 c2 w2 hown2 hb2 _ _);have hown3:=OB;have hbw3:=(hbw5.alloc hsz5 _).trans hb2;clear hown2 hb2 hown5 hbw5;go_wp2
               go_roundg (s.size+1-(q))
               case measure=>omega
               case rel=>exact ⟨q,_,A2,c2,ac,rfl,rfl,aa,hown3,bl,HR2,hbw3⟩
             ·as_aux_lemma =>
               have hE:=OE
               have HF:Hd0 (eL s.data.toList=([],2)):=by
                show _=_;rw [HR.o,HD.o,eB _ hbl NR,hE]
               have hRt:=OG
               have CR:=NY;have cWh:=NX;rw [show (acc:ByteArray).data.toList=acc from rfl,hok] at cWh;have CWh:=κ cWh;clear hRt cWh hE hnx HR HD HA hok hbl hle hdi h60;go_wp2_with fail;refine (CR.o _).mono ?_;rintro e w5 ⟨rfl,hb5⟩;have x5:=NW;have cv5:=β x5;have hbw5:=NV;clear x5 hb5 hbo hbw hown hown3 hcv;go_wp2_with fail;refine (CWh.o _).mono ?_;rintro e w' ⟨rfl,rfl⟩;go_wp2;go_ret2;exact dK HF.o hbw5
       ·have cL:=NO;rw [fS,hle] at cL;unfold aW at cL;have CL:=κ cL;have cI:=NN;rw [eU,hdi] at cI;unfold aW at cI;have CI:=κ cI;have q5:((x.toNat:Int)==39)=false:=by rw [beq_eq_false_iff_ne];intro e;exact h39 (UInt8.toNat_inj.1 GU)
        have hsx:=gD (s.data.toList.drop (i+1)) hle hdi h39;have cS:=λW=>Ga x W;unfold aW at cS;clear cL cI
        by_cases h1:i+1<s.size
        ·obtain ⟨y,hy⟩:∃ y,s[i+1]'h1=y:=cw;have hd2:=Og h1 hy;have h1':(i:Int)+1<(s.size:Int):=ac
         have h1'':(0:Int)≤(i:Int)+1:=ac
         cases htw:wM x y
         ·have htn:=aBP htw;cases hsg:pC x
          ·as_aux_lemma =>
            have hnx:bE (x::s.data.toList.drop (i+1))=(⟨0,[],0⟩,0,4):=by rw [hsx,hd2];simp [cK,htw,hsg];rfl
            rw [hsg] at cS;have CS:=κ cS;have HF:Hd0 (eL s.data.toList=([],4)):=by
             show _=_;rw [HR.o,HD.o,eB _ hbl (by rw [hnx];decide),hnx]
            clear hnx HR HD hsx hbl hle hdi hd2 htw hsg cS h39;rcases htn with ⟨g1,g2,g3,g4⟩|⟨g1,g2,g3⟩|⟨g1,g2⟩
            all_goals
             go_wp2_with fail;refine (CL.o _).mono ?_;rintro e w' ⟨rfl,rfl⟩;go_wp2_with fail;refine (CI.o _).mono ?_;rintro e w' ⟨rfl,rfl⟩;go_wp2_with fail;refine (CS.o _).mono ?_;rintro e w' ⟨rfl,rfl⟩;go_wp2;go_ret2;exact dK HF.o hbw
          ·as_aux_lemma =>
            have hnx:bE (x::s.data.toList.drop (i+1))=(⟨4,(x::s.data.toList.drop (i+1)).take 1,0⟩,1,0):=by rw [hsx,hd2];simp [cK,htw,hsg]
            rw [hsg] at cS;have CS:=κ cS;rw [<-HD.o] at hnx;rw [HD.o] at hnx;have hex:=oH s i (i+1);obtain ⟨T,hT⟩:∃ T,(s.data.toList.drop i).take (i+1-i)=T:=cw;rw [hT] at hex;have HR2:Hd0 (eL s.data.toList=dN (L++[⟨4,T,0⟩]) (s.data.toList.drop (i+1))):=by
             show _=_;rw [HR.o,HD.o,dM _ hbl OH,hnx, <-HD.o,List.drop_drop];rw [show i+1-i=1 by omega] at hT;rw [hT]
            clear hnx hT HR HD hsx hbl hle hdi hd2 htw hsg cS h39;rcases htn with ⟨g1,g2,g3,g4⟩|⟨g1,g2,g3⟩|⟨g1,g2⟩
            all_goals
             go_wp2_with fail;refine (CL.o _).mono ?_;rintro e w' ⟨rfl,rfl⟩;go_wp2_with fail;refine (CI.o _).mono ?_;rintro e w' ⟨rfl,rfl⟩;go_wp2_with fail;refine (CS.o _).mono ?_;rintro e w' ⟨rfl,rfl⟩;go_wp2_with (at_builtin;refine bJ _ rfl (.tmp 64) (.tmp 70) _ rfl w 173 iT _ 3 32 underlying103 hiT hz0 hz1 hz2 rfl ac _ _ _ _ rfl (hown.alloc _) _ 1 1 (tkv [(⟨4,T,0⟩:Tok)]) rfl rfl (dL _ _ _) OC kt ac bl ?_;intro A2 c2 w2 hown2 hb2 _ _);have hown3:=OB;have hbw3:=MZ;clear hown2 hb2 hown hbw;go_wp2
             go_roundg (s.size+1-(i+1))
             case measure=>omega
             case rel=>exact ⟨i+1,_,A2,c2,ac,rfl,de,aa,hown3,bl,HR2,hbw3⟩
         ·as_aux_lemma =>
           have htn:=Tk htw;have hnx:bE (x::s.data.toList.drop (i+1))=(⟨4,(x::s.data.toList.drop (i+1)).take 2,0⟩,2,0):=by rw [hsx,hd2];simp [cK,htw]
           have hex:=oH s i (i+2);obtain ⟨T,hT⟩:∃ T,(s.data.toList.drop i).take (i+2-i)=T:=cw;rw [hT] at hex;have HR2:Hd0 (eL s.data.toList=dN (L++[⟨4,T,0⟩]) (s.data.toList.drop (i+2))):=by
            show _=_;rw [HR.o,HD.o,dM _ hbl OH,hnx, <-HD.o,List.drop_drop];rw [show i+2-i=2 by omega] at hT;rw [hT]
           clear hnx hT HR HD hsx hbl hle hdi hd2 htw cS h39;rcases htn with ⟨g1,g2⟩|⟨g1,g2,g3⟩|⟨g1,g2,g3⟩
           all_goals
            go_wp2_with fail;refine (CL.o _).mono ?_;rintro e w' ⟨rfl,rfl⟩;go_wp2_with fail;refine (CI.o _).mono ?_;rintro e w' ⟨rfl,rfl⟩;go_wp2_with (at_builtin;refine bJ _ rfl (.tmp 64) (.tmp 70) _ rfl w 173 iT _ 3 32 underlying103 hiT hz0 hz1 hz2 rfl ac _ _ _ _ rfl (hown.alloc _) _ 1 1 (tkv [(⟨4,T,0⟩:Tok)]) rfl rfl (dL _ _ _) OC kt ac bl ?_;intro A2 c2 w2 hown2 hb2 _ _);have hown3:=OB;have hbw3:=MZ;clear hown2 hb2 hown hbw;go_wp2
            go_roundg (s.size+1-(i+2))
            case measure=>omega
            case rel=>exact ⟨i+2,_,A2,c2,ac,rfl,de,aa,hown3,bl,HR2,hbw3⟩
        ·have h1':¬(i:Int)+1<(s.size:Int):=ac
         have hd2:s.data.toList.drop (i+1)=[]:=List.drop_eq_nil_of_le NA;cases hsg:pC x
         ·as_aux_lemma =>
           have hnx:bE (x::s.data.toList.drop (i+1))=(⟨0,[],0⟩,0,4):=by rw [hsx,hd2];simp [cK,hsg];rfl
           rw [hsg] at cS;have CS:=κ cS;have HF:Hd0 (eL s.data.toList=([],4)):=by
            show _=_;rw [HR.o,HD.o,eB _ hbl (by rw [hnx];decide),hnx]
           clear hnx HR HD hsx hbl hle hdi hd2 hsg cS h39;go_wp2_with fail;refine (CL.o _).mono ?_;rintro e w' ⟨rfl,rfl⟩;go_wp2_with fail;refine (CI.o _).mono ?_;rintro e w' ⟨rfl,rfl⟩;go_wp2_with fail;refine (CS.o _).mono ?_;rintro e w' ⟨rfl,rfl⟩;go_wp2;go_ret2;exact dK HF.o hbw
         ·as_aux_lemma =>
           have hnx:bE (x::s.data.toList.drop (i+1))=(⟨4,(x::s.data.toList.drop (i+1)).take 1,0⟩,1,0):=by rw [hsx,hd2];simp [cK,hsg]
           rw [hsg] at cS;have CS:=κ cS;have hex:=oH s i (i+1);obtain ⟨T,hT⟩:∃ T,(s.data.toList.drop i).take (i+1-i)=T:=cw;rw [hT] at hex;have HR2:Hd0 (eL s.data.toList=dN (L++[⟨4,T,0⟩]) (s.data.toList.drop (i+1))):=by
            show _=_;rw [HR.o,HD.o,dM _ hbl OH,hnx, <-HD.o,List.drop_drop];rw [show i+1-i=1 by omega] at hT;rw [hT]
           clear hnx hT HR HD hsx hbl hle hdi hd2 hsg cS h39;go_wp2_with fail;refine (CL.o _).mono ?_;rintro e w' ⟨rfl,rfl⟩;go_wp2_with fail;refine (CI.o _).mono ?_;rintro e w' ⟨rfl,rfl⟩;go_wp2_with fail;refine (CS.o _).mono ?_;rintro e w' ⟨rfl,rfl⟩;go_wp2_with (at_builtin;refine bJ _ rfl (.tmp 64) (.tmp 70) _ rfl w 173 iT _ 3 32 underlying103 hiT hz0 hz1 hz2 rfl ac _ _ _ _ rfl (hown.alloc _) _ 1 1 (tkv [(⟨4,T,0⟩:Tok)]) rfl rfl (dL _ _ _) OC kt ac bl ?_;intro A2 c2 w2 hown2 hb2 _ _);have hown3:=OB;have hbw3:=MZ;clear hown2 hb2 hown hbw;go_wp2
           go_roundg (s.size+1-(i+1))
           case measure=>omega
           case rel=>exact ⟨i+1,_,A2,c2,ac,rfl,de,aa,hown3,bl,HR2,hbw3⟩
      ·have cL:=NO;rw [fS,hle] at cL;unfold aW at cL;have CL:=κ cL;have cI:=NN;rw [eU,hdi] at cI;unfold aW at cI;have CI:=κ cI;clear cL cI;go_wp2_with fail;refine (CL.o _).mono ?_;rintro e w' ⟨rfl,rfl⟩;go_wp2_with fail;refine (CI.o _).mono ?_;rintro e w' ⟨rfl,rfl⟩;go_wp2_with fail;obtain ⟨wo,rfl⟩:∃ wo:World,wo=wr:=cw
       go_loop [5] (λs5=>∃ j:Nat,i≤j∧j≤s.size∧s5=.int .i64 j∧Hd0 (((s.data.toList.drop i).take (j-i)).all aI=true)) (λs5=>s.size-(intOf s5).toNat)
       case atStart=>exact ⟨i,ν _,hi,rfl,fw⟩
       case round =>
        obtain ⟨j,hij,hj,rfl,HA⟩:=dd;have hij':(i:Int)≤(j:Int):=ac
        have hj0:(0:Int)≤(j:Int):=ac
        by_cases hjl:j<s.size
        ·obtain ⟨y,hy⟩:∃ y,s[j]'hjl=y:=cw;have hjl':(j:Int)<(s.size:Int):=ac
         cases hdy:aI y
         ·as_aux_lemma =>
           have cI2:=OM;rw [eU,hdy] at cI2;unfold aW at cI2;have CI2:=κ cI2;obtain ⟨tw1,tw2⟩:=Mu (p:=aI) hij HA.o (λh=>by rw [show s.data.toList[j]'h=y from hy,hdy]) OL;have cR:=λW=>Be (s.extract i j) W bl;have hexl:=OJ;unfold gQ at cR;rw [hexl, <-tw2] at cR;have hnx:bE (s.data.toList.drop i)=(⟨2,[],kO ((s.data.toList.drop i).takeWhile aI)⟩,j-i,mP ((s.data.toList.drop i).takeWhile aI)):=OI
           have hij1:i+1≤j:=by
            have:0<((s.data.toList.drop i).takeWhile aI).length:=OO
            omega
           obtain ⟨V,hV⟩:∃ V,kO ((s.data.toList.drop i).takeWhile aI)=V:=cw;obtain ⟨E,hE⟩:∃ E,mP ((s.data.toList.drop i).takeWhile aI)=E:=cw;rw [hV,hE] at hnx cR;have CR:=κ cR;rw [HD.o] at hnx;clear hV hE cR hexl tw1 tw2 HA
           by_cases hE0:E=0
           ·have HR2:Hd0 (eL s.data.toList=dN (L++[⟨2,[],V⟩]) (s.data.toList.drop j)):=by
             show _=_;rw [HR.o,HD.o,dM _ hbl OP,hnx, <-HD.o,List.drop_drop,show i+(j-i)=j by omega]
            have e0:(E==0)=true:=by rw [hE0];rfl
            clear hnx HR HD hE0 hbl hle hdi hdy cI2;go_wp2_with fail;refine (CI2.o _).mono ?_;rintro e w' ⟨rfl,rfl⟩;go_wp2_with fail;refine (CR.o _).mono ?_;rintro e w' ⟨rfl,rfl⟩;go_wp2_with (at_builtin;refine bJ _ rfl (.tmp 145) (.tmp 148) _ rfl w 173 iT _ 3 32 underlying103 hiT hz0 hz1 hz2 rfl ac _ _ _ _ rfl (hown.alloc _) _ 1 1 (tkv [(⟨2,[],V⟩:Tok)]) rfl rfl (dL _ _ _) OC kt ac bl ?_;intro A2 c2 w2 hown2 hb2 _ _);have hown3:=OB;have hbw3:=MZ;clear hown2 hb2 hown hbw;go_wp2
            go_roundg (s.size+1-(j))
            case measure=>omega
            case rel=>exact ⟨j,_,A2,c2,ac,rfl,rfl,aa,hown3,bl,HR2,hbw3⟩
           ·have HF:Hd0 (eL s.data.toList=([],E)):=by
             show _=_;rw [HR.o,HD.o,eB _ hbl OP,hnx]
            have e0:(E==0)=false:=η hE0;clear hnx HR HD hE0 hbl hle hdi hdy cI2;go_wp2_with fail;refine (CI2.o _).mono ?_;rintro e w' ⟨rfl,rfl⟩;go_wp2_with fail;refine (CR.o _).mono ?_;rintro e w' ⟨rfl,rfl⟩;go_wp2;go_ret2;exact dK HF.o hbw
         ·as_aux_lemma =>
           have cI2:=OM;rw [eU,hdy] at cI2;unfold aW at cI2;have CI2:=κ cI2;have HA2:=κ (Cr hij hjl HA.o (by rw [hy,hdy]));clear cI2 hbl hle hdi hdy;go_wp2_with fail;refine (CI2.o _).mono ?_;rintro e w' ⟨rfl,rfl⟩;go_wp2
           go_round
           case rel=>exact ⟨j+1,ac,ac,de,HA2⟩
           case measure=>simp [intOf];omega
        ·as_aux_lemma =>
          obtain rfl:j=s.size:=ac
          have hge:=OQ
          obtain ⟨tw1,tw2⟩:=Mu (p:=aI) hij HA.o (λh=>absurd h NA) OL;have cR:=λW=>Be (s.extract i s.size) W bl;have hexl:=OR;unfold gQ at cR;rw [hexl, <-tw2] at cR;have hnx:bE (s.data.toList.drop i)=(⟨2,[],kO ((s.data.toList.drop i).takeWhile aI)⟩,s.size-i,mP ((s.data.toList.drop i).takeWhile aI)):=OI
          have hij1:i+1≤s.size:=by
           have:0<((s.data.toList.drop i).takeWhile aI).length:=OO
           omega
          obtain ⟨V,hV⟩:∃ V,kO ((s.data.toList.drop i).takeWhile aI)=V:=cw;obtain ⟨E,hE⟩:∃ E,mP ((s.data.toList.drop i).takeWhile aI)=E:=cw;rw [hV,hE] at hnx cR;have CR:=κ cR;rw [HD.o] at hnx;clear hV hE cR hexl tw1 tw2 HA
          by_cases hE0:E=0
          ·have HR2:Hd0 (eL s.data.toList=dN (L++[⟨2,[],V⟩]) (s.data.toList.drop s.size)):=by
            show _=_;rw [HR.o,HD.o,dM _ hbl OP,hnx, <-HD.o,List.drop_drop,show i+(s.size-i)=s.size by omega]
           have e0:(E==0)=true:=by rw [hE0];rfl
           clear hnx HR HD hE0 hbl hle hdi;go_wp2_with fail;refine (CR.o _).mono ?_;rintro e w' ⟨rfl,rfl⟩;go_wp2_with (at_builtin;refine bJ _ rfl (.tmp 145) (.tmp 148) _ rfl w 173 iT _ 3 32 underlying103 hiT hz0 hz1 hz2 rfl ac _ _ _ _ rfl (hown.alloc _) _ 1 1 (tkv [(⟨2,[],V⟩:Tok)]) rfl rfl (dL _ _ _) OC kt ac bl ?_;intro A2 c2 w2 hown2 hb2 _ _);have hown3:=OB;have hbw3:=MZ;clear hown2 hb2 hown hbw;go_wp2
           go_roundg (s.size+1-s.size)
           case measure=>omega
           case rel=>exact ⟨s.size,_,A2,c2,ac,rfl,rfl,aa,hown3,bl,HR2,hbw3⟩
          ·have HF:Hd0 (eL s.data.toList=([],E)):=by
            show _=_;rw [HR.o,HD.o,eB _ hbl OP,hnx]
           have e0:(E==0)=false:=η hE0;clear hnx HR HD hE0 hbl hle hdi;go_wp2_with fail;refine (CR.o _).mono ?_;rintro e w' ⟨rfl,rfl⟩;go_wp2;go_ret2;exact dK HF.o hbw
     ·have cL:=NO;rw [fS,hle] at cL;unfold aW at cL;have CL:=κ cL;clear cL;go_wp2_with fail;refine (CL.o _).mono ?_;rintro e w' ⟨rfl,rfl⟩;go_wp2_with fail;obtain ⟨wo,rfl⟩:∃ wo:World,wo=wr:=cw
      go_loop [5] (λs5=>∃ j:Nat,i≤j∧j≤s.size∧s5=.int .i64 j∧Hd0 (((s.data.toList.drop i).take (j-i)).all cB=true)) (λs5=>s.size-(intOf s5).toNat)
      case atStart=>exact ⟨i,ν _,hi,rfl,fw⟩
      case round =>
       obtain ⟨j,hij,hj,rfl,HA⟩:=dd;have hij':(i:Int)≤(j:Int):=ac
       have hj0:(0:Int)≤(j:Int):=ac
       by_cases hjl:j<s.size
       ·obtain ⟨y,hy⟩:∃ y,s[j]'hjl=y:=cw;have hjl':(j:Int)<(s.size:Int):=ac
        cases hly:gP y
        ·cases hdy:aI y
         ·as_aux_lemma =>
           have cL2:=OS;rw [fS,hly] at cL2;unfold aW at cL2;have CL2:=κ cL2;have cI2:=OM;rw [eU,hdy] at cI2;unfold aW at cI2;have CI2:=κ cI2;clear cL2 cI2;obtain ⟨tw1,tw2⟩:=Mu (p:=cB) hij HA.o (λh=>by rw [cB,show s.data.toList[j]'h=y from hy,hly,hdy];rfl) OL;have cLo:=λW=>Bx (s.extract i j) W bl;have hexl:=OJ;rw [hexl, <-tw2] at cLo;have hnx:bE (s.data.toList.drop i)=(⟨1,((s.data.toList.drop i).takeWhile cB).map jI,0⟩,j-i,0):=by rw [<-tw1,HD.o];exact gC _ hle
           obtain ⟨T,hT⟩:∃ T,((s.data.toList.drop i).takeWhile cB).map jI=T:=cw;rw [hT] at hnx cLo;have HR2:Hd0 (eL s.data.toList=dN (L++[⟨1,T,0⟩]) (s.data.toList.drop j)):=by
            show _=_;rw [HD.o] at hnx;rw [HR.o,HD.o,dM _ hbl OH,hnx, <-HD.o,List.drop_drop,show i+(j-i)=j by omega]
           have CLo:=κ cLo;have hij1:i+1≤j:=by
            have hw:cB x=true:=by unfold cB;rw [hle];rfl
            have:0<((s.data.toList.drop i).takeWhile cB).length:=OT
            omega
           clear tw1 tw2 cLo hexl hnx hT HR HD HA;clear hbl hle hly hdy;go_wp2_with fail;refine (CL2.o _).mono ?_;rintro e w' ⟨rfl,rfl⟩;go_wp2_with fail;refine (CI2.o _).mono ?_;rintro e w' ⟨rfl,rfl⟩;go_wp2_with fail;refine (CLo.o _).mono ?_;rintro e w1 ⟨rfl,hb1⟩;have hown1:=aN hown hb1;have hbw1:=hbw.trans (hb1.mono hsz);have hsz1:=hbw1.size;clear hown hbw hb1;go_wp2_with (at_builtin;refine bJ _ rfl (.tmp 110) (.tmp 117) _ rfl w 173 iT _ 3 32 underlying103 hiT hz0 hz1 hz2 rfl ac _ _ _ _ rfl (hown1.alloc _) _ 1 1 (tkv [(⟨1,T,0⟩:Tok)]) rfl rfl (dL _ _ _) OC kt ac bl ?_;intro A2 c2 w2 hown2 hb2 _ _);have hown3:=OB;have hbw3:=(hbw1.alloc hsz1 _).trans hb2;clear hown2 hb2 hown1 hbw1;go_wp2
           go_roundg (s.size+1-(j))
           case measure=>omega
           case rel=>exact ⟨j,_,A2,c2,ac,rfl,rfl,aa,hown3,bl,HR2,hbw3⟩
         ·as_aux_lemma =>
           have cL2:=OS;rw [fS,hly] at cL2;unfold aW at cL2;have CL2:=κ cL2;have cI2:=OM;rw [eU,hdy] at cI2;unfold aW at cI2;have CI2:=κ cI2;have HA2:=κ (Cr hij hjl HA.o (by rw [hy,cB,hdy];cases gP y<;>rfl));clear cL2 cI2 hbl hle hly hdy;go_wp2_with fail;refine (CL2.o _).mono ?_;rintro e w' ⟨rfl,rfl⟩;go_wp2_with fail;refine (CI2.o _).mono ?_;rintro e w' ⟨rfl,rfl⟩;go_wp2
           go_round
           case rel=>exact ⟨j+1,ac,ac,de,HA2⟩
           case measure=>simp [intOf];omega
        ·as_aux_lemma =>
          have cL2:=OS;rw [fS,hly] at cL2;unfold aW at cL2;have CL2:=κ cL2;have HA2:=κ (Cr hij hjl HA.o (by rw [hy,cB,hly];rfl));clear cL2 hbl hle hly;go_wp2_with fail;refine (CL2.o _).mono ?_;rintro e w' ⟨rfl,rfl⟩;go_wp2
          go_round
          case rel=>exact ⟨j+1,ac,ac,de,HA2⟩
          case measure=>simp [intOf];omega
       ·as_aux_lemma =>
         obtain rfl:j=s.size:=ac
         have hge:=OQ
         obtain ⟨tw1,tw2⟩:=Mu (p:=cB) hij HA.o (λh=>absurd h NA) OL;have cLo:=λW=>Bx (s.extract i s.size) W bl;have hexl:=OR;rw [hexl, <-tw2] at cLo;have hnx:bE (s.data.toList.drop i)=(⟨1,((s.data.toList.drop i).takeWhile cB).map jI,0⟩,s.size-i,0):=by rw [<-tw1,HD.o];exact gC _ hle
         obtain ⟨T,hT⟩:∃ T,((s.data.toList.drop i).takeWhile cB).map jI=T:=cw;rw [hT] at hnx cLo;have HR2:Hd0 (eL s.data.toList=dN (L++[⟨1,T,0⟩]) (s.data.toList.drop s.size)):=by
          show _=_;rw [HD.o] at hnx;rw [HR.o,HD.o,dM _ hbl OH,hnx, <-HD.o,List.drop_drop,show i+(s.size-i)=s.size by omega]
         have CLo:=κ cLo;have hij1:i+1≤s.size:=by
          have hw:cB x=true:=by unfold cB;rw [hle];rfl
          have:0<((s.data.toList.drop i).takeWhile cB).length:=OT
          omega
         clear tw1 tw2 cLo hexl hnx hT HR HD HA;clear hbl hle;go_wp2_with fail;refine (CLo.o _).mono ?_;rintro e w1 ⟨rfl,hb1⟩;have hown1:=aN hown hb1;have hbw1:=hbw.trans (hb1.mono hsz);have hsz1:=hbw1.size;clear hown hbw hb1;go_wp2_with (at_builtin;refine bJ _ rfl (.tmp 110) (.tmp 117) _ rfl w 173 iT _ 3 32 underlying103 hiT hz0 hz1 hz2 rfl ac _ _ _ _ rfl (hown1.alloc _) _ 1 1 (tkv [(⟨1,T,0⟩:Tok)]) rfl rfl (dL _ _ _) OC kt ac bl ?_;intro A2 c2 w2 hown2 hb2 _ _);have hown3:=OB;have hbw3:=(hbw1.alloc hsz1 _).trans hb2;clear hown2 hb2 hown1 hbw1;go_wp2
         go_roundg (s.size+1-s.size)
         case measure=>omega
         case rel=>exact ⟨s.size,_,A2,c2,ac,rfl,rfl,aa,hown3,bl,HR2,hbw3⟩
    ·have hq:=aAP hbl;have HR2:Hd0 (eL s.data.toList=dN L (s.data.toList.drop (i+1))):=by show _=_;rw [HR.o,HD.o,eY _ _ hbl]
     obtain ⟨xn,hxn⟩:∃ n,x.toNat=n:=cw;rw [hxn] at hq;have HDE:=κ hxn;clear HR HD hbl;have hl1:L.length≤i+1:=ac
     rcases hq with rfl|rfl|rfl|rfl
     all_goals
      go_wp2
      go_roundg (s.size+1-(i+1))
      case measure=>omega
      case rel=>exact ⟨i+1,L,A,c,ac,rfl,de,rfl,hown,hl1,HR2,hbw⟩
   ·obtain rfl:i=s.size:=ac
    have HF:Hd0 (eL s.data.toList=(L,0)):=by show _=_;rw [HR.o,List.drop_eq_nil_of_le NA,kN]
    have hge:=OQ
    clear HR;go_wp2;go_ret2;show kK _ _ _ _ _;rw [HF.o];exact ⟨hbw,A,c,rfl,Np hown,hown⟩
