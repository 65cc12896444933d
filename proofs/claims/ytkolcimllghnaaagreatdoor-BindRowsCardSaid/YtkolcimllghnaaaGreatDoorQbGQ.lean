/-
 Contracts. Conditions: those of each.
-/
import Derived.Test.YtkolcimllghnaaaGreatDoorQbGD
import Derived.Test.YtkolcimllghnaaaGreatDoorQbGT
import Derived.Lib.IndexBytes
import Derived.Deep.DeepCutAuto
import Derived.Deep.CutBlock
import Derived.Deep.QuietTactic
import Derived.BigQuiet
set_option maxRecDepth 100000
set_option maxHeartbeats 8000000
namespace Go.Proofs.YtkolcimllghnaaaGreatDoor
open Lp Go.Proofs.Tryz
open Go.RowKit
theorem Yt {c:UInt8} (h1:65≤c.toNat) (h2:c.toNat≤90):((gR c).toNat:Int)=(c.toNat:Int)+32:=by
 unfold gR
 rw [if_pos ⟨h1,h2⟩,UInt8.toNat_add]
 have:(32:UInt8).toNat=32:=rfl
 rw [this];omega
theorem Yu {c:UInt8} (h:c.toNat<65∨90<c.toNat):gR c=c:=by
 unfold gR;rw [if_neg (by omega)]
theorem Ph {w:World} {B c k:Nat} {A:Option Addr} {s:ByteArray} (hk:k<s.size) (h:w.ownsRow B 5 1 (.slice A (k+1) c) (k+1) (bv ((s.data.toList.take k).map gR)++[.int .u8 ((gR (s[k]'hk)).toNat:Int)])) :
 w.ownsRow B 5 1 (.slice A (k+1) c) (k+1) (bv ((s.data.toList.take (k+1)).map gR)):=by
 rw [gI s k hk,List.map_append,qV];exact h
theorem wX (s:ByteArray) (w:World) (hs:s.size≤1000000000) :
 Calls prog 75 #[.string s] w fun e w'=>e=.returned (.string ⟨(s.data.toList.map gR).toArray⟩)∧Below w.heap.size w w':=by
 obtain ⟨i0,hi0,hz0,hz1,hz2⟩:=info_parts Cy
 go_enter func75,ntmps75
 go_wp2_with fail
 go_loopg [3,4,5] (s.size+1) (fun gk s3 s4 _ wr=>∃ (k:Nat) (A:Option Addr) (c:Nat),k≤s.size∧gk=s.size+1-k∧s4=.int .i64 k∧s3=.slice A k c∧wr.ownsRow w.heap.size 5 1 (.slice A k c) k (bv ((s.data.toList.take k).map gR))∧Below w.heap.size w wr)
 case atStart=>exact ⟨0,none,0,by omega,by omega,rfl,rfl,World.ownsRow_nil _ _ _ _,θ⟩
 case round =>
  obtain ⟨k,A,c,hle,rfl,rfl,rfl,hown,hbw⟩:=hrel
  have hsz:=hbw.size
  by_cases hlt:k<s.size
  ·have hbl:=(s[k]'hlt).toNat_lt
   have hm:=fun W A c h=>@Ph W w.heap.size c k A s hlt h
   by_cases hup:65≤(s[k]'hlt).toNat∧(s[k]'hlt).toNat≤90
   ·obtain ⟨h1,h2⟩:=hup
    have hlu:=κ (Yt h1 h2)
    have HM:=κ hm
    clear hm
    obtain ⟨x,hx⟩:∃ x,(s[k]'hlt).toNat=x:=⟨_,rfl⟩
    rw [hx] at h1 h2 hbl
    have hxa:¬x<65:=by omega
    have hxb:¬90<x:=by omega
    go_wp2_with (at_builtin;refine bH _ rfl (.tmp 23) (.tmp 25) _ rfl w.heap.size 5 i0 _ 1 1 underlying176 hi0 hz0 hz1 hz2 rfl (by omega) _ _ _ _ rfl (hown.alloc _) _ 1 1 [.int .u8 ((x:Int)+32)] rfl rfl (cK _ _ _) (by simp [Value.oneCell']) (by simp only [maxLen];omega) (by omega) (by simp;omega) ?_;intro A2 c2 w2 hown2 hb2 _ _)
    have hown3:=HM.out w2 A2 c2 (by rw [hlu.out,hx];exact hown2)
    have hbw3:=(hbw.alloc hsz _).trans hb2
    clear hown2 hb2 hown hbw
    go_wp2
    go_roundg (s.size+1-(k+1))
    case measure=>omega
    case rel=>exact ⟨k+1,A2,c2,by omega,rfl,by go_num,rfl,hown3,hbw3⟩
   ·have hlo:=κ (Yu (c:=s[k]'hlt) (by omega))
    have HM:=κ hm
    clear hm
    obtain ⟨x,hx⟩:∃ x,(s[k]'hlt).toNat=x:=⟨_,rfl⟩
    rw [hx] at hup hbl
    rcases (show x<65∨90<x by omega) with h1|h1
    all_goals
     clear hup
     go_wp2_with (at_builtin;refine bH _ rfl (.tmp 23) (.tmp 25) _ rfl w.heap.size 5 i0 _ 1 1 underlying176 hi0 hz0 hz1 hz2 rfl (by omega) _ _ _ _ rfl (hown.alloc _) _ 1 1 [.int .u8 ((x:Int))] rfl rfl (cK _ _ _) (by simp [Value.oneCell']) (by simp only [maxLen];omega) (by omega) (by simp;omega) ?_;intro A2 c2 w2 hown2 hb2 _ _)
     have hown3:=HM.out w2 A2 c2 (by rw [hlo.out,hx];exact hown2)
     have hbw3:=(hbw.alloc hsz _).trans hb2
     clear hown2 hb2 hown hbw
     go_wp2
     go_roundg (s.size+1-(k+1))
     case measure=>omega
     case rel=>exact ⟨k+1,A2,c2,by omega,rfl,by go_num,rfl,hown3,hbw3⟩
  ·obtain rfl:k=s.size:=by omega
   have hr:Rds wr A (bv (s.data.toList.map gR)):=by
    have:=Rds.own hown
    rw [iY] at this;exact this
   have hcv:=vA s.size c (by rw [List.length_map,Array.length_toList];rfl) hr
   go_wp2
   go_ret
   exact ⟨rfl,hbw⟩
theorem Jg (a:List UInt8):∀ b,(!Op.bytesLess a b && !(a==b))=Op.bytesLess b a:=by
 induction a with
 | nil=>intro b;cases b<;>simp [Op.bytesLess]
 | cons x a ih =>
   intro b
   cases b with
   | nil=>simp [Op.bytesLess]
   | cons y b =>
     have h:=ih b
     simp only [Op.bytesLess]
     by_cases hlt:x.toNat<y.toNat
     ·have h1:decide (x<y)=true:=by simpa using UInt8.lt_iff_toNat_lt.2 hlt
      have h2:decide (y<x)=false:=by simpa [UInt8.lt_iff_toNat_lt,UInt8.le_iff_toNat_le] using (by omega:x.toNat≤y.toNat)
      have h3:(y==x)=false:=by rw [beq_eq_false_iff_ne];intro e;rw [e] at hlt;omega
      simp [h1,h2,h3]
     ·by_cases heq:x.toNat=y.toNat
      ·have e:x=y:=UInt8.toNat_inj.1 heq
       subst e
       have h1:decide (x<x)=false:=by simp
       simp only [h1,beq_self_eq_true,Bool.true_and,Bool.false_or]
       rw [←h];simp
      ·have h1:decide (x<y)=false:=by simpa [UInt8.lt_iff_toNat_lt,UInt8.le_iff_toNat_le] using (by omega:y.toNat≤x.toNat)
       have h2:decide (y<x)=true:=by simpa using UInt8.lt_iff_toNat_lt.2 (by omega:y.toNat<x.toNat)
       have h3:(x==y)=false:=by rw [beq_eq_false_iff_ne];intro e;rw [e] at heq;exact heq rfl
       simp [h1,h2,h3]
def fQ (l:List UInt8) (w:World) (e:Ending) (w':World):Prop:=e=.returned (.tuple #[.int .i64 (jA l),.int .i64 (kT l)])∧w=w'
theorem qO {l:List UInt8} {w:World} (h:kR l=false):fQ l w (.returned (.tuple #[.int .i64 0,.int .i64 3])) w:=by
 unfold fQ;rw [wO h,qP h];exact ⟨rfl,rfl⟩
theorem Ig {l:List UInt8} {w:World} {m:Int} (h:kR l=true) (hm:dvf 0 l=m) (hin:inR m):fQ l w (.returned (.tuple #[.int .i64 m,.int .i64 0])) w:=by
 subst hm;unfold fQ;rw [lJ h,lK h,xN hin,yU hin];exact ⟨rfl,rfl⟩
theorem wM {l:List UInt8} {w:World} {m:Int} (h:kR l=true) (hm:dvf 0 l=m) (hin:¬inR m):fQ l w (.returned (.tuple #[.int .i64 0,.int .i64 9])) w:=by
 subst hm;unfold fQ;rw [lJ h,lK h,rY hin,sE hin];exact ⟨rfl,rfl⟩
theorem wN (s:ByteArray) (w:World) (hs:s.size≤9223372036854775807) :
 Calls prog 76 #[.string s] w (fQ s.data.toList w):=by
 by_cases h0:s.size=0
 ·have Hall:=κ (show kR s.data.toList=false by
   have h0l:s.data.toList=[]:=List.eq_nil_of_length_eq_zero (by simpa using h0)
   rw [h0l];rfl)
  have e0:((s.size:Int)==0)=true:=by simpa using h0
  clear h0
  go_enter func76,ntmps76
  go_wp2
  go_ret2
  exact qO Hall.out
 ·have h1:1≤s.size:=by omega
  have e0:((s.size:Int)==0)=false:=by simpa using h0
  clear h0
  go_enter func76,ntmps76
  go_wp2
  go_loop [4] (fun s4=>∃ k:Nat,k≤s.size∧s4=.int .i64 k∧Hid ((s.data.toList.take k).all aN=true)) (fun s4=>s.size-(intOf s4).toNat)
  case atStart=>exact ⟨0,Nat.zero_le _,rfl,by rfl⟩
  case round =>
   obtain ⟨k,hk,rfl,HD⟩:=hrel
   by_cases hlt:k<s.size
   ·cases hd:aN (s[k]'hlt)
    ·have Hall:=κ (Dd s k hlt hd)
     have hb:(s[k]'hlt).toNat<48∨57<(s[k]'hlt).toNat:=by
      simp only [aN,Bool.and_eq_false_iff,decide_eq_false_iff_not] at hd;omega
     clear hd HD
     obtain ⟨c,hc⟩:∃ c,(s[k]'hlt).toNat=c:=⟨_,rfl⟩
     rw [hc] at hb
     rcases hb with hb|hb
     ·go_wp2
      go_ret2
      exact qO Hall.out
     ·have hb2:¬c<48:=by omega
      go_wp2
      go_ret2
      exact qO Hall.out
    ·have HD2:=κ (Lp.gB s k hlt HD.out hd)
     obtain ⟨hb1,hb2⟩:=fZ hd
     clear hd HD
     obtain ⟨c,hc⟩:∃ c,(s[k]'hlt).toNat=c:=⟨_,rfl⟩
     rw [hc] at hb1 hb2
     have hb3:¬c<48:=by omega
     have hb4:¬57<c:=by omega
     go_wp2
     go_round
     case rel=>exact ⟨k+1,by omega,by go_num,HD2⟩
     case measure=>simp [intOf];omega
   ·obtain rfl:k=s.size:=by omega
    have HA:Hid (s.data.toList.all aN=true):=by have:=HD.out;rw [iY] at this;exact this
    have Hall:Hid (kR s.data.toList=true):=by
     show _=_
     have hne:s.data.toList.isEmpty=false:=by
      rw [List.isEmpty_eq_false_iff];intro e
      have:s.data.toList.length=0:=by rw [e];rfl
      rw [Array.length_toList] at this
      exact absurd (show s.size=0 from this) (by omega)
     unfold kR;rw [HA.out,hne];rfl
    obtain ⟨V,hV⟩:∃ V,dvf 0 s.data.toList=V:=⟨_,rfl⟩
    have HV:=κ hV
    clear HD hV e0
    go_upto_block 2 with fail
    go_cut [0] (fun s0 wx=>w=wx∧∃ B:ByteArray,s0=.string B∧1≤B.size∧B.size≤9223372036854775807∧Hid (B.data.toList.all aN=true)∧Hid (dvf 0 B.data.toList=V)∧Hid (B.size=1∨∃ h:0<B.size,B[0]≠48))
    case first =>
     go_wp2_with fail
     go_loopg [0] s.size (fun gk s0 wr=>w=wr∧∃ B:ByteArray,s0=.string B∧gk=B.size∧1≤B.size∧B.size≤9223372036854775807∧Hid (B.data.toList.all aN=true)∧Hid (dvf 0 B.data.toList=V))
     case atStart=>exact ⟨rfl,s,rfl,rfl,h1,hs,HA,HV⟩
     case round =>
      clear HA HV hs h1
      obtain ⟨rfl,B,rfl,rfl,hB1,hB2,HBA,HBV⟩:=hrel
      by_cases hB:B.size=1
      ·have hB3:¬(1:Int)<(B.size:Int):=by omega
       have HBE:=κ hB
       clear hB
       go_wp2
       go_meet
       exact ⟨rfl,B,rfl,hB1,hB2,HBA,HBV,.inl HBE.out⟩
      ·have hB3:(1:Int)<(B.size:Int):=by omega
       have hB0:0<B.size:=by omega
       by_cases hz:B[0]=48
       ·have hc:(B[0]'hB0).toNat=48:=by rw [hz];rfl
        have hd:(B.extract 1 B.size).data.toList=B.data.toList.drop 1:=by rw [Lib.extract_data];rw [List.take_of_length_le (by simp)]
        have hdc:B.data.toList=48::B.data.toList.drop 1:=by have:=iO B 0 hB0;rw [List.drop_zero] at this;rw [this,hz];rfl
        have HA2:Hid ((B.extract 1 B.size).data.toList.all aN=true):=by
         show _=_
         have:=HBA.out
         rw [hdc,List.all_cons,Bool.and_eq_true] at this
         rw [hd];exact this.2
        have HV2:Hid (dvf 0 (B.extract 1 B.size).data.toList=V):=by
         show _=_
         have:=HBV.out
         rw [hdc,Jw 0 _ rfl] at this
         rw [hd];exact this
        have hsz:(B.extract 1 B.size).size=B.size-1:=by simp
        have HSZ:=κ hsz
        clear hd hdc HBA HBV hB hsz hz
        go_wp2
        go_roundg (B.size-1)
        case measure=>omega
        case rel=>exact ⟨rfl,B.extract 1 B.size,rfl,HSZ.out.symm,by rw [HSZ.out];omega,by rw [HSZ.out];omega,HA2,HV2⟩
       ·have hc:((B[0]'hB0).toNat:Int)≠48:=fun g=>hz (UInt8.toNat_inj.1 (by show _=48;omega))
        have hce:(((B[0]'hB0).toNat:Int)==48)=false:=η hc
        have HZ:=κ hz
        clear hB hz hc
        go_wp2
        go_meet
        exact ⟨rfl,B,rfl,hB1,hB2,HBA,HBV,.inr ⟨hB0,HZ.out⟩⟩
    case rest =>
     obtain ⟨rfl,B,rfl,hB1,hB2,HBA,HBV,HBX⟩:=hcut
     clear HA hs h1
     by_cases h20:19<B.size
     ·have hB0:0<B.size:=by omega
      have HF:Hid (¬inR V):=by
       show ¬_
       rw [←HBV.out]
       have hdc:B.data.toList=B[0]::B.data.toList.drop 1:=by have:=iO B 0 hB0;rw [List.drop_zero] at this;exact this
       have hA:=HBA.out
       rw [hdc] at hA ⊢
       refine Pe hA ?_ ?_
       ·rcases HBX.out with h|⟨_,h⟩
        ·omega
        ·exact h
       ·rw [List.length_drop];show 19≤B.size-1;omega
      have h20':(19:Int)<(B.size:Int):=by omega
      clear HBX
      go_wp2
      go_ret2
      exact wM Hall.out HV.out HF.out
     ·have hcase:(B.size=19∧Op.bytesLess B.toList rT=false∧(B.toList==rT)=false∧¬inR V)∨(B.size=19∧Op.bytesLess B.toList rT=true∧inR V)∨(B.size=19∧Op.bytesLess B.toList rT=false∧(B.toList==rT)=true∧inR V)∨(B.size≤18∧inR V):=by
       by_cases h19:B.size=19
       ·have hbig:=aAQ HBA.out (show B.data.toList.length=19 by simpa using h19)
        rw [HBV.out] at hbig
        have ht:=Jg B.data.toList rT
        rw [ByteArray.toList_eq]
        cases h1:Op.bytesLess B.data.toList rT
        ·cases h2:B.data.toList==rT
         ·rw [h1,h2] at ht
          left;refine ⟨h19,rfl,rfl,fun g => ?_⟩
          rw [hbig.1 g] at ht;cases ht
         ·rw [h1,h2] at ht
          right;right;left;exact ⟨h19,rfl,rfl,hbig.2 ht.symm⟩
        ·rw [h1] at ht
         right;left;exact ⟨h19,rfl,hbig.2 ht.symm⟩
       ·right;right;right
        refine ⟨by omega, ?_⟩
        rw [←HBV.out]
        exact Zc HBA.out (by show B.data.toList.length≤18;rw [Array.length_toList];show B.size≤18;omega)
      have hn20:¬(19:Int)<(B.size:Int):=by omega
      clear h20 HBX
      unfold rT at hcase
      rcases hcase with ⟨h19,hl,he,hi⟩|⟨h19,hl,hi⟩|⟨h19,hl,he,hi⟩|⟨h19,hi⟩
      ·have e19:((B.size:Int)==19)=true:=by rw [h19];rfl
       have HF:=κ hi
       clear h19 hi
       go_wp2
       go_ret2
       exact wM Hall.out HV.out HF.out
      all_goals
       first
        | (have e19:((B.size:Int)==19)=true:=by rw [h19];rfl)
        | (have e19:((B.size:Int)==19)=false:=η (by omega))
       have HF:=κ hi
       clear h19 hi
       go_wp2
       go_loop [5,6] (fun s5 s6=>∃ k:Nat,k≤B.size∧s6=.int .i64 k∧s5=.int .i64 (dvf 0 (B.data.toList.take k))) (fun _ s6=>B.size-(intOf s6).toNat)
       case atStart=>exact ⟨0,Nat.zero_le _,rfl,rfl⟩
       case round =>
        obtain ⟨k,hk,rfl,rfl⟩:=hrel
        by_cases hlt:k<B.size
        ·have hd:=Se B k hlt HBA.out
         obtain ⟨hb1,hb2⟩:=fZ hd
         have hall:(B.data.toList.take k).all aN=true:=by
          have:=HBA.out;rw [List.all_eq_true] at *;intro x hx;exact this x (List.mem_of_mem_take hx)
         have h0:=iN hall
         have hN:dvf 0 (B.data.toList.take (k+1))=10*dvf 0 (B.data.toList.take k)+(((B[k]'hlt).toNat:Int)-48):=by
          rw [gI B k hlt,Cp,Int.mul_comm]
         have hin:inR (dvf 0 (B.data.toList.take (k+1))):=by
          apply Classical.byContradiction
          intro g
          have:=Es B (k+1) HBA.out g
          rw [HBV.out] at this
          exact this HF.out
         rw [hN] at hin
         unfold inR at hin
         have HN:=κ hN
         clear hN hd hall
         obtain ⟨c,hc⟩:∃ c,(B[k]'hlt).toNat=c:=⟨_,rfl⟩
         rw [hc] at HN hin hb1 hb2
         generalize dvf 0 (B.data.toList.take k)=m at *
         obtain ⟨hin1,hin2⟩:=hin
         go_wp2
         go_round
         case rel=>exact ⟨k+1,by omega,by go_num,by rw [HN.out]⟩
         case measure=>simp [intOf];omega
        ·obtain rfl:k=B.size:=by omega
         have HE:=κ (iY B)
         rw [HE.out,HBV.out]
         go_wp2
         go_ret2
         exact Ig Hall.out HV.out HF.out
theorem sJ (s:ByteArray) (w:World) (hs:s.size≤9223372036854775807) :
 Calls prog 131 #[.string s] w fun e w'=>e=.returned (.bool (aS s.data.toList))∧w=w':=by
 go_enter func131,ntmps131
 go_wp2
 go_loop [3] (fun i=>∃ k:Nat,k≤s.size∧i=.int .i64 k∧Hid (aS s.data.toList=aS (s.data.toList.drop k))) (fun i=>s.size-(intOf i).toNat)
 case atStart=>exact ⟨0,Nat.zero_le _,rfl,by rfl⟩
 case round =>
  obtain ⟨k,hk,rfl,HV⟩:=hrel
  by_cases hlt:k<s.size
  ·have hd:=eK s k hlt
   obtain ⟨b,hb⟩:∃ b,b=s[k]'hlt:=⟨_,rfl⟩
   rw [←hb] at hd
   have hbl:=b.toNat_lt
   by_cases c0:b.toNat=0
   ·have HF:Hid (aS s.data.toList=false):=by
     show _=_
     rw [HV.out,hd]
     have:b=0:=UInt8.toNat_inj.1 c0
     rw [this];exact Ul _
    clear HV hd
    have hb':(s[k]'hlt).toNat=0:=by rw [←hb];exact c0
    clear hb
    go_wp2
    go_ret
    exact ⟨by rw [HF.out];rfl,rfl⟩
   ·by_cases c1:b.toNat<128
    ·have HF:Hid (aS s.data.toList=aS (s.data.toList.drop (k+1))):=by
      show _=_
      rw [HV.out,hd,Om b _ c0 c1]
     clear HV hd
     have hb':(s[k]'hlt).toNat=b.toNat:=by rw [←hb]
     clear hb
     generalize b.toNat=bn at *
     go_wp2
     go_round
     case rel=>exact ⟨k+1,by omega,by go_num,HF⟩
     case measure=>simp [intOf];omega
    ·by_cases c2:b.toNat<192∨248≤b.toNat
     ·have HF:Hid (aS s.data.toList=false):=by
       show _=_
       rw [HV.out,hd]
       exact Yr b _ (by omega)
      clear HV hd
      have hb':(s[k]'hlt).toNat=b.toNat:=by rw [←hb]
      clear hb
      generalize b.toNat=bn at *
      rcases c2 with c2|c2
      ·go_wp2
       go_ret
       exact ⟨by rw [HF.out];rfl,rfl⟩
      ·go_wp2
       go_ret
       exact ⟨by rw [HF.out];rfl,rfl⟩
     ·clear hd
      subst hb
      by_cases c3:(s[k]'hlt).toNat<224
      ·have HS:=κ (at2 s k hlt (by omega) (by omega))
       rw [←HV.out] at HS
       clear HV
       by_cases hn:s.size≤k+1
       ·have HF:=κ (HS.out.1 hn)
        clear HS
        obtain ⟨bn,hb⟩:∃ x,x=(s[k]'hlt).toNat:=⟨_,rfl⟩
        rw [←hb] at hbl c0 c1 c2 c3
        try rw [←hb] at c4
        try rw [←hb] at HY HN
        replace hb:=hb.symm
        go_wp2
        go_ret
        exact ⟨by rw [HF.out];rfl,rfl⟩
       ·have HY:=κ (HS.out.2.1 (by omega))
        have HN:=κ (HS.out.2.2 (by omega))
        clear HS
        have hl1:=(s[k+1]'(by omega)).toNat_lt
        obtain ⟨bn,hb⟩:∃ x,x=(s[k]'hlt).toNat:=⟨_,rfl⟩
        rw [←hb] at hbl c0 c1 c2 c3
        try rw [←hb] at c4
        try rw [←hb] at HY HN
        replace hb:=hb.symm
        obtain ⟨x1,he1⟩:∃ x,x=(s[k+1]'(by omega)).toNat:=⟨_,rfl⟩
        rw [←he1] at hl1 HY HN
        replace he1:(s[k+1]'(by omega)).toNat=x1:=he1.symm
        have hn':(1:Int)<(s.size:Int)-k:=by omega
        go_wp2
        go_loop [7,8] (fun r kk=>(kk=.int .i64 1 ∧  r=.int .i32 ((bn:Int)-192))∨(kk=.int .i64 2∧dI x1∧r=.int .i32 (((bn:Int)-192)*64+((x1:Int)-128)))) (fun r kk=>9-(intOf kk).toNat)
        case atStart=>exact .inl ⟨rfl,rfl⟩
        case round =>
         rcases hrel with ⟨rfl,rfl⟩|⟨rfl,p1,rfl⟩
         ·clear HY
          by_cases g:dI x1
          ·obtain ⟨g1,g2⟩:=g
           clear HN
           go_wp2
           go_round
           case rel=>exact .inr (⟨rfl,⟨g1,g2⟩,rfl⟩)
           case measure=>simp [intOf]
          ·have HF:=κ (HN.out (fun h=>g h.1))
           clear HN
           have g':x1<128∨192≤x1:=by unfold dI at g;omega
           rcases g' with g'|g'
           ·go_wp2
            go_ret
            exact ⟨by rw [HF.out];rfl,rfl⟩
           ·go_wp2
            go_ret
            exact ⟨by rw [HF.out];rfl,rfl⟩
         ·by_cases g:dQ (((bn:Int)-192)*64+((x1:Int)-128)) 128
          ·have HF:=κ (HY.out p1 g)
           clear HY HN
           obtain ⟨g1,g2,g3⟩:=g
           obtain ⟨q1,q1'⟩:=p1
           go_wp2
           all_goals first|(exfalso;omega)|skip
           all_goals
            go_round
            case rel=>exact ⟨k+2,by omega,by go_num,HF⟩
            case measure=>simp [intOf];omega
          ·have HF:=κ (HN.out (fun h=>g h.2))
           clear HY HN
           have g':(((bn:Int)-192)*64+((x1:Int)-128))<128∨1114111<(((bn:Int)-192)*64+((x1:Int)-128))∨(55296≤(((bn:Int)-192)*64+((x1:Int)-128))∧(((bn:Int)-192)*64+((x1:Int)-128))<57344):=by unfold dQ at g;omega
           clear g
           obtain ⟨q1,q1'⟩:=p1
           rcases g' with g'|g'|⟨g',g''⟩
           ·first
            | (exfalso;omega)
            | (go_wp2;all_goals first|(exfalso;omega)|(go_ret;exact ⟨by rw [HF.out];rfl,rfl⟩))
           ·first
            | (exfalso;omega)
            | (go_wp2;all_goals first|(exfalso;omega)|(go_ret;exact ⟨by rw [HF.out];rfl,rfl⟩))
           ·first
            | (exfalso;omega)
            | (go_wp2;all_goals first|(exfalso;omega)|(go_ret;exact ⟨by rw [HF.out];rfl,rfl⟩))
      ·by_cases c4:(s[k]'hlt).toNat<240
       ·have HS:=κ (at3 s k hlt (by omega) (by omega))
        rw [←HV.out] at HS
        clear HV
        by_cases hn:s.size≤k+2
        ·have HF:=κ (HS.out.1 hn)
         clear HS
         obtain ⟨bn,hb⟩:∃ x,x=(s[k]'hlt).toNat:=⟨_,rfl⟩
         rw [←hb] at hbl c0 c1 c2 c3
         try rw [←hb] at c4
         try rw [←hb] at HY HN
         replace hb:=hb.symm
         go_wp2
         go_ret
         exact ⟨by rw [HF.out];rfl,rfl⟩
        ·have HY:=κ (HS.out.2.1 (by omega))
         have HN:=κ (HS.out.2.2 (by omega))
         clear HS
         have hl1:=(s[k+1]'(by omega)).toNat_lt
         have hl2:=(s[k+2]'(by omega)).toNat_lt
         obtain ⟨bn,hb⟩:∃ x,x=(s[k]'hlt).toNat:=⟨_,rfl⟩
         rw [←hb] at hbl c0 c1 c2 c3
         try rw [←hb] at c4
         try rw [←hb] at HY HN
         replace hb:=hb.symm
         obtain ⟨x1,he1⟩:∃ x,x=(s[k+1]'(by omega)).toNat:=⟨_,rfl⟩
         obtain ⟨x2,he2⟩:∃ x,x=(s[k+2]'(by omega)).toNat:=⟨_,rfl⟩
         rw [←he1] at hl1 HY HN
         rw [←he2] at hl2 HY HN
         replace he1:(s[k+1]'(by omega)).toNat=x1:=he1.symm
         replace he2:(s[k+2]'(by omega)).toNat=x2:=he2.symm
         have hn':(2:Int)<(s.size:Int)-k:=by omega
         go_wp2
         go_loop [7,8] (fun r kk=>(kk=.int .i64 1 ∧  r=.int .i32 ((bn:Int)-224))∨(kk=.int .i64 2∧dI x1∧r=.int .i32 (((bn:Int)-224)*64+((x1:Int)-128)))∨(kk=.int .i64 3∧dI x1∧dI x2∧r=.int .i32 ((((bn:Int)-224)*64+((x1:Int)-128))*64+((x2:Int)-128)))) (fun r kk=>9-(intOf kk).toNat)
         case atStart=>exact .inl ⟨rfl,rfl⟩
         case round =>
          rcases hrel with ⟨rfl,rfl⟩|⟨rfl,p1,rfl⟩|⟨rfl,p1,p2,rfl⟩
          ·clear HY
           by_cases g:dI x1
           ·obtain ⟨g1,g2⟩:=g
            clear HN
            go_wp2
            go_round
            case rel=>exact .inr (.inl ⟨rfl,⟨g1,g2⟩,rfl⟩)
            case measure=>simp [intOf]
           ·have HF:=κ (HN.out (fun h=>g h.1))
            clear HN
            have g':x1<128∨192≤x1:=by unfold dI at g;omega
            rcases g' with g'|g'
            ·go_wp2
             go_ret
             exact ⟨by rw [HF.out];rfl,rfl⟩
            ·go_wp2
             go_ret
             exact ⟨by rw [HF.out];rfl,rfl⟩
          ·clear HY
           obtain ⟨q1,q1'⟩:=p1
           by_cases g:dI x2
           ·obtain ⟨g1,g2⟩:=g
            clear HN
            go_wp2
            go_round
            case rel=>exact .inr (.inr (⟨rfl,⟨q1,q1'⟩,⟨g1,g2⟩,rfl⟩))
            case measure=>simp [intOf]
           ·have HF:=κ (HN.out (fun h=>g h.2.1))
            clear HN
            have g':x2<128∨192≤x2:=by unfold dI at g;omega
            rcases g' with g'|g'
            ·go_wp2
             go_ret
             exact ⟨by rw [HF.out];rfl,rfl⟩
            ·go_wp2
             go_ret
             exact ⟨by rw [HF.out];rfl,rfl⟩
          ·by_cases g:dQ ((((bn:Int)-224)*64+((x1:Int)-128))*64+((x2:Int)-128)) 2048
           ·have HF:=κ (HY.out p1 p2 g)
            clear HY HN
            obtain ⟨g1,g2,g3⟩:=g
            obtain ⟨q1,q1'⟩:=p1
            obtain ⟨q2,q2'⟩:=p2
            go_wp2
            all_goals first|(exfalso;omega)|skip
            all_goals
             go_round
             case rel=>exact ⟨k+3,by omega,by go_num,HF⟩
             case measure=>simp [intOf];omega
           ·have HF:=κ (HN.out (fun h=>g h.2.2))
            clear HY HN
            have g':((((bn:Int)-224)*64+((x1:Int)-128))*64+((x2:Int)-128))<2048∨1114111<((((bn:Int)-224)*64+((x1:Int)-128))*64+((x2:Int)-128))∨(55296≤((((bn:Int)-224)*64+((x1:Int)-128))*64+((x2:Int)-128))∧((((bn:Int)-224)*64+((x1:Int)-128))*64+((x2:Int)-128))<57344):=by unfold dQ at g;omega
            clear g
            obtain ⟨q1,q1'⟩:=p1
            obtain ⟨q2,q2'⟩:=p2
            rcases g' with g'|g'|⟨g',g''⟩
            ·first
             | (exfalso;omega)
             | (go_wp2;all_goals first|(exfalso;omega)|(go_ret;exact ⟨by rw [HF.out];rfl,rfl⟩))
            ·first
             | (exfalso;omega)
             | (go_wp2;all_goals first|(exfalso;omega)|(go_ret;exact ⟨by rw [HF.out];rfl,rfl⟩))
            ·first
             | (exfalso;omega)
             | (go_wp2;all_goals first|(exfalso;omega)|(go_ret;exact ⟨by rw [HF.out];rfl,rfl⟩))
       ·have HS:=κ (at4 s k hlt (by omega) (by omega))
        rw [←HV.out] at HS
        clear HV
        by_cases hn:s.size≤k+3
        ·have HF:=κ (HS.out.1 hn)
         clear HS
         obtain ⟨bn,hb⟩:∃ x,x=(s[k]'hlt).toNat:=⟨_,rfl⟩
         rw [←hb] at hbl c0 c1 c2 c3
         try rw [←hb] at c4
         try rw [←hb] at HY HN
         replace hb:=hb.symm
         go_wp2
         go_ret
         exact ⟨by rw [HF.out];rfl,rfl⟩
        ·have HY:=κ (HS.out.2.1 (by omega))
         have HN:=κ (HS.out.2.2 (by omega))
         clear HS
         have hl1:=(s[k+1]'(by omega)).toNat_lt
         have hl2:=(s[k+2]'(by omega)).toNat_lt
         have hl3:=(s[k+3]'(by omega)).toNat_lt
         obtain ⟨bn,hb⟩:∃ x,x=(s[k]'hlt).toNat:=⟨_,rfl⟩
         rw [←hb] at hbl c0 c1 c2 c3
         try rw [←hb] at c4
         try rw [←hb] at HY HN
         replace hb:=hb.symm
         obtain ⟨x1,he1⟩:∃ x,x=(s[k+1]'(by omega)).toNat:=⟨_,rfl⟩
         obtain ⟨x2,he2⟩:∃ x,x=(s[k+2]'(by omega)).toNat:=⟨_,rfl⟩
         obtain ⟨x3,he3⟩:∃ x,x=(s[k+3]'(by omega)).toNat:=⟨_,rfl⟩
         rw [←he1] at hl1 HY HN
         rw [←he2] at hl2 HY HN
         rw [←he3] at hl3 HY HN
         replace he1:(s[k+1]'(by omega)).toNat=x1:=he1.symm
         replace he2:(s[k+2]'(by omega)).toNat=x2:=he2.symm
         replace he3:(s[k+3]'(by omega)).toNat=x3:=he3.symm
         have hn':(3:Int)<(s.size:Int)-k:=by omega
         go_wp2
         go_loop [7,8] (fun r kk=>(kk=.int .i64 1 ∧  r=.int .i32 ((bn:Int)-240))∨(kk=.int .i64 2∧dI x1∧r=.int .i32 (((bn:Int)-240)*64+((x1:Int)-128)))∨(kk=.int .i64 3∧dI x1∧dI x2∧r=.int .i32 ((((bn:Int)-240)*64+((x1:Int)-128))*64+((x2:Int)-128)))∨(kk=.int .i64 4∧dI x1∧dI x2∧dI x3∧r=.int .i32 (((((bn:Int)-240)*64+((x1:Int)-128))*64+((x2:Int)-128))*64+((x3:Int)-128)))) (fun r kk=>9-(intOf kk).toNat)
         case atStart=>exact .inl ⟨rfl,rfl⟩
         case round =>
          rcases hrel with ⟨rfl,rfl⟩|⟨rfl,p1,rfl⟩|⟨rfl,p1,p2,rfl⟩|⟨rfl,p1,p2,p3,rfl⟩
          ·clear HY
           by_cases g:dI x1
           ·obtain ⟨g1,g2⟩:=g
            clear HN
            go_wp2
            go_round
            case rel=>exact .inr (.inl ⟨rfl,⟨g1,g2⟩,rfl⟩)
            case measure=>simp [intOf]
           ·have HF:=κ (HN.out (fun h=>g h.1))
            clear HN
            have g':x1<128∨192≤x1:=by unfold dI at g;omega
            rcases g' with g'|g'
            ·go_wp2
             go_ret
             exact ⟨by rw [HF.out];rfl,rfl⟩
            ·go_wp2
             go_ret
             exact ⟨by rw [HF.out];rfl,rfl⟩
          ·clear HY
           obtain ⟨q1,q1'⟩:=p1
           by_cases g:dI x2
           ·obtain ⟨g1,g2⟩:=g
            clear HN
            go_wp2
            go_round
            case rel=>exact .inr (.inr (.inl ⟨rfl,⟨q1,q1'⟩,⟨g1,g2⟩,rfl⟩))
            case measure=>simp [intOf]
           ·have HF:=κ (HN.out (fun h=>g h.2.1))
            clear HN
            have g':x2<128∨192≤x2:=by unfold dI at g;omega
            rcases g' with g'|g'
            ·go_wp2
             go_ret
             exact ⟨by rw [HF.out];rfl,rfl⟩
            ·go_wp2
             go_ret
             exact ⟨by rw [HF.out];rfl,rfl⟩
          ·clear HY
           obtain ⟨q1,q1'⟩:=p1
           obtain ⟨q2,q2'⟩:=p2
           by_cases g:dI x3
           ·obtain ⟨g1,g2⟩:=g
            clear HN
            go_wp2
            go_round
            case rel=>exact .inr (.inr (.inr (⟨rfl,⟨q1,q1'⟩,⟨q2,q2'⟩,⟨g1,g2⟩,rfl⟩)))
            case measure=>simp [intOf]
           ·have HF:=κ (HN.out (fun h=>g h.2.2.1))
            clear HN
            have g':x3<128∨192≤x3:=by unfold dI at g;omega
            rcases g' with g'|g'
            ·go_wp2
             go_ret
             exact ⟨by rw [HF.out];rfl,rfl⟩
            ·go_wp2
             go_ret
             exact ⟨by rw [HF.out];rfl,rfl⟩
          ·by_cases g:dQ (((((bn:Int)-240)*64+((x1:Int)-128))*64+((x2:Int)-128))*64+((x3:Int)-128)) 65536
           ·have HF:=κ (HY.out p1 p2 p3 g)
            clear HY HN
            obtain ⟨g1,g2,g3⟩:=g
            obtain ⟨q1,q1'⟩:=p1
            obtain ⟨q2,q2'⟩:=p2
            obtain ⟨q3,q3'⟩:=p3
            go_wp2
            all_goals first|(exfalso;omega)|skip
            all_goals
             go_round
             case rel=>exact ⟨k+4,by omega,by go_num,HF⟩
             case measure=>simp [intOf];omega
           ·have HF:=κ (HN.out (fun h=>g h.2.2.2))
            clear HY HN
            have g':(((((bn:Int)-240)*64+((x1:Int)-128))*64+((x2:Int)-128))*64+((x3:Int)-128))<65536∨1114111<(((((bn:Int)-240)*64+((x1:Int)-128))*64+((x2:Int)-128))*64+((x3:Int)-128))∨(55296≤(((((bn:Int)-240)*64+((x1:Int)-128))*64+((x2:Int)-128))*64+((x3:Int)-128))∧(((((bn:Int)-240)*64+((x1:Int)-128))*64+((x2:Int)-128))*64+((x3:Int)-128))<57344):=by unfold dQ at g;omega
            clear g
            obtain ⟨q1,q1'⟩:=p1
            obtain ⟨q2,q2'⟩:=p2
            obtain ⟨q3,q3'⟩:=p3
            rcases g' with g'|g'|⟨g',g''⟩
            ·first
             | (exfalso;omega)
             | (go_wp2;all_goals first|(exfalso;omega)|(go_ret;exact ⟨by rw [HF.out];rfl,rfl⟩))
            ·first
             | (exfalso;omega)
             | (go_wp2;all_goals first|(exfalso;omega)|(go_ret;exact ⟨by rw [HF.out];rfl,rfl⟩))
            ·first
             | (exfalso;omega)
             | (go_wp2;all_goals first|(exfalso;omega)|(go_ret;exact ⟨by rw [HF.out];rfl,rfl⟩))
  ·have HF:Hid (aS s.data.toList=true):=by
    show _=_
    rw [HV.out,Un s k (by omega)];rfl
   clear HV
   go_wp2
   go_ret
   exact ⟨by rw [HF.out];rfl,rfl⟩
theorem gW (B:Nat) (w:World) (n:Nat):Below B w (w.drewN n):=⟨rfl,rfl,rfl,ν _,fun _ _=>rfl⟩
def gH (k i:Int) (s:ByteArray) (b:Bool) (w:World) (e:Ending) (w':World):Prop:=e=.returned (.bool (bX k i s b))∧Below w.heap.size w w'
theorem kF {k i:Int} {s:ByteArray} {b r:Bool} {w w':World} (h:r=bX k i s b) (hb:Below w.heap.size w w'):gH k i s b w (.returned (.bool r)) w':=by
 subst h;exact ⟨rfl,hb⟩
theorem Nw (i:Int) (s:ByteArray) (b:Bool) (w:World) :
 Calls prog 77 #[.agg #[.int .u8 0,.int .i64 i,.string s,.bool b]] w (gH 0 i s b w):=by
 have hB:∀ o n,Below w.heap.size w ((w.alloc o).drewN n):=fun o n=>((Below.refl w.heap.size w).alloc (ν _) o).trans (gW _ _ _)
 go_enter func77,ntmps77
 go_wp2_with fail
 go_quiet (fail)
 go_wp2
 all_goals (go_ret;exact kF (by clear hB;simp_all [bX,ByteArray.toList_eq]) (hB _ _))
theorem Nv (i:Int) (s:ByteArray) (b:Bool) (w:World) :
 Calls prog 77 #[.agg #[.int .u8 1,.int .i64 i,.string s,.bool b]] w (gH 1 i s b w):=by
 have hB:∀ o n,Below w.heap.size w ((w.alloc o).drewN n):=fun o n=>((Below.refl w.heap.size w).alloc (ν _) o).trans (gW _ _ _)
 go_enter func77,ntmps77
 go_wp2_with fail
 go_quiet (fail)
 go_wp2
 all_goals (go_ret;exact kF (by clear hB;simp_all [bX,ByteArray.toList_eq]) (hB _ _))
theorem Nu (i:Int) (s:ByteArray) (b:Bool) (w:World) (hs:s.size≤9223372036854775807) :
 Calls prog 77 #[.agg #[.int .u8 2,.int .i64 i,.string s,.bool b]] w (gH 2 i s b w):=by
 have hB:∀ o n,Below w.heap.size w ((w.alloc o).drewN n):=fun o n=>((Below.refl w.heap.size w).alloc (ν _) o).trans (gW _ _ _)
 go_enter func77,ntmps77
 go_wp2_with fail
 go_quiet (fail)
 go_wp2_with (go_at_call 131;refine (sJ _ _ hs).mono ?_;rintro e w' ⟨rfl,rfl⟩)
 all_goals (go_ret;exact kF (by clear hB;simp_all [bX]<;>(intros;omega)) (hB _ _))
theorem Nt (i:Int) (s:ByteArray) (b:Bool) (w:World) :
 Calls prog 77 #[.agg #[.int .u8 3,.int .i64 i,.string s,.bool b]] w (gH 3 i s b w):=by
 have hB:∀ o n,Below w.heap.size w ((w.alloc o).drewN n):=fun o n=>((Below.refl w.heap.size w).alloc (ν _) o).trans (gW _ _ _)
 go_enter func77,ntmps77
 go_wp2_with fail
 go_quiet (fail)
 go_wp2
 all_goals (go_ret;exact kF (by clear hB;simp_all [bX,ByteArray.toList_eq]) (hB _ _))
theorem yB (k i:Int) (s:ByteArray) (b:Bool) (w:World) (h0:(k==0)=false) (h1:(k==1)=false) (h2:(k==2)=false) (h3:(k==3)=false) :
 Calls prog 77 #[.agg #[.int .u8 k,.int .i64 i,.string s,.bool b]] w (gH k i s b w):=by
 have hB:∀ o n,Below w.heap.size w ((w.alloc o).drewN n):=fun o n=>((Below.refl w.heap.size w).alloc (ν _) o).trans (gW _ _ _)
 go_enter func77,ntmps77
 go_wp2_with fail
 go_quiet (fail)
 go_wp2
 all_goals (go_ret;exact kF (by simp_all [bX]) (hB _ _))
theorem Eh (k i:Int) (s:ByteArray) (b:Bool) (w:World) (hs:s.size≤9223372036854775807) :
 Calls prog 77 #[.agg #[.int .u8 k,.int .i64 i,.string s,.bool b]] w (gH k i s b w):=by
 by_cases h0:k=0
 ·subst h0;exact Nw i s b w
 ·by_cases h1:k=1
  ·subst h1;exact Nv i s b w
  ·by_cases h2:k=2
   ·subst h2;exact Nu i s b w hs
   ·by_cases h3:k=3
    ·subst h3;exact Nt i s b w
    ·exact yB k i s b w (by simpa using h0) (by simpa using h1) (by simpa using h2) (by simpa using h3)
theorem jU (k i:Int) (s:ByteArray) (b r:Bool) (hr:bX k i s b=r) (w:World) (hs:s.size≤9223372036854775807) :
 Calls prog 77 #[.agg #[.int .u8 k,.int .i64 i,.string s,.bool b]] w fun e w'=>e=.returned (.bool r)∧Below w.heap.size w w':=by
 subst hr;exact Eh k i s b w hs
