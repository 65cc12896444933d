/-
 Contracts. Conditions: those of each.
-/
import Derived.Test.YtkolcimllghnaaaGreatDoorQbGQ
set_option maxRecDepth 100000
set_option maxHeartbeats 20000000
namespace Go.Proofs.YtkolcimllghnaaaGreatDoor
open Lp Go.Proofs.Tryz
open Go.RowKit
theorem nO (s:ByteArray) (w:World) (hs:s.size≤9223372036854775807) :
 Calls prog 78 #[.string s] w fun e w'=>e=.returned (.bool (aS s.data.toList))∧w=w':=by
 have C:=κ (fun W=>sJ s W hs)
 go_enter func78,ntmps78
 go_wp2_with fail
 refine (C.out _).mono ?_
 rintro e w' ⟨rfl,rfl⟩
 go_wp2
 go_ret
 exact ⟨rfl,rfl⟩
theorem Gy {s:ByteArray} {i:Nat} (h:i<s.size) {x:UInt8} (hx:s[i]'h=x):s.data.toList.drop i=x::s.data.toList.drop (i+1):=by
 rw [iO s i h,hx]
theorem Gf {p:UInt8→Bool} {l:List UInt8} {i j:Nat} (hij:i≤j) (hall:((l.drop i).take (j-i)).all p=true) (hend:∀ h:j<l.length,p (l[j]'h)=false) (hj:j≤l.length):((l.drop i).takeWhile p).length=j-i∧(l.drop i).takeWhile p=(l.drop i).take (j-i):=by
 have h1:((l.drop i).takeWhile p).length=j-i:=by
  by_cases h:j<l.length
  ·refine jO (by rw [List.length_drop];omega) hall ?_
   rw [List.getElem_drop]
   have e:i+(j-i)=j:=by omega
   simp only [e]
   exact hend h
  ·have hjl:j=l.length:=by omega
   have e:(l.drop i).take (j-i)=l.drop i:=List.take_of_length_le (by rw [List.length_drop];omega)
   rw [e] at hall
   rw [lA hall,List.length_drop];omega
 exact ⟨h1,by rw [←kC (p:=p),h1]⟩
theorem xO {p:UInt8→Bool} {s:ByteArray} {i j:Nat} (hij:i≤j) (hj:j<s.size) (hall:((s.data.toList.drop i).take (j-i)).all p=true) (hp:p (s[j]'hj)=true):((s.data.toList.drop i).take (j+1-i)).all p=true:=by
 have e:j+1-i=j-i+1:=by omega
 rw [e,List.take_add_one,List.getElem?_drop,List.all_append,hall]
 have e2:i+(j-i)=j:=by omega
 rw [e2,gU s j hj]
 simp [hp]
theorem fK {w:World} {B c:Nat} {A:Option Addr} {L:List Tok} {t:Tok} (h:w.ownsRow B 173 3 (.slice A (L.length+1) c) (L.length+1) (tkv L++tkv [t])) :
 w.ownsRow B 173 3 (.slice A (L++[t]).length c) (L++[t]).length (tkv (L++[t])):=by
 rw [sP,List.length_append];exact h
theorem mA (s:ByteArray) (i j:Nat):s.extract i j=⟨((s.data.toList.drop i).take (j-i)).toArray⟩:=by
 apply ByteArray.ext
 apply Array.ext'
 rw [Lib.extract_data]
theorem St {x y:UInt8} (h:sM x y=false):(((x.toNat:Int)==60)=true∧((y.toNat:Int)==61)=false∧((y.toNat:Int)==62)=false∧((x.toNat:Int)==62)=false)∨(((x.toNat:Int)==60)=false∧((x.toNat:Int)==62)=true∧((y.toNat:Int)==61)=false)∨(((x.toNat:Int)==60)=false∧((x.toNat:Int)==62)=false):=by
 rw [←Bool.not_eq_true] at h
 unfold sM at h
 simp at h
 simp only [beq_iff_eq,beq_eq_false_iff_ne]
 omega
theorem Lk {x y:UInt8} (h:sM x y=true):(((x.toNat:Int)==60)=true∧((y.toNat:Int)==61)=true)∨(((x.toNat:Int)==60)=true∧((y.toNat:Int)==61)=false∧((y.toNat:Int)==62)=true)∨(((x.toNat:Int)==60)=false∧((x.toNat:Int)==62)=true∧((y.toNat:Int)==61)=true):=by
 unfold sM at h
 simp at h
 simp only [beq_iff_eq,beq_eq_false_iff_ne]
 omega
theorem Rx {x:UInt8} (h:dY x=true):x.toNat=32∨x.toNat=9∨x.toNat=10∨x.toNat=13:=by
 unfold dY at h
 simp at h
 omega
theorem Rw {x:UInt8} (h:dY x=false):((x.toNat:Int)==32)=false∧((x.toNat:Int)==9)=false∧((x.toNat:Int)==10)=false∧((x.toNat:Int)==13)=false:=by
 rw [←Bool.not_eq_true] at h
 unfold dY at h
 simp at h
 refine ⟨?_, ?_, ?_, ?_⟩<;>(rw [beq_eq_false_iff_ne];omega)
theorem oO (s:ByteArray) (w:World) (hs0:s.size≤9223372036854775807) :
 Calls prog 32 #[.string s] w (iW 173 w (dT s.data.toList)):=by
 have hsz:s.data.toList.length=s.size:=by rw [Array.length_toList];rfl
 by_cases hlong:2000<s.size
 ·have HF:=κ (qH (l:=s.data.toList) (by rw [hsz];exact hlong))
  have h2:(2000:Int)<(s.size:Int):=by omega
  clear hsz
  go_enter func32,ntmps32
  go_wp2
  go_ret2
  exact dC HF.out (θ)
 ·have HF:=κ (jZ (l:=s.data.toList) (by rw [hsz];omega))
  have h2:¬(2000:Int)<(s.size:Int):=by omega
  have hs2:s.size≤2000:=by omega
  obtain ⟨iT,hiT,hz0,hz1,hz2⟩:=info_parts Nd
  have HSZ:=κ hsz
  clear hsz hlong
  go_enter func32,ntmps32
  go_wp2_with fail
  go_loopg [4,5,6,7,8,9,10,11,12] (s.size+1) (fun gk s4 s5 _ _ _ _ _ _ _ wr=>∃ (i:Nat) (L:List Tok) (A:Option Addr) (c:Nat),i≤s.size∧gk=s.size+1-i∧s5=.int .i64 i∧s4=.slice A L.length c∧wr.ownsRow w.heap.size 173 3 (.slice A L.length c) L.length (tkv L)∧L.length≤i∧Hid (dT s.data.toList=dF L (s.data.toList.drop i))∧Below w.heap.size w wr)
  case atStart=>exact ⟨0,[],none,0,by omega,by omega,rfl,rfl,World.ownsRow_nil _ _ _ _,by simp,HF.out,θ⟩
  case round =>
   clear HF
   obtain ⟨i,L,A,c,hi,rfl,rfl,rfl,hown,hLi,HR,hbw⟩:=hrel
   have hsz:=hbw.size
   by_cases hlt:i<s.size
   ·obtain ⟨x,hx⟩:∃ x,s[i]'hlt=x:=⟨_,rfl⟩
    have HD:=κ (Gy hlt hx)
    have hlt':(i:Int)<(s.size:Int):=by omega
    have hi0:(0:Int)≤(i:Int):=by omega
    cases hbl:dY x
    ·obtain ⟨q1,q2,q3,q4⟩:=Rw hbl
     cases hle:fO x
     ·cases hdi:aN x
      ·by_cases h39:x=39
       ·have cL:=fun W=>fC ((x.toNat:Nat):Int) W
        rw [eW,hle] at cL
        unfold aW at cL
        have CL:=κ cL
        have cI:=fun W=>gF ((x.toNat:Nat):Int) W
        rw [eB,hdi] at cI
        unfold aW at cI
        have CI:=κ cI
        clear cL cI
        have q5:((x.toNat:Int)==39)=true:=by rw [h39];rfl
        have H39:=κ h39
        clear h39
        obtain ⟨i0,hi9,hy0,hy1,hy2⟩:=info_parts Cy
        go_wp2_with fail
        refine (CL.out _).mono ?_
        rintro e w' ⟨rfl,rfl⟩
        go_wp2_with fail
        refine (CI.out _).mono ?_
        rintro e w' ⟨rfl,rfl⟩
        go_wp2_with fail
        obtain ⟨wo,rfl⟩:∃ wo:World,wo=wr:=⟨_,rfl⟩
        go_loopw [5,10,11] (fun s5 s10 s11 w2=>∃ (q p:Nat) (acc:List UInt8) (A3:Option Addr) (c3:Nat) (cl:Bool),q≤i+1+p∧i+1+p≤q∧q≤s.size∧s5=.int .i64 q∧s10=.slice A3 acc.length c3∧OwnB w2 wo.heap.size A3 c3 acc∧s11=.bool cl∧acc.length≤p∧Hid (if cl=true then txt (s.data.toList.drop (i+1))=some (acc,p) else fH (s.data.toList.drop (i+1)) acc p false)∧Below wo.heap.size wo w2) (fun s5 _ _ _=>s.size-(intOf s5).toNat)
        case atStart=>exact ⟨i+1,0,[],none,0,false,by omega,by omega,by omega,by go_num,rfl,World.ownsRow_nil _ _ _ _,rfl,by simp,pD _,θ⟩
        case round =>
         obtain ⟨q,p,acc,A3,c3,cl,hq1,hq2,hq3,rfl,rfl,hown3,rfl,hac,HA,hbo⟩:=hrel
         have hq0:(0:Int)≤(q:Int):=by omega
         cases cl
         ·by_cases hql:q<s.size
          ·have hql':(q:Int)<(s.size:Int):=by omega
           obtain ⟨y,hy⟩:∃ y,s[q]'hql=y:=⟨_,rfl⟩
           have hgy:(s.data.toList.drop (i+1))[p]? = some y:=by rw [List.getElem?_drop,show i+1+p=q by omega,gU s q hql,hy]
           have HA1:fH (s.data.toList.drop (i+1)) acc p false:=HA.out
           by_cases hy39:y=39
           ·have r1:((y.toNat:Int)==39)=true:=by rw [hy39];rfl
            rw [hy39] at hgy
            have HAq:=pE HA1 hgy
            by_cases hq4:q+1<s.size
            ·have hq4':(q:Int)+1<(s.size:Int):=by omega
             have hq5':(0:Int)≤(q:Int)+1:=by omega
             obtain ⟨z,hz⟩:∃ z,s[q+1]'hq4=z:=⟨_,rfl⟩
             have hgz:(s.data.toList.drop (i+1))[p+1]? = some z:=by rw [List.getElem?_drop,show i+1+(p+1)=q+1 by omega,gU s (q+1) hq4,hz]
             by_cases hz39:z=39
             ·as_aux_lemma =>
               have r2:((z.toNat:Int)==39)=true:=by rw [hz39];rfl
               rw [hz39] at hgz
               have HA2:Hid (if false=true then txt (s.data.toList.drop (i+1))=some (acc++[39],p+2) else fH (s.data.toList.drop (i+1)) (acc++[39]) (p+2) false):=by
                have:=sT HAq hgz
                show if false=true then _ else _
                simpa using this
               clear HA HA1 HAq hgz hz39 hy39 hgy HR HD hbl hle hdi
               go_wp2_with (at_builtin;refine bH _ rfl (.tmp 187) (.tmp 188) _ rfl wo.heap.size 5 i0 _ 1 1 underlying176 hi9 hy0 hy1 hy2 rfl (by omega) _ _ _ _ rfl (hown3.alloc _) _ 1 1 (bv [39]) rfl rfl (cK _ _ _) (by simp [bv,Value.oneCell']) (by simp only [maxLen];omega) (by omega) (by have:=hbo.size;simp;omega) ?_;intro A4 c4 w4 hown4 hb4 _ _)
               have hown5:OwnB w4 wo.heap.size A4 c4 (acc++[39]):=by
                unfold OwnB;rw [qV,List.length_append];exact hown4
               have hbo5:=(hbo.alloc hbo.size _).trans hb4
               clear hown3 hown4 hb4 hbo
               go_wp2
               go_roundw
               case rel=>exact ⟨q+2,p+2,acc++[39],A4,c4,false,by omega,by omega,by omega,by go_num,by simp,hown5,rfl,by simp;omega,HA2,hbo5⟩
               case measure=>simp [intOf];omega
             ·as_aux_lemma =>
               have r2:((z.toNat:Int)==39)=false:=by rw [beq_eq_false_iff_ne];intro e;exact hz39 (UInt8.toNat_inj.1 (by show _=39;omega))
               have HA2:Hid (if true=true then txt (s.data.toList.drop (i+1))=some (acc,p+1) else fH (s.data.toList.drop (i+1)) acc (p+1) false):=by
                have:=sU HAq hgz hz39
                show if true=true then _ else _
                simpa using this
               clear HA HA1 HAq hgz hz39 hy39 hgy HR HD hbl hle hdi
               go_wp2
               go_roundw
               case rel=>exact ⟨q+1,p+1,acc,A3,c3,true,by omega,by omega,by omega,by go_num,rfl,hown3,rfl,by omega,HA2,hbo⟩
               case measure=>simp [intOf];omega
            ·as_aux_lemma =>
              have hq4':¬(q:Int)+1<(s.size:Int):=by omega
              have HA2:Hid (if true=true then txt (s.data.toList.drop (i+1))=some (acc,p+1) else fH (s.data.toList.drop (i+1)) acc (p+1) false):=by
               have:=rI HAq (by rw [List.length_drop,HSZ.out];omega)
               show if true=true then _ else _
               simpa using this
              clear HA HA1 HAq hy39 hgy HR HD hbl hle hdi
              go_wp2
              go_roundw
              case rel=>exact ⟨q+1,p+1,acc,A3,c3,true,by omega,by omega,by omega,by go_num,rfl,hown3,rfl,by omega,HA2,hbo⟩
              case measure=>simp [intOf];omega
           ·as_aux_lemma =>
             have r1:((y.toNat:Int)==39)=false:=by rw [beq_eq_false_iff_ne];intro e;exact hy39 (UInt8.toNat_inj.1 (by show _=39;omega))
             have HA2:Hid (if false=true then txt (s.data.toList.drop (i+1))=some (acc++[y],p+1) else fH (s.data.toList.drop (i+1)) (acc++[y]) (p+1) false):=by
              have hty:((s.data.toList.drop (i+1)).drop p).take 1=[y]:=by
               obtain ⟨g1,g2⟩:=List.getElem?_eq_some_iff.1 hgy
               rw [List.drop_eq_getElem_cons g1,g2];rfl
              have:=rG (k:=1) HA1 (by rw [List.length_drop,HSZ.out];omega) (by rw [hty];simpa using fun e=>hy39 e.symm)
              rw [hty] at this
              show if false=true then _ else _
              simpa using this
             clear HA HA1 hy39 hgy HR HD hbl hle hdi
             go_wp2_with (at_builtin;refine bH _ rfl (.tmp 167) (.tmp 171) _ rfl wo.heap.size 5 i0 _ 1 1 underlying176 hi9 hy0 hy1 hy2 rfl (by omega) _ _ _ _ rfl (hown3.alloc _) _ 1 1 (bv [y]) rfl rfl (cK _ _ _) (by simp [bv,Value.oneCell']) (by simp only [maxLen];omega) (by omega) (by have:=hbo.size;simp;omega) ?_;intro A4 c4 w4 hown4 hb4 _ _)
             have hown5:OwnB w4 wo.heap.size A4 c4 (acc++[y]):=by
              unfold OwnB;rw [qV,List.length_append];exact hown4
             have hbo5:=(hbo.alloc hbo.size _).trans hb4
             clear hown3 hown4 hb4 hbo
             go_wp2
             go_roundw
             case rel=>exact ⟨q+1,p+1,acc++[y],A4,c4,false,by omega,by omega,by omega,by go_num,by simp,hown5,rfl,by simp;omega,HA2,hbo5⟩
             case measure=>simp [intOf];omega
          ·as_aux_lemma =>
            have hql':¬(q:Int)<(s.size:Int):=by omega
            have ht:txt (s.data.toList.drop (i+1))=none:=rH HA.out (by rw [List.length_drop,HSZ.out];omega)
            have HF:Hid (dT s.data.toList=([],4)):=by
             have hE:bE (x::s.data.toList.drop (i+1))=(Do,0,4):=by rw [H39.out,cY,ht];rfl
             show _=_
             rw [HR.out,HD.out,dM _ hbl (by rw [hE];decide),hE]
            have hbw2:=hbw.trans (hbo.mono hsz)
            clear HA ht HR HD hbl hle hdi
            go_wp2
            go_ret2
            exact dC HF.out hbw2
         ·by_cases hql:q<s.size
          ·as_aux_lemma =>
            have hql':(q:Int)<(s.size:Int):=by omega
            have HAx:Hid (txt (s.data.toList.drop (i+1))=some (acc,p)):=HA
            clear HA
            have HA:=HAx
            clear HAx
            have hnx:bE (x::s.data.toList.drop (i+1))=jL (some (acc,p)):=by rw [H39.out,cY,HA.out]
            have hcv:=vA acc.length c3 rfl hown3.rds
            cases hok:aS acc
            ·as_aux_lemma =>
              have hE:bE (x::s.data.toList.drop (i+1))=(⟨0,[],0⟩,0,4):=by rw [hnx];exact pC hok
              have HF:Hid (dT s.data.toList=([],4)):=by
               show _=_
               rw [HR.out,HD.out,dM _ hbl (by rw [hE];decide),hE]
              have hRt:bX 2 0 ⟨acc.toArray⟩ false=false:=by rw [eO,hok,Bool.and_false]
              have CR:=κ (fun W=>jU 2 0 ⟨acc.toArray⟩ false _ hRt W (by show acc.toArray.size≤_;simp;omega))
              have cWh:=fun W=>nO ⟨acc.toArray⟩ W (by show acc.toArray.size≤_;simp;omega)
              rw [show (⟨acc.toArray⟩:ByteArray).data.toList=acc from rfl,hok] at cWh
              have CWh:=κ cWh
              clear hRt cWh hE hnx HR HD HA hok hbl hle hdi
              go_wp2_with fail
              refine (CR.out _).mono ?_
              rintro e w5 ⟨rfl,hb5⟩
              have x5:=aA (heap_alloc_new wr (.cells #[.int .u8 2,.int .i64 0,.string ⟨acc.toArray⟩,.bool false] 58)) hb5
              have cv5:=β x5
              have hbw5:=((hbw.trans (hbo.mono hsz)).alloc (Nat.le_trans hsz hbo.size) _).trans (hb5.mono (by have:=hbo.size;simp;omega))
              clear x5 hb5 hbo hbw hown hown3 hcv
              go_wp2_with fail
              refine (CWh.out _).mono ?_
              rintro e w' ⟨rfl,rfl⟩
              go_wp2
              go_ret2
              exact dC HF.out hbw5
            ·by_cases h60:acc.length≤60
             ·as_aux_lemma =>
               have hE:bE (x::s.data.toList.drop (i+1))=(⟨3,acc,0⟩,p+1,0):=by rw [hnx];exact oL hok h60
               have HR2:Hid (dT s.data.toList=dF (L++[⟨3,acc,0⟩]) (s.data.toList.drop q)):=by
                show _=_
                rw [HR.out,HD.out,dE _ hbl (by rw [hE]),hE, ←HD.out,List.drop_drop,show i+(p+1)=q by omega]
               have hRt:bX 2 0 ⟨acc.toArray⟩ false=true:=by rw [eO,hok,decide_eq_true h60];rfl
               have CR:=κ (fun W=>jU 2 0 ⟨acc.toArray⟩ false _ hRt W (by show acc.toArray.size≤_;simp;omega))
               clear hRt hE hnx HR HD HA hok hbl hle hdi
               go_wp2_with fail
               refine (CR.out _).mono ?_
               rintro e w5 ⟨rfl,hb5⟩
               have x5:=aA (heap_alloc_new wr (.cells #[.int .u8 2,.int .i64 0,.string ⟨acc.toArray⟩,.bool false] 58)) hb5
               have cv5:=β x5
               have hbw5:=((hbw.trans (hbo.mono hsz)).alloc (Nat.le_trans hsz hbo.size) (.cells #[.int .u8 2,.int .i64 0,.string ⟨acc.toArray⟩,.bool false] 58)).trans (hb5.mono (by have:=hbo.size;simp;omega))
               have hown5:=aQ ((aQ hown hbo).alloc _) hb5
               have hsz5:=hbw5.size
               clear x5 hb5 hbo hbw hown hown3 hcv
               go_wp2_with (at_builtin;refine bH _ rfl (.tmp 205) (.tmp 209) _ rfl w.heap.size 173 iT _ 3 32 underlying103 hiT hz0 hz1 hz2 rfl (by omega) _ _ _ _ rfl (hown5.alloc _) _ 1 1 (tkv [(⟨3,acc,0⟩:Tok)]) rfl rfl (cK _ _ _) (by simp [Value.oneCell',tkv,Tok.cells]) (by simp only [maxLen];omega) (by omega) (by simp;omega) ?_;intro A2 c2 w2 hown2 hb2 _ _)
               have hown3:=fK hown2
               have hbw3:=(hbw5.alloc hsz5 _).trans hb2
               clear hown2 hb2 hown5 hbw5
               go_wp2
               go_roundg (s.size+1-(q))
               case measure=>omega
               case rel=>exact ⟨q,_,A2,c2,by omega,rfl,rfl,by simp,hown3,by simp;omega,HR2,hbw3⟩
             ·as_aux_lemma =>
               have hE:bE (x::s.data.toList.drop (i+1))=(⟨0,[],0⟩,0,2):=by rw [hnx];exact oK hok h60
               have HF:Hid (dT s.data.toList=([],2)):=by
                show _=_
                rw [HR.out,HD.out,dM _ hbl (by rw [hE];decide),hE]
               have hRt:bX 2 0 ⟨acc.toArray⟩ false=false:=by rw [eO,decide_eq_false h60,Bool.false_and]
               have CR:=κ (fun W=>jU 2 0 ⟨acc.toArray⟩ false _ hRt W (by show acc.toArray.size≤_;simp;omega))
               have cWh:=fun W=>nO ⟨acc.toArray⟩ W (by show acc.toArray.size≤_;simp;omega)
               rw [show (⟨acc.toArray⟩:ByteArray).data.toList=acc from rfl,hok] at cWh
               have CWh:=κ cWh
               clear hRt cWh hE hnx HR HD HA hok hbl hle hdi h60
               go_wp2_with fail
               refine (CR.out _).mono ?_
               rintro e w5 ⟨rfl,hb5⟩
               have x5:=aA (heap_alloc_new wr (.cells #[.int .u8 2,.int .i64 0,.string ⟨acc.toArray⟩,.bool false] 58)) hb5
               have cv5:=β x5
               have hbw5:=((hbw.trans (hbo.mono hsz)).alloc (Nat.le_trans hsz hbo.size) _).trans (hb5.mono (by have:=hbo.size;simp;omega))
               clear x5 hb5 hbo hbw hown hown3 hcv
               go_wp2_with fail
               refine (CWh.out _).mono ?_
               rintro e w' ⟨rfl,rfl⟩
               go_wp2
               go_ret2
               exact dC HF.out hbw5
          ·as_aux_lemma =>
            have hql':¬(q:Int)<(s.size:Int):=by omega
            have HAx:Hid (txt (s.data.toList.drop (i+1))=some (acc,p)):=HA
            clear HA
            have HA:=HAx
            clear HAx
            have hnx:bE (x::s.data.toList.drop (i+1))=jL (some (acc,p)):=by rw [H39.out,cY,HA.out]
            have hcv:=vA acc.length c3 rfl hown3.rds
            cases hok:aS acc
            ·as_aux_lemma =>
              have hE:bE (x::s.data.toList.drop (i+1))=(⟨0,[],0⟩,0,4):=by rw [hnx];exact pC hok
              have HF:Hid (dT s.data.toList=([],4)):=by
               show _=_
               rw [HR.out,HD.out,dM _ hbl (by rw [hE];decide),hE]
              have hRt:bX 2 0 ⟨acc.toArray⟩ false=false:=by rw [eO,hok,Bool.and_false]
              have CR:=κ (fun W=>jU 2 0 ⟨acc.toArray⟩ false _ hRt W (by show acc.toArray.size≤_;simp;omega))
              have cWh:=fun W=>nO ⟨acc.toArray⟩ W (by show acc.toArray.size≤_;simp;omega)
              rw [show (⟨acc.toArray⟩:ByteArray).data.toList=acc from rfl,hok] at cWh
              have CWh:=κ cWh
              clear hRt cWh hE hnx HR HD HA hok hbl hle hdi
              go_wp2_with fail
              refine (CR.out _).mono ?_
              rintro e w5 ⟨rfl,hb5⟩
              have x5:=aA (heap_alloc_new wr (.cells #[.int .u8 2,.int .i64 0,.string ⟨acc.toArray⟩,.bool false] 58)) hb5
              have cv5:=β x5
              have hbw5:=((hbw.trans (hbo.mono hsz)).alloc (Nat.le_trans hsz hbo.size) _).trans (hb5.mono (by have:=hbo.size;simp;omega))
              clear x5 hb5 hbo hbw hown hown3 hcv
              go_wp2_with fail
              refine (CWh.out _).mono ?_
              rintro e w' ⟨rfl,rfl⟩
              go_wp2
              go_ret2
              exact dC HF.out hbw5
            ·by_cases h60:acc.length≤60
             ·as_aux_lemma =>
               have hE:bE (x::s.data.toList.drop (i+1))=(⟨3,acc,0⟩,p+1,0):=by rw [hnx];exact oL hok h60
               have HR2:Hid (dT s.data.toList=dF (L++[⟨3,acc,0⟩]) (s.data.toList.drop q)):=by
                show _=_
                rw [HR.out,HD.out,dE _ hbl (by rw [hE]),hE, ←HD.out,List.drop_drop,show i+(p+1)=q by omega]
               have hRt:bX 2 0 ⟨acc.toArray⟩ false=true:=by rw [eO,hok,decide_eq_true h60];rfl
               have CR:=κ (fun W=>jU 2 0 ⟨acc.toArray⟩ false _ hRt W (by show acc.toArray.size≤_;simp;omega))
               clear hRt hE hnx HR HD HA hok hbl hle hdi
               go_wp2_with fail
               refine (CR.out _).mono ?_
               rintro e w5 ⟨rfl,hb5⟩
               have x5:=aA (heap_alloc_new wr (.cells #[.int .u8 2,.int .i64 0,.string ⟨acc.toArray⟩,.bool false] 58)) hb5
               have cv5:=β x5
               have hbw5:=((hbw.trans (hbo.mono hsz)).alloc (Nat.le_trans hsz hbo.size) (.cells #[.int .u8 2,.int .i64 0,.string ⟨acc.toArray⟩,.bool false] 58)).trans (hb5.mono (by have:=hbo.size;simp;omega))
               have hown5:=aQ ((aQ hown hbo).alloc _) hb5
               have hsz5:=hbw5.size
               clear x5 hb5 hbo hbw hown hown3 hcv
               go_wp2_with (at_builtin;refine bH _ rfl (.tmp 205) (.tmp 209) _ rfl w.heap.size 173 iT _ 3 32 underlying103 hiT hz0 hz1 hz2 rfl (by omega) _ _ _ _ rfl (hown5.alloc _) _ 1 1 (tkv [(⟨3,acc,0⟩:Tok)]) rfl rfl (cK _ _ _) (by simp [Value.oneCell',tkv,Tok.cells]) (by simp only [maxLen];omega) (by omega) (by simp;omega) ?_;intro A2 c2 w2 hown2 hb2 _ _)
               have hown3:=fK hown2
               have hbw3:=(hbw5.alloc hsz5 _).trans hb2
               clear hown2 hb2 hown5 hbw5
               go_wp2
               go_roundg (s.size+1-(q))
               case measure=>omega
               case rel=>exact ⟨q,_,A2,c2,by omega,rfl,rfl,by simp,hown3,by simp;omega,HR2,hbw3⟩
             ·as_aux_lemma =>
               have hE:bE (x::s.data.toList.drop (i+1))=(⟨0,[],0⟩,0,2):=by rw [hnx];exact oK hok h60
               have HF:Hid (dT s.data.toList=([],2)):=by
                show _=_
                rw [HR.out,HD.out,dM _ hbl (by rw [hE];decide),hE]
               have hRt:bX 2 0 ⟨acc.toArray⟩ false=false:=by rw [eO,decide_eq_false h60,Bool.false_and]
               have CR:=κ (fun W=>jU 2 0 ⟨acc.toArray⟩ false _ hRt W (by show acc.toArray.size≤_;simp;omega))
               have cWh:=fun W=>nO ⟨acc.toArray⟩ W (by show acc.toArray.size≤_;simp;omega)
               rw [show (⟨acc.toArray⟩:ByteArray).data.toList=acc from rfl,hok] at cWh
               have CWh:=κ cWh
               clear hRt cWh hE hnx HR HD HA hok hbl hle hdi h60
               go_wp2_with fail
               refine (CR.out _).mono ?_
               rintro e w5 ⟨rfl,hb5⟩
               have x5:=aA (heap_alloc_new wr (.cells #[.int .u8 2,.int .i64 0,.string ⟨acc.toArray⟩,.bool false] 58)) hb5
               have cv5:=β x5
               have hbw5:=((hbw.trans (hbo.mono hsz)).alloc (Nat.le_trans hsz hbo.size) _).trans (hb5.mono (by have:=hbo.size;simp;omega))
               clear x5 hb5 hbo hbw hown hown3 hcv
               go_wp2_with fail
               refine (CWh.out _).mono ?_
               rintro e w' ⟨rfl,rfl⟩
               go_wp2
               go_ret2
               exact dC HF.out hbw5
       ·have cL:=fun W=>fC ((x.toNat:Nat):Int) W
        rw [eW,hle] at cL
        unfold aW at cL
        have CL:=κ cL
        have cI:=fun W=>gF ((x.toNat:Nat):Int) W
        rw [eB,hdi] at cI
        unfold aW at cI
        have CI:=κ cI
        have q5:((x.toNat:Int)==39)=false:=by rw [beq_eq_false_iff_ne];intro e;exact h39 (UInt8.toNat_inj.1 (by show _=39;omega))
        have hsx:=fF (s.data.toList.drop (i+1)) hle hdi h39
        have cS:=fun W=>Aq x W
        unfold aW at cS
        clear cL cI
        by_cases h1:i+1<s.size
        ·obtain ⟨y,hy⟩:∃ y,s[i+1]'h1=y:=⟨_,rfl⟩
         have hd2:=Gy h1 hy
         have h1':(i:Int)+1<(s.size:Int):=by omega
         have h1'':(0:Int)≤(i:Int)+1:=by omega
         cases htw:sM x y
         ·have htn:=St htw
          cases hsg:mT x
          ·as_aux_lemma =>
            have hnx:bE (x::s.data.toList.drop (i+1))=(⟨0,[],0⟩,0,4):=by rw [hsx,hd2];simp [bY,htw,hsg];rfl
            rw [hsg] at cS
            have CS:=κ cS
            have HF:Hid (dT s.data.toList=([],4)):=by
             show _=_
             rw [HR.out,HD.out,dM _ hbl (by rw [hnx];decide),hnx]
            clear hnx HR HD hsx hbl hle hdi hd2 htw hsg cS h39
            rcases htn with ⟨g1,g2,g3,g4⟩|⟨g1,g2,g3⟩|⟨g1,g2⟩
            all_goals
             go_wp2_with fail
             refine (CL.out _).mono ?_
             rintro e w' ⟨rfl,rfl⟩
             go_wp2_with fail
             refine (CI.out _).mono ?_
             rintro e w' ⟨rfl,rfl⟩
             go_wp2_with fail
             refine (CS.out _).mono ?_
             rintro e w' ⟨rfl,rfl⟩
             go_wp2
             go_ret2
             exact dC HF.out hbw
          ·as_aux_lemma =>
            have hnx:bE (x::s.data.toList.drop (i+1))=(⟨4,(x::s.data.toList.drop (i+1)).take 1,0⟩,1,0):=by rw [hsx,hd2];simp [bY,htw,hsg]
            rw [hsg] at cS
            have CS:=κ cS
            rw [←HD.out] at hnx
            rw [HD.out] at hnx
            have hex:=mA s i (i+1)
            obtain ⟨T,hT⟩:∃ T,(s.data.toList.drop i).take (i+1-i)=T:=⟨_,rfl⟩
            rw [hT] at hex
            have HR2:Hid (dT s.data.toList=dF (L++[⟨4,T,0⟩]) (s.data.toList.drop (i+1))):=by
             show _=_
             rw [HR.out,HD.out,dE _ hbl (by rw [hnx]),hnx, ←HD.out,List.drop_drop]
             rw [show i+1-i=1 by omega] at hT
             rw [hT]
            clear hnx hT HR HD hsx hbl hle hdi hd2 htw hsg cS h39
            rcases htn with ⟨g1,g2,g3,g4⟩|⟨g1,g2,g3⟩|⟨g1,g2⟩
            all_goals
             go_wp2_with fail
             refine (CL.out _).mono ?_
             rintro e w' ⟨rfl,rfl⟩
             go_wp2_with fail
             refine (CI.out _).mono ?_
             rintro e w' ⟨rfl,rfl⟩
             go_wp2_with fail
             refine (CS.out _).mono ?_
             rintro e w' ⟨rfl,rfl⟩
             go_wp2_with (at_builtin;refine bH _ rfl (.tmp 64) (.tmp 70) _ rfl w.heap.size 173 iT _ 3 32 underlying103 hiT hz0 hz1 hz2 rfl (by omega) _ _ _ _ rfl (hown.alloc _) _ 1 1 (tkv [(⟨4,T,0⟩:Tok)]) rfl rfl (cK _ _ _) (by simp [Value.oneCell',tkv,Tok.cells]) (by simp only [maxLen];omega) (by omega) (by simp;omega) ?_;intro A2 c2 w2 hown2 hb2 _ _)
             have hown3:=fK hown2
             have hbw3:=(hbw.alloc hsz _).trans hb2
             clear hown2 hb2 hown hbw
             go_wp2
             go_roundg (s.size+1-(i+1))
             case measure=>omega
             case rel=>exact ⟨i+1,_,A2,c2,by omega,rfl,by go_num,by simp,hown3,by simp;omega,HR2,hbw3⟩
         ·as_aux_lemma =>
           have htn:=Lk htw
           have hnx:bE (x::s.data.toList.drop (i+1))=(⟨4,(x::s.data.toList.drop (i+1)).take 2,0⟩,2,0):=by rw [hsx,hd2];simp [bY,htw]
           have hex:=mA s i (i+2)
           obtain ⟨T,hT⟩:∃ T,(s.data.toList.drop i).take (i+2-i)=T:=⟨_,rfl⟩
           rw [hT] at hex
           have HR2:Hid (dT s.data.toList=dF (L++[⟨4,T,0⟩]) (s.data.toList.drop (i+2))):=by
            show _=_
            rw [HR.out,HD.out,dE _ hbl (by rw [hnx]),hnx, ←HD.out,List.drop_drop]
            rw [show i+2-i=2 by omega] at hT
            rw [hT]
           clear hnx hT HR HD hsx hbl hle hdi hd2 htw cS h39
           rcases htn with ⟨g1,g2⟩|⟨g1,g2,g3⟩|⟨g1,g2,g3⟩
           all_goals
            go_wp2_with fail
            refine (CL.out _).mono ?_
            rintro e w' ⟨rfl,rfl⟩
            go_wp2_with fail
            refine (CI.out _).mono ?_
            rintro e w' ⟨rfl,rfl⟩
            go_wp2_with (at_builtin;refine bH _ rfl (.tmp 64) (.tmp 70) _ rfl w.heap.size 173 iT _ 3 32 underlying103 hiT hz0 hz1 hz2 rfl (by omega) _ _ _ _ rfl (hown.alloc _) _ 1 1 (tkv [(⟨4,T,0⟩:Tok)]) rfl rfl (cK _ _ _) (by simp [Value.oneCell',tkv,Tok.cells]) (by simp only [maxLen];omega) (by omega) (by simp;omega) ?_;intro A2 c2 w2 hown2 hb2 _ _)
            have hown3:=fK hown2
            have hbw3:=(hbw.alloc hsz _).trans hb2
            clear hown2 hb2 hown hbw
            go_wp2
            go_roundg (s.size+1-(i+2))
            case measure=>omega
            case rel=>exact ⟨i+2,_,A2,c2,by omega,rfl,by go_num,by simp,hown3,by simp;omega,HR2,hbw3⟩
        ·have h1':¬(i:Int)+1<(s.size:Int):=by omega
         have hd2:s.data.toList.drop (i+1)=[]:=List.drop_eq_nil_of_le (by rw [HSZ.out];omega)
         cases hsg:mT x
         ·as_aux_lemma =>
           have hnx:bE (x::s.data.toList.drop (i+1))=(⟨0,[],0⟩,0,4):=by rw [hsx,hd2];simp [bY,hsg];rfl
           rw [hsg] at cS
           have CS:=κ cS
           have HF:Hid (dT s.data.toList=([],4)):=by
            show _=_
            rw [HR.out,HD.out,dM _ hbl (by rw [hnx];decide),hnx]
           clear hnx HR HD hsx hbl hle hdi hd2 hsg cS h39
           go_wp2_with fail
           refine (CL.out _).mono ?_
           rintro e w' ⟨rfl,rfl⟩
           go_wp2_with fail
           refine (CI.out _).mono ?_
           rintro e w' ⟨rfl,rfl⟩
           go_wp2_with fail
           refine (CS.out _).mono ?_
           rintro e w' ⟨rfl,rfl⟩
           go_wp2
           go_ret2
           exact dC HF.out hbw
         ·as_aux_lemma =>
           have hnx:bE (x::s.data.toList.drop (i+1))=(⟨4,(x::s.data.toList.drop (i+1)).take 1,0⟩,1,0):=by rw [hsx,hd2];simp [bY,hsg]
           rw [hsg] at cS
           have CS:=κ cS
           have hex:=mA s i (i+1)
           obtain ⟨T,hT⟩:∃ T,(s.data.toList.drop i).take (i+1-i)=T:=⟨_,rfl⟩
           rw [hT] at hex
           have HR2:Hid (dT s.data.toList=dF (L++[⟨4,T,0⟩]) (s.data.toList.drop (i+1))):=by
            show _=_
            rw [HR.out,HD.out,dE _ hbl (by rw [hnx]),hnx, ←HD.out,List.drop_drop]
            rw [show i+1-i=1 by omega] at hT
            rw [hT]
           clear hnx hT HR HD hsx hbl hle hdi hd2 hsg cS h39
           go_wp2_with fail
           refine (CL.out _).mono ?_
           rintro e w' ⟨rfl,rfl⟩
           go_wp2_with fail
           refine (CI.out _).mono ?_
           rintro e w' ⟨rfl,rfl⟩
           go_wp2_with fail
           refine (CS.out _).mono ?_
           rintro e w' ⟨rfl,rfl⟩
           go_wp2_with (at_builtin;refine bH _ rfl (.tmp 64) (.tmp 70) _ rfl w.heap.size 173 iT _ 3 32 underlying103 hiT hz0 hz1 hz2 rfl (by omega) _ _ _ _ rfl (hown.alloc _) _ 1 1 (tkv [(⟨4,T,0⟩:Tok)]) rfl rfl (cK _ _ _) (by simp [Value.oneCell',tkv,Tok.cells]) (by simp only [maxLen];omega) (by omega) (by simp;omega) ?_;intro A2 c2 w2 hown2 hb2 _ _)
           have hown3:=fK hown2
           have hbw3:=(hbw.alloc hsz _).trans hb2
           clear hown2 hb2 hown hbw
           go_wp2
           go_roundg (s.size+1-(i+1))
           case measure=>omega
           case rel=>exact ⟨i+1,_,A2,c2,by omega,rfl,by go_num,by simp,hown3,by simp;omega,HR2,hbw3⟩
      ·have cL:=fun W=>fC ((x.toNat:Nat):Int) W
       rw [eW,hle] at cL
       unfold aW at cL
       have CL:=κ cL
       have cI:=fun W=>gF ((x.toNat:Nat):Int) W
       rw [eB,hdi] at cI
       unfold aW at cI
       have CI:=κ cI
       clear cL cI
       go_wp2_with fail
       refine (CL.out _).mono ?_
       rintro e w' ⟨rfl,rfl⟩
       go_wp2_with fail
       refine (CI.out _).mono ?_
       rintro e w' ⟨rfl,rfl⟩
       go_wp2_with fail
       obtain ⟨wo,rfl⟩:∃ wo:World,wo=wr:=⟨_,rfl⟩
       go_loop [5] (fun s5=>∃ j:Nat,i≤j∧j≤s.size∧s5=.int .i64 j∧Hid (((s.data.toList.drop i).take (j-i)).all aN=true)) (fun s5=>s.size-(intOf s5).toNat)
       case atStart=>exact ⟨i,ν _,hi,rfl,by show _=_;simp⟩
       case round =>
        obtain ⟨j,hij,hj,rfl,HA⟩:=hrel
        have hij':(i:Int)≤(j:Int):=by omega
        have hj0:(0:Int)≤(j:Int):=by omega
        by_cases hjl:j<s.size
        ·obtain ⟨y,hy⟩:∃ y,s[j]'hjl=y:=⟨_,rfl⟩
         have hjl':(j:Int)<(s.size:Int):=by omega
         cases hdy:aN y
         ·as_aux_lemma =>
           have cI2:=fun W=>gF ((y.toNat:Nat):Int) W
           rw [eB,hdy] at cI2
           unfold aW at cI2
           have CI2:=κ cI2
           obtain ⟨tw1,tw2⟩:=Gf (p:=aN) hij HA.out (fun h=>by rw [show s.data.toList[j]'h=y from hy,hdy]) (by rw [HSZ.out];exact hj)
           have cR:=fun W=>wN (s.extract i j) W (by simp;omega)
           have hexl:(s.extract i j).data.toList=(s.data.toList.drop i).take (j-i):=Lib.extract_data _ _ _
           unfold fQ at cR
           rw [hexl, ←tw2] at cR
           have hnx:bE (s.data.toList.drop i)=(⟨2,[],jA ((s.data.toList.drop i).takeWhile aN)⟩,j-i,kT ((s.data.toList.drop i).takeWhile aN)):=by rw [←tw1,HD.out];exact gL _ hle hdi
           have hij1:i+1≤j:=by
            have:0<((s.data.toList.drop i).takeWhile aN).length:=by rw [HD.out,List.takeWhile_cons,if_pos hdi];simp
            omega
           obtain ⟨V,hV⟩:∃ V,jA ((s.data.toList.drop i).takeWhile aN)=V:=⟨_,rfl⟩
           obtain ⟨E,hE⟩:∃ E,kT ((s.data.toList.drop i).takeWhile aN)=E:=⟨_,rfl⟩
           rw [hV,hE] at hnx cR
           have CR:=κ cR
           rw [HD.out] at hnx
           clear hV hE cR hexl tw1 tw2 HA
           by_cases hE0:E=0
           ·have HR2:Hid (dT s.data.toList=dF (L++[⟨2,[],V⟩]) (s.data.toList.drop j)):=by
             show _=_
             rw [HR.out,HD.out,dE _ hbl (by rw [hnx];exact hE0),hnx, ←HD.out,List.drop_drop,show i+(j-i)=j by omega]
            have e0:(E==0)=true:=by rw [hE0];rfl
            clear hnx HR HD hE0 hbl hle hdi hdy cI2
            go_wp2_with fail
            refine (CI2.out _).mono ?_
            rintro e w' ⟨rfl,rfl⟩
            go_wp2_with fail
            refine (CR.out _).mono ?_
            rintro e w' ⟨rfl,rfl⟩
            go_wp2_with (at_builtin;refine bH _ rfl (.tmp 145) (.tmp 148) _ rfl w.heap.size 173 iT _ 3 32 underlying103 hiT hz0 hz1 hz2 rfl (by omega) _ _ _ _ rfl (hown.alloc _) _ 1 1 (tkv [(⟨2,[],V⟩:Tok)]) rfl rfl (cK _ _ _) (by simp [Value.oneCell',tkv,Tok.cells]) (by simp only [maxLen];omega) (by omega) (by simp;omega) ?_;intro A2 c2 w2 hown2 hb2 _ _)
            have hown3:=fK hown2
            have hbw3:=(hbw.alloc hsz _).trans hb2
            clear hown2 hb2 hown hbw
            go_wp2
            go_roundg (s.size+1-(j))
            case measure=>omega
            case rel=>exact ⟨j,_,A2,c2,by omega,rfl,rfl,by simp,hown3,by simp;omega,HR2,hbw3⟩
           ·have HF:Hid (dT s.data.toList=([],E)):=by
             show _=_
             rw [HR.out,HD.out,dM _ hbl (by rw [hnx];exact hE0),hnx]
            have e0:(E==0)=false:=η hE0
            clear hnx HR HD hE0 hbl hle hdi hdy cI2
            go_wp2_with fail
            refine (CI2.out _).mono ?_
            rintro e w' ⟨rfl,rfl⟩
            go_wp2_with fail
            refine (CR.out _).mono ?_
            rintro e w' ⟨rfl,rfl⟩
            go_wp2
            go_ret2
            exact dC HF.out hbw
         ·as_aux_lemma =>
           have cI2:=fun W=>gF ((y.toNat:Nat):Int) W
           rw [eB,hdy] at cI2
           unfold aW at cI2
           have CI2:=κ cI2
           have HA2:=κ (xO hij hjl HA.out (by rw [hy,hdy]))
           clear cI2 hbl hle hdi hdy
           go_wp2_with fail
           refine (CI2.out _).mono ?_
           rintro e w' ⟨rfl,rfl⟩
           go_wp2
           go_round
           case rel=>exact ⟨j+1,by omega,by omega,by go_num,HA2⟩
           case measure=>simp [intOf];omega
        ·as_aux_lemma =>
          obtain rfl:j=s.size:=by omega
          have hge:¬(s.size:Int)<(s.size:Int):=by omega
          obtain ⟨tw1,tw2⟩:=Gf (p:=aN) hij HA.out (fun h=>absurd h (by rw [HSZ.out];omega)) (by rw [HSZ.out];exact hj)
          have cR:=fun W=>wN (s.extract i s.size) W (by simp;omega)
          have hexl:(s.extract i s.size).data.toList=(s.data.toList.drop i).take (s.size-i):=Lib.extract_data _ _ _
          unfold fQ at cR
          rw [hexl, ←tw2] at cR
          have hnx:bE (s.data.toList.drop i)=(⟨2,[],jA ((s.data.toList.drop i).takeWhile aN)⟩,s.size-i,kT ((s.data.toList.drop i).takeWhile aN)):=by rw [←tw1,HD.out];exact gL _ hle hdi
          have hij1:i+1≤s.size:=by
           have:0<((s.data.toList.drop i).takeWhile aN).length:=by rw [HD.out,List.takeWhile_cons,if_pos hdi];simp
           omega
          obtain ⟨V,hV⟩:∃ V,jA ((s.data.toList.drop i).takeWhile aN)=V:=⟨_,rfl⟩
          obtain ⟨E,hE⟩:∃ E,kT ((s.data.toList.drop i).takeWhile aN)=E:=⟨_,rfl⟩
          rw [hV,hE] at hnx cR
          have CR:=κ cR
          rw [HD.out] at hnx
          clear hV hE cR hexl tw1 tw2 HA
          by_cases hE0:E=0
          ·have HR2:Hid (dT s.data.toList=dF (L++[⟨2,[],V⟩]) (s.data.toList.drop s.size)):=by
            show _=_
            rw [HR.out,HD.out,dE _ hbl (by rw [hnx];exact hE0),hnx, ←HD.out,List.drop_drop,show i+(s.size-i)=s.size by omega]
           have e0:(E==0)=true:=by rw [hE0];rfl
           clear hnx HR HD hE0 hbl hle hdi
           go_wp2_with fail
           refine (CR.out _).mono ?_
           rintro e w' ⟨rfl,rfl⟩
           go_wp2_with (at_builtin;refine bH _ rfl (.tmp 145) (.tmp 148) _ rfl w.heap.size 173 iT _ 3 32 underlying103 hiT hz0 hz1 hz2 rfl (by omega) _ _ _ _ rfl (hown.alloc _) _ 1 1 (tkv [(⟨2,[],V⟩:Tok)]) rfl rfl (cK _ _ _) (by simp [Value.oneCell',tkv,Tok.cells]) (by simp only [maxLen];omega) (by omega) (by simp;omega) ?_;intro A2 c2 w2 hown2 hb2 _ _)
           have hown3:=fK hown2
           have hbw3:=(hbw.alloc hsz _).trans hb2
           clear hown2 hb2 hown hbw
           go_wp2
           go_roundg (s.size+1-s.size)
           case measure=>omega
           case rel=>exact ⟨s.size,_,A2,c2,by omega,rfl,rfl,by simp,hown3,by simp;omega,HR2,hbw3⟩
          ·have HF:Hid (dT s.data.toList=([],E)):=by
            show _=_
            rw [HR.out,HD.out,dM _ hbl (by rw [hnx];exact hE0),hnx]
           have e0:(E==0)=false:=η hE0
           clear hnx HR HD hE0 hbl hle hdi
           go_wp2_with fail
           refine (CR.out _).mono ?_
           rintro e w' ⟨rfl,rfl⟩
           go_wp2
           go_ret2
           exact dC HF.out hbw
     ·have cL:=fun W=>fC ((x.toNat:Nat):Int) W
      rw [eW,hle] at cL
      unfold aW at cL
      have CL:=κ cL
      clear cL
      go_wp2_with fail
      refine (CL.out _).mono ?_
      rintro e w' ⟨rfl,rfl⟩
      go_wp2_with fail
      obtain ⟨wo,rfl⟩:∃ wo:World,wo=wr:=⟨_,rfl⟩
      go_loop [5] (fun s5=>∃ j:Nat,i≤j∧j≤s.size∧s5=.int .i64 j∧Hid (((s.data.toList.drop i).take (j-i)).all bO=true)) (fun s5=>s.size-(intOf s5).toNat)
      case atStart=>exact ⟨i,ν _,hi,rfl,by show _=_;simp⟩
      case round =>
       obtain ⟨j,hij,hj,rfl,HA⟩:=hrel
       have hij':(i:Int)≤(j:Int):=by omega
       have hj0:(0:Int)≤(j:Int):=by omega
       by_cases hjl:j<s.size
       ·obtain ⟨y,hy⟩:∃ y,s[j]'hjl=y:=⟨_,rfl⟩
        have hjl':(j:Int)<(s.size:Int):=by omega
        cases hly:fO y
        ·cases hdy:aN y
         ·as_aux_lemma =>
           have cL2:=fun W=>fC ((y.toNat:Nat):Int) W
           rw [eW,hly] at cL2
           unfold aW at cL2
           have CL2:=κ cL2
           have cI2:=fun W=>gF ((y.toNat:Nat):Int) W
           rw [eB,hdy] at cI2
           unfold aW at cI2
           have CI2:=κ cI2
           clear cL2 cI2
           obtain ⟨tw1,tw2⟩:=Gf (p:=bO) hij HA.out (fun h=>by rw [bO,show s.data.toList[j]'h=y from hy,hly,hdy];rfl) (by rw [HSZ.out];exact hj)
           have cLo:=fun W=>wX (s.extract i j) W (by simp;omega)
           have hexl:(s.extract i j).data.toList=(s.data.toList.drop i).take (j-i):=Lib.extract_data _ _ _
           rw [hexl, ←tw2] at cLo
           have hnx:bE (s.data.toList.drop i)=(⟨1,((s.data.toList.drop i).takeWhile bO).map gR,0⟩,j-i,0):=by rw [←tw1,HD.out];exact fE _ hle
           obtain ⟨T,hT⟩:∃ T,((s.data.toList.drop i).takeWhile bO).map gR=T:=⟨_,rfl⟩
           rw [hT] at hnx cLo
           have HR2:Hid (dT s.data.toList=dF (L++[⟨1,T,0⟩]) (s.data.toList.drop j)):=by
            show _=_
            rw [HD.out] at hnx
            rw [HR.out,HD.out,dE _ hbl (by rw [hnx]),hnx, ←HD.out,List.drop_drop,show i+(j-i)=j by omega]
           have CLo:=κ cLo
           have hij1:i+1≤j:=by
            have hw:bO x=true:=by unfold bO;rw [hle];rfl
            have:0<((s.data.toList.drop i).takeWhile bO).length:=by rw [HD.out,List.takeWhile_cons,if_pos hw];simp
            omega
           clear tw1 tw2 cLo hexl hnx hT HR HD HA
           clear hbl hle hly hdy
           go_wp2_with fail
           refine (CL2.out _).mono ?_
           rintro e w' ⟨rfl,rfl⟩
           go_wp2_with fail
           refine (CI2.out _).mono ?_
           rintro e w' ⟨rfl,rfl⟩
           go_wp2_with fail
           refine (CLo.out _).mono ?_
           rintro e w1 ⟨rfl,hb1⟩
           have hown1:=aQ hown hb1
           have hbw1:=hbw.trans (hb1.mono hsz)
           have hsz1:=hbw1.size
           clear hown hbw hb1
           go_wp2_with (at_builtin;refine bH _ rfl (.tmp 110) (.tmp 117) _ rfl w.heap.size 173 iT _ 3 32 underlying103 hiT hz0 hz1 hz2 rfl (by omega) _ _ _ _ rfl (hown1.alloc _) _ 1 1 (tkv [(⟨1,T,0⟩:Tok)]) rfl rfl (cK _ _ _) (by simp [Value.oneCell',tkv,Tok.cells]) (by simp only [maxLen];omega) (by omega) (by simp;omega) ?_;intro A2 c2 w2 hown2 hb2 _ _)
           have hown3:=fK hown2
           have hbw3:=(hbw1.alloc hsz1 _).trans hb2
           clear hown2 hb2 hown1 hbw1
           go_wp2
           go_roundg (s.size+1-(j))
           case measure=>omega
           case rel=>exact ⟨j,_,A2,c2,by omega,rfl,rfl,by simp,hown3,by simp;omega,HR2,hbw3⟩
         ·as_aux_lemma =>
           have cL2:=fun W=>fC ((y.toNat:Nat):Int) W
           rw [eW,hly] at cL2
           unfold aW at cL2
           have CL2:=κ cL2
           have cI2:=fun W=>gF ((y.toNat:Nat):Int) W
           rw [eB,hdy] at cI2
           unfold aW at cI2
           have CI2:=κ cI2
           have HA2:=κ (xO hij hjl HA.out (by rw [hy,bO,hdy];cases fO y<;>rfl))
           clear cL2 cI2 hbl hle hly hdy
           go_wp2_with fail
           refine (CL2.out _).mono ?_
           rintro e w' ⟨rfl,rfl⟩
           go_wp2_with fail
           refine (CI2.out _).mono ?_
           rintro e w' ⟨rfl,rfl⟩
           go_wp2
           go_round
           case rel=>exact ⟨j+1,by omega,by omega,by go_num,HA2⟩
           case measure=>simp [intOf];omega
        ·as_aux_lemma =>
          have cL2:=fun W=>fC ((y.toNat:Nat):Int) W
          rw [eW,hly] at cL2
          unfold aW at cL2
          have CL2:=κ cL2
          have HA2:=κ (xO hij hjl HA.out (by rw [hy,bO,hly];rfl))
          clear cL2 hbl hle hly
          go_wp2_with fail
          refine (CL2.out _).mono ?_
          rintro e w' ⟨rfl,rfl⟩
          go_wp2
          go_round
          case rel=>exact ⟨j+1,by omega,by omega,by go_num,HA2⟩
          case measure=>simp [intOf];omega
       ·as_aux_lemma =>
         obtain rfl:j=s.size:=by omega
         have hge:¬(s.size:Int)<(s.size:Int):=by omega
         obtain ⟨tw1,tw2⟩:=Gf (p:=bO) hij HA.out (fun h=>absurd h (by rw [HSZ.out];omega)) (by rw [HSZ.out];exact hj)
         have cLo:=fun W=>wX (s.extract i s.size) W (by simp;omega)
         have hexl:(s.extract i s.size).data.toList=(s.data.toList.drop i).take (s.size-i):=Lib.extract_data _ _ _
         rw [hexl, ←tw2] at cLo
         have hnx:bE (s.data.toList.drop i)=(⟨1,((s.data.toList.drop i).takeWhile bO).map gR,0⟩,s.size-i,0):=by rw [←tw1,HD.out];exact fE _ hle
         obtain ⟨T,hT⟩:∃ T,((s.data.toList.drop i).takeWhile bO).map gR=T:=⟨_,rfl⟩
         rw [hT] at hnx cLo
         have HR2:Hid (dT s.data.toList=dF (L++[⟨1,T,0⟩]) (s.data.toList.drop s.size)):=by
          show _=_
          rw [HD.out] at hnx
          rw [HR.out,HD.out,dE _ hbl (by rw [hnx]),hnx, ←HD.out,List.drop_drop,show i+(s.size-i)=s.size by omega]
         have CLo:=κ cLo
         have hij1:i+1≤s.size:=by
          have hw:bO x=true:=by unfold bO;rw [hle];rfl
          have:0<((s.data.toList.drop i).takeWhile bO).length:=by rw [HD.out,List.takeWhile_cons,if_pos hw];simp
          omega
         clear tw1 tw2 cLo hexl hnx hT HR HD HA
         clear hbl hle
         go_wp2_with fail
         refine (CLo.out _).mono ?_
         rintro e w1 ⟨rfl,hb1⟩
         have hown1:=aQ hown hb1
         have hbw1:=hbw.trans (hb1.mono hsz)
         have hsz1:=hbw1.size
         clear hown hbw hb1
         go_wp2_with (at_builtin;refine bH _ rfl (.tmp 110) (.tmp 117) _ rfl w.heap.size 173 iT _ 3 32 underlying103 hiT hz0 hz1 hz2 rfl (by omega) _ _ _ _ rfl (hown1.alloc _) _ 1 1 (tkv [(⟨1,T,0⟩:Tok)]) rfl rfl (cK _ _ _) (by simp [Value.oneCell',tkv,Tok.cells]) (by simp only [maxLen];omega) (by omega) (by simp;omega) ?_;intro A2 c2 w2 hown2 hb2 _ _)
         have hown3:=fK hown2
         have hbw3:=(hbw1.alloc hsz1 _).trans hb2
         clear hown2 hb2 hown1 hbw1
         go_wp2
         go_roundg (s.size+1-s.size)
         case measure=>omega
         case rel=>exact ⟨s.size,_,A2,c2,by omega,rfl,rfl,by simp,hown3,by simp;omega,HR2,hbw3⟩
    ·have hq:=Rx hbl
     have HR2:Hid (dT s.data.toList=dF L (s.data.toList.drop (i+1))):=by show _=_;rw [HR.out,HD.out,eE _ _ hbl]
     obtain ⟨xn,hxn⟩:∃ n,x.toNat=n:=⟨_,rfl⟩
     rw [hxn] at hq
     have HDE:=κ hxn
     clear HR HD hbl
     have hl1:L.length≤i+1:=by omega
     rcases hq with rfl|rfl|rfl|rfl
     all_goals
      go_wp2
      go_roundg (s.size+1-(i+1))
      case measure=>omega
      case rel=>exact ⟨i+1,L,A,c,by omega,rfl,by go_num,rfl,hown,hl1,HR2,hbw⟩
   ·obtain rfl:i=s.size:=by omega
    have HF:Hid (dT s.data.toList=(L,0)):=by show _=_;rw [HR.out,List.drop_eq_nil_of_le (by rw [HSZ.out];omega),iZ]
    have hge:¬(s.size:Int)<(s.size:Int):=by omega
    clear HR
    go_wp2
    go_ret2
    show iW _ _ _ _ _
    rw [HF.out]
    exact ⟨hbw,A,c,rfl,yN hown,hown⟩
