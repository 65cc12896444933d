/-
 Contracts. Conditions: those of each.
-/
import Derived.Test.YtkolcimllghnaaaGreatDoorQbZA
import Derived.Test.YtkolcimllghnaaaGreatDoorQbGT
import Derived.Test.YtkolcimllghnaaaGreatDoorQbGJ
set_option maxRecDepth 100000
set_option maxHeartbeats 8000000
namespace Go.Proofs.YtkolcimllghnaaaGreatDoor
open Lp Go.Proofs.Tryz
open Go.RowKit
def Ce (l:List (Nat×Int)):Int:=match l.getLast? with
 | none => -1
 | some p=>(p.1:Int)
theorem Jr (l:List (Nat×Int)) (a:Nat) (k:Int):Ce (l++[(a,k)])=(a:Int):=by simp [Ce]
theorem wK (l:List dL) {i:Nat} (h:i<l.length):aX (l.take (i+1))=aX (l.take i)++[(l[i]).1]:=by
 unfold aX
 rw [List.take_succ_eq_append_getElem h,List.map_append]
 rfl
theorem Qg {sc:List Tb} {t s:List UInt8} {HL:List (Nat×Int)} {TN:Nat} (h:fU t s 0 sc=HL) (ht:gJ t sc=TN):atX sc t s=if HL.length=1∧(t=[]∨TN=1) then Ce HL else -1:=by
 unfold atX gA
 rw [h,ht]
 split
 ·rename_i hn
  split at hn
  ·rename_i hc
   rw [if_pos hc]
   unfold Ce
   rw [hn]
  ·rename_i hc
   rw [if_neg hc]
 ·rename_i p hn
  split at hn
  ·rename_i hc
   rw [if_pos hc]
   unfold Ce
   rw [hn]
  ·cases hn
theorem nU (A:Option Addr) (c:Nat) (l:List dL) (t s:List UInt8) (w:World) (hA:ScA w A l) (hn:l.length≤100) (hw:bW (aX l)≤10000) :
 Calls prog 16 #[.slice A l.length c,.string ⟨t.toArray⟩,.string ⟨s.toArray⟩] w fun e w'=>e=.returned (.int .i64 (atX (aX l) t s))∧Below w.heap.size w w':=by
 have HA:=κ hA
 have HW:=κ hw
 have hnI:(l.length:Int)≤100:=by omega
 clear hA hw
 go_enter func16,ntmps16
 go_wp2_with fail
 go_loopw [7,8,9,10,18] (fun s7 s8 s9 s10 s18 wr=>∃ i:Nat,i≤l.length∧s18=.int .i64 i∧s7=.int .i64 (Ce (fU t s 0 (aX (l.take i))))∧s8=.int .i64 ((fU t s 0 (aX (l.take i))).length:Nat)∧s9=.int .i64 (gJ t (aX (l.take i)):Nat)∧s10=.int .i64 (bW (aX (l.take i)):Nat)∧Below w.heap.size w wr) (fun _ _ _ _ s18 _=>l.length-(intOf s18).toNat)
 case atStart=>exact ⟨0,Nat.zero_le _,rfl,rfl,rfl,rfl,rfl,θ⟩
 case round =>
  obtain ⟨i,hi,rfl,rfl,rfl,rfl,rfl,hb⟩:=hrel
  have HB:=κ hb
  by_cases hlt:i<l.length
  ·obtain ⟨bT,oT,hAT,q0,q1⟩:=iA ((HA.out.below hb).1) hlt
   have hok:=(HA.out.below hb).2 _ (List.getElem_mem hlt)
   have hT1:=wK l hlt
   have hwd:bW (aX (l.take (i+1)))≤10000:=by
    have:=qD (aX l) (i+1)
    rw [show (aX l).take (i+1)=aX (l.take (i+1)) from by simp [aX,List.map_take]] at this
    have:=HW.out
    omega
   have hwd0:bW (aX (l.take (i+1)))=bW (aX (l.take i))+(l[i]).1.cs.length:=by rw [hT1,qE]
   have htn:gJ t (aX (l.take i))≤100:=by
    have:=List.length_filter_le (kP t) (aX (l.take i))
    rw [show (aX (l.take i)).length=(l.take i).length from by simp [aX],List.length_take] at this
    unfold gJ
    omega
   have hhn:(fU t s 0 (aX (l.take i))).length≤bW (aX (l.take i)):=uM t s 0 _
   have hh1:fU t s 0 (aX (l.take (i+1)))=fU t s 0 (aX (l.take i))++(if kP t (l[i]).1 then cP s (bW (aX (l.take i))) (l[i]).1.cs else []):=by rw [hT1,qU,Nat.zero_add]
   have hh2:gJ t (aX (l.take (i+1)))=gJ t (aX (l.take i))+(if kP t (l[i]).1 then 1 else 0):=by rw [hT1,sV]
   generalize fU t s 0 (aX (l.take i))=HL at *
   generalize gJ t (aX (l.take i))=TN at *
   generalize bW (aX (l.take i))=ND at *
   generalize (l[i])=p at *
   obtain ⟨⟨tn,cs⟩,At,ct⟩:=p
   simp only at q0 q1 hok hwd0 hh1 hh2
   subst hAT
   have hcsI:(cs.length:Int)≤10000:=by omega
   have hNI:(ND:Int)+(cs.length:Int)≤10000:=by omega
   have hTI:(TN:Int)≤100:=by omega
   have hHI:(HL.length:Int)≤(ND:Int):=by omega
   have hbT:Below wr.heap.size wr (wr.alloc (.cells #[.string ⟨tn.toArray⟩,.slice At cs.length ct] 52)):=ρ
   have x2:=β (heap_alloc_new wr (.cells #[.string ⟨tn.toArray⟩,.slice At cs.length ct] 52))
   have HT:=κ (ι (hok.2.1.below hbT) (ι (hb.trans (hbT.mono hb.size)) (heap_alloc_new wr (.cells #[.string ⟨tn.toArray⟩,.slice At cs.length ct] 52))))
   have HH:=κ (ι hh1 (ι hh2 hwd0))
   clear hok hT1 hwd hwd0 htn hhn hh1 hh2 hb hbT
   cases hh:kP t ⟨tn,cs⟩
   ·have e1:(t==[])=false:=by unfold kP at hh;simp only [Bool.or_eq_false_iff] at hh;exact hh.1
    have e2:(tn==t)=false:=by unfold kP at hh;simp only [Bool.or_eq_false_iff] at hh;exact hh.2
    have HH2:=HH.out
    rw [hh] at HH2
    simp only [φ,if_false,List.append_nil,Nat.add_zero] at HH2
    have HG:=κ HH2
    clear HH HH2 hh
    go_wp2_with fail
    generalize (wr.alloc (.cells #[.string ⟨tn.toArray⟩,.slice At cs.length ct] 52))=W1 at *
    clear x2 q0 q1 e1 e2
    go_loopw [7,8,10,36] (fun s7 s8 s10 s36 wq=>∃ j:Nat,j≤cs.length∧s36=.int .i64 j∧s7=.int .i64 (Ce HL)∧s8=.int .i64 (HL.length:Nat)∧s10=.int .i64 ((ND+j:Nat):Int)∧Below W1.heap.size W1 wq) (fun _ _ _ s36 _=>cs.length-(intOf s36).toNat)
    case atStart=>exact ⟨0,Nat.zero_le _,rfl,rfl,rfl,rfl,θ⟩
    case round =>
     obtain ⟨j,hj,rfl,rfl,rfl,rfl,hbq⟩:=hrel
     by_cases hjl:j<cs.length
     ·obtain ⟨bC,oC,hAC,r0,r1⟩:=iQ (HT.out.1.below hbq) hjl
      subst hAC
      generalize (cs[j]).k=kc at *
      generalize (⟨(cs[j]).n.toArray⟩:ByteArray)=nc at *
      have hjI:(j:Int)<(cs.length:Int):=by omega
      have HQ:=κ (hbq.trans ((θ).alloc (ν _) (.cells #[.string nc,.int .u8 kc] 116) |>.mono hbq.size))
      clear hbq
      go_wp2
      go_roundw
      case rel=>exact ⟨j+1,by omega,by go_num,rfl,rfl,by go_num,HQ.out⟩
      case measure=>simp [intOf];omega
     ·have hj2:j=cs.length:=by omega
      subst hj2
      have HQ:=κ (HT.out.2.1.trans (hbq.mono HT.out.2.1.size))
      clear hbq hj hjl
      go_wp2
      go_roundw
      case rel=>exact ⟨i+1,by omega,by go_num,by rw [HG.out.1],by rw [HG.out.1],by rw [HG.out.2.1],by rw [HG.out.2.2],HQ.out⟩
      case measure=>simp [intOf];omega
   ·have hee:((t==[])=true)∨((t==[])=false∧(tn==t)=true):=by
     unfold kP at hh
     rcases Bool.eq_false_or_eq_true (t==[]) with h|h
     ·exact .inl h
     ·rw [h] at hh;exact .inr ⟨h,by simpa using hh⟩
    have HH2:=HH.out
    rw [hh] at HH2
    simp only [if_true] at HH2
    have HG:=κ HH2
    clear HH HH2 hh
    rcases hee with e1|⟨e1,e2⟩
    all_goals
     go_wp2_with fail
     generalize (wr.alloc (.cells #[.string ⟨tn.toArray⟩,.slice At cs.length ct] 52))=W1 at *
     clear x2 q0 q1 e1
     go_loopw [7,8,10,36] (fun s7 s8 s10 s36 wq=>∃ j:Nat,j≤cs.length∧s36=.int .i64 j∧s7=.int .i64 (Ce (HL++cP s ND (cs.take j)))∧s8=.int .i64 ((HL++cP s ND (cs.take j)).length:Nat)∧s10=.int .i64 ((ND+j:Nat):Int)∧Below W1.heap.size W1 wq) (fun _ _ _ s36 _=>cs.length-(intOf s36).toNat)
     case atStart=>exact ⟨0,Nat.zero_le _,rfl,by simp [cP],by simp [cP],rfl,θ⟩
     case round =>
      obtain ⟨j,hj,rfl,rfl,rfl,rfl,hbq⟩:=hrel
      by_cases hjl:j<cs.length
      ·obtain ⟨bC,oC,hAC,r0,r1⟩:=iQ (HT.out.1.below hbq) hjl
       subst hAC
       have hstep:=Cs s ND cs hjl
       have hlen:(HL++cP s ND (cs.take j)).length≤20000:=by
        have h1:=nY s ND (cs.take j)
        rw [List.length_take] at h1
        rw [List.length_append]
        omega
       obtain ⟨HJ,hHJ⟩:∃ HJ,HL++cP s ND (cs.take j)=HJ:=⟨_,rfl⟩
       have hlen2:(HJ.length:Int)≤20000:=by rw [←hHJ];omega
       generalize (cs[j])=cj at *
       obtain ⟨cn,ck⟩:=cj
       simp only at r0 r1 hstep
       have hjI:(j:Int)<(cs.length:Int):=by omega
       have hNJ:(ND:Int)+(j:Int)≤10000:=by omega
       have hbC:Below wr.heap.size wr (wr.alloc (.cells #[.string ⟨cn.toArray⟩,.int .u8 ck] 116)):=ρ
       have q2:=β (heap_alloc_new wr (.cells #[.string ⟨cn.toArray⟩,.int .u8 ck] 116))
       have HQ:=κ (hbq.trans (hbC.mono hbq.size))
       have HSt:=κ (show HL++cP s ND (cs.take (j+1))=HJ++(if cn==s then [(ND+j,ck)] else []) by rw [hstep, ←List.append_assoc,hHJ])
       rw [hHJ]
       clear hbq hbC hstep hlen hHJ
       cases e3:(cn==s)
       ·rw [e3] at HSt
        simp only [φ,if_false,List.append_nil] at HSt
        go_wp2
        go_roundw
        case rel=>exact ⟨j+1,by omega,by go_num,by rw [HSt.out],by rw [HSt.out],by go_num,HQ.out⟩
        case measure=>simp [intOf];omega
       ·rw [e3] at HSt
        simp only [if_true] at HSt
        go_wp2
        go_roundw
        case rel=>exact ⟨j+1,by omega,by go_num,by rw [HSt.out,Jr],by rw [HSt.out];simp,by go_num,HQ.out⟩
        case measure=>simp [intOf];omega
      ·have hj2:j=cs.length:=by omega
       subst hj2
       have HQ:=κ (HT.out.2.1.trans (hbq.mono HT.out.2.1.size))
       rw [List.take_length]
       clear hbq hj hjl
       go_wp2
       go_roundw
       case rel=>exact ⟨i+1,by omega,by go_num,by rw [HG.out.1],by rw [HG.out.1],by rw [HG.out.2.1];go_num,by rw [HG.out.2.2],HQ.out⟩
       case measure=>simp [intOf];omega
  ·have hi2:i=l.length:=by omega
   rw [hi2,List.take_length]
   obtain ⟨HL,hHL⟩:∃ HL,fU t s 0 (aX l)=HL:=⟨_,rfl⟩
   obtain ⟨TN,hTN⟩:∃ TN,gJ t (aX l)=TN:=⟨_,rfl⟩
   have hF:=Qg hHL hTN
   rw [hHL,hTN]
   have HF:=κ hF
   clear hi2 hb hF hHL hTN HA HW hlt hi
   by_cases hN:HL.length=1
   ·have n1:((HL.length:Int)==1)=true:=by rw [hN];rfl
    have n2:((HL.length:Int) !=1)=false:=by rw [bne,n1];rfl
    by_cases hOk:t=[]∨TN=1
    ·have HR:=κ (HF.out.trans (if_pos ⟨hN,hOk⟩))
     have hee:((t==[])=true∧(t != [])=false)∨((t==[])=false∧(t != [])=true∧((TN:Int)==1)=true∧((TN:Int) !=1)=false):=by
      by_cases ht:t=[]
      ·subst ht;exact .inl ⟨rfl,rfl⟩
      ·have e1:(t==[])=false:=η ht
       have e4:TN=1:=by rcases hOk with h|h;exact absurd h ht;exact h
       subst e4
       exact .inr ⟨e1,by rw [bne,e1];rfl,rfl,rfl⟩
     clear hOk hN HF
     rcases hee with ⟨e1,e2⟩|⟨e1,e2,e3,e4⟩
     all_goals
      go_wp2
      go_ret
      exact ⟨by rw [HR.out];rfl,HB.out⟩
    ·have HR:=κ (HF.out.trans (if_neg (fun h=>hOk h.2)))
     have ht:t≠[]:=fun h=>hOk (.inl h)
     have hT:TN≠1:=fun h=>hOk (.inr h)
     have e1:(t==[])=false:=η ht
     have e2:(t != [])=true:=by rw [bne,e1];rfl
     have e3:((TN:Int)==1)=false:=by rw [beq_eq_false_iff_ne];omega
     have e4:((TN:Int) !=1)=true:=by rw [bne,e3];rfl
     clear hOk hN ht hT HF
     go_wp2
     go_ret
     exact ⟨by rw [HR.out];rfl,HB.out⟩
   ·have HR:=κ (HF.out.trans (if_neg (fun h=>hN h.1)))
    have n1:((HL.length:Int)==1)=false:=by rw [beq_eq_false_iff_ne];omega
    have n2:((HL.length:Int) !=1)=true:=by rw [bne,n1];rfl
    clear hN HF
    go_wp2
    go_ret
    exact ⟨by rw [HR.out];rfl,HB.out⟩
end Go.Proofs.YtkolcimllghnaaaGreatDoor

namespace Go.Proofs.YtkolcimllghnaaaGreatDoor.Lp
open Go.RowKit
def jF (sc:List Tb):List Int:=sc.flatMap fun tb=>tb.cs.map (·.k)
theorem Cc (s:List UInt8):∀ (l:List Col) (a0 a:Nat) (k:Int),(a,k)∈cP s a0 l→a0≤a∧(l.map (·.k))[a-a0]? = some k∧a-a0<l.length
 | [],_,_,_,h=>by simp [cP] at h
 | c::r,a0,a,k,h=>by
   unfold cP at h
   rcases List.mem_append.1 h with h|h
   ·split at h
    ·simp only [List.mem_singleton,Prod.mk.injEq] at h
     obtain ⟨rfl,rfl⟩:=h
     simp
    ·simp at h
   ·obtain ⟨h1,h2,h3⟩:=Cc s r (a0+1) a k h
    refine ⟨by omega, ?_,by simp;omega⟩
    rw [show a-a0=(a-(a0+1))+1 by omega]
    simpa using h2
theorem Gw (t s:List UInt8):∀ (l:List Tb) (a0 a:Nat) (k:Int),(a,k)∈fU t s a0 l→a0≤a∧(jF l)[a-a0]? = some k
 | [],_,_,_,h=>by simp [fU] at h
 | c::r,a0,a,k,h=>by
   unfold fU at h
   have e:jF (c::r)=c.cs.map (·.k)++jF r:=by simp [jF]
   rw [e]
   rcases List.mem_append.1 h with h|h
   ·split at h
    ·obtain ⟨h1,h2,h3⟩:=Cc s c.cs a0 a k h
     exact ⟨h1,by rw [List.getElem?_append_left (by simpa using h3)];exact h2⟩
    ·simp at h
   ·obtain ⟨h1,h2⟩:=Gw t s r (a0+c.cs.length) a k h
    refine ⟨by omega, ?_⟩
    rw [List.getElem?_append_right (by simp;omega)]
    rw [←h2]
    congr 1
    simp
    omega
theorem Cj {sc:List Tb} {t s:List UInt8} {p:Nat×Int} (h:gA sc t s=some p):(jF sc)[p.1]? = some p.2:=by
 unfold gA at h
 split at h
 ·have:=Gw t s sc 0 p.1 p.2 (List.mem_of_getLast? h)
  simpa using this.2
 ·cases h
end Go.Proofs.YtkolcimllghnaaaGreatDoor.Lp

namespace Go.Proofs.YtkolcimllghnaaaGreatDoor
open Lp Go.Proofs.Tryz
open Go.RowKit
theorem Hv {w:World} {g:Nat} {t:TypeId} {a0 a1:Value} (h:w.heap[g]? = some (.cells #[a0,a1] t (0,0))) (u0 u1:Value) :
 ((w.setCell ⟨g,0,none⟩ u0).setCell ⟨g,1,none⟩ u1).heap[g]? = some (.cells #[u0,u1] t (0,0)):=by
 simp [World.setCell,Array.getElem?_modify,h]
theorem Fv {w w1:World} (h:Below w.heap.size w w1) {g:Nat} (hg:w.heap.size≤g) (u0 u1:Value):Below w.heap.size w ((w1.setCell ⟨g,0,none⟩ u0).setCell ⟨g,1,none⟩ u1) :=
 (h.setCell (p:=⟨g,0,none⟩) hg u0).setCell (p:=⟨g,1,none⟩) hg u1
theorem Fe {sc:List Tb}:∀ {t j:Nat} (h:t<sc.length) (hj:j<(sc[t]).cs.length),(jF sc)[bW (sc.take t)+j]? = some ((sc[t]).cs[j]).k:=by
 induction sc with
 | nil=>intro t j h;simp at h
 | cons tb sc ih =>
   intro t j h hj
   have e:jF (tb::sc)=tb.cs.map (·.k)++jF sc:=by simp [jF]
   rw [e]
   cases t with
   | zero =>
     simp only [List.take_zero,List.getElem_cons_zero] at hj ⊢
     rw [show bW []=0 from rfl,Nat.zero_add,List.getElem?_append_left (by simpa using hj)]
     simp [List.getElem?_eq_getElem hj]
   | succ t =>
     have h2:=ih (t:=t) (j:=j) (by simpa using h) (by simpa using hj)
     have e2:bW ((tb::sc).take (t+1))=tb.cs.length+bW (sc.take t):=by simp [bW]
     rw [e2,List.getElem?_append_right (by simp;omega),show tb.cs.length+bW (sc.take t)+j-(tb.cs.map (·.k)).length=bW (sc.take t)+j by simp;omega,h2]
     simp
theorem yZ (A:Option Addr) (c:Nat) (l:List dL) (n:Nat) (k:Int) (w:World) (hA:ScA w A l) (hn:l.length≤100) (hw:bW (aX l)≤10000) (hk:(jF (aX l))[n]? = some k) :
 Calls prog 89 #[.slice A l.length c,.int .i64 n] w fun e w'=>(∃ s,e=.returned (.agg #[.string s,.int .u8 k]))∧Below w.heap.size w w':=by
 have HA:=κ hA
 have HW:=κ hw
 have HK:=κ hk
 have hnI:(l.length:Int)≤100:=by omega
 clear hA hw hk
 go_enter func89,ntmps89
 go_wp2_with fail
 have hz:=heap_alloc_new w (.cells #[.string ⟨#[]⟩,.int .u8 0] 116)
 have hb0:Below w.heap.size w (w.alloc (.cells #[.string ⟨#[]⟩,.int .u8 0] 116)):=ρ
 have HZ:=κ (ι hz hb0)
 generalize (w.alloc (.cells #[.string ⟨#[]⟩,.int .u8 0] 116))=W0 at *
 clear hz hb0
 go_loopw [1,6,9] (fun s1 _ s9 wr=>∃ i m:Nat,i≤l.length∧s9=.int .i64 i∧s1=.int .i64 m∧n=bW (aX (l.take i))+m∧Below W0.heap.size W0 wr) (fun _ _ s9 _=>l.length-(intOf s9).toNat)
 case atStart=>exact ⟨0,n,Nat.zero_le _,rfl,rfl,by show n=0+n;omega,θ⟩
 case round =>
  obtain ⟨i,m,hi,rfl,rfl,hm,hb⟩:=hrel
  have HB:=κ hb
  by_cases hlt:i<l.length
  ·obtain ⟨bT,oT,hAT,q0,q1⟩:=iA ((HA.out.below (HZ.out.2.trans (hb.mono HZ.out.2.size))).1) hlt
   have hok:=(HA.out.below (HZ.out.2.trans (hb.mono HZ.out.2.size))).2 _ (List.getElem_mem hlt)
   have hT1:=wK l hlt
   have hlt2:i<(aX l).length:=by simpa [aX] using hlt
   have htk:aX (l.take i)=(aX l).take i:=by simp [aX,List.map_take]
   have hel:(aX l)[i]=(l[i]).1:=by simp [aX]
   have hwd0:bW (aX (l.take (i+1)))=bW (aX (l.take i))+(l[i]).1.cs.length:=by rw [hT1,qE]
   have hwd:bW (aX (l.take (i+1)))≤10000:=by
    have:=qD (aX l) (i+1)
    rw [show (aX l).take (i+1)=aX (l.take (i+1)) from by simp [aX,List.map_take]] at this
    have:=HW.out
    omega
   have hat:∀ (hj:m<(l[i]).1.cs.length),((l[i]).1.cs[m]).k=k:=by
    intro hj
    have h:=Fe (sc:=aX l) hlt2 (j:=m) (by rw [hel];exact hj)
    rw [←htk, ←hm,HK.out] at h
    simp only [hel] at h
    exact (Option.some.inj h).symm
   generalize (l[i])=p at *
   obtain ⟨⟨tn,cs⟩,At,ct⟩:=p
   simp only at q0 q1 hok hwd0 hat
   subst hAT
   have hbT:Below wr.heap.size wr (wr.alloc (.cells #[.string ⟨tn.toArray⟩,.slice At cs.length ct] 52)):=ρ
   have x2:=β (heap_alloc_new wr (.cells #[.string ⟨tn.toArray⟩,.slice At cs.length ct] 52))
   have hrT:=hok.2.1.below hbT
   have hzT:=aA (aA HZ.out.1 hb) hbT
   have hkW:=HZ.out.2.trans ((hb.trans (hbT.mono hb.size)).mono HZ.out.2.size)
   have HBT:=κ (hb.trans (hbT.mono hb.size))
   have hcsI:(cs.length:Int)≤10000:=by omega
   have hmI:(m:Int)≤10000∨cs.length≤m:=by omega
   have HWD:=κ hwd0
   clear hT1 htk hel hwd hwd0 hok hb hbT hlt2
   by_cases hml:m<cs.length
   ·have hkm:=hat hml
    obtain ⟨bC,oC,hAC,r0,r1⟩:=iQ hrT hml
    subst hAC
    rw [hkm] at r1
    generalize (⟨(cs[m]).n.toArray⟩:ByteArray)=nc at *
    have cz:=β hzT
    have fz:=fun j=>frozen_of_row _ _ j _ _ hzT
    have HCE:=κ (β (Hv hzT (.string nc) (.int .u8 k)))
    have HKS:=κ (Fv hkW (ν _) (.string nc) (.int .u8 k))
    have hmI2:(m:Int)<(cs.length:Int):=by omega
    clear hat hrT hzT hkW hm hkm hmI
    go_wp2
    have hcE:=HCE.out
    exact bodyPost_ret (v:=.agg #[.string nc,.int .u8 k]) (by simp [results,results89,go_sem,hcE]) rfl ⟨⟨_,rfl⟩,HKS.out⟩
   ·have hmI2:(cs.length:Int)≤(m:Int):=by omega
    have hmI3:(m:Int)≤20000:=by
     have:=(List.getElem?_eq_some_iff.1 HK.out).1
     have h2:(jF (aX l)).length≤10000:=by
      have h3:=HW.out
      unfold bW at h3
      unfold jF
      rw [List.length_flatMap]
      simpa using h3
     omega
    have HM:=κ hm
    clear hat hrT hzT hkW hm
    go_wp2
    go_roundw
    case rel=>exact ⟨i+1,m-cs.length,by omega,by go_num,by go_num,by rw [HWD.out];have:=HM.out;omega,HBT.out⟩
    case measure=>simp [intOf];omega
  ·exfalso
   have hi2:i=l.length:=by omega
   rw [hi2,List.take_length] at hm
   have h1:=(List.getElem?_eq_some_iff.1 HK.out).1
   have h2:(jF (aX l)).length=bW (aX l):=by
    unfold bW jF
    rw [List.length_flatMap]
    simp
   omega
def Lp.allK (l:List Int) (k:Int):Bool:=l.all fun x=>x==0||x==k
theorem Kx {l:List Int} {i:Nat} {k x:Int} (h:i<l.length) (hx:l[i]=x) (ha:Lp.allK (l.take i) k=true) (hr:(x==0||x==k)=true):Lp.allK (l.take (i+1)) k=true:=by
 unfold Lp.allK at *
 rw [List.take_succ_eq_append_getElem h,List.all_append,ha,hx]
 simpa using hr
theorem Wr {l:List Int} {i:Nat} {k x:Int} (h:i<l.length) (hx:l[i]=x) (hr:(x==0||x==k)=false):Lp.allK l k=false:=by
 unfold Lp.allK
 rw [List.all_eq_false]
 exact ⟨l[i],List.getElem_mem h,by rw [hx,hr];decide⟩
def kv (l:List Int):List Value:=l.map fun x=>.int .u8 x
theorem Gr {l:List Int} {i:Nat} (h:i<l.length):(kv l)[i]? = some (.int .u8 l[i]):=by simp [kv,h]
theorem Ky (A:Option Addr) (c:Nat) (l:List Int) (k:Int) (w:World) (h:Rds w A (kv l)) (hn:l.length≤100) :
 Calls prog 90 #[.slice A l.length c,.int .u8 k] w fun e w'=>e=.returned (.bool (Lp.allK l k))∧w=w':=by
 have H:=κ h
 have hnI:(l.length:Int)≤100:=by omega
 clear h
 go_enter func90,ntmps90
 go_wp2_with fail
 go_loopw [6,9] (fun _ s9 wr=>∃ i:Nat,i≤l.length∧s9=.int .i64 i∧Lp.allK (l.take i) k=true∧w=wr) (fun _ s9 _=>l.length-(intOf s9).toNat)
 case atStart=>exact ⟨0,Nat.zero_le _,rfl,rfl,rfl⟩
 case round =>
  obtain ⟨i,hi,rfl,ha,rfl⟩:=hrel
  have HAL:=κ ha
  clear ha
  by_cases hlt:i<l.length
  ·obtain ⟨b,off,hA,q0⟩:=H.out.at_ (Gr hlt)
   subst hA
   have hltI:(i:Int)<(l.length:Int):=by omega
   have hno:=fun (x:Int) (hx:l[i]=x) (hr:(x==0||x==k)=false)=>Wr hlt hx hr
   have hyes:=fun (x:Int) (hx:l[i]=x) (hr:(x==0||x==k)=true)=>Kx hlt hx HAL.out hr
   have HNO:=κ (hno _ rfl)
   have HYE:=κ (hyes _ rfl)
   generalize l[i]=x at *
   clear hno hyes
   cases e1:(x==0)
   ·cases e2:(x==k)
    ·have n1:(x !=0)=true:=by rw [bne,e1];rfl
     have n2:(x !=k)=true:=by rw [bne,e2];rfl
     have HR:=κ (HNO.out (by rw [e1,e2];rfl))
     clear HNO HYE
     go_wp2
     go_ret
     exact ⟨by rw [HR.out];rfl,rfl⟩
    ·have n1:(x !=0)=true:=by rw [bne,e1];rfl
     have n2:(x !=k)=false:=by rw [bne,e2];rfl
     have HR:=κ (HYE.out (by rw [e1,e2];rfl))
     clear HNO HYE
     go_wp2
     go_roundw
     case rel=>exact ⟨i+1,by omega,by go_num,HR.out,by trivial⟩
     case measure=>simp [intOf];omega
   ·have n1:(x !=0)=false:=by rw [bne,e1];rfl
    have HR:=κ (HYE.out (by rw [e1];rfl))
    clear HNO HYE
    go_wp2
    go_roundw
    case rel=>exact ⟨i+1,by omega,by go_num,HR.out,by trivial⟩
    case measure=>simp [intOf];omega
  ·have hi2:i=l.length:=by omega
   have h1:=HAL.out
   rw [hi2,List.take_length] at h1
   have HR:=κ h1
   clear h1 hi2
   go_wp2
   go_ret
   exact ⟨by rw [HR.out];rfl,rfl⟩
def rO (p:Int×Int) (w:World) (e:Ending) (w':World):Prop:=e=.returned (.tuple #[.int .u8 p.1,.int .i64 p.2])∧Below w.heap.size w w'
theorem aAN (s:ByteArray) (k:Int) (w:World):(Instr.field 116 (.agg #[.string s,.int .u8 k]) 1).run prog w=.ok (.int .u8 k) w:=by kernel_rfl
attribute [local go_sem] aAN
theorem Eu (A:Option Addr) (c n:Nat) (k i:Int) (s:List UInt8) (b gr:Bool) (w:World) :
 Calls prog 38 #[.slice A n c,(rcL k i s b).val,.bool gr] w (rO (k,0) w):=by
 have hb0:Below w.heap.size w (w.alloc (.cells #[.int .u8 1,.int .u8 k,.int .i64 i,.string ⟨s.toArray⟩,.bool b,.string ⟨#[]⟩,.string ⟨#[]⟩,.slice none 0 0] 60)):=ρ
 have hz:=heap_alloc_new w (.cells #[.int .u8 1,.int .u8 k,.int .i64 i,.string ⟨s.toArray⟩,.bool b,.string ⟨#[]⟩,.string ⟨#[]⟩,.slice none 0 0] 60)
 have hc:=β hz
 have HB:=κ hb0
 simp only [RC.val,rcL]
 clear hb0 hz
 go_enter func38,ntmps38
 go_wp2_with fail
 generalize (w.alloc (.cells #[.int .u8 1,.int .u8 k,.int .i64 i,.string ⟨s.toArray⟩,.bool b,.string ⟨#[]⟩,.string ⟨#[]⟩,.slice none 0 0] 60))=W at *
 go_loopw [22] (fun s22 wr=>s22=.int .i64 0∧W=wr) (fun _ _=>0)
 case atStart=>exact ⟨rfl,rfl⟩
 case round =>
  obtain ⟨rfl,rfl⟩:=hrel
  go_wp2
  go_ret2
  exact ⟨rfl,HB.out⟩
theorem Ew (A:Option Addr) (c n:Nat) (gr:Bool) (w:World) :
 Calls prog 38 #[.slice A n c,(rc0 6 aU).val,.bool gr] w (rO (if gr then (1,0) else (0,3)) w):=by
 have hb0:Below w.heap.size w (w.alloc (.cells #[.int .u8 6,.int .u8 0,.int .i64 0,.string ⟨#[]⟩,.bool false,.string ⟨#[]⟩,.string ⟨#[67,79,85,78,84]⟩,.slice none 0 0] 60)):=ρ
 have hz:=heap_alloc_new w (.cells #[.int .u8 6,.int .u8 0,.int .i64 0,.string ⟨#[]⟩,.bool false,.string ⟨#[]⟩,.string ⟨#[67,79,85,78,84]⟩,.slice none 0 0] 60)
 have hc:=β hz
 have HB:=κ hb0
 simp only [RC.val,rc0,aU]
 clear hb0 hz
 cases gr
 ·go_enter func38,ntmps38
  go_wp2
  go_ret2
  exact ⟨rfl,HB.out⟩
 ·go_enter func38,ntmps38
  go_wp2_with fail
  generalize (w.alloc (.cells #[.int .u8 6,.int .u8 0,.int .i64 0,.string ⟨#[]⟩,.bool false,.string ⟨#[]⟩,.string ⟨#[67,79,85,78,84]⟩,.slice none 0 0] 60))=W at *
  go_loopw [22] (fun s22 wr=>s22=.int .i64 0∧W=wr) (fun _ _=>0)
  case atStart=>exact ⟨rfl,rfl⟩
  case round =>
   obtain ⟨rfl,rfl⟩:=hrel
   go_wp2
   go_ret2
   exact ⟨rfl,HB.out⟩
theorem Ev (A:Option Addr) (c:Nat) (l:List dL) (t s:List UInt8) (gr:Bool) (w:World) (hA:ScA w A l) (hn:l.length≤100) (hw:bW (aX l)≤10000) :
 Calls prog 38 #[.slice A l.length c,(rcC t s).val,.bool gr] w (rO (aD (aX l) (.col t s) gr) w):=by
 have hb0:Below w.heap.size w (w.alloc (.cells #[.int .u8 2,.int .u8 0,.int .i64 0,.string ⟨#[]⟩,.bool false,.string ⟨t.toArray⟩,.string ⟨s.toArray⟩,.slice none 0 0] 60)):=ρ
 have hz:=heap_alloc_new w (.cells #[.int .u8 2,.int .u8 0,.int .i64 0,.string ⟨#[]⟩,.bool false,.string ⟨t.toArray⟩,.string ⟨s.toArray⟩,.slice none 0 0] 60)
 have hc:=β hz
 have HB:=κ hb0
 have hf:=nU A c l t s _ (hA.below hb0) hn hw
 have hco:=fun (n:Nat) (k:Int) (w':World) (hb:Below w.heap.size w w') (hk:(jF (aX l))[n]? = some k)=>yZ A c l n k w' (hA.below hb) hn hw hk
 have HF:=κ hf
 have HCO:=κ hco
 simp only [RC.val,rcC]
 clear hb0 hz hf hco hA
 have hq:(gA (aX l) t s=none∧atX (aX l) t s = -1∧aD (aX l) (.col t s) gr=(0,6))∨∃ p,gA (aX l) t s=some p∧atX (aX l) t s=(p.1:Int)∧aD (aX l) (.col t s) gr=(p.2,0):=by
  cases h:gA (aX l) t s with
  | none=>exact .inl ⟨rfl,by simp [atX,h],by simp [aD,h]⟩
  | some p=>exact .inr ⟨p,rfl,by simp [atX,h],by simp [aD,h]⟩
 rcases hq with ⟨h1,h2,h3⟩|⟨p,h1,h2,h3⟩
 all_goals
  rw [h3]
  rw [h2] at HF
  clear h2 h3
  have H1:=κ h1
  clear h1
  go_enter func38,ntmps38
  go_wp2_with fail
  generalize (w.alloc (.cells #[.int .u8 2,.int .u8 0,.int .i64 0,.string ⟨#[]⟩,.bool false,.string ⟨t.toArray⟩,.string ⟨s.toArray⟩,.slice none 0 0] 60))=W at *
  go_loopw [22] (fun s22 wr=>s22=.int .i64 0∧W=wr) (fun _ _=>0)
  case atStart=>exact ⟨rfl,rfl⟩
  case round =>
   obtain ⟨rfl,rfl⟩:=hrel
   go_wp2_with fail
   refine μ HF ?_
   rintro e w1 ⟨rfl,hb1⟩
   have HB1:=κ (HB.out.trans (hb1.mono HB.out.size))
   clear hb1 HF
   first
    | (go_wp2;go_ret2;exact ⟨rfl,HB1.out⟩)
    | (go_wp2_with fail
       refine (HCO.out p.1 p.2 _ HB1.out (Cj H1.out)).mono ?_
       rintro e w2 ⟨⟨nc,rfl⟩,hb2⟩
       have HB2:=κ (HB1.out.trans (hb2.mono HB1.out.size))
       clear hb2
       go_wp2
       go_ret2
       exact ⟨rfl,HB2.out⟩)
def rcs (l:List RC):List Value:=l.flatMap RC.cells
theorem Oa {l:List RC} {i k:Nat} (hi:i<l.length) (hk:k<8):(rcs l)[i*8+k]? = ((l[i]).cells)[k]? := sD (f:=RC.cells) (n:=8) (fun _=>rfl) l i k hi hk
theorem lL {w:World} {A:Option Addr} {l:List RC} (h:Rds w A (rcs l)) {i:Nat} (hi:i<l.length):∃ b off,A=some ⟨b,off,none⟩∧w.cell? ⟨b,off+i*8,none⟩=some (.int .u8 (l[i]).k)∧w.cell? ⟨b,off+i*8+1,none⟩=some (.int .u8 (l[i]).vk)∧w.cell? ⟨b,off+i*8+2,none⟩=some (.int .i64 (l[i]).vi)∧w.cell? ⟨b,off+i*8+3,none⟩=some (.string (l[i]).vs)∧w.cell? ⟨b,off+i*8+4,none⟩=some (.bool (l[i]).vb)∧w.cell? ⟨b,off+i*8+5,none⟩=some (.string (l[i]).t)∧w.cell? ⟨b,off+i*8+6,none⟩=some (.string (l[i]).s)∧w.cell? ⟨b,off+i*8+7,none⟩=some (.slice (l[i]).A (l[i]).n (l[i]).c):=by
 rcases h with hn|⟨b,off,rfl,hc⟩
 ·have:=Oa hi (k:=0) (by decide)
  rw [hn] at this
  simp [RC.cells] at this
 ·have at_:=fun (k:Nat) (hk:k<8) (u:Value) (hu:((l[i]).cells)[k]? = some u)=>hc (i*8+k) u ((Oa hi hk).trans hu)
  exact ⟨b,off,rfl,at_ 0 (by decide) _ rfl,at_ 1 (by decide) _ rfl,at_ 2 (by decide) _ rfl,at_ 3 (by decide) _ rfl,at_ 4 (by decide) _ rfl,at_ 5 (by decide) _ rfl,at_ 6 (by decide) _ rfl,at_ 7 (by decide) _ rfl⟩
def Pts (S:Nat→Prop) (w:World) (A:Option Addr) (xs:List Lp.X) (rs:List RC):Prop:=rs.length=xs.length∧Rds w A (rcs rs)∧∀ (i:Nat) (hx:i<xs.length) (hr:i<rs.length),RX S w xs[i] rs[i]
theorem Pts.below {S:Nat→Prop} {w w':World} {A:Option Addr} {xs:List Lp.X} {rs:List RC} (h:Pts S w A xs rs) (hb:Below w.heap.size w w'):Pts S w' A xs rs:=⟨h.1,h.2.1.below hb,fun i hx hr=>(h.2.2 i hx hr).below hb⟩
def rcN (k:Int) (s:List UInt8) (A:Option Addr) (n:Nat):RC:=⟨k,0,0,⟨#[]⟩,false,⟨#[]⟩,⟨s.toArray⟩,A,n,n⟩
def eV:Lp.X→List Lp.X
 | .un _ x=>[x]
 | .bin _ a b=>[a,b]
 | .isn _ x=>[x]
 | .agg _ x=>[x]
 | _=>[]
def lC:Lp.X→Int
 | .un .. => 3
 | .bin .. => 4
 | .isn .. => 5
 | .agg .. => 6
 | .cnt=>6
 | .lit .. => 1
 | .col .. => 2
def oQ:Lp.X→List UInt8
 | .un op _=>op
 | .bin op _ _=>op
 | .isn n _=>if n then fW else []
 | .agg op _=>op
 | .cnt=>aU
 | _=>[]
theorem yK {S:Nat→Prop} {w:World} {g:Nat} {x:Lp.X} {r:RC} (h:w.heap[g]? = some (.cells r.cells.toArray 60 (0,0))) (hx:RX S w x r):Pts S w (some ⟨g,0,none⟩) [x] [r]:=by
 refine ⟨rfl, ?_, ?_⟩
 ·have:=bD r.cells h
  simpa [rcs] using this
 ·intro i h1 h2
  obtain rfl:i=0:=by simpa using h1
  exact hx
theorem Eb {S:Nat→Prop} {w:World} {x:Lp.X} {r:RC} (h:RX S w x r) (hk:eV x≠[]):∃ A rs,r=rcN (lC x) (oQ x) A (eV x).length∧Pts S w A (eV x) rs:=by
 cases x with
 | lit=>exact absurd rfl hk
 | col=>exact absurd rfl hk
 | cnt=>exact absurd rfl hk
 | un op x=>obtain ⟨g,r1,rfl, -,h2,h3⟩:=h;exact ⟨_,[r1],rfl,yK h2 h3⟩
 | isn n x=>obtain ⟨g,r1,rfl, -,h2,h3⟩:=h;exact ⟨_,[r1],rfl,yK h2 h3⟩
 | agg op x=>obtain ⟨g,r1,rfl, -,h2,h3⟩:=h;exact ⟨_,[r1],rfl,yK h2 h3⟩
 | bin op a b =>
   obtain ⟨g,r1,r2,rfl, -,h2,h3,h4⟩:=h
   refine ⟨_,[r1,r2],rfl,rfl, ?_, ?_⟩
   ·have:=bD (r1.cells++r2.cells) h2
    simpa [rcs] using this
   ·intro i h1 h2
    match i,h1 with
    | 0,_=>exact h3
    | 1,_=>exact h4
def Cm:Lp.X→List Int→Int×Int
 | .un op _,ks=>jD op (ks.headD 0)
 | .bin op _ _,ks=>gS op (ks.headD 0) (ks.tail.headD 0)
 | .agg op _,ks=>lN op (ks.headD 0)
 | _,_=>(3,0)
theorem Pn (sc:List Tb) (x:Lp.X) {gr gr2:Bool} (hk:eV x≠[]) (hg:lC x=6∧gr=true∧gr2=false∨lC x≠6∧gr2=gr):aD sc x gr=if bG sc gr2 (eV x)=0 then Cm x ((eV x).map fun y=>(aD sc y gr2).1) else (0,bG sc gr2 (eV x)):=by
 have one:∀ (y:Lp.X) (f:Int→Int×Int),dD (aD sc y gr2) f=if bG sc gr2 [y]=0 then f (aD sc y gr2).1 else (0,bG sc gr2 [y]):=by
  intro y f
  have e:bG sc gr2 [y]=(aD sc y gr2).2:=by
   show (if (aD sc y gr2).2=0 then (0:Int) else _)=_
   split
   ·rename_i h;exact h.symm
   ·rfl
  rw [e];rfl
 cases x with
 | lit=>exact absurd rfl hk
 | col=>exact absurd rfl hk
 | cnt=>exact absurd rfl hk
 | un op y =>
   obtain rfl:gr2=gr:=by rcases hg with ⟨h, -⟩|⟨-,h⟩;cases h;exact h
   exact one y _
 | isn n y =>
   obtain rfl:gr2=gr:=by rcases hg with ⟨h, -⟩|⟨-,h⟩;cases h;exact h
   exact one y _
 | agg op y =>
   obtain ⟨rfl,rfl⟩:gr=true∧gr2=false:=by rcases hg with ⟨-,h⟩|⟨h, -⟩;exact h;exact absurd rfl h
   exact one y _
 | bin op a b =>
   obtain rfl:gr2=gr:=by rcases hg with ⟨h, -⟩|⟨-,h⟩;cases h;exact h
   show (if (aD sc a gr2).2=0 then (if (aD sc b gr2).2=0 then gS op (aD sc a gr2).1 (aD sc b gr2).1 else (0,(aD sc b gr2).2)) else (0,(aD sc a gr2).2))=if (if (aD sc a gr2).2=0 then (if (aD sc b gr2).2=0 then (0:Int) else (aD sc b gr2).2) else (aD sc a gr2).2)=0 then gS op (aD sc a gr2).1 (aD sc b gr2).1 else (0,if (aD sc a gr2).2=0 then (if (aD sc b gr2).2=0 then (0:Int) else (aD sc b gr2).2) else (aD sc a gr2).2)
   by_cases h1:(aD sc a gr2).2=0
   ·by_cases h2:(aD sc b gr2).2=0
    ·simp [h1,h2]
    ·simp [h1,h2]
   ·simp [h1]
def zE:List (List UInt8):=[[61],[60,62],[60],[60,61],[62],[62,61]]
def NoL (k:Int):Prop:=(k==1)=false∧(k==2)=false∧(k==5)=false
inductive EndK (x:Lp.X):Prop
 | isn (h1:lC x=5) (h2:∀ ks,Cm x ks=(3,0))
 | tru (hk:NoL (lC x)) (h1:oQ x=fW∨oQ x=jN∨oQ x=uOr) (h2:∀ ks,ks.length=(eV x).length→Cm x ks=if Lp.allK ks 3 then (3,0) else (0,8))
 | num (hk:NoL (lC x)) (h1:oQ x∈([[45],[43],[42],[47],[37],dN]:List (List UInt8))) (h2:∀ ks,ks.length=(eV x).length→Cm x ks=if Lp.allK ks 1 then (1,0) else (0,8))
 | cnt (hk:NoL (lC x)) (h1:oQ x=aU) (h2:∀ ks,Cm x ks=(1,0))
 | low (hk:NoL (lC x)) (h1:oQ x=eY∨oQ x=eZ) (h0:(eV x).length=1) (h2:∀ a,Cm x [a]=(a,0))
 | cmp (hk:NoL (lC x)) (h1:oQ x∈zE) (h0:(eV x).length=2) (h2:∀ a b,Cm x [a,b]=if a≠0∧b≠0∧a≠b then (0,8) else (3,0))
theorem yO {ks:List Int} (h:ks.length=1):∃ a,ks=[a]:=by
 match ks,h with
 | [a],_=>exact ⟨a,rfl⟩
theorem Dn {ks:List Int} (h:ks.length=2):∃ a b,ks=[a,b]:=by
 match ks,h with
 | [a,b],_=>exact ⟨a,b,rfl⟩
theorem uP (a k:Int):Lp.allK [a] k=fitK a k:=by simp [Lp.allK,fitK,Bool.or_comm]
theorem Cf (a b k:Int):Lp.allK [a,b] k=(fitK a k&&fitK b k):=by simp [Lp.allK,fitK,Bool.or_comm]
theorem Vm (a b:Int):(if fitK a b||fitK b a then ((3,0):Int×Int) else (0,8))=if a≠0∧b≠0∧a≠b then (0,8) else (3,0):=by
 unfold fitK
 by_cases h1:a=0
 ·subst h1;simp
 ·by_cases h2:b=0
  ·subst h2;simp
  ·by_cases h3:a=b
   ·subst h3;simp
   ·have h4:¬b=a:=fun h=>h3 h.symm
    simp [h1,h2,h3,h4]
theorem Wh {op:List UInt8} (a b:Lp.X) (h:op=jN∨op=uOr) (h1:op=fW∨op=jN∨op=uOr):EndK (.bin op a b) :=
 .tru ⟨rfl,rfl,rfl⟩ h1 fun ks hl=>by
  obtain ⟨p,q,rfl⟩:=Dn hl
  rw [Cf]
  exact if_pos h
theorem Wi {op:List UInt8} (a b:Lp.X) (h:¬(op=jN∨op=uOr)) (h1:op∈hY) (h2:op∈([[45],[43],[42],[47],[37],dN]:List (List UInt8))):EndK (.bin op a b) :=
 .num ⟨rfl,rfl,rfl⟩ h2 fun ks hl=>by
  obtain ⟨p,q,rfl⟩:=Dn hl
  rw [Cf]
  show gS op p q=_
  unfold gS
  rw [if_neg h,if_pos h1]
theorem Wk {op:List UInt8} (a b:Lp.X) (h:¬(op=jN∨op=uOr)) (h1:¬op∈hY) (h2:op∈zE):EndK (.bin op a b) :=
 .cmp ⟨rfl,rfl,rfl⟩ h2 rfl fun p q=>by
  show gS op p q=_
  unfold gS
  rw [if_neg h,if_neg h1]
  exact Vm p q
theorem Wl:∀ op∈oV,((op=jN∨op=uOr)∧(op=fW∨op=jN∨op=uOr))∨(¬(op=jN∨op=uOr)∧op∈hY∧op∈([[45],[43],[42],[47],[37],dN]:List (List UInt8)))∨(¬(op=jN∨op=uOr)∧¬op∈hY∧op∈zE):=by decide
theorem Wt:∀ op∈qY,op=aU∨op=dN∨op=eY∨op=eZ:=by decide
theorem Qq {x:Lp.X} (hw:x.wf) (hk:eV x≠[]):EndK x:=by
 cases x with
 | lit=>exact absurd rfl hk
 | col=>exact absurd rfl hk
 | cnt=>exact absurd rfl hk
 | isn n y=>exact .isn rfl fun _=>rfl
 | un op y =>
   rcases hw.1 with rfl|rfl
   ·refine .tru ⟨rfl,rfl,rfl⟩ (.inl rfl) fun ks hl => ?_
    obtain ⟨p,rfl⟩:=yO hl
    rw [uP]
    rfl
   ·refine .num ⟨rfl,rfl,rfl⟩ (by show ([45]:List UInt8)∈_;decide) fun ks hl => ?_
    obtain ⟨p,rfl⟩:=yO hl
    rw [uP]
    rfl
 | bin op a b =>
   rcases Wl op hw.1 with ⟨h1,h2⟩|⟨h1,h2,h3⟩|⟨h1,h2,h3⟩
   ·exact Wh a b h1 h2
   ·exact Wi a b h1 h2 h3
   ·exact Wk a b h1 h2 h3
 | agg op y =>
   rcases Wt op hw.1 with rfl|rfl|rfl|rfl
   ·exact .cnt ⟨rfl,rfl,rfl⟩ rfl fun _=>rfl
   ·refine .num ⟨rfl,rfl,rfl⟩ (by show dN∈_;decide) fun ks hl => ?_
    obtain ⟨p,rfl⟩:=yO hl
    rw [uP]
    rfl
   ·exact .low ⟨rfl,rfl,rfl⟩ (.inl rfl) rfl fun _=>rfl
   ·exact .low ⟨rfl,rfl,rfl⟩ (.inr rfl) rfl fun _=>rfl
theorem Ke:∀ o∈zE,(o==[78,79,84])=false∧(o==[65,78,68])=false∧(o==[79,82])=false∧(o==[45])=false∧(o==[43])=false∧(o==[42])=false∧(o==[47])=false∧(o==[37])=false∧(o==[83,85,77])=false∧(o==[67,79,85,78,84])=false∧(o==[77,73,78])=false∧(o==[77,65,88])=false:=by decide
