/-
 Contracts and laws, joined. Conditions: those of each.
-/
import Derived.Test.YtkfjmgmjbljnbaaGreatDoorQZA
import Derived.Test.YtkfjmgmjbljnbaaGreatDoorQGE
import Derived.Test.YtkfjmgmjbljnbaaGreatDoorQGT
import Derived.Test.YtkfjmgmjbljnbaaGreatDoorQGB
import Derived.Test.YtkfjmgmjbljnbaaGreatDoorQGJ
import Derived.Test.YtkfjmgmjbljnbaaGreatDoorQOpenT
set_option maxRecDepth 100000
set_option maxHeartbeats 8000000
namespace Go.Proofs.YtkfjmgmjbljnbaaGreatDoor
open Go.RowKit
def gotI (l:List (Nat×Int)):Int:=match l.getLast? with
 | none => -1
 | some p=>(p.1:Int)
theorem gotI_snoc (l:List (Nat×Int)) (a:Nat) (k:Int):gotI (l++[(a,k)])=(a:Int):=by simp [gotI]
theorem scOf_take (l:List TabA) {i:Nat} (h:i<l.length):scOf (l.take (i+1))=scOf (l.take i)++[(l[i]).1]:=by
 unfold scOf
 rw [List.take_succ_eq_append_getElem h,List.map_append]
 rfl
theorem find_ref {sc:List Lp.Tb} {t s:List UInt8} {HL:List (Nat×Int)} {TN:Nat} (h:Lp.hits t s 0 sc=HL) (ht:Lp.tabsN t sc=TN):Lp.atX sc t s=if HL.length=1∧(t=[]∨TN=1) then gotI HL else -1:=by
 unfold Lp.atX Lp.findX
 rw [h,ht]
 split
 ·rename_i hn
  split at hn
  ·rename_i hc
   rw [if_pos hc]
   unfold gotI
   rw [hn]
  ·rename_i hc
   rw [if_neg hc]
 ·rename_i p hn
  split at hn
  ·rename_i hc
   rw [if_pos hc]
   unfold gotI
   rw [hn]
  ·cases hn
theorem rfind_any (A:Option Addr) (c:Nat) (l:List TabA) (t s:List UInt8) (w:World) (hA:ScA w A l) (hn:l.length≤100) (hw:Lp.wide (scOf l)≤10000) :
 Calls Tryz.prog 53 #[.slice A l.length c,.string ⟨t.toArray⟩,.string ⟨s.toArray⟩] w fun e w'=>e=.returned (.int .i64 (Lp.atX (scOf l) t s))∧Below w.heap.size w w':=by
 have HA:=κ hA
 have HW:=κ hw
 have hnI:(l.length:Int)≤100:=by omega
 clear hA hw
 go_enter Tryz.func53,Tryz.ntmps53
 go_wp2_with fail
 go_loopw [7,8,9,10,18] (fun s7 s8 s9 s10 s18 wr=>∃ i:Nat,i≤l.length∧s18=.int .i64 i∧s7=.int .i64 (gotI (Lp.hits t s 0 (scOf (l.take i))))∧s8=.int .i64 ((Lp.hits t s 0 (scOf (l.take i))).length:Nat)∧s9=.int .i64 (Lp.tabsN t (scOf (l.take i)):Nat)∧s10=.int .i64 (Lp.wide (scOf (l.take i)):Nat)∧Below w.heap.size w wr) (fun _ _ _ _ s18 _=>l.length-(intOf s18).toNat)
 case atStart=>exact ⟨0,Nat.zero_le _,rfl,rfl,rfl,rfl,rfl,Below.refl _ _⟩
 case round =>
  obtain ⟨i,hi,rfl,rfl,rfl,rfl,rfl,hb⟩:=hrel
  have HB:=κ hb
  by_cases hlt:i<l.length
  ·obtain ⟨bT,oT,hAT,q0,q1⟩:=tbv_cells ((HA.out.below hb).1) hlt
   have hok:=(HA.out.below hb).2 _ (List.getElem_mem hlt)
   have hT1:=scOf_take l hlt
   have hwd:Lp.wide (scOf (l.take (i+1)))≤10000:=by
    have:=wide_take (scOf l) (i+1)
    rw [show (scOf l).take (i+1)=scOf (l.take (i+1)) from by simp [scOf,List.map_take]] at this
    have:=HW.out
    omega
   have hwd0:Lp.wide (scOf (l.take (i+1)))=Lp.wide (scOf (l.take i))+(l[i]).1.cs.length:=by rw [hT1,Lp.wide_snoc]
   have htn:Lp.tabsN t (scOf (l.take i))≤100:=by
    have:=List.length_filter_le (Lp.here t) (scOf (l.take i))
    rw [show (scOf (l.take i)).length=(l.take i).length from by simp [scOf],List.length_take] at this
    unfold Lp.tabsN
    omega
   have hhn:(Lp.hits t s 0 (scOf (l.take i))).length≤Lp.wide (scOf (l.take i)):=hits_len t s 0 _
   have hh1:Lp.hits t s 0 (scOf (l.take (i+1)))=Lp.hits t s 0 (scOf (l.take i))++(if Lp.here t (l[i]).1 then Lp.hitsC s (Lp.wide (scOf (l.take i))) (l[i]).1.cs else []):=by rw [hT1,Lp.hits_snoc,Nat.zero_add]
   have hh2:Lp.tabsN t (scOf (l.take (i+1)))=Lp.tabsN t (scOf (l.take i))+(if Lp.here t (l[i]).1 then 1 else 0):=by rw [hT1,Lp.tabsN_snoc]
   generalize Lp.hits t s 0 (scOf (l.take i))=HL at *
   generalize Lp.tabsN t (scOf (l.take i))=TN at *
   generalize Lp.wide (scOf (l.take i))=ND at *
   generalize (l[i])=p at *
   obtain ⟨⟨tn,cs⟩,At,ct⟩:=p
   simp only at q0 q1 hok hwd0 hh1 hh2
   subst hAT
   have hcsI:(cs.length:Int)≤10000:=by omega
   have hNI:(ND:Int)+(cs.length:Int)≤10000:=by omega
   have hTI:(TN:Int)≤100:=by omega
   have hHI:(HL.length:Int)≤(ND:Int):=by omega
   have hbT:Below wr.heap.size wr (wr.alloc (.cells #[.string ⟨tn.toArray⟩,.slice At cs.length ct] 90)):=(Below.refl _ _).alloc (Nat.le_refl _) _
   have x2:=β (heap_alloc_new wr (.cells #[.string ⟨tn.toArray⟩,.slice At cs.length ct] 90))
   have HT:=κ (ι (hok.2.1.below hbT) (ι (hb.trans (hbT.mono hb.size)) (heap_alloc_new wr (.cells #[.string ⟨tn.toArray⟩,.slice At cs.length ct] 90))))
   have HH:=κ (ι hh1 (ι hh2 hwd0))
   clear hok hT1 hwd hwd0 htn hhn hh1 hh2 hb hbT
   cases hh:Lp.here t ⟨tn,cs⟩
   ·have e1:(t==[])=false:=by unfold Lp.here at hh;simp only [Bool.or_eq_false_iff] at hh;exact hh.1
    have e2:(tn==t)=false:=by unfold Lp.here at hh;simp only [Bool.or_eq_false_iff] at hh;exact hh.2
    have HH2:=HH.out
    rw [hh] at HH2
    simp only [Bool.false_eq_true,if_false,List.append_nil,Nat.add_zero] at HH2
    have HG:=κ HH2
    clear HH HH2 hh
    go_wp2_with fail
    generalize (wr.alloc (.cells #[.string ⟨tn.toArray⟩,.slice At cs.length ct] 90))=W1 at *
    clear x2 q0 q1 e1 e2
    go_loopw [7,8,10,36] (fun s7 s8 s10 s36 wq=>∃ j:Nat,j≤cs.length∧s36=.int .i64 j∧s7=.int .i64 (gotI HL)∧s8=.int .i64 (HL.length:Nat)∧s10=.int .i64 ((ND+j:Nat):Int)∧Below W1.heap.size W1 wq) (fun _ _ _ s36 _=>cs.length-(intOf s36).toNat)
    case atStart=>exact ⟨0,Nat.zero_le _,rfl,rfl,rfl,rfl,Below.refl _ _⟩
    case round =>
     obtain ⟨j,hj,rfl,rfl,rfl,rfl,hbq⟩:=hrel
     by_cases hjl:j<cs.length
     ·obtain ⟨bC,oC,hAC,r0,r1⟩:=colv_cells (HT.out.1.below hbq) hjl
      subst hAC
      generalize (cs[j]).k=kc at *
      generalize (⟨(cs[j]).n.toArray⟩:ByteArray)=nc at *
      have hjI:(j:Int)<(cs.length:Int):=by omega
      have HQ:=κ (hbq.trans ((Below.refl _ _).alloc (Nat.le_refl _) (.cells #[.string nc,.int .u8 kc] 55) |>.mono hbq.size))
      clear hbq
      go_wp2
      go_roundw
      case rel=>exact ⟨j+1,by omega,by go_num,rfl,rfl,by go_num,HQ.out⟩
      case measure=>simp [intOf];omega
     ·have hj2:j=cs.length:=by omega
      subst hj2
      have HQ:=κ (HT.out.2.1.trans (hbq.mono HT.out.2.1.size))
      clear hbq hj hjl
      go_wp2
      go_roundw
      case rel=>exact ⟨i+1,by omega,by go_num,by rw [HG.out.1],by rw [HG.out.1],by rw [HG.out.2.1],by rw [HG.out.2.2],HQ.out⟩
      case measure=>simp [intOf];omega
   ·have hee:((t==[])=true)∨((t==[])=false∧(tn==t)=true):=by
     unfold Lp.here at hh
     rcases Bool.eq_false_or_eq_true (t==[]) with h|h
     ·exact .inl h
     ·rw [h] at hh;exact .inr ⟨h,by simpa using hh⟩
    have HH2:=HH.out
    rw [hh] at HH2
    simp only [if_true] at HH2
    have HG:=κ HH2
    clear HH HH2 hh
    rcases hee with e1|⟨e1,e2⟩
    all_goals
     go_wp2_with fail
     generalize (wr.alloc (.cells #[.string ⟨tn.toArray⟩,.slice At cs.length ct] 90))=W1 at *
     clear x2 q0 q1 e1
     go_loopw [7,8,10,36] (fun s7 s8 s10 s36 wq=>∃ j:Nat,j≤cs.length∧s36=.int .i64 j∧s7=.int .i64 (gotI (HL++Lp.hitsC s ND (cs.take j)))∧s8=.int .i64 ((HL++Lp.hitsC s ND (cs.take j)).length:Nat)∧s10=.int .i64 ((ND+j:Nat):Int)∧Below W1.heap.size W1 wq) (fun _ _ _ s36 _=>cs.length-(intOf s36).toNat)
     case atStart=>exact ⟨0,Nat.zero_le _,rfl,by simp [Lp.hitsC],by simp [Lp.hitsC],rfl,Below.refl _ _⟩
     case round =>
      obtain ⟨j,hj,rfl,rfl,rfl,rfl,hbq⟩:=hrel
      by_cases hjl:j<cs.length
      ·obtain ⟨bC,oC,hAC,r0,r1⟩:=colv_cells (HT.out.1.below hbq) hjl
       subst hAC
       have hstep:=col_take s ND cs hjl
       have hlen:(HL++Lp.hitsC s ND (cs.take j)).length≤20000:=by
        have h1:=hitsC_len s ND (cs.take j)
        rw [List.length_take] at h1
        rw [List.length_append]
        omega
       obtain ⟨HJ,hHJ⟩:∃ HJ,HL++Lp.hitsC s ND (cs.take j)=HJ:=⟨_,rfl⟩
       have hlen2:(HJ.length:Int)≤20000:=by rw [←hHJ];omega
       generalize (cs[j])=cj at *
       obtain ⟨cn,ck⟩:=cj
       simp only at r0 r1 hstep
       have hjI:(j:Int)<(cs.length:Int):=by omega
       have hNJ:(ND:Int)+(j:Int)≤10000:=by omega
       have hbC:Below wr.heap.size wr (wr.alloc (.cells #[.string ⟨cn.toArray⟩,.int .u8 ck] 55)):=(Below.refl _ _).alloc (Nat.le_refl _) _
       have q2:=β (heap_alloc_new wr (.cells #[.string ⟨cn.toArray⟩,.int .u8 ck] 55))
       have HQ:=κ (hbq.trans (hbC.mono hbq.size))
       have HSt:=κ (show HL++Lp.hitsC s ND (cs.take (j+1))=HJ++(if cn==s then [(ND+j,ck)] else []) by rw [hstep, ←List.append_assoc,hHJ])
       rw [hHJ]
       clear hbq hbC hstep hlen hHJ
       cases e3:(cn==s)
       ·rw [e3] at HSt
        simp only [Bool.false_eq_true,if_false,List.append_nil] at HSt
        go_wp2
        go_roundw
        case rel=>exact ⟨j+1,by omega,by go_num,by rw [HSt.out],by rw [HSt.out],by go_num,HQ.out⟩
        case measure=>simp [intOf];omega
       ·rw [e3] at HSt
        simp only [if_true] at HSt
        go_wp2
        go_roundw
        case rel=>exact ⟨j+1,by omega,by go_num,by rw [HSt.out,gotI_snoc],by rw [HSt.out];simp,by go_num,HQ.out⟩
        case measure=>simp [intOf];omega
      ·have hj2:j=cs.length:=by omega
       subst hj2
       have HQ:=κ (HT.out.2.1.trans (hbq.mono HT.out.2.1.size))
       rw [List.take_length]
       clear hbq hj hjl
       go_wp2
       go_roundw
       case rel=>exact ⟨i+1,by omega,by go_num,by rw [HG.out.1],by rw [HG.out.1],by rw [HG.out.2.1];go_num,by rw [HG.out.2.2],HQ.out⟩
       case measure=>simp [intOf];omega
  ·have hi2:i=l.length:=by omega
   rw [hi2,List.take_length]
   obtain ⟨HL,hHL⟩:∃ HL,Lp.hits t s 0 (scOf l)=HL:=⟨_,rfl⟩
   obtain ⟨TN,hTN⟩:∃ TN,Lp.tabsN t (scOf l)=TN:=⟨_,rfl⟩
   have hF:=find_ref hHL hTN
   rw [hHL,hTN]
   have HF:=κ hF
   clear hi2 hb hF hHL hTN HA HW hlt hi
   by_cases hN:HL.length=1
   ·have n1:((HL.length:Int)==1)=true:=by rw [hN];rfl
    have n2:((HL.length:Int) !=1)=false:=by rw [bne,n1];rfl
    by_cases hOk:t=[]∨TN=1
    ·have HR:=κ (HF.out.trans (if_pos ⟨hN,hOk⟩))
     have hee:((t==[])=true∧(t != [])=false)∨((t==[])=false∧(t != [])=true∧((TN:Int)==1)=true∧((TN:Int) !=1)=false):=by
      by_cases ht:t=[]
      ·subst ht;exact .inl ⟨rfl,rfl⟩
      ·have e1:(t==[])=false:=beq_eq_false_iff_ne.2 ht
       have e4:TN=1:=by rcases hOk with h|h;exact absurd h ht;exact h
       subst e4
       exact .inr ⟨e1,by rw [bne,e1];rfl,rfl,rfl⟩
     clear hOk hN HF
     rcases hee with ⟨e1,e2⟩|⟨e1,e2,e3,e4⟩
     all_goals
      go_wp2
      go_ret
      exact ⟨by rw [HR.out];rfl,HB.out⟩
    ·have HR:=κ (HF.out.trans (if_neg (fun h=>hOk h.2)))
     have ht:t≠[]:=fun h=>hOk (.inl h)
     have hT:TN≠1:=fun h=>hOk (.inr h)
     have e1:(t==[])=false:=beq_eq_false_iff_ne.2 ht
     have e2:(t != [])=true:=by rw [bne,e1];rfl
     have e3:((TN:Int)==1)=false:=by rw [beq_eq_false_iff_ne];omega
     have e4:((TN:Int) !=1)=true:=by rw [bne,e3];rfl
     clear hOk hN ht hT HF
     go_wp2
     go_ret
     exact ⟨by rw [HR.out];rfl,HB.out⟩
   ·have HR:=κ (HF.out.trans (if_neg (fun h=>hN h.1)))
    have n1:((HL.length:Int)==1)=false:=by rw [beq_eq_false_iff_ne];omega
    have n2:((HL.length:Int) !=1)=true:=by rw [bne,n1];rfl
    clear hN HF
    go_wp2
    go_ret
    exact ⟨by rw [HR.out];rfl,HB.out⟩
end Go.Proofs.YtkfjmgmjbljnbaaGreatDoor
namespace Go.Proofs.YtkfjmgmjbljnbaaGreatDoor.Lp
open Go.RowKit
def flatK (sc:List Tb):List Int:=sc.flatMap fun tb=>tb.cs.map (·.k)
theorem hitsC_at (s:List UInt8):∀ (l:List Col) (a0 a:Nat) (k:Int),(a,k)∈hitsC s a0 l→a0≤a∧(l.map (·.k))[a-a0]? = some k∧a-a0<l.length
 | [],_,_,_,h=>by simp [hitsC] at h
 | c::r,a0,a,k,h=>by
   unfold hitsC at h
   rcases List.mem_append.1 h with h|h
   ·split at h
    ·simp only [List.mem_singleton,Prod.mk.injEq] at h
     obtain ⟨rfl,rfl⟩:=h
     simp
    ·simp at h
   ·obtain ⟨h1,h2,h3⟩:=hitsC_at s r (a0+1) a k h
    refine ⟨by omega, ?_,by simp;omega⟩
    rw [show a-a0=(a-(a0+1))+1 by omega]
    simpa using h2
theorem hits_at (t s:List UInt8):∀ (l:List Tb) (a0 a:Nat) (k:Int),(a,k)∈hits t s a0 l→a0≤a∧(flatK l)[a-a0]? = some k
 | [],_,_,_,h=>by simp [hits] at h
 | c::r,a0,a,k,h=>by
   unfold hits at h
   have e:flatK (c::r)=c.cs.map (·.k)++flatK r:=by simp [flatK]
   rw [e]
   rcases List.mem_append.1 h with h|h
   ·split at h
    ·obtain ⟨h1,h2,h3⟩:=hitsC_at s c.cs a0 a k h
     exact ⟨h1,by rw [List.getElem?_append_left (by simpa using h3)];exact h2⟩
    ·simp at h
   ·obtain ⟨h1,h2⟩:=hits_at t s r (a0+c.cs.length) a k h
    refine ⟨by omega, ?_⟩
    rw [List.getElem?_append_right (by simp;omega)]
    rw [←h2]
    congr 1
    simp
    omega
theorem findX_at {sc:List Tb} {t s:List UInt8} {p:Nat×Int} (h:findX sc t s=some p):(flatK sc)[p.1]? = some p.2:=by
 unfold findX at h
 split at h
 ·have:=hits_at t s sc 0 p.1 p.2 (List.mem_of_getLast? h)
  simpa using this.2
 ·cases h
def Stp (r:List UInt8):Prop:=∀ c l,r=c::l→c=32∨c=41
theorem Stp.nil:Stp []:=fun _ _ h=>by cases h
end Go.Proofs.YtkfjmgmjbljnbaaGreatDoor.Lp
namespace Go.Proofs.YtkfjmgmjbljnbaaGreatDoor
open Go.RowKit
theorem col_F (s:ByteArray) (k:Int) (w:World):(Instr.field 55 (.agg #[.string s,.int .u8 k]) 1).run Tryz.prog w=.ok (.int .u8 k) w:=by kernel_rfl
attribute [local go_sem] col_F
def rcs (l:List RC):List Value:=l.flatMap RC.cells
theorem rcs_at {l:List RC} {i k:Nat} (hi:i<l.length) (hk:k<8):(rcs l)[i*8+k]? = ((l[i]).cells)[k]? := flat_at (f:=RC.cells) (n:=8) (fun _=>rfl) l i k hi hk
theorem rcs_cells {w:World} {A:Option Addr} {l:List RC} (h:Rds w A (rcs l)) {i:Nat} (hi:i<l.length):∃ b off,A=some ⟨b,off,none⟩∧w.cell? ⟨b,off+i*8,none⟩=some (.int .u8 (l[i]).k)∧w.cell? ⟨b,off+i*8+1,none⟩=some (.int .u8 (l[i]).vk)∧w.cell? ⟨b,off+i*8+2,none⟩=some (.int .i64 (l[i]).vi)∧w.cell? ⟨b,off+i*8+3,none⟩=some (.string (l[i]).vs)∧w.cell? ⟨b,off+i*8+4,none⟩=some (.bool (l[i]).vb)∧w.cell? ⟨b,off+i*8+5,none⟩=some (.string (l[i]).t)∧w.cell? ⟨b,off+i*8+6,none⟩=some (.string (l[i]).s)∧w.cell? ⟨b,off+i*8+7,none⟩=some (.slice (l[i]).A (l[i]).n (l[i]).c):=by
 rcases h with hn|⟨b,off,rfl,hc⟩
 ·have:=rcs_at hi (k:=0) (by decide)
  rw [hn] at this
  simp [RC.cells] at this
 ·have at_:=fun (k:Nat) (hk:k<8) (u:Value) (hu:((l[i]).cells)[k]? = some u)=>hc (i*8+k) u ((rcs_at hi hk).trans hu)
  exact ⟨b,off,rfl,at_ 0 (by decide) _ rfl,at_ 1 (by decide) _ rfl,at_ 2 (by decide) _ rfl,at_ 3 (by decide) _ rfl,at_ 4 (by decide) _ rfl,at_ 5 (by decide) _ rfl,at_ 6 (by decide) _ rfl,at_ 7 (by decide) _ rfl⟩
def Pts (S:Nat→Prop) (w:World) (A:Option Addr) (xs:List Lp.X) (rs:List RC):Prop:=rs.length=xs.length∧Rds w A (rcs rs)∧∀ (i:Nat) (hx:i<xs.length) (hr:i<rs.length),RX S w xs[i] rs[i]
theorem Pts.below {S:Nat→Prop} {w w':World} {A:Option Addr} {xs:List Lp.X} {rs:List RC} (h:Pts S w A xs rs) (hb:Below w.heap.size w w'):Pts S w' A xs rs:=⟨h.1,h.2.1.below hb,fun i hx hr=>(h.2.2 i hx hr).below hb⟩
def rcN (k:Int) (s:List UInt8) (A:Option Addr) (n:Nat):RC:=⟨k,0,0,⟨#[]⟩,false,⟨#[]⟩,⟨s.toArray⟩,A,n,n⟩
def kids:Lp.X→List Lp.X
 | .un _ x=>[x]
 | .bin _ a b=>[a,b]
 | .isn _ x=>[x]
 | .agg _ x=>[x]
 | _=>[]
def nodK:Lp.X→Int
 | .un .. => 3
 | .bin .. => 4
 | .isn .. => 5
 | .agg .. => 6
 | .cnt=>6
 | .lit .. => 1
 | .col .. => 2
def nodS:Lp.X→List UInt8
 | .un op _=>op
 | .bin op _ _=>op
 | .isn n _=>if n then Lp.uNot else []
 | .agg op _=>op
 | .cnt=>Lp.uCount
 | _=>[]
theorem pts_one {S:Nat→Prop} {w:World} {g:Nat} {x:Lp.X} {r:RC} (h:w.heap[g]? = some (.cells r.cells.toArray 35 (0,0))) (hx:RX S w x r):Pts S w (some ⟨g,0,none⟩) [x] [r]:=by
 refine ⟨rfl, ?_, ?_⟩
 ·have:=rds_blk r.cells h
  simpa [rcs] using this
 ·intro i h1 h2
  obtain rfl:i=0:=by simpa using h1
  exact hx
theorem rx_pts {S:Nat→Prop} {w:World} {x:Lp.X} {r:RC} (h:RX S w x r) (hk:kids x≠[]):∃ A rs,r=rcN (nodK x) (nodS x) A (kids x).length∧Pts S w A (kids x) rs:=by
 cases x with
 | lit=>exact absurd rfl hk
 | col=>exact absurd rfl hk
 | cnt=>exact absurd rfl hk
 | un op x=>obtain ⟨g,r1,rfl, -,h2,h3⟩:=h;exact ⟨_,[r1],rfl,pts_one h2 h3⟩
 | isn n x=>obtain ⟨g,r1,rfl, -,h2,h3⟩:=h;exact ⟨_,[r1],rfl,pts_one h2 h3⟩
 | agg op x=>obtain ⟨g,r1,rfl, -,h2,h3⟩:=h;exact ⟨_,[r1],rfl,pts_one h2 h3⟩
 | bin op a b =>
   obtain ⟨g,r1,r2,rfl, -,h2,h3,h4⟩:=h
   refine ⟨_,[r1,r2],rfl,rfl, ?_, ?_⟩
   ·have:=rds_blk (r1.cells++r2.cells) h2
    simpa [rcs] using this
   ·intro i h1 h2
    match i,h1 with
    | 0,_=>exact h3
    | 1,_=>exact h4
def cmpOps:List (List UInt8):=[[61],[60,62],[60],[60,61],[62],[62,61]]
end Go.Proofs.YtkfjmgmjbljnbaaGreatDoor
