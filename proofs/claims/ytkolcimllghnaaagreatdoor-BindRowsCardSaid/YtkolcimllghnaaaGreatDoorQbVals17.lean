/-
 Contracts. Conditions: those of each.
-/
import Derived.Test.YtkolcimllghnaaaGreatDoorQbKind17
import Derived.Test.YtkolcimllghnaaaGreatDoorQbZR
set_option maxRecDepth 100000
set_option maxHeartbeats 8000000
namespace Go.Proofs.YtkolcimllghnaaaGreatDoor
open Lp Go.Proofs.Tryz
open Go.RowKit
theorem RXL.len {S:Nat→Prop} {w:World}:∀ {xs:List Lp.X} {rs:List RC},RXL S w xs rs→rs.length=xs.length
 | [],[],_=>rfl
 | [],_::_,h=>h.elim
 | _::_,[],h=>h.elim
 | _::_,_::_,h=>by simp [RXL.len h.2]
theorem RXL.at_ {S:Nat→Prop} {w:World}:∀ {xs:List Lp.X} {rs:List RC} {i:Nat} (_:RXL S w xs rs) (h:i<xs.length) (h':i<rs.length),RX S w xs[i] rs[i]
 | [],_,_,_,h,_=>by simp at h
 | _::_,[],_,_,_,h=>by simp at h
 | _::_,_::_,0,hp,_,_=>hp.1
 | _::xs,_::rs,i+1,hp,h,h'=>by
   have:=RXL.at_ (i:=i) hp.2 (by simpa using h) (by simpa using h')
   simpa using this
theorem RXL.below {S:Nat→Prop} {w w':World} {xs:List Lp.X} {rs:List RC} (h:RXL S w xs rs) (hb:Below w.heap.size w w'):RXL S w' xs rs:=RXL.turn (fun _ _ h0 hg=>⟨h0,aA hg hb⟩) h
theorem Gz {w:World} {A:Option Addr} {cs:List Col} (h:Rds w A (fB cs)) {i:Nat} (hi:i<cs.length):∃ b off,A=some ⟨b,off,none⟩∧w.cell? ⟨b,off+i*2,none⟩=some (.string ⟨(cs[i]).n.toArray⟩)∧w.cell? ⟨b,off+i*2+1,none⟩=some (.int .u8 (cs[i]).k):=by
 obtain ⟨h0,h1⟩:=qA hi
 rcases h with hn|⟨b,off,rfl,hc⟩
 ·rw [hn] at h0;simp at h0
 ·exact ⟨b,off,rfl,hc _ _ h0,by rw [Nat.add_assoc];exact hc _ _ h1⟩
theorem xL (nm:ByteArray) (At:Option Addr) (ct:Nat) (cs:List Col) (Ar:Option Addr) (cr:Nat) (xs:List Lp.X) (rs:List RC) (S:Nat→Prop) (w:World) (hc:Rds w At (fB cs)) (hl:Rds w Ar (rcs rs)) (hx:RXL S w xs rs) (hn:xs.length≤100) (hcn:cs.length≤10) (hct:cs.length≤ct) (hwf:∀ x∈xs,x.wf) :
 Calls prog 11 #[.agg #[.string nm,.slice At cs.length ct],.slice Ar xs.length cr] w fun e w'=>e=.returned (.int .i64 (mE cs xs))∧Below w.heap.size w w':=by
 have hb0:Below w.heap.size w (w.alloc (.cells #[.string nm,.slice At cs.length ct] 52)):=ρ
 have H0:=κ (ι (hc.below hb0) (ι (hl.below hb0) (ι hb0 (heap_alloc_new w (.cells #[.string nm,.slice At cs.length ct] 52)))))
 have HP:=κ (hx.below hb0)
 have HWF:=κ hwf
 have HL:=κ hx.len
 have hnI:(xs.length:Int)≤100:=by omega
 have hcI:(cs.length:Int)≤10:=by omega
 have hctI:(cs.length:Int)≤(ct:Int):=by omega
 clear hc hl hx hwf
 by_cases hnc:xs.length=cs.length
 ·have e0:((xs.length:Int) !=(cs.length:Int))=false:=by simp [hnc]
  have HNC:=κ hnc
  have HV:=κ (show mE cs xs=mL cs xs from if_pos hnc)
  clear hb0 hnc
  generalize mE cs xs=R at *
  go_enter func11,ntmps11
  go_wp2_with fail
  generalize (w.alloc (.cells #[.string nm,.slice At cs.length ct] 52))=W0 at *
  go_loopw [5,6,7,8,17] (fun _ _ _ _ s17 wr=>∃ i:Nat,i≤xs.length∧s17=.int .i64 i∧mL cs xs=mL (cs.drop i) (xs.drop i)∧Below W0.heap.size W0 wr) (fun _ _ _ _ s17 _=>xs.length-(intOf s17).toNat)
  case atStart=>exact ⟨0,Nat.zero_le _,rfl,rfl,θ⟩
  case round =>
   obtain ⟨i,hi,rfl,hfe,hb⟩:=hrel
   by_cases hlt:i<xs.length
   ·have hic:i<cs.length:=by have:=HNC.out;omega
    have hir:i<rs.length:=by have:=HL.out;omega
    obtain ⟨b,off,hA,q0,q1,q2,q3,q4,q5,q6,q7⟩:=lL (H0.out.2.1.below hb) hir
    have hwx:=HWF.out _ (List.getElem_mem hlt)
    rw [Gb hic hlt] at hfe
    have hpx:=(HP.out.below hb).at_ hlt hir
    obtain ⟨bc,oc,hAt, -,p1⟩:=Gz (H0.out.1.below hb) hic
    obtain ⟨x,hxx⟩:∃ x,xs[i]=x:=⟨_,rfl⟩
    rw [hxx] at hfe hwx hpx
    generalize rs[i]=rr at *
    obtain ⟨k,vk,vi,vs,vb,tt,ss,Ae,nn,ce⟩:=rr
    simp only at q0 q1 q2 q3 q4 q5 q6 q7
    obtain ⟨ck,hck⟩:∃ ck,(cs[i]).k=ck:=⟨_,rfl⟩
    rw [hck] at p1 hfe
    have hbX:Below wr.heap.size wr (wr.alloc (.cells #[.int .u8 k,.int .u8 vk,.int .i64 vi,.string vs,.bool vb,.string tt,.string ss,.slice Ae nn ce] 60)):=ρ
    have hK:=uK none 0 [] (by simp) (by simp [aX,bW]) x hwx false S _ _ (⟨.inl rfl,fun u hu=>by cases hu⟩:ScA _ none []) (RX.below hbX hpx)
    simp only [RC.val,aX,List.map_nil,List.length_nil] at hK
    have HK:=κ hK
    have hbw:=hb.trans (hbX.mono hb.size)
    have HFE:=κ hfe
    have HB:=κ (ι hbw (aA H0.out.2.2.2 hbw))
    have p1':=(hbX.cell (p:=⟨bc,oc+i*2+1,none⟩) (World.block_lt_of_cell? wr _ p1)).trans p1
    subst hA
    subst hAt
    clear hwx hfe hpx hb hbX hK hbw hxx hck p1
    go_wp2_with fail
    refine μ HK ?_
    rintro e w2 ⟨rfl,hb2⟩
    have hB2:=HB.out.1.trans (hb2.mono HB.out.1.size)
    have hx2:=β (aA HB.out.2 hb2) 1
    simp only [γ,δ,ε] at hx2
    have p2:=(hb2.cell (p:=⟨bc,oc+i*2+1,none⟩) (World.block_lt_of_cell? _ _ p1')).trans p1'
    have HB2:=κ hB2
    have HE:=κ (H0.out.2.2.1.trans (hB2.mono H0.out.2.2.1.size))
    have hE:=HFE.out
    clear hb2 hB2 HFE HB p1' q0 q1 q2 q3 q4 q5 q6 q7
    by_cases hk:(aD [] x false).2=0
    ·rw [if_pos hk] at hE
     rw [hk]
     clear hk
     have hf:fitK (aD [] x false).1 ck=((aD [] x false).1==ck||(aD [] x false).1==0):=rfl
     rw [hf] at hE
     generalize (aD [] x false).1=K at *
     clear hf
     cases e1:(K==0)
     ·have e1':(K !=0)=true:=by rw [bne,e1];rfl
      cases e2:(K==ck)
      ·have e2':(K !=ck)=true:=by rw [bne,e2];rfl
       rw [e1,e2] at hE
       have HR:=κ (HV.out.trans (hE.trans rfl))
       clear hE HV
       go_wp2
       go_ret
       exact ⟨by rw [HR.out];rfl,HE.out⟩
      ·have e2':(K !=ck)=false:=by rw [bne,e2];rfl
       rw [e1,e2] at hE
       have HE2:=κ (show mL cs xs=mL (cs.drop (i+1)) (xs.drop (i+1)) from hE)
       clear hE
       go_wp2
       go_roundw
       case rel=>exact ⟨i+1,by omega,by go_num,HE2.out,HB2.out⟩
       case measure=>simp [intOf];omega
     ·have e1':(K !=0)=false:=by rw [bne,e1];rfl
      rw [e1,Bool.or_true] at hE
      have HE2:=κ (show mL cs xs=mL (cs.drop (i+1)) (xs.drop (i+1)) from hE)
      clear hE
      go_wp2
      go_roundw
      case rel=>exact ⟨i+1,by omega,by go_num,HE2.out,HB2.out⟩
      case measure=>simp [intOf];omega
    ·rw [if_neg hk] at hE
     have HR:=κ (HV.out.trans hE)
     clear hE
     generalize (aD [] x false).2=E at *
     have e1:(E==0)=false:=η hk
     have e2:(E !=0)=true:=by rw [bne,e1];rfl
     clear hk
     go_wp2
     go_ret
     exact ⟨by rw [HR.out];rfl,HE.out⟩
   ·rw [zR (by omega)] at hfe
    have HR:=κ (HV.out.trans hfe)
    have HE:=κ (H0.out.2.2.1.trans (hb.mono H0.out.2.2.1.size))
    clear hfe hb
    go_wp2
    go_ret
    exact ⟨by rw [HR.out];rfl,HE.out⟩
 ·have e0:((xs.length:Int) !=(cs.length:Int))=true:=by simp;omega
  have HR:=κ (show mE cs xs=3 from if_neg hnc)
  clear hnc
  generalize mE cs xs=R at *
  go_enter func11,ntmps11
  go_wp2
  go_ret
  exact ⟨by rw [HR.out];rfl,hb0⟩
