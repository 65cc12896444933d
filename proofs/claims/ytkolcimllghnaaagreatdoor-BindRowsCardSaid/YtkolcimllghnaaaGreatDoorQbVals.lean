/-
 Contracts. Conditions: those of each.
-/
import Derived.Test.YtkolcimllghnaaaGreatDoorQbGF
import Derived.Test.YtkolcimllghnaaaGreatDoorQbZI
import Derived.Test.YtkolcimllghnaaaGreatDoorQbZA
set_option maxRecDepth 100000
set_option maxHeartbeats 8000000
namespace Go.Proofs.YtkolcimllghnaaaGreatDoor
open Lp Go.Proofs.Tryz
open Go.RowKit
theorem PXs.at_ {B:Nat} {w:World}:∀ {xs:List Lp.X} {vs:List Value} {i:Nat} (_:PXs B w xs vs) (h:i<xs.length),∃ v,vs[i]? = some v∧PX B w xs[i] v
 | [],_,_,_,h=>by simp at h
 | _::_,[],_,hp,_=>hp.elim
 | _::_,v::_,0,hp,_=>⟨v,rfl,hp.2.1⟩
 | _::xs,_::vs,i+1,hp,h=>by
   obtain ⟨v,h1,h2⟩:=PXs.at_ (i:=i) hp.2.2 (by simpa using h)
   exact ⟨v,by simpa using h1,by simpa using h2⟩
theorem vC {w:World} {A:Option Addr} {cs:List Col} (h:Rds w A (fB cs)) {i:Nat} (hi:i<cs.length):∃ b off,A=some ⟨b,off,none⟩∧w.cell? ⟨b,off+i*2,none⟩=some (.string ⟨(cs[i]).n.toArray⟩)∧w.cell? ⟨b,off+i*2+1,none⟩=some (.int .u8 (cs[i]).k):=by
 obtain ⟨h0,h1⟩:=qA hi
 rcases h with hn|⟨b,off,rfl,hc⟩
 ·rw [hn] at h0;simp at h0
 ·exact ⟨b,off,rfl,hc _ _ h0,by rw [Nat.add_assoc];exact hc _ _ h1⟩
theorem Tk (w:World):ScM w none []:=⟨[],rfl,.inl rfl,fun p hp=>by cases hp⟩
def Sh (cs:List Col) (xs:List Lp.X) (w:World) (e:Ending) (w':World):Prop :=
 Below w.heap.size w w'∧if mE cs xs=0 then ∃ Ao co gs,e=.returned (.tuple #[.slice Ao xs.length co,.int .i64 0])∧Rds w' Ao (gs.map ptr)∧NTs (fun k=>w.heap.size≤k) w' [] xs gs
  else e=.returned (.tuple #[.slice none 0 0,.int .i64 (mE cs xs)])
theorem xM {cs:List Col} {xs:List Lp.X} {w w':World} {E:Int} (hE:E≠0) (hq:mE cs xs=E) (hb:Below w.heap.size w w'):Sh cs xs w (.returned (.tuple #[.slice none 0 0,.int .i64 E])) w':=by
 subst hq
 exact ⟨hb,by rw [if_neg hE]⟩
theorem Lj {cs:List Col} {xs:List Lp.X} {w w':World} {A1:Option Addr} {n c1 B:Nat} {gs:List Nat} (hn:n=xs.length) (hB:w.heap.size≤B) (hq:mE cs xs=0) (hb:Below w.heap.size w w') (hown:w'.ownsRow B 53 1 (.slice A1 n c1) n (gs.map ptr)) (hnt:NTs (SO B (.slice A1 n c1)) w' [] xs gs) :
 Sh cs xs w (.returned (.tuple #[.slice A1 n c1,.int .i64 0])) w':=by
 subst hn
 refine ⟨hb, ?_⟩
 rw [if_pos hq]
 exact ⟨A1,c1,gs,rfl,Rds.own hown,NTs.turn (Turn.mono fun g hg _=>Nat.le_trans hB hg.1) hnt⟩
theorem Dj (nm:ByteArray) (At:Option Addr) (ct:Nat) (cs:List Col) (Ar:Option Addr) (cr:Nat) (xs:List Lp.X) (vs:List Value) (w:World) (hc:Rds w At (fB cs)) (hl:Rds w Ar vs) (hx:PXs 0 w xs vs) (hn:xs.length≤100) (hcn:cs.length≤10) (hct:cs.length≤ct) (hwf:∀ x∈xs,x.wf) :
 Calls prog 10 #[.agg #[.string nm,.slice At cs.length ct],.slice Ar xs.length cr] w (Sh cs xs w):=by
 obtain ⟨iT,hiT,hz0,hz1,hz2⟩:=info_parts tS
 have hb0:Below w.heap.size w (w.alloc (.cells #[.string nm,.slice At cs.length ct] 50)):=ρ
 have H0:=κ (ι (hc.below hb0) (ι (hl.below hb0) (ι hb0 (heap_alloc_new w (.cells #[.string nm,.slice At cs.length ct] 50)))))
 have HP:=κ (PXs.keep (aK hb0) hx)
 have HWF:=κ hwf
 have hnI:(xs.length:Int)≤100:=by omega
 have hcI:(cs.length:Int)≤10:=by omega
 have hctI:(cs.length:Int)≤(ct:Int):=by omega
 clear hc hl hx hwf
 by_cases hnc:xs.length=cs.length
 ·have e0:((xs.length:Int) !=(cs.length:Int))=false:=by simp [hnc]
  have HNC:=κ hnc
  have HV:=κ (show mE cs xs=mL cs xs from if_pos hnc)
  clear hb0 hnc
  go_enter func10,ntmps10
  go_wp2_with fail
  generalize (w.alloc (.cells #[.string nm,.slice At cs.length ct] 50))=W0 at *
  go_loopw [6,7,8,9,10,19] (fun s6 _ _ _ _ s19 wr=>∃ (i:Nat) (A1:Option Addr) (c1:Nat) (gs:List Nat),i≤xs.length∧s19=.int .i64 i∧s6=.slice A1 i c1∧wr.ownsRow W0.heap.size 53 1 (.slice A1 i c1) i (gs.map ptr)∧NTs (SO W0.heap.size (.slice A1 i c1)) wr [] (xs.take i) gs∧mL cs xs=mL (cs.drop i) (xs.drop i)∧Below W0.heap.size W0 wr) (fun _ _ _ _ _ s19 _=>xs.length-(intOf s19).toNat)
  case atStart=>exact ⟨0,none,0,[],Nat.zero_le _,rfl,rfl,World.ownsRow_nil _ _ _ _,trivial,rfl,θ⟩
  case round =>
   obtain ⟨i,A1,c1,gs,hi,rfl,rfl,hown,hnt,hfe,hb⟩:=hrel
   by_cases hlt:i<xs.length
   ·have hic:i<cs.length:=by have:=HNC.out;omega
    have hT1:xs.take (i+1)=xs.take i++[xs[i]]:=List.take_succ_eq_append_getElem hlt
    obtain ⟨v,hat,hpx⟩:=PXs.at_ (PXs.keep (aK hb) HP.out) hlt
    obtain ⟨b,off,hA,hcell⟩:=(H0.out.2.1.below hb).at_ hat
    have hwx:=HWF.out _ (List.getElem_mem hlt)
    rw [Gb hic hlt] at hfe
    have hC:=mB none 0 [] false xs[i] v wr (by simp) (by simp [bW]) hwx hpx (Tk wr)
    obtain ⟨T1,g1,hvf⟩:=hpx.form
    subst hvf
    have hcR:=H0.out.1.below hb
    have hbx:=aA H0.out.2.2.2 hb
    have HT1:=κ hT1
    have HFE:=κ hfe
    obtain ⟨k,hk⟩:∃ k,(cs[i]).k=k:=⟨_,rfl⟩
    rw [hk] at hfe HFE
    obtain ⟨x,hxx⟩:∃ x,xs[i]=x:=⟨_,rfl⟩
    rw [hxx] at hC HFE HT1
    subst hA
    have HC:=κ hC
    have HW:=κ (ι hown (ι hnt (ι hb (ι hcR (ι hbx hk)))))
    clear hT1 hat hpx hC hfe hown hnt hb hwx hcR hbx hk hxx
    go_wp2_with fail
    refine μ HC ?_
    rintro e w2 ⟨hb2,hq⟩
    by_cases hk:(aD [] x false).2=0
    ·rw [if_pos hk] at hq
     obtain ⟨g,rfl,hnx⟩:=hq
     obtain ⟨op,v0,a0,An,n0,cn,hcl⟩:=hnx.kind hk
     obtain ⟨bc,oc,hAt, -,q1⟩:=vC (HW.out.2.2.2.1.below hb2) hic
     rw [HW.out.2.2.2.2.2] at q1
     have hbx2:=β (aA HW.out.2.2.2.2.1 hb2) 1
     simp only [γ,δ,ε] at hbx2
     have HF:=κ (pW g op _ v0 a0 An n0 cn k w2 hcl)
     have hown2:=aQ HW.out.1 hb2
     have hzw:W0.heap.size≤w2.heap.size:=Nat.le_trans HW.out.2.2.1.size hb2.size
     have hE:=HFE.out
     rw [if_pos hk] at hE
     subst hAt
     simp only [ptr] at HF ⊢
     have HN:=κ (ι hb2 (ι hnx hE))
     clear hb2 hnx hk hcl hE HFE HC
     cases hf:fitK (aD [] x false).1 k
     ·rw [hf] at HF HN
      have HR:=κ (xM (w:=w) (w':=w2) (E:=8) (by decide) (HV.out.trans (HN.out.2.2.trans rfl)) ((H0.out.2.2.1.trans (HW.out.2.2.1.mono H0.out.2.2.1.size)).trans (HN.out.1.mono (Nat.le_trans H0.out.2.2.1.size HW.out.2.2.1.size))))
      clear hf
      go_wp2_with fail
      refine μ HF ?_
      rintro e w3 ⟨rfl,rfl⟩
      go_wp2
      go_ret2
      exact HR.out
     ·rw [hf] at HF HN
      have HE:=κ (show mL cs xs=mL (cs.drop (i+1)) (xs.drop (i+1)) from HN.out.2.2)
      clear hf
      go_wp2_with fail
      refine μ HF ?_
      rintro e w3 ⟨rfl,rfl⟩
      go_wp2_with (at_builtin;refine bH _ rfl (.tmp 45) (.tmp 47) _ rfl W0.heap.size 53 iT _ 1 8 underlying46 hiT hz0 hz1 hz2 rfl (by omega) _ _ _ _ rfl (hown2.alloc _) _ 1 1 [ptr g] rfl rfl (bD [ptr g] (heap_alloc_new w2 _)) (by simp [Value.oneCell',ptr]) (by simp only [maxLen];omega) (by omega) (by simp;omega) ?_;intro A2 c2 w4 hown4 hb4 _ hk4)
      have hst:=tO HW.out.1 HW.out.2.1 HN.out.1 HW.out.2.2.1.size HN.out.2.1 hk4
      rw [←HT1.out] at hst
      have hbn:=((HW.out.2.2.1.trans (HN.out.1.mono HW.out.2.2.1.size)).alloc (by omega) (.cells #[.pointer (some ⟨g,0,none⟩)] 53)).trans hb4
      have HNX:=κ (ι hown4 (ι hst hbn))
      clear hown2 hown4 hb4 hk4 hst hbn hbx2 q1
      go_wp2
      go_roundw
      case rel=>exact ⟨i+1,A2,c2,gs++[g],by omega,by go_num,rfl,by rw [List.map_append];exact HNX.out.1,HNX.out.2.1,HE.out,HNX.out.2.2⟩
      case measure=>simp [intOf];omega
    ·rw [if_neg hk] at hq
     subst hq
     have hE:=HFE.out
     rw [if_neg hk] at hE
     have HR:=κ (xM (w:=w) (w':=w2) hk (HV.out.trans hE) ((H0.out.2.2.1.trans (HW.out.2.2.1.mono H0.out.2.2.1.size)).trans (hb2.mono (Nat.le_trans H0.out.2.2.1.size HW.out.2.2.1.size))))
     clear hE HFE
     generalize (aD [] x false).2=E at *
     have e1:(E==0)=false:=η hk
     have e2:(E !=0)=true:=by rw [bne,e1];rfl
     clear hk hb2 HC
     go_wp2
     go_ret2
     exact HR.out
   ·have hi2:i=xs.length:=by omega
    rw [zR (by omega)] at hfe
    rw [hi2,List.take_length] at hnt
    have HR:=κ (Lj (w:=w) hi2 H0.out.2.2.1.size (HV.out.trans hfe) (H0.out.2.2.1.trans (hb.mono H0.out.2.2.1.size)) hown (by rw [hi2] at *;exact hnt))
    clear hi2 hnt hfe hown hb
    go_wp2
    go_ret2
    exact HR.out
 ·have e0:((xs.length:Int) !=(cs.length:Int))=true:=by simp;omega
  have HR:=κ (xM (cs:=cs) (xs:=xs) (w:=w) (E:=3) (by decide) (if_neg hnc) hb0)
  clear hnc hb0
  go_enter func10,ntmps10
  go_wp2
  go_ret2
  exact HR.out
