/-
 Contracts. Conditions: those of each.
-/
import Derived.Test.YtkolcimllghnaaaGreatDoorQbVals
import Derived.Test.YtkolcimllghnaaaGreatDoorQbZU
import Derived.Test.YtkolcimllghnaaaGreatDoorQbVals17
set_option maxRecDepth 100000
set_option maxHeartbeats 16000000
namespace Go.Proofs.YtkolcimllghnaaaGreatDoor
open Lp Go.Proofs.Tryz
open Go.RowKit
theorem SetsX.at_ {B:Nat} {w:World}:∀ {ss:List (List UInt8×Lp.X)} {vs:List Value} {i:Nat} (_:SetsX B w ss vs) (h:i<ss.length),∃ v,vs[i*2]? = some (.string ⟨(ss[i]).1.toArray⟩)∧vs[i*2+1]? = some v∧PX B w (ss[i]).2 v
 | [],_,_,_,h=>by simp at h
 | _::_,[],_,hp,_=>hp.elim
 | _::_,[_],_,hp,_=>hp.elim
 | _::_,a::v::_,0,hp,_=>⟨v,by rw [hp.1];rfl,rfl,hp.2.1.2⟩
 | _::ss,_::_::vs,i+1,hp,h=>by
   obtain ⟨v,h1,h2,h3⟩:=SetsX.at_ (i:=i) hp.2.2 (by simpa using h)
   exact ⟨v,by rw [show (i+1)*2=i*2+2 by omega];simpa using h1,by rw [show (i+1)*2+1=i*2+1+2 by omega];simpa using h2,by simpa using h3⟩
theorem Hu (gs:Nat) (s n:List UInt8) (k:Int) (u:Value) (w:World) (h:w.heap[gs]? = some (.cells #[.string ⟨s.toArray⟩,u] 129 (0,0))) :
 Calls prog 44 #[.agg #[.string ⟨n.toArray⟩,.int .u8 k],.pointer (some ⟨gs,0,none⟩)] w fun e w'=>e=.returned (.bool (n==s))∧Below w.heap.size w w':=by
 have hb:Below w.heap.size w (w.alloc (.cells #[.string ⟨n.toArray⟩,.int .u8 k] 116)):=ρ
 have c0:=β (aC h (.cells #[.string ⟨n.toArray⟩,.int .u8 k] 116)) 0
 obtain ⟨b,hq⟩:∃ b,(n==s)=b:=⟨_,rfl⟩
 rw [hq]
 have HB:=κ hb
 clear h hb
 cases b
 all_goals
  go_enter func44,ntmps44
  go_wp2
  go_ret
  exact ⟨rfl,HB.out⟩
def yT:Option Nat→Int
 | none => -1
 | some i=>(i:Int)
theorem Wb {s:List UInt8} {cs:List Col} {k:Nat} (h:k<cs.length) (hq:eX s cs=(eX s (cs.drop k)).map (· + k)):eX s cs=if (cs[k]).n==s then some k else (eX s (cs.drop (k+1))).map (· + (k+1)):=by
 rw [hq,List.drop_eq_getElem_cons h]
 unfold eX
 rw [List.findIdx?_cons]
 split
 ·simp
 ·rw [Option.map_map]
  congr 1
  funext i
  simp;omega
theorem Fb (gs:Nat) (s:List UInt8) (u:Value) (At:Option Addr) (ct:Nat) (cs:List Col) (w:World) (hc:Rds w At (fB cs)) (h:w.heap[gs]? = some (.cells #[.string ⟨s.toArray⟩,u] 129 (0,0))) (hn:cs.length≤10) :
 Calls prog 43 #[.slice At cs.length ct,.func (.func 44) #[] #[.pointer (some ⟨gs,0,none⟩)]] w fun e w'=>e=.returned (.int .i64 (yT (eX s cs)))∧Below w.heap.size w w':=by
 have H0:=κ (ι hc h)
 have hn':(cs.length:Int)≤10:=by omega
 clear hc h
 obtain ⟨R,hR⟩:∃ R,yT (eX s cs)=R:=⟨_,rfl⟩
 rw [hR]
 have HR:=κ hR
 clear hR
 go_enter func43,ntmps43
 go_wp2_with fail
 go_loopw [5,8] (fun _ s8 wr=>∃ k:Nat,k≤cs.length∧s8=.int .i64 k∧Below w.heap.size w wr∧eX s cs=(eX s (cs.drop k)).map (· + k)) (fun _ s8 _=>cs.length-(intOf s8).toNat)
 case atStart=>exact ⟨0,Nat.zero_le _,rfl,θ,by simp⟩
 case round =>
  obtain ⟨k,hk,rfl,hb,hq⟩:=hrel
  by_cases hlt:k<cs.length
  ·obtain ⟨b,off,hA2,q0,q1⟩:=vC (H0.out.1.below hb) hlt
   have hq2:=Wb hlt hq
   have hC:=fun n k=>Hu gs s n k u wr (aA H0.out.2 hb)
   generalize (cs[k]).n=n at *
   generalize (cs[k]).k=kk at *
   subst hA2
   have HC:=κ (hC n kk)
   have HQ:=κ hq2
   have HB:=κ hb
   clear hC hq hq2 hb
   go_wp2_with fail
   refine μ HC ?_
   rintro e w1 ⟨rfl,hb1⟩
   have hb2:=HB.out.trans (hb1.mono HB.out.size)
   cases he:(n==s)
   ·have HQ2:=κ (show eX s cs=(eX s (cs.drop (k+1))).map (· + (k+1)) by rw [HQ.out,he];rfl)
    clear he
    go_wp2
    go_roundw
    case rel=>exact ⟨k+1,by omega,by go_num,hb2,HQ2.out⟩
    case measure=>simp [intOf];omega
   ·have HQ2:=κ (show R=(k:Int) by rw [←HR.out,HQ.out,he];rfl)
    clear he
    go_wp2
    go_ret
    exact ⟨by rw [HQ2.out];rfl,hb2⟩
  ·have hk2:cs.length≤k:=by omega
   have HQ2:=κ (show R = -1 by rw [←HR.out,hq,List.drop_of_length_le hk2];rfl)
   clear hq hk2
   go_wp2
   go_ret
   exact ⟨by rw [HQ2.out];rfl,hb⟩
def rV (l:List Nat):List Value:=l.map fun (i:Nat)=>.int .i64 (i:Int)
theorem Gu {l:List Nat} {k:Nat} (h:k<l.length):(rV l)[k]? = some (.int .i64 ((l[k]:Nat):Int)):=by simp [rV,List.getElem?_eq_getElem h]
def Fc (l:List Nat) (i:Nat):Bool:=l.contains i
theorem Fa (A:Option Addr) (c:Nat) (l:List Nat) (i:Nat) (w:World) (h:Rds w A (rV l)) (hn:l.length≤1000) :
 Calls prog 94 #[.slice A l.length c,.int .i64 i] w fun e w'=>(∃ j:Int,e=.returned (.int .i64 j)∧decide (0≤j)=Fc l i)∧w=w':=by
 have H:=κ h
 have hn':(l.length:Int)≤1000:=by omega
 clear h
 go_enter func94,ntmps94
 go_wp2_with fail
 go_loop [5,8] (fun _ s8=>∃ k:Nat,k≤l.length∧s8=.int .i64 k∧(l.take k).contains i=false) (fun _ s8=>l.length-(intOf s8).toNat)
 case atStart=>exact ⟨0,Nat.zero_le _,rfl,rfl⟩
 case round =>
  obtain ⟨k,hk,rfl,hq⟩:=hrel
  by_cases hlt:k<l.length
  ·obtain ⟨b,off,hA,hc⟩:=H.out.at_ (Gu hlt)
   have hq1:(l.take (k+1)).contains i=(i==l[k]):=by
    rw [List.take_succ_eq_append_getElem hlt,List.contains_eq_any_beq,List.any_append, ←List.contains_eq_any_beq,hq]
    simp
   have HE:i=l[k]→l.contains i=true:=by
    intro e
    rw [e]
    simp
   generalize l[k]=t at *
   subst hA
   by_cases he:i=t
   ·have HE':=κ (show Fc l i=true from HE he)
    have e1:((i:Int)==(t:Int))=true:=by rw [he];simp
    clear hq hq1 HE he
    go_wp2
    go_ret
    exact ⟨⟨_,rfl,by rw [HE'.out];simp⟩,rfl⟩
   ·have HQ:=κ (show (l.take (k+1)).contains i=false by rw [hq1];simpa using he)
    have e1:((i:Int)==(t:Int))=false:=by simp;omega
    clear hq hq1 HE he
    go_wp2
    go_round
    case rel=>exact ⟨k+1,by omega,by go_num,HQ.out⟩
    case measure=>simp [intOf];omega
  ·have hk2:k=l.length:=by omega
   have HQ:=κ (show Fc l i=false by show l.contains i=false;rwa [hk2,List.take_length] at hq)
   clear hq hk2
   go_wp2
   go_ret
   exact ⟨⟨_,rfl,by rw [HQ.out];rfl⟩,rfl⟩
theorem vY (A:Option Addr) (c:Nat) (l:List Nat) (i:Nat) (w:World) (h:Rds w A (rV l)) (hn:l.length≤1000) :
 Calls prog 45 #[.slice A l.length c,.int .i64 i] w fun e w'=>e=.returned (.bool (Fc l i))∧w=w':=by
 have HI:=κ (Fa A c l i w h hn)
 clear h
 generalize Fc l i=b at *
 go_enter func45,ntmps45
 go_wp2_with fail
 refine μ HI ?_
 rintro e w' ⟨⟨j,rfl,hj⟩,rfl⟩
 go_wp2
 go_ret
 exact ⟨by first|exact (by rw [hj])|exact congrArg (fun b=>Ending.returned (.bool b)) hj|rfl,rfl⟩
theorem xE {s:List UInt8} {cs:List Col} {j:Nat} (h:eX s cs=some j):∃ c,cs[j]? = some c∧c.n=s:=by
 obtain ⟨h1,h2⟩:=List.findIdx?_eq_some_iff_getElem.1 h
 exact ⟨cs[j],List.getElem?_eq_getElem h1,by simpa using h2.1⟩
theorem zG {cs:List Col} {ats:List Nat} {ss:List (List UInt8×Lp.X)} {j:Nat} {s:List UInt8} (h:ats.map some=ss.map fun p=>eX p.1 cs) (hj:eX s cs=some j):ats.contains j=(ss.map (·.1)).contains s:=by
 rw [Bool.eq_iff_iff,List.contains_iff_mem,List.contains_iff_mem]
 constructor
 ·intro hm
  have h1:some j∈ats.map some:=List.mem_map.2 ⟨j,hm,rfl⟩
  rw [h] at h1
  obtain ⟨p,h2,h3⟩:=List.mem_map.1 h1
  obtain ⟨c1,k1,k2⟩:=xE h3
  obtain ⟨c2,k3,k4⟩:=xE hj
  rw [k1] at k3
  injection k3 with k3
  exact List.mem_map.2 ⟨p,h2,by rw [←k2, ←k4,k3]⟩
 ·intro hm
  obtain ⟨p,h2,h3⟩:=List.mem_map.1 hm
  have h1:some j∈ss.map fun p=>eX p.1 cs:=List.mem_map.2 ⟨p,h2,by rw [h3];exact hj⟩
  rw [←h] at h1
  obtain ⟨j',h4,h5⟩:=List.mem_map.1 h1
  injection h5 with h5
  rw [←h5];exact h4
def SO2 (B:Nat) (v u:Value):Nat→Prop:=fun k=>B≤k∧some k≠v.ownBlock∧some k≠u.ownBlock
theorem zV {B:Nat} {v v' u:Value} {w w':World} (h:gD w w' v.ownBlock v'.ownBlock):Turn (SO2 B v u) (SO2 B v' u) w w':=by
 intro g hg hl
 obtain ⟨o,ho⟩:∃ o,w.heap[g]? = some o:=⟨w.heap[g],by simp [hl]⟩
 obtain ⟨k1,k2⟩:=h g o ho hg.2.1
 exact ⟨⟨hg.1,k2,hg.2.2⟩,k1.trans ho.symm⟩
theorem zU {B:Nat} {v u u':Value} {w w':World} (h:gD w w' u.ownBlock u'.ownBlock):Turn (SO2 B v u) (SO2 B v u') w w':=by
 intro g hg hl
 obtain ⟨o,ho⟩:∃ o,w.heap[g]? = some o:=⟨w.heap[g],by simp [hl]⟩
 obtain ⟨k1,k2⟩:=h g o ho hg.2.2
 exact ⟨⟨hg.1,hg.2.1,k2⟩,k1.trans ho.symm⟩
theorem Ve:(prog.info? 3).map (fun i=>(i.zero,i.size,i.bytes))=some (some (.int .i64 0),1,8):=by kernel_rfl
def Hf (tb:Tb) (ss:List (List UInt8×Lp.X)) (w:World) (e:Ending) (w':World):Prop :=
 Below w.heap.size w w'∧if lI tb [] ss=0 then ∃ Aa ca An cn ats gs,e=.returned (.tuple #[.slice Aa ss.length ca,.slice An ss.length cn,.int .i64 0])∧Rds w' Aa (rV ats)∧ats.map some=(ss.map fun p=>eX p.1 tb.cs)∧Rds w' An (gs.map ptr)∧NTs (fun k=>w.heap.size≤k) w' [tb] (ss.map (·.2)) gs
  else e=.returned (.tuple #[.slice none 0 0,.slice none 0 0,.int .i64 (lI tb [] ss)])
theorem rZ {tb:Tb} {ss:List (List UInt8×Lp.X)} {w w':World} {E:Int} (hE:E≠0) (hq:lI tb [] ss=E) (hb:Below w.heap.size w w'):Hf tb ss w (.returned (.tuple #[.slice none 0 0,.slice none 0 0,.int .i64 E])) w':=by
 subst hq
 exact ⟨hb,by rw [if_neg hE]⟩
theorem Mv {tb:Tb} {ss:List (List UInt8×Lp.X)} {w w':World} {A1 A2:Option Addr} {n c1 c2 B:Nat} {ats gs:List Nat} (hn:n=ss.length) (hB:w.heap.size≤B) (hq:lI tb [] ss=0) (hb:Below w.heap.size w w') (ho1:w'.ownsRow B 3 1 (.slice A1 n c1) n (rV ats)) (hats:ats.map some=(ss.map fun p=>eX p.1 tb.cs)) (hown:w'.ownsRow B 53 1 (.slice A2 n c2) n (gs.map ptr)) (hnt:NTs (SO2 B (.slice A1 n c1) (.slice A2 n c2)) w' [tb] (ss.map (·.2)) gs) :
 Hf tb ss w (.returned (.tuple #[.slice A1 n c1,.slice A2 n c2,.int .i64 0])) w':=by
 subst hn
 refine ⟨hb, ?_⟩
 rw [if_pos hq]
 exact ⟨A1,c1,A2,c2,ats,gs,rfl,Rds.own ho1,hats,Rds.own hown,NTs.turn (Turn.mono fun g hg _=>Nat.le_trans hB hg.1) hnt⟩
theorem Ht {B i c1 c2 c3 c4 g:Nat} {sc:List Tb} {x:Lp.X} {xs:List Lp.X} {gs:List Nat} {A1 A2 A3 A4:Option Addr} {ints vals:List Value} {wr w2 w4 w5:World} {o o2:Obj} (ho1:wr.ownsRow B 3 1 (.slice A1 i c1) i ints) (ho2:wr.ownsRow B 53 1 (.slice A2 i c2) i vals) (hnt:NTs (SO2 B (.slice A1 i c1) (.slice A2 i c2)) wr sc xs gs) (hb2:Below wr.heap.size wr w2) (hBw:B≤wr.heap.size)
 (hnx:NT (fun k=>wr.heap.size≤k) w2 sc x g) (hk:gD (w2.alloc o) w4 (Value.ownBlock (.slice A1 i c1)) (Value.ownBlock (.slice A3 (i+1) c3))) (hk2:gD (w4.alloc o2) w5 (Value.ownBlock (.slice A2 i c2)) (Value.ownBlock (.slice A4 (i+1) c4))):NTs (SO2 B (.slice A3 (i+1) c3) (.slice A4 (i+1) c4)) w5 sc (xs++[x]) (gs++[g]):=by
 have hb3:Below w2.heap.size w2 (w2.alloc o):=ρ
 have hb4:Below w4.heap.size w4 (w4.alloc o2):=ρ
 have h1:=NTs.turn (zU hk2) (NTs.turn (Turn.below hb4) (NTs.turn (zV hk) (NTs.turn (Turn.below hb3) (NTs.turn (Turn.below hb2) hnt))))
 have h2:NT (SO2 B (.slice A1 i c1) (.slice A2 i c2)) w2 sc x g:=hnx.turn (Turn.mono fun k hk' _=>by
  have h3:wr.heap.size≤k:=hk'
  exact ⟨Nat.le_trans hBw hk',eI ho1 h3,eI ho2 h3⟩)
 exact NTs.snoc (NT.turn (zU hk2) (NT.turn (Turn.below hb4) (NT.turn (zV hk) (NT.turn (Turn.below hb3) h2)))) h1
theorem Kf (nm:List UInt8) (At:Option Addr) (ct:Nat) (cs:List Col) (Al:Option Addr) (cl:Nat) (ss:List (List UInt8×Lp.X)) (vs:List Value) (w:World) (hc:Rds w At (fB cs)) (hl:Rds w Al vs) (hx:SetsX 0 w ss vs) (hn:ss.length≤100) (hcn:cs.length≤10) (hct:cs.length≤ct) (hwf:∀ p∈ss,p.2.wf) :
 Calls prog 14 #[.agg #[.string ⟨nm.toArray⟩,.slice At cs.length ct],.slice Al ss.length cl] w (Hf ⟨nm,cs⟩ ss w):=by
 obtain ⟨iT,hiT,hz0,hz1,hz2⟩:=info_parts tS
 obtain ⟨iI,hiI,hy0,hy1,hy2⟩:=info_parts Ve
 have hb0:Below w.heap.size w (w.alloc (.cells #[.string ⟨nm.toArray⟩,.slice At cs.length ct] 50)):=ρ
 have H0:=κ (ι (hc.below hb0) (ι (hl.below hb0) (ι hb0 (heap_alloc_new w (.cells #[.string ⟨nm.toArray⟩,.slice At cs.length ct] 50)))))
 have HP:=κ (SetsX.stays (StaysT.below hb0) hx)
 have HWF:=κ hwf
 have hnI:(ss.length:Int)≤100:=by omega
 have hcI:(cs.length:Int)≤10:=by omega
 have hctI:(cs.length:Int)≤(ct:Int):=by omega
 have HWD:=κ (show bW [⟨nm,cs⟩]≤10000 by simp [bW];omega)
 clear hc hl hx hwf hb0
 go_enter func14,ntmps14
 go_wp2_with fail
 generalize (w.alloc (.cells #[.string ⟨nm.toArray⟩,.slice At cs.length ct] 50))=W0 at *
 go_loopw [7,8,10,11,12,13,16] (fun s7 s8 _ _ _ _ s16 wr=>∃ (i:Nat) (A1:Option Addr) (c1:Nat) (A2:Option Addr) (c2:Nat) (ats gs:List Nat),i≤ss.length∧s16=.int .i64 i∧s7=.slice A1 i c1∧s8=.slice A2 i c2∧wr.ownsRow W0.heap.size 3 1 (.slice A1 i c1) i (rV ats)∧ats.map some=((ss.take i).map fun p=>eX p.1 cs)∧wr.ownsRow W0.heap.size 53 1 (.slice A2 i c2) i (gs.map ptr)∧NTs (SO2 W0.heap.size (.slice A1 i c1) (.slice A2 i c2)) wr [⟨nm,cs⟩] ((ss.take i).map (·.2)) gs∧lI ⟨nm,cs⟩ [] ss=lI ⟨nm,cs⟩ ((ss.take i).map (·.1)) (ss.drop i)∧Below W0.heap.size W0 wr) (fun _ _ _ _ _ _ s16 _=>ss.length-(intOf s16).toNat)
 case atStart=>exact ⟨0,none,0,none,0,[],[],Nat.zero_le _,rfl,rfl,rfl,World.ownsRow_nil _ _ _ _,rfl,World.ownsRow_nil _ _ _ _,trivial,rfl,θ⟩
 case round =>
  obtain ⟨i,A1,c1,A2,c2,ats,gs,hi,rfl,rfl,rfl,ho1,hats,ho2,hnt,hfe,hb⟩:=hrel
  by_cases hlt:i<ss.length
  ·have hT1:ss.take (i+1)=ss.take i++[ss[i]]:=List.take_succ_eq_append_getElem hlt
   obtain ⟨v,a0,a1,hpx⟩:=SetsX.at_ (SetsX.stays (StaysT.below hb) HP.out) hlt
   obtain ⟨b,off,hA,q0⟩:=(H0.out.2.1.below hb).at_ a0
   obtain ⟨b',off',hA',q1⟩:=(H0.out.2.1.below hb).at_ a1
   subst hA
   simp only [Option.some.injEq,Addr.mk.injEq,and_true] at hA'
   obtain ⟨rfl,rfl⟩:=hA'
   rw [←Nat.add_assoc] at q1
   have hwx:=HWF.out _ (List.getElem_mem hlt)
   rw [Gh _ hlt] at hfe
   have hln:ats.length=i:=by
    have:=congrArg List.length hats
    rw [List.length_map,List.length_map,List.length_take] at this
    omega
   obtain ⟨p,hpp⟩:∃ p,ss[i]=p:=⟨_,rfl⟩
   rw [hpp] at q0 hpx hwx hfe hT1
   obtain ⟨s,x⟩:=p
   simp only at q0 hpx hwx hfe
   have hct1:=fun j (hj:eX s cs=some j)=>zG hats hj
   obtain ⟨T1,g1,hvf⟩:=hpx.form
   subst hvf
   have hb1:Below wr.heap.size wr (wr.alloc (.cells #[.string ⟨s.toArray⟩,.iface T1 (.pointer (some ⟨g1,0,none⟩))] 129)):=ρ
   have hs1:=heap_alloc_new wr (.cells #[.string ⟨s.toArray⟩,.iface T1 (.pointer (some ⟨g1,0,none⟩))] 129)
   have hk1:=hb.trans (hb1.mono hb.size)
   have hx1:=aA H0.out.2.2.2 hk1
   have HI:=κ (Fb wr.heap.size s (.iface T1 (.pointer (some ⟨g1,0,none⟩))) At ct cs _ (H0.out.1.below hk1) hs1 hcn)
   have HW:=κ (ι ho1 (ι ho2 (ι hnt (ι hb hats))))
   have HX:=κ (ι (PX.keep (aK hb1) hpx) (ι hwx (ι hT1 (ι hct1 hln))))
   have H1:=κ (ι hb1 (ι hs1 (ι hk1 hx1)))
   have HFE:=κ hfe
   have cx1:=β hx1
   clear a0 a1 hpx hwx hfe hT1 hct1 hb1 hs1 hk1 hx1 ho1 ho2 hnt hb hats hln hpp
   go_wp2_with fail
   refine μ HI ?_
   rintro e w2 ⟨rfl,hb2⟩
   have hbw2:=H1.out.1.trans (hb2.mono H1.out.1.size)
   have hk2:=HW.out.2.2.2.1.trans (hbw2.mono HW.out.2.2.2.1.size)
   have hs2:=aA H1.out.2.1 hb2
   have hx2:=aA H0.out.2.2.2 hk2
   rcases hj:eX s cs with _|j
   ·have HR:=κ (rZ (w:=w) (w':=w2) (E:=6) (by decide) (by rw [HFE.out,hj]) (H0.out.2.2.1.trans (hk2.mono H0.out.2.2.1.size)))
    clear hj hb2 hbw2 hk2 hs2 hx2 cx1 q0 q1
    simp only [yT]
    go_wp2
    go_ret3
    exact HR.out
   ·have hjl:j<cs.length:=Ha hj
    have hck:(cs[j]?.map (·.k)).getD 0=(cs[j]).k:=by rw [List.getElem?_eq_getElem hjl];rfl
    have hE:=HFE.out
    rw [hj] at hE
    simp only [hck] at hE
    rw [←HX.out.2.2.2.1 j hj,show ats.contains j=Fc ats j from rfl] at hE
    have HC:=κ (HX.out.2.2.2.2▸vY A1 c1 ats j w2 (Rds.own (HX.out.2.2.2.2.symm▸aQ HW.out.1 hbw2)) (by have:=HX.out.2.2.2.2;omega))
    obtain ⟨bc,oc,hAt, -,p1⟩:=vC (H0.out.1.below hk2) hjl
    subst hAt
    generalize (cs[j]).k=ck at *
    have hj0:(0:Int)≤(j:Int):=by omega
    have hjI:(j:Int)<(cs.length:Int):=by omega
    have cs2:=β hs2
    have cx2:=β hx2
    have HJ:=κ hj
    have H2:=κ (ι hbw2 (ι hk2 (ι hs2 (ι hx2 (PX.keep (aK hb2) HX.out.1)))))
    simp only [yT]
    clear hj hck hb2 hbw2 hk2 hs2 hx2 cx1 q0 q1 HFE HI
    cases hcn2:Fc ats j
    ·rw [hcn2] at hE HC
     simp only [φ,if_false] at hE
     have hb3:Below w2.heap.size w2 (w2.alloc (.cells #[.string ⟨nm.toArray⟩,.slice (some ⟨bc,oc,none⟩) cs.length ct] 50)):=ρ
     have hsc:ScM (w2.alloc (.cells #[.string ⟨nm.toArray⟩,.slice (some ⟨bc,oc,none⟩) cs.length ct] 50)) (some ⟨w2.heap.size,0,none⟩) [⟨nm,cs⟩]:=⟨[(⟨nm,cs⟩,some ⟨bc,oc,none⟩,ct)],rfl,cK w2 [.string ⟨nm.toArray⟩,.slice (some ⟨bc,oc,none⟩) cs.length ct] _,fun p hp=>by
      rw [List.mem_singleton] at hp
      rw [hp]
      exact (H0.out.1.below H2.out.2.1).below hb3⟩
     have HBE:=κ (mB (some ⟨w2.heap.size,0,none⟩) 1 [⟨nm,cs⟩] false x (.iface T1 (.pointer (some ⟨g1,0,none⟩))) _ (by simp) HWD.out HX.out.2.1 (PX.keep (aK hb3) H2.out.2.2.2.2) hsc)
     have HB3:=κ hb3
     have cs3:=β (aA H2.out.2.2.1 hb3)
     clear hcn2 hb3 hsc
     go_wp2_with fail
     refine μ HC ?_
     rintro e w3 ⟨rfl,rfl⟩
     go_wp2_with fail
     refine μ HBE ?_
     rintro e w4 ⟨hb4,hq⟩
     have hb34:=HB3.out.trans (hb4.mono HB3.out.size)
     have hbw4:=H2.out.1.trans (hb34.mono H2.out.1.size)
     have hk4:=HW.out.2.2.2.1.trans (hbw4.mono HW.out.2.2.2.1.size)
     by_cases hk:(aD [⟨nm,cs⟩] x false).2=0
     ·rw [if_pos hk] at hq hE
      obtain ⟨g,rfl,hnx⟩:=hq
      obtain ⟨op,v0,a0,An,n0,cn,hcl⟩:=hnx.kind hk
      have p4:=(hb34.cell (p:=⟨bc,oc+j*2+1,none⟩) (World.block_lt_of_cell? _ _ p1)).trans p1
      have hbx4:=β (aA H2.out.2.2.2.1 hb34) 1
      simp only [γ,δ,ε] at hbx4
      have HF:=κ (pW g op _ v0 a0 An n0 cn ck w4 hcl)
      have own1:=aQ HW.out.1 hbw4
      have own2:=aQ HW.out.2.1 hbw4
      have hzw:W0.heap.size≤w4.heap.size:=hk4.size
      have hnx4:NT (fun k=>wr.heap.size≤k) w4 [⟨nm,cs⟩] x g:=hnx.turn (Turn.mono fun k hk' _=>Nat.le_trans (Nat.le_trans H2.out.1.size HB3.out.size) hk')
      simp only [ptr] at HF ⊢
      have HN:=κ (ι hnx4 (ι hbw4 (ι hk4 hE)))
      clear hb4 hnx hk hcl hE HBE HC hb34 hbw4 hk4 hnx4 p1 cs2 cx2 cs3
      cases hf:fitK (aD [⟨nm,cs⟩] x false).1 ck
      ·rw [hf] at HF HN
       have HR:=κ (rZ (w:=w) (w':=w4) (E:=8) (by decide) HN.out.2.2.2 (H0.out.2.2.1.trans (HN.out.2.2.1.mono H0.out.2.2.1.size)))
       clear hf
       go_wp2_with fail
       refine μ HF ?_
       rintro e w5 ⟨rfl,rfl⟩
       go_wp2
       go_ret3
       exact HR.out
      ·rw [hf] at HF HN
       have HE:=κ (show lI ⟨nm,cs⟩ [] ss=lI ⟨nm,cs⟩ ((ss.take (i+1)).map (·.1)) (ss.drop (i+1)) from HN.out.2.2.2)
       clear hf
       go_wp2_with fail
       refine μ HF ?_
       rintro e w5 ⟨rfl,rfl⟩
       go_wp2_with (at_builtin;first
        | (refine bH _ rfl (.tmp 59) (.tmp 61) _ rfl W0.heap.size 53 iT _ 1 8 underlying46 hiT hz0 hz1 hz2 rfl (by omega) _ _ _ _ rfl (own6.alloc _) _ 1 1 [ptr g] rfl rfl (bD [ptr g] (heap_alloc_new w6 _)) (by simp [Value.oneCell',ptr]) (by simp only [maxLen];omega) (by omega) (by simp;omega) ?_;intro A4 c4 w7 ho7 hb7 hg7 hk7)
        | (refine bH _ rfl (.tmp 55) (.tmp 57) _ rfl W0.heap.size 3 iI _ 1 8 underlying62 hiI hy0 hy1 hy2 rfl (by omega) _ _ _ _ rfl (own1.alloc _) _ 1 1 [.int .i64 j] rfl rfl (bD [.int .i64 j] (heap_alloc_new w4 _)) (by simp [Value.oneCell']) (by simp only [maxLen];omega) (by omega) (by simp;omega) ?_;intro A3 c3 w6 ho6 hb6 hg6 hk6;have own6:=kI (own2.alloc _) (own1.alloc _) (by decide) hg6;have hz6:=Nat.le_trans hzw (Nat.le_trans (Nat.le_succ _) (World.size_alloc w4 (.cells #[.int .i64 j] 3)▸hb6.size))))
       have ho8:=kI (ho6.alloc (.cells #[.pointer (some ⟨g,0,none⟩)] 53)) (own6.alloc (.cells #[.pointer (some ⟨g,0,none⟩)] 53)) (by decide) hg7
       have hst:=Ht HW.out.1 HW.out.2.1 HW.out.2.2.1 HN.out.2.1 HW.out.2.2.2.1.size HN.out.1 hk6 hk7
       have hbn:=((HN.out.2.2.1.alloc HN.out.2.2.1.size (.cells #[.int .i64 j] 3)).trans hb6 |>.alloc hz6 (.cells #[.pointer (some ⟨g,0,none⟩)] 53)).trans hb7
       have hT2:(ss.take (i+1)).map (·.2)=(ss.take i).map (·.2)++[x]:=by rw [HX.out.2.2.1,List.map_append];rfl
       rw [←hT2] at hst
       have hat2:(ats++[j]).map some=(ss.take (i+1)).map fun p=>eX p.1 cs:=by rw [HX.out.2.2.1,List.map_append,List.map_append,HW.out.2.2.2.2];simp [HJ.out]
       have HNX:=κ (ι ho7 (ι ho8 (ι hst (ι hbn hat2))))
       clear own1 own2 own6 ho6 ho7 ho8 hb6 hb7 hg6 hg7 hk6 hk7 hst hbn hat2 hT2 hbx4 p4 hz6
       go_wp2
       go_roundw
       case rel=>exact ⟨i+1,A3,c3,A4,c4,ats++[j],gs++[g],by omega,by go_num,rfl,rfl,by rw [show rV (ats++[j])=rV ats++[.int .i64 (j:Int)] by simp [rV]];exact HNX.out.2.1,HNX.out.2.2.2.2,by rw [List.map_append];exact HNX.out.1,HNX.out.2.2.1,HE.out,HNX.out.2.2.2.1⟩
       case measure=>simp [intOf];omega
     ·rw [if_neg hk] at hq hE
      subst hq
      have HR:=κ (rZ (w:=w) (w':=w4) hk hE (H0.out.2.2.1.trans (hk4.mono H0.out.2.2.1.size)))
      clear hE hb4 hb34 hbw4 hk4 HBE HC
      generalize (aD [⟨nm,cs⟩] x false).2=E at *
      have e1:(E==0)=false:=η hk
      have e2:(E !=0)=true:=by rw [bne,e1];rfl
      clear hk p1 cs2 cx2 cs3
      go_wp2
      go_ret3
      exact HR.out
    ·rw [hcn2] at hE HC
     have HR:=κ (rZ (w:=w) (w':=w2) (E:=3) (by decide) (hE.trans rfl) (H0.out.2.2.1.trans (H2.out.2.1.mono H0.out.2.2.1.size)))
     clear hcn2 hE p1 cs2 cx2
     go_wp2_with fail
     refine μ HC ?_
     rintro e w3 ⟨rfl,rfl⟩
     go_wp2
     go_ret3
     exact HR.out
  ·have hi2:i=ss.length:=by omega
   rw [List.drop_of_length_le (by omega)] at hfe
   rw [hi2,List.take_length] at hnt hats
   have HR:=κ (Mv (w:=w) hi2 H0.out.2.2.1.size (hfe.trans rfl) (H0.out.2.2.1.trans (hb.mono H0.out.2.2.1.size)) ho1 hats ho2 (by rw [hi2] at *;exact hnt))
   clear hi2 hnt hfe ho1 ho2 hats hb
   go_wp2
   go_ret3
   exact HR.out
def svc (p:List UInt8×RC):List Value:=p.2.cells++[.string ⟨p.1.toArray⟩,.bool false]
def sv (L:List (List UInt8×RC)):List Value:=L.flatMap svc
theorem Xg {L:List (List UInt8×RC)} {i k:Nat} (hi:i<L.length) (hk:k<10):(sv L)[i*10+k]? = (svc L[i])[k]? := sD (f:=svc) (n:=10) (fun _=>rfl) L i k hi hk
theorem sW {w:World} {A:Option Addr} {L:List (List UInt8×RC)} (h:Rds w A (sv L)) {i:Nat} (hi:i<L.length):∃ b off,A=some ⟨b,off,none⟩∧w.cell? ⟨b,off+i*10,none⟩=some (.int .u8 (L[i]).2.k)∧w.cell? ⟨b,off+i*10+1,none⟩=some (.int .u8 (L[i]).2.vk)∧w.cell? ⟨b,off+i*10+2,none⟩=some (.int .i64 (L[i]).2.vi)∧w.cell? ⟨b,off+i*10+3,none⟩=some (.string (L[i]).2.vs)∧w.cell? ⟨b,off+i*10+4,none⟩=some (.bool (L[i]).2.vb)∧w.cell? ⟨b,off+i*10+5,none⟩=some (.string (L[i]).2.t)∧w.cell? ⟨b,off+i*10+6,none⟩=some (.string (L[i]).2.s)∧w.cell? ⟨b,off+i*10+7,none⟩=some (.slice (L[i]).2.A (L[i]).2.n (L[i]).2.c)∧w.cell? ⟨b,off+i*10+8,none⟩=some (.string ⟨(L[i]).1.toArray⟩)∧w.cell? ⟨b,off+i*10+9,none⟩=some (.bool false):=by
 rcases h with hn|⟨b,off,rfl,hc⟩
 ·have h0:=Xg (k:=0) hi (by omega)
  rw [hn] at h0
  simp [svc,RC.cells] at h0
 ·have key:∀ k u,k<10→(svc L[i])[k]? = some u→w.cell? ⟨b,off+i*10+k,none⟩=some u:=fun k u hk hu=>by
   rw [Nat.add_assoc]
   exact hc _ _ ((Xg hi hk).trans hu)
  exact ⟨b,off,rfl,key 0 _ (by omega) rfl,key 1 _ (by omega) rfl,key 2 _ (by omega) rfl,key 3 _ (by omega) rfl,key 4 _ (by omega) rfl,key 5 _ (by omega) rfl,key 6 _ (by omega) rfl,key 7 _ (by omega) rfl,key 8 _ (by omega) rfl,key 9 _ (by omega) rfl⟩
theorem Hd (tb:Tb) (s:List UInt8) (h:rF tb.cs):atX [tb] [] s=yT (eX s tb.cs):=by
 unfold atX
 rw [Qh tb s h]
 cases eX s tb.cs<;>rfl
def tC (l:List (List UInt8×Lp.X)) (s:List UInt8):Bool:=(l.map (·.1)).contains s
theorem Hw {ss:List (List UInt8×Lp.X)} {s:List UInt8} {m:Nat} (h:m<ss.length) (h1:tC (ss.take m) s=false) (h2:((ss[m]).1==s)=false):tC (ss.take (m+1)) s=false:=by
 unfold tC at h1 ⊢
 rw [List.take_succ_eq_append_getElem h,List.map_append,List.contains_eq_any_beq,List.any_append, ←List.contains_eq_any_beq,h1]
 have:¬s=(ss[m]).1:=fun e=>by rw [e] at h2;simp at h2
 simp [this]
theorem My {ss:List (List UInt8×Lp.X)} {s:List UInt8} {m i:Nat} (h:m<ss.length) (hi:m<i) (h2:((ss[m]).1==s)=true):tC (ss.take i) s=true:=by
 unfold tC
 rw [List.contains_iff_mem, ←eq_of_beq h2]
 exact List.mem_map.2 ⟨ss[m],List.mem_take_iff_getElem.2 ⟨m,by omega,rfl⟩,rfl⟩
theorem tB (nm:List UInt8) (At:Option Addr) (ct:Nat) (cs:List Col) (Al:Option Addr) (cl:Nat) (ss:List (List UInt8×Lp.X)) (L:List (List UInt8×RC)) (S:Nat→Prop) (w:World) (hT:TabOk w (⟨nm,cs⟩,At,ct)) (hd:rF cs) (hl:Rds w Al (sv L)) (hL:L.map (·.1)=ss.map (·.1)) (hx:RXL S w (ss.map (·.2)) (L.map (·.2))) (hn:ss.length≤100) (hcn:cs.length≤10) (hcl:ss.length≤cl) (hwf:∀ p∈ss,p.2.wf) :
 Calls prog 15 #[.agg #[.string ⟨nm.toArray⟩,.slice At cs.length ct],.slice Al ss.length cl] w fun e w'=>e=.returned (.int .i64 (lI ⟨nm,cs⟩ [] ss))∧Below w.heap.size w w':=by
 have hb0:Below w.heap.size w (w.alloc (.cells #[.string ⟨nm.toArray⟩,.slice At cs.length ct] 52)):=ρ
 have H0:=κ (ι (hT.below hb0) (ι (hl.below hb0) (ι hb0 (ι (heap_alloc_new w (.cells #[.string ⟨nm.toArray⟩,.slice At cs.length ct] 52)) hd))))
 have HP:=κ (hx.below hb0)
 have HWF:=κ hwf
 have hll:L.length=ss.length:=by have:=congrArg List.length hL;simpa using this
 have HL:=κ (ι hll hL)
 have hnI:(ss.length:Int)≤100:=by omega
 have hcI:(cs.length:Int)≤10:=by omega
 have hctI:(cs.length:Int)≤(ct:Int):=by have:=hT.2.2.1;simp only at this;omega
 have hclI:(ss.length:Int)≤(cl:Int):=by omega
 have HWD:=κ (show bW (aX [((⟨nm,cs⟩,At,ct):dL)])≤10000 by simp [bW,aX];omega)
 obtain ⟨R,hR⟩:∃ R,lI ⟨nm,cs⟩ [] ss=R:=⟨_,rfl⟩
 have HR0:=κ hR
 rw [hR]
 clear hT hd hl hL hx hwf hb0 hll hR
 go_enter func15,ntmps15
 go_wp2_with fail
 generalize (w.alloc (.cells #[.string ⟨nm.toArray⟩,.slice At cs.length ct] 52))=W0 at *
 go_loopw [5,6,7,9,10,11,14] (fun _ _ _ _ _ _ s14 wr=>∃ i:Nat,i≤ss.length∧s14=.int .i64 i∧lI ⟨nm,cs⟩ [] ss=lI ⟨nm,cs⟩ ((ss.take i).map (·.1)) (ss.drop i)∧Below W0.heap.size W0 wr) (fun _ _ _ _ _ _ s14 _=>ss.length-(intOf s14).toNat)
 case atStart=>exact ⟨0,Nat.zero_le _,rfl,rfl,θ⟩
 case round =>
  obtain ⟨i,hi,rfl,hfe,hb⟩:=hrel
  by_cases hlt:i<ss.length
  ·have hiL:i<L.length:=by have:=HL.out.1;omega
   obtain ⟨b,off,hA,q0,q1,q2,q3,q4,q5,q6,q7,q8,q9⟩:=sW (H0.out.2.1.below hb) hiL
   have hwx:=HWF.out _ (List.getElem_mem hlt)
   rw [Gh _ hlt] at hfe
   have hpx:=(HP.out.below hb).at_ (i:=i) (by simpa using hlt) (by simpa using hiL)
   rw [List.getElem_map,List.getElem_map] at hpx
   have hnm:(L[i]).1=(ss[i]).1:=by
    have:=congrArg (fun l=>l[i]?) HL.out.2
    simpa [List.getElem?_eq_getElem hiL,List.getElem?_eq_getElem hlt] using this
   rw [hnm] at q8
   obtain ⟨p,hpp⟩:∃ p,ss[i]=p:=⟨_,rfl⟩
   rw [hpp] at q8 hpx hwx hfe
   obtain ⟨s,x⟩:=p
   simp only at q8 hpx hwx hfe
   generalize L[i]=lp at *
   obtain ⟨ln,rr⟩:=lp
   obtain ⟨k,vk,vi,vs,vb,tt,sx,Ae,nn,ce⟩:=rr
   simp only at q0 q1 q2 q3 q4 q5 q6 q7 hpx
   have hb1:Below wr.heap.size wr (wr.alloc (.cells #[.int .u8 k,.int .u8 vk,.int .i64 vi,.string vs,.bool vb,.string tt,.string sx,.slice Ae nn ce,.string ⟨s.toArray⟩,.bool false] 72)):=ρ
   have hs1:=heap_alloc_new wr (.cells #[.int .u8 k,.int .u8 vk,.int .i64 vi,.string vs,.bool vb,.string tt,.string sx,.slice Ae nn ce,.string ⟨s.toArray⟩,.bool false] 72)
   have hk1:=hb.trans (hb1.mono hb.size)
   have hx1:=aA H0.out.2.2.2.1 hk1
   have HX:=κ (ι (RX.below hb1 hpx) hwx)
   have HFE:=κ hfe
   have hbase:wr.heap.size+1=(wr.alloc (.cells #[.int .u8 k,.int .u8 vk,.int .i64 vi,.string vs,.bool vb,.string tt,.string sx,.slice Ae nn ce,.string ⟨s.toArray⟩,.bool false] 72)).heap.size:=(World.size_alloc ..).symm
   have H1:=κ (ι hb1 (ι hs1 (ι hk1 hx1)))
   subst hA
   clear hwx hfe hpx hnm hpp hb1
   go_upto_region 4 with fail
   obtain ⟨W1,hW1⟩:∃ W1,wr.alloc (.cells #[.int .u8 k,.int .u8 vk,.int .i64 vi,.string vs,.bool vb,.string tt,.string sx,.slice Ae nn ce,.string ⟨s.toArray⟩,.bool false] 72)=W1:=⟨_,rfl⟩
   rw [hW1] at H1 HX hbase hs1 hk1 hx1 ⊢
   have hb2:Below W1.heap.size W1 (W1.alloc (.cells #[.string ⟨nm.toArray⟩,.slice At cs.length ct] 52)):=ρ
   have hk2:=hk1.trans (hb2.mono hk1.size)
   have hF:=nU (some ⟨W1.heap.size,0,none⟩) 1 [((⟨nm,cs⟩,At,ct):dL)] [] s _ (⟨cK W1 [.string ⟨nm.toArray⟩,.slice At cs.length ct] _,fun u hu=>by
    rw [List.mem_singleton] at hu
    rw [hu]
    exact H0.out.1.below hk2⟩:ScA _ _ _) (by simp) HWD.out
   rw [show atX (aX [((⟨nm,cs⟩,At,ct):dL)]) [] s=yT (eX s cs) from Hd ⟨nm,cs⟩ s H0.out.2.2.2.2] at hF
   have HF:=κ hF
   have cx1:=β hx1
   have cs1:=β hs1 8
   have cs2:=β (aC hs1 (.cells #[.string ⟨nm.toArray⟩,.slice At cs.length ct] 52)) 8
   simp only [γ,δ,ε] at cs1 cs2
   have HB2:=κ hb2
   clear hW1 hb2 hF hs1 hk1 hx1 hk2 hbase q0 q1 q2 q3 q4 q5 q6 q7 q8 q9
   go_wp2_with fail
   refine μ HF ?_
   rintro e w3 ⟨rfl,hb3⟩
   have hb13:=HB2.out.trans (hb3.mono HB2.out.size)
   have hk3:=H1.out.2.2.1.trans (hb13.mono H1.out.2.2.1.size)
   rcases hj:eX s cs with _|j
   ·have HR:=κ (show R=6 by rw [←HR0.out,HFE.out,hj])
    have HE:=κ (H0.out.2.2.1.trans (hk3.mono H0.out.2.2.1.size))
    clear hj hb3 hb13 hk3 cx1 cs1 cs2 HF
    simp only [yT]
    go_wp2
    go_ret
    exact ⟨by rw [HR.out];rfl,HE.out⟩
   ·have hjl:j<cs.length:=Ha hj
    have hck:(cs[j]?.map (·.k)).getD 0=(cs[j]).k:=by rw [List.getElem?_eq_getElem hjl];rfl
    have hE:=HR0.out.symm.trans HFE.out
    rw [hj] at hE
    simp only [hck] at hE
    rw [show ((ss.take i).map (·.1)).contains s=tC (ss.take i) s from rfl] at hE
    generalize (cs[j]).k=ck at *
    have HE0:=κ hE
    have H3:=κ (ι hb13 (ι hk3 (aA H1.out.2.1 hb13)))
    have HJ:=κ (ι hj hck)
    have hj0:(0:Int)≤(j:Int):=by omega
    have hjI:(j:Int)<(cs.length:Int):=by omega
    have hiI:(i:Int)≤(cl:Int):=by omega
    have hi0:(0:Int)≤(i:Int):=by omega
    clear hj hck hE hb3 hb13 hk3 cx1 cs1 cs2 HF HFE HB2
    simp only [yT]
    go_wp2_with fail
    go_loopw [9,30] (fun _ s30 wq=>∃ m:Nat,m≤i∧s30=.int .i64 m∧Below w3.heap.size w3 wq∧tC (ss.take m) s=false) (fun _ s30 _=>i-(intOf s30).toNat)
    case atStart=>exact ⟨0,Nat.zero_le _,rfl,θ,rfl⟩
    case round =>
     obtain ⟨m,hm,rfl,hbq,hsn⟩:=hrel
     have hkq:=H3.out.2.1.trans (hbq.mono H3.out.2.1.size)
     by_cases hml:m<i
     ·have hmL:m<L.length:=by have:=HL.out.1;omega
      obtain ⟨b',off',hA',q0,q1,q2,q3,q4,q5,q6,q7,q8,q9⟩:=sW (H0.out.2.1.below hkq) hmL
      simp only [Option.some.injEq,Addr.mk.injEq,and_true] at hA'
      obtain ⟨rfl,rfl⟩:=hA'
      have hms:m<ss.length:=by omega
      have hnm:(L[m]).1=(ss[m]).1:=by
       have:=congrArg (fun l=>l[m]?) HL.out.2
       simpa [List.getElem?_eq_getElem hmL,List.getElem?_eq_getElem hms] using this
      rw [hnm] at q8
      have HN:=κ (ι (fun (h:((ss[m]).1==s)=false)=>Hw hms hsn h) (fun (h:((ss[m]).1==s)=true)=>My hms hml h))
      generalize (ss[m]).1=ns at *
      generalize (L[m]).2=rr at *
      obtain ⟨k',vk',vi',vs',vb',tt',sx',Ae',nn',ce'⟩:=rr
      simp only at q0 q1 q2 q3 q4 q5 q6 q7
      have cs3:=β (aC (aA H3.out.2.2 hbq) (.cells #[.int .u8 k',.int .u8 vk',.int .i64 vi',.string vs',.bool vb',.string tt',.string sx',.slice Ae' nn' ce',.string ⟨ns.toArray⟩,.bool false] 72)) 8
      simp only [γ,δ,ε] at cs3
      have HBQ:=κ (ι (hbq.alloc hbq.size (.cells #[.int .u8 k',.int .u8 vk',.int .i64 vi',.string vs',.bool vb',.string tt',.string sx',.slice Ae' nn' ce',.string ⟨ns.toArray⟩,.bool false] 72)) (H0.out.2.2.1.trans (hkq.mono H0.out.2.2.1.size)))
      clear hbq hkq hsn hnm
      cases he:(ns==s)
      ·have HN2:=κ (HN.out.1 he)
       go_wp2
       go_roundw
       case rel=>exact ⟨m+1,by omega,by go_num,HBQ.out.1,HN2.out⟩
       case measure=>simp [intOf];omega
      ·have HR:=κ (show R=3 by rw [HE0.out,HN.out.2 he];rfl)
       go_wp2
       go_ret
       exact ⟨by rw [HR.out];rfl,HBQ.out.2.alloc HBQ.out.2.size _⟩
     ·have hmi:m=i:=by omega
      subst hmi
      have hE:=HE0.out
      rw [hsn] at hE
      simp only [φ,if_false] at hE
      have hb4:Below wr.heap.size wr (wr.alloc (.cells #[.string ⟨nm.toArray⟩,.slice At cs.length ct] 52)):=ρ
      have hk4:=hkq.trans (hb4.mono hkq.size)
      have hbx:=(H3.out.1.trans (hbq.mono H3.out.1.size)).trans (hb4.mono (Nat.le_trans H3.out.1.size hbq.size))
      have hK:=uK (some ⟨wr.heap.size,0,none⟩) 1 [((⟨nm,cs⟩,At,ct):dL)] (by simp) HWD.out x HX.out.2 false S _ _ (⟨cK wr [.string ⟨nm.toArray⟩,.slice At cs.length ct] _,fun u hu=>by
       rw [List.mem_singleton] at hu
       rw [hu]
       exact H0.out.1.below hk4⟩:ScA _ _ _) (RX.below hbx HX.out.1)
      rw [show aX [((⟨nm,cs⟩,At,ct):dL)]=[⟨nm,cs⟩] from rfl] at hK
      simp only [RC.val] at hK
      have HK:=κ hK
      have cx4:=β (aA H0.out.2.2.2.1 hkq)
      have cs4:=β (aA H3.out.2.2 (hbq.trans (hb4.mono hbq.size)))
      have HB4:=κ (ι hkq hk4)
      clear hsn hb4 hk4 hbx hK hbq hkq HE0
      go_wp2_with fail
      refine μ HK ?_
      rintro e w5 ⟨rfl,hb5⟩
      have hk5:=HB4.out.2.trans (hb5.mono HB4.out.2.size)
      obtain ⟨bc,oc,hAt, -,p1⟩:=Gz (H0.out.1.below hk5).2.1 hjl
      simp only at hAt p1
      rw [List.getElem?_eq_getElem hjl] at HJ
      have hck:(cs[j]).k=ck:=HJ.out.2
      rw [hck] at p1
      have cx5:=β (aA H0.out.2.2.2.1 hk5) 1
      simp only [γ,δ,ε] at cx5
      have HE:=κ (ι hk5 (H0.out.2.2.1.trans (hk5.mono H0.out.2.2.1.size)))
      subst hAt
      clear hb5 hk5 cx4 cs4 hck HK
      by_cases hk:(aD [⟨nm,cs⟩] x false).2=0
      ·rw [if_pos hk] at hE
       rw [hk]
       clear hk
       have hf:fitK (aD [⟨nm,cs⟩] x false).1 ck=((aD [⟨nm,cs⟩] x false).1==ck||(aD [⟨nm,cs⟩] x false).1==0):=rfl
       rw [hf] at hE
       generalize (aD [⟨nm,cs⟩] x false).1=K at *
       clear hf
       cases e1:(K==0)
       ·have e1':(K !=0)=true:=by rw [bne,e1];rfl
        cases e2:(K==ck)
        ·have e2':(K !=ck)=true:=by rw [bne,e2];rfl
         rw [e1,e2] at hE
         have HR:=κ (hE.trans rfl)
         clear hE
         go_wp2
         go_ret
         exact ⟨by rw [HR.out];rfl,HE.out.2⟩
        ·have e2':(K !=ck)=false:=by rw [bne,e2];rfl
         rw [e1,e2] at hE
         have HE2:=κ (HR0.out.trans hE)
         clear hE
         go_wp2
         go_roundw
         case rel=>exact ⟨m+1,by omega,by go_num,HE2.out,HE.out.1⟩
         case measure=>simp [intOf];omega
       ·have e1':(K !=0)=false:=by rw [bne,e1];rfl
        rw [e1,Bool.or_true] at hE
        have HE2:=κ (HR0.out.trans hE)
        clear hE
        go_wp2
        go_roundw
        case rel=>exact ⟨m+1,by omega,by go_num,HE2.out,HE.out.1⟩
        case measure=>simp [intOf];omega
      ·rw [if_neg hk] at hE
       have HR:=κ hE
       clear hE
       generalize (aD [⟨nm,cs⟩] x false).2=E at *
       have e1:(E==0)=false:=η hk
       have e2:(E !=0)=true:=by rw [bne,e1];rfl
       clear hk
       go_wp2
       go_ret
       exact ⟨by rw [HR.out];rfl,HE.out.2⟩
  ·have HR:=κ (show R=0 by rw [←HR0.out,hfe,List.drop_of_length_le (by omega)];rfl)
   have HE:=κ (H0.out.2.2.1.trans (hb.mono H0.out.2.2.1.size))
   clear hfe hb
   go_wp2
   go_ret
   exact ⟨by rw [HR.out];rfl,HE.out⟩
