/-
 Contracts. Conditions: those of each.
-/
import Derived.Test.YtkolcimllghnaaaGreatDoorQbZP
import Derived.Test.YtkolcimllghnaaaGreatDoorQbGU
import Derived.Test.YtkolcimllghnaaaGreatDoorQbShow17
set_option maxRecDepth 100000
set_option maxHeartbeats 20000000
namespace Go.Proofs.YtkolcimllghnaaaGreatDoor
open Lp Go.Proofs.Tryz
open Go.RowKit
theorem qW {w0 W:World} {v:Value} {f:FuncId} {args:Array Value} (hb:Below w0.heap.size w0 W) (h:Calls prog f args W fun e w'=>e=.returned v∧Below W.heap.size W w'):Calls prog f args W fun e w'=>e=.returned v∧Below w0.heap.size w0 w' :=
 h.mono fun _ _ ⟨h1,h2⟩=>⟨h1,hb.trans (h2.mono hb.size)⟩
theorem aB {α:Type} (l:List α) (i:Nat) (a:α):l.toArray.setIfInBounds i a=(l.set i a).toArray:=List.setIfInBounds_toArray ..
theorem aF {α:Type} (x:α) (l:List α) (a:α):(x::l).set 0 a=a::l:=rfl
theorem aG {α:Type} (x:α) (l:List α) (n:Nat) (a:α):(x::l).set (n+1) a=x::l.set n a:=rfl
section
variable {P:Program} {md:Region.Mode} {ops:Array Oper} {Q:Exit→Act→World→Prop} {S:World→Prop}
theorem tkU (i d:Nat) {oi:Oper} {fuel:Nat} {listed:Array Bool} {a:Act} {w:World} (h:wpAnyH P md ops Q S fuel (listed.setIfInBounds i true) (a.put (some d) undef) w) (hi:ops[i]? = some oi:=by rfl) (hd:oi.dst=some d:=by rfl) (hs:Region.noSelect ops=true:=by kernel_rfl) (hf:Region.free md ops listed i=true:=by kernel_rfl) (hr:(Region.ready md ops listed).contains i=true:=by kernel_rfl) (hQ:∀ c a w,Q (.panic c) (a.put (some d) undef) w→Q (.panic c) a w:=by exact fun _ _ _ h=>h) (hw:Region.wanted oi (yielded ops a.tmps)=false:=by rfl) (hS:S w:=by assumption):wpAnyH P md ops Q S (fuel+1) listed a w :=
 wpAnyH_take hi hs hf hr (by rw [hd];exact hQ) (.inr ⟨hw,rfl⟩) hS (by rw [hd];exact h)
theorem tkW (i d:Nat) {oi:Oper} {v:Value} {fuel:Nat} {listed:Array Bool} {a:Act} {w:World} (h:wpAnyH P md ops Q S fuel (listed.setIfInBounds i true) (a.put (some d) v) w) (hi:ops[i]? = some oi:=by rfl) (hd:oi.dst=some d:=by rfl) (hs:Region.noSelect ops=true:=by kernel_rfl) (hf:Region.free md ops listed i=true:=by kernel_rfl) (hr:(Region.ready md ops listed).contains i=true:=by kernel_rfl) (hQ:∀ c a w,Q (.panic c) (a.put (some d) v) w→Q (.panic c) a w:=by exact fun _ _ _ h=>h) (hw:Region.wanted oi (yielded ops a.tmps)=true:=by rfl) (hy:∀ w,S w→(execOp a.eval oi).run P w=.ok (.value v) w:=by (intro w hSw;(try dsimp only at hSw);go_simp;try with_reducible rfl)) (hS:S w:=by assumption):wpAnyH P md ops Q S (fuel+1) listed a w :=
 wpAnyH_take hi hs hf hr (by rw [hd];exact hQ) (.inl ⟨hw,hy⟩) hS (by rw [hd];exact h)
end
theorem Ti {w0 W:World} {tb:Tb} {ss:List (List UInt8×Lp.X)} {f:FuncId} {args:Array Value} (hb:Below w0.heap.size w0 W) (h:Calls prog f args W (Hf tb ss W)):Calls prog f args W fun e w'=>Below w0.heap.size w0 w'∧(lI tb [] ss=0→∃ Aa ca An cn ats gs B0,e=.returned (.tuple #[.slice Aa ss.length ca,.slice An ss.length cn,.int .i64 0])∧Rds w' Aa (rV ats)∧ats.map some=(ss.map fun p=>eX p.1 tb.cs)∧Rds w' An (gs.map ptr)∧NTs (fun k=>B0≤k) w' [tb] (ss.map (·.2)) gs)∧(lI tb [] ss≠0→e=.returned (.tuple #[.slice none 0 0,.slice none 0 0,.int .i64 (lI tb [] ss)])):=by
 refine h.mono ?_
 rintro e w' ⟨h1,h2⟩
 refine ⟨hb.trans (h1.mono hb.size),fun h => ?_,fun h => ?_⟩
 ·rw [if_pos h] at h2
  obtain ⟨Aa,ca,An,cn,ats,gs,k1,k2,k3,k4,k5⟩:=h2
  exact ⟨Aa,ca,An,cn,ats,gs,_,k1,k2,k3,k4,k5⟩
 ·rw [if_neg h] at h2
  exact h2
theorem Px {w W:World} {b0 o0 b1 o1 b2 o2:Nat} {u0 u1 u2:Value} (hb:Below w.heap.size w W) (h0:w.cell? ⟨b0,o0,none⟩=some u0) (h1:w.cell? ⟨b1,o1,none⟩=some u1) (h2:w.cell? ⟨b2,o2,none⟩=some u2):W.cell? ⟨b0,o0,none⟩=some u0∧W.cell? ⟨b1,o1,none⟩=some u1∧W.cell? ⟨b2,o2,none⟩=some u2 :=
 ⟨aH h0 hb,aH h1 hb,aH h2 hb⟩
theorem Pw {w W:World} {b0 o0 b1 o1 b2 o2 b3 o3:Nat} {u0 u1 u2 u3:Value} (hb:Below w.heap.size w W) (h0:w.cell? ⟨b0,o0,none⟩=some u0) (h1:w.cell? ⟨b1,o1,none⟩=some u1) (h2:w.cell? ⟨b2,o2,none⟩=some u2) (h3:w.cell? ⟨b3,o3,none⟩=some u3):W.cell? ⟨b0,o0,none⟩=some u0∧W.cell? ⟨b1,o1,none⟩=some u1∧W.cell? ⟨b2,o2,none⟩=some u2∧W.cell? ⟨b3,o3,none⟩=some u3 :=
 ⟨aH h0 hb,aH h1 hb,aH h2 hb,aH h3 hb⟩
theorem Pv {w W:World} {b0 o0 b1 o1 b2 o2 b3 o3 b4 o4:Nat} {u0 u1 u2 u3 u4:Value} (hb:Below w.heap.size w W) (h0:w.cell? ⟨b0,o0,none⟩=some u0) (h1:w.cell? ⟨b1,o1,none⟩=some u1) (h2:w.cell? ⟨b2,o2,none⟩=some u2) (h3:w.cell? ⟨b3,o3,none⟩=some u3) (h4:w.cell? ⟨b4,o4,none⟩=some u4):W.cell? ⟨b0,o0,none⟩=some u0∧W.cell? ⟨b1,o1,none⟩=some u1∧W.cell? ⟨b2,o2,none⟩=some u2∧W.cell? ⟨b3,o3,none⟩=some u3∧W.cell? ⟨b4,o4,none⟩=some u4 :=
 ⟨aH h0 hb,aH h1 hb,aH h2 hb,aH h3 hb,aH h4 hb⟩
theorem Gs {w W:World} {b0 o0 b1 o1 b2 o2 b3 o3 b4 o4 b5 o5 b6 o6 b7 o7 b8 o8 b9 o9:Nat} {u0 u1 u2 u3 u4 u5 u6 u7 u8 u9:Value} (hb:Below w.heap.size w W) (h0:w.cell? ⟨b0,o0,none⟩=some u0) (h1:w.cell? ⟨b1,o1,none⟩=some u1) (h2:w.cell? ⟨b2,o2,none⟩=some u2) (h3:w.cell? ⟨b3,o3,none⟩=some u3) (h4:w.cell? ⟨b4,o4,none⟩=some u4) (h5:w.cell? ⟨b5,o5,none⟩=some u5) (h6:w.cell? ⟨b6,o6,none⟩=some u6) (h7:w.cell? ⟨b7,o7,none⟩=some u7) (h8:w.cell? ⟨b8,o8,none⟩=some u8) (h9:w.cell? ⟨b9,o9,none⟩=some u9):W.cell? ⟨b0,o0,none⟩=some u0∧W.cell? ⟨b1,o1,none⟩=some u1∧W.cell? ⟨b2,o2,none⟩=some u2∧W.cell? ⟨b3,o3,none⟩=some u3∧W.cell? ⟨b4,o4,none⟩=some u4∧W.cell? ⟨b5,o5,none⟩=some u5∧W.cell? ⟨b6,o6,none⟩=some u6∧W.cell? ⟨b7,o7,none⟩=some u7∧W.cell? ⟨b8,o8,none⟩=some u8∧W.cell? ⟨b9,o9,none⟩=some u9 :=
 ⟨aH h0 hb,aH h1 hb,aH h2 hb,aH h3 hb,aH h4 hb,aH h5 hb,aH h6 hb,aH h7 hb,aH h8 hb,aH h9 hb⟩
theorem yR {w W:World} {b0 o0 b1 o1 b2 o2 b3 o3 b4 o4 b5 o5 b6 o6 b7 o7 b8 o8 b9 o9 b10 o10:Nat} {u0 u1 u2 u3 u4 u5 u6 u7 u8 u9 u10:Value} (hb:Below w.heap.size w W) (h0:w.cell? ⟨b0,o0,none⟩=some u0) (h1:w.cell? ⟨b1,o1,none⟩=some u1) (h2:w.cell? ⟨b2,o2,none⟩=some u2) (h3:w.cell? ⟨b3,o3,none⟩=some u3) (h4:w.cell? ⟨b4,o4,none⟩=some u4) (h5:w.cell? ⟨b5,o5,none⟩=some u5) (h6:w.cell? ⟨b6,o6,none⟩=some u6) (h7:w.cell? ⟨b7,o7,none⟩=some u7) (h8:w.cell? ⟨b8,o8,none⟩=some u8) (h9:w.cell? ⟨b9,o9,none⟩=some u9) (h10:w.cell? ⟨b10,o10,none⟩=some u10):W.cell? ⟨b0,o0,none⟩=some u0∧W.cell? ⟨b1,o1,none⟩=some u1∧W.cell? ⟨b2,o2,none⟩=some u2∧W.cell? ⟨b3,o3,none⟩=some u3∧W.cell? ⟨b4,o4,none⟩=some u4∧W.cell? ⟨b5,o5,none⟩=some u5∧W.cell? ⟨b6,o6,none⟩=some u6∧W.cell? ⟨b7,o7,none⟩=some u7∧W.cell? ⟨b8,o8,none⟩=some u8∧W.cell? ⟨b9,o9,none⟩=some u9∧W.cell? ⟨b10,o10,none⟩=some u10 :=
 ⟨aH h0 hb,aH h1 hb,aH h2 hb,aH h3 hb,aH h4 hb,aH h5 hb,aH h6 hb,aH h7 hb,aH h8 hb,aH h9 hb,aH h10 hb⟩
theorem Ii (A:Option Addr) (c:Nat) (la:List dL) (s:ByteArray) (w:World) (hA:ScA w A la) (hT:dZ w) (hR:Resv w) (hL:LitT w) :
 Calls prog 3 #[.slice A la.length c,.string s] w fun e w'=>e=.returned (.bool true)∧Below w.heap.size w w':=by
 have HA:=κ (Wm w hT hR hL)
 have HT:=κ (ι hT (ι hR hL))
 have HS:=κ hA
 have hfs:=uS s
 have HOK:=κ (Tf (l:=(uU s).data.toList) (by rw [uT];simp;omega))
 clear hT hR hL hA
 go_enter func3,ntmps3
 go_wp2_with fail
 refine μ HA ?_
 rintro e w1 ⟨rfl,hb1⟩
 go_wp2_with fail
 refine (Ai A c la 1 (by decide) w1 (HS.out.below hb1)).mono ?_
 rintro e w2 hsc0
 obtain ⟨A1,n1,c1,A2,c2,ok,rfl,hb2,hsc⟩:=Yf hsc0
 have hB:=hb1.trans (hb2.mono hb1.size)
 have HB:=κ hB
 have HSC:=κ hsc
 clear hsc0 hb1 hb2 hsc hB HA HS
 go_wp2_with fail
 refine (lO s w2).mono ?_
 rintro e w' ⟨rfl,rfl⟩
 have HP:=κ (Ub (uU s) w2 (aP HT.out.1 HB.out) (bP HT.out.2.1 HB.out) (by omega))
 go_wp2_with fail
 refine μ HP ?_
 rintro e w3 hp
 obtain ⟨v,e1,rfl,hb3,hpk⟩:=Tz hp
 have HPK:=κ hpk
 have HB3:=κ hb3
 have HR3:=κ (Nj (uU s) w3 (by omega))
 clear hp hpk hb3 HP
 go_wp2_with fail
 refine (lO s w3).mono ?_
 rintro e w' ⟨rfl,rfl⟩
 go_wp2_with fail
 refine μ HR3 ?_
 rintro e w4 ⟨hb4,cs,f1,hc,rfl,hq⟩
 have HQ:=κ hq
 obtain ⟨k,s1,s2,s3,A4,n4,c4,A5,n5,c5,A6,n6,c6,A7,n7,c7,A8,n8,c8,A9,n9,c9,A10,n10,c10,A11,n11,c11,li,rfl⟩:=qR hc
 have hbx:Below w4.heap.size w4 (w4.alloc (.cells #[.int .u8 k,.string s1,.string s2,.string s3,.slice A4 n4 c4,.slice A5 n5 c5,.slice A6 n6 c6,.slice A7 n7 c7,.slice A8 n8 c8,.slice A9 n9 c9,.slice A10 n10 c10,.slice A11 n11 c11,.int .i64 li] 38)):=ρ
 have hk3:=hb4.trans (hbx.mono hb4.size)
 have hk2:=HB3.out.trans (hk3.mono HB3.out.size)
 have HZ:=κ (ι (HB.out.trans (hk2.mono HB.out.size)) (ι (heap_alloc_new w4 (.cells #[.int .u8 k,.string s1,.string s2,.string s3,.slice A4 n4 c4,.slice A5 n5 c5,.slice A6 n6 c6,.slice A7 n7 c7,.slice A8 n8 c8,.slice A9 n9 c9,.slice A10 n10 c10,.slice A11 n11 c11,.int .i64 li] 38)) (ι hk2 (ι hk3 hbx))))
 clear hc hq hb4 hbx hk3 hk2 HR3 hfs
 generalize Dw (uU s).data.toList=q at *
 go_upto_region 6 with fail
 by_cases h1:ok=true
 case neg =>
  obtain rfl:ok=false:=by simpa using h1
  go_wp2
  go_ret
  exact ⟨rfl,HZ.out.1⟩
 subst h1
 by_cases h2:e1=0
 case neg =>
  have x1:(e1 !=0)=true:=by rw [bne,η h2];rfl
  clear h2
  go_wp2
  go_ret
  exact ⟨rfl,HZ.out.1⟩
 subst h2
 by_cases h3:f1=0
 case neg =>
  have x1:(f1 !=0)=true:=by rw [bne,η h3];rfl
  clear h3
  go_wp2
  go_ret
  exact ⟨rfl,HZ.out.1⟩
 subst h3
 by_cases h4:n1=0
 ·subst h4
  go_wp2
  go_ret
  exact ⟨rfl,HZ.out.1⟩
 obtain ⟨nm,cs,At,ct,rfl,hS1,hS2,h8,hd⟩:=HSC.out rfl h4
 have hpk:=(HPK.out rfl).below HZ.out.2.2.2.1
 have H0:=κ (ι (hS1.below HZ.out.2.2.1) (ι (hS2.below HZ.out.2.2.1) (ι h8 hd)))
 have hb0:=HZ.out.1
 have hz0:=HZ.out.2.1
 have hq0:=HQ.out
 have hok:=HOK.out
 have hwx:=HZ.out.2.2.2.2
 have HLT:=κ (HT.out.2.2.below hb0)
 clear h4 hS1 hS2 HSC HPK HB HB3 HT HZ HQ HOK
 generalize (w4.alloc (.cells #[.int .u8 k,.string s1,.string s2,.string s3,.slice A4 n4 c4,.slice A5 n5 c5,.slice A6 n6 c6,.slice A7 n7 c7,.slice A8 n8 c8,.slice A9 n9 c9,.slice A10 n10 c10,.slice A11 n11 c11,.int .i64 li] 38))=W at *
 rcases q with _|(rows|ss|_)
 ·exact hpk.elim
 ·obtain ⟨g,t,Az,cz,vs,rfl,hzb,hrz,hrx⟩:=hpk
  obtain ⟨-,hcs0,B5,c5',vr,hcs5,hr5,hry⟩:=hq0
  simp only [δ,ε,Option.some.injEq,Value.slice.injEq,Value.int.injEq,true_and] at hcs0 hcs5
  obtain ⟨rfl,rfl,rfl⟩:=hcs5
  subst hcs0
  have HI:=κ (ι hrz (ι hrx (ι ((Rds.own hr5).below hwx) (hry.stays (StaysT.below hwx)))))
  have HW:=κ (ι hb0 (ι hzb hz0))
  have HOK:=κ hok
  have HTA:=κ (Xe g)
  clear hrz hrx hr5 hry hwx hb0 hzb hz0 hok
  as_aux_lemma =>
   have ta:=fun wq=>Xe g wq
   have z1:=β HW.out.2.1 1
   have y0:=β HW.out.2.2 0
   have y5:=β HW.out.2.2 5
   simp only [γ,δ,ε] at z1 y0 y5
   go_wp2_with fail
   go_quiet (fail)
   clear ta y0
   go_wp2_with fail
   go_loopw [13,14,15,16,17,18,83] (fun _ _ _ _ _ _ s83 wr=>∃ i:Nat,i≤rows.length∧s83=.int .i64 i∧Below W.heap.size W wr) (fun _ _ _ _ _ _ s83 _=>rows.length-(intOf s83).toNat)
   case atStart=>exact ⟨0,Nat.zero_le _,rfl,vE nq (θ)⟩
   case round =>
    obtain ⟨i,hi,rfl,hb⟩:=hrel
    by_cases hlt:i<rows.length
    ·obtain ⟨v,hv,Ar,cr,us,rfl,ho,hx⟩:=(HI.out.2.1.stays (StaysT.below hb)).at_ hlt
     obtain ⟨vy,hvy,B,cB,rs,rfl,hoB,hxB⟩:=(HI.out.2.2.2.stays (StaysT.below hb)).at_ hlt
     have hrow:=HOK.out.1 _ (List.getElem_mem hlt)
     have hrl:=HOK.out.2
     generalize rows[i]=xs at *
     obtain ⟨bz,oz,hAz,cz0⟩:=(HI.out.1.below hb).at_ hv
     obtain ⟨by_,oy,hAy,cy0⟩:=(HI.out.2.2.1.below hb).at_ hvy
     obtain ⟨b1,o1,hA1,p0,p1⟩:=iA ((H0.out.1.below hb).1) (i:=0) Nat.zero_lt_one
     obtain ⟨b2,o2,hA2,q0,q1⟩:=iA ((H0.out.2.1.below hb).1) (i:=0) Nat.zero_lt_one
     simp only [Nat.zero_mul,Nat.add_zero,List.getElem_cons_zero] at p0 p1 q0 q1
     subst hAz hAy hA1 hA2
     have hT1:=(H0.out.1.below hb).2 _ (List.mem_singleton.2 rfl)
     have hT2:=(H0.out.2.1.below hb).2 _ (List.mem_singleton.2 rfl)
     have hwf:∀ x∈xs,x.wf:=fun x hx=>(hrow.1 x hx).1
     have hl9:=hrow.2
     have h8':=H0.out.2.2.1
     have HV:=κ (Dj ⟨nm.toArray⟩ At ct cs Ar cr xs us wr hT1.2.1 (Rds.own ho) hx (by omega) (by omega) hT1.2.2.1 hwf)
     have HG:=κ (ι hb (ι hoB (ι hxB (ι hrow hT2))))
     have zz1:=aH z1 hb
     have yy5:=aH y5 hb
     have HC:=κ (ι z1 y5)
     clear ho hx hoB hxB hrow hT1 hT2 hwf hv hvy z1 y5
     go_wp2_with fail
     refine μ HV ?_
     rintro e w6 ⟨hb6,hvp⟩
     have k6:=HG.out.1.trans (hb6.mono HG.out.1.size)
     have q0:=aH q0 hb6
     have q1:=aH q1 hb6
     have cy:=aH cy0 hb6
     have y5:=aH yy5 hb6
     have H2:=κ (fun (Wq:World) (hq:Below w6.heap.size w6 Wq)=>qW hq (xL ⟨nm.toArray⟩ At ct cs B cB xs rs _ Wq ((HG.out.2.2.2.2.below hb6).below hq).2.1 (((Rds.own HG.out.2.1:Rds wr B (rcs rs)).below hb6).below hq) ((HG.out.2.2.1.below hb6).below hq) (by omega) (by omega) HG.out.2.2.2.2.2.2.1 (fun x hx=>(HG.out.2.2.2.1.1 x hx).1)))
     have K6:=κ (ι k6 hb6)
     clear hb hb6 k6 HV p0 p1 cz0 zz1 yy5 cy0
     by_cases hE:mE cs xs=0
     ·rw [if_pos hE] at hvp
      rw [hE] at H2
      obtain ⟨Ao,co,gs,rfl,hgo,hnt⟩:=hvp
      have HN:=κ (ι hgo hnt)
      clear hgo hnt hE
      go_upto_region 17 with fail
      go_cut [126] (fun s126 wx=>s126=.bool false∧Below w6.heap.size w6 wx)
      case first =>
       as_aux_lemma =>
        refine wp_region_held_drew (S:=(fun w'=>w'.cell? ⟨b2,o2,none⟩=some (.string ⟨nm.toArray⟩)∧w'.cell? ⟨b2,o2+1,none⟩=some (.slice At cs.length ct)∧w'.cell? ⟨w4.heap.size,5,none⟩=some (.slice (some ⟨by_,oy,none⟩) rows.length c5)∧w'.cell? ⟨by_,oy+i,none⟩=some (.slice B xs.length cB))) (by kernel_rfl) ?_ (fun hHeld => ?_)
        ·first|go_keep|exact hd2
        refine tkW 0 96 ?_
        simp only [Act.put,aB,aF,aG]
        refine tkW 1 97 ?_
        simp only [Act.put,aB,aF,aG]
        refine tkW 2 98 ?_
        simp only [Act.put,aB,aF,aG]
        refine tkW 3 99 ?_
        simp only [Act.put,aB,aF,aG]
        refine tkW 4 100 ?_
        simp only [Act.put,aB,aF,aG]
        refine tkW 5 101 ?_
        simp only [Act.put,aB,aF,aG]
        refine tkW 6 102 ?_
        simp only [Act.put,aB,aF,aG]
        refine tkW 7 103 ?_
        simp only [Act.put,aB,aF,aG]
        refine tkW 8 104 ?_
        simp only [Act.put,aB,aF,aG]
        refine wpAnyH_ready (rs:=[9]) (by kernel_rfl) (by simp) ?_
        refine AllReadyH.cons rfl (fun K hK => ?_) AllReadyH.nil
        go_simp
        go_wp2_with (first|(go_simp;go_at_call 11;refine (H2.out _ (by first|exact θ|assumption|exact (θ).drew)).mono ?_;rintro e w7 ⟨rfl,hb7⟩;have hd2:=Pw hb7 q0 q1 y5 cy))
        clear hHeld
        refine hK.out _ _ ?_ (fun hHeld => ?_)
        ·(try dsimp only);(first|go_keep|exact hd2)
        clear hK K hd2
        refine tkW 10 106 ?_
        simp only [Act.put,aB,aF,aG]
        refine tkW 11 107 ?_
        simp only [Act.put,aB,aF,aG]
        refine tkW 12 108 ?_
        simp only [Act.put,aB,aF,aG]
        refine tkW 13 109 ?_
        simp only [Act.put,aB,aF,aG]
        refine tkW 14 110 ?_
        simp only [Act.put,aB,aF,aG]
        refine tkU 15 111 ?_
        simp only [Act.put,aB,aF,aG]
        refine tkU 16 112 ?_
        simp only [Act.put,aB,aF,aG]
        refine tkU 17 113 ?_
        simp only [Act.put,aB,aF,aG]
        refine tkW 18 114 ?_
        simp only [Act.put,aB,aF,aG]
        refine tkW 19 115 ?_
        simp only [Act.put,aB,aF,aG]
        refine tkW 20 116 ?_
        simp only [Act.put,aB,aF,aG]
        refine tkW 21 117 ?_
        simp only [Act.put,aB,aF,aG]
        refine tkW 22 118 ?_
        simp only [Act.put,aB,aF,aG]
        refine tkW 23 119 ?_
        simp only [Act.put,aB,aF,aG]
        refine tkW 24 120 ?_
        simp only [Act.put,aB,aF,aG]
        refine tkW 25 121 ?_
        simp only [Act.put,aB,aF,aG]
        refine tkW 26 122 ?_
        simp only [Act.put,aB,aF,aG]
        refine tkW 27 123 ?_
        simp only [Act.put,aB,aF,aG]
        refine tkW 28 124 ?_
        simp only [Act.put,aB,aF,aG]
        refine tkW 29 125 ?_
        simp only [Act.put,aB,aF,aG]
        refine tkW 30 126 ?_
        simp only [Act.put,aB,aF,aG]
        refine wpAnyH_done (by kernel_rfl) ?_ _
        go_wp2
        go_meet
        exact ⟨rfl,hb7⟩
      case rest =>
       obtain ⟨rfl,hb7⟩:=hcut
       generalize wc=w7 at *
       have HK7:=κ hb7
       have k7:=K6.out.1.trans (hb7.mono K6.out.1.size)
       clear q0 q1 hb7 H2
       generalize wr=wo at *
       go_wp2_with fail
       go_loopw [17,18,129] (fun _ _ s129 WQ=>∃ k2:Nat,k2≤xs.length∧s129=.int .i64 k2∧Below w7.heap.size w7 WQ) (fun _ _ s129 _=>xs.length-(intOf s129).toNat)
       case atStart=>exact ⟨0,Nat.zero_le _,rfl,θ⟩
       case round =>
        obtain ⟨k2,hk2,rfl,hbq⟩:=hrel
        by_cases hkl:k2<xs.length
        ·have hkq:=k7.trans (hbq.mono k7.size)
         have h76:=HK7.out.trans (hbq.mono HK7.out.size)
         have h7r:=K6.out.2.trans (h76.mono K6.out.2.size)
         have hgl:k2<gs.length:=by rw [HN.out.2.length];exact hkl
         have hrs:k2<rs.length:=by rw [HG.out.2.2.1.len];exact hkl
         obtain ⟨x,hx,hn⟩:=HN.out.2.at_ (List.getElem?_eq_getElem hgl)
         rw [List.getElem?_eq_getElem hkl] at hx
         injection hx with hx
         subst hx
         obtain ⟨ba,oa,hAo,ca⟩:=(HN.out.1.below h76).at_ (k:=k2) (u:=ptr gs[k2]) (by simp [List.getElem?_eq_getElem hgl])
         obtain ⟨b8,o8,hB,r0,r1,r2,r3,r4,r5,r6,r7⟩:=lL ((Rds.own HG.out.2.1:Rds wo B (rcs rs)).below h7r) hrs
         have hrx:=(HG.out.2.2.1.at_ hkl hrs).below h7r
         have hxo:=HG.out.2.2.2.1.1 _ (List.getElem_mem hkl)
         have hlit:=HLT.out.below hkq
         have hn:=hn.below h76
         generalize xs[k2]=x at *
         generalize gs[k2]=gk at *
         generalize rs[k2]=rr at *
         obtain ⟨ek,vk,vi,vs1,vb,tt,sx,Ae,nn,ce⟩:=rr
         simp only at r0 r1 r2 r3 r4 r5 r6 r7
         subst hAo hB
         have y58:=aH y5 h76
         have cy8:=aH cy h76
         obtain ⟨TT,hTT⟩:∃ TT,shB [] x=TT:=⟨_,rfl⟩
         have H1:=κ (fun (Wq:World) (hb:Below wr.heap.size wr Wq)=>hTT▸sZ [] (by simp [bW]) x hxo.1 (by have:=hxo.2;omega) _ wr Wq gk hn hlit hb)
         have H2:=κ (fun (Wq:World) (hb:Below wr.heap.size wr Wq)=>hTT▸qW hb (tA none 0 [] (by simp) (by simp [bW,aX]) x hxo.1 (by have:=hxo.2;omega) _ Wq _ (⟨.inl rfl,fun u hu=>by cases hu⟩:ScA _ _ _) (hrx.below hb)))
         simp only [RC.val,List.length_nil] at H2
         unfold ptr at H1 ca
         have HBQ:=κ (ι hbq hkq)
         clear hn hrx hxo hlit hTT hbq hkq h76 h7r hgl hrs
         go_upto_region 22 with fail
         go_cut [145] (fun s145 wx=>s145=.bool false∧Below wr.heap.size wr wx)
         case first =>
          as_aux_lemma =>
           first|go_region_held_law (fun w'=>w'.cell? ⟨w4.heap.size,5,none⟩=some (.slice (some ⟨by_,oy,none⟩) rows.length c5)∧w'.cell? ⟨by_,oy+i,none⟩=some (.slice (some ⟨b8,o8,none⟩) xs.length cB)∧w'.cell? ⟨b8,o8+k2*8,none⟩=some (.int .u8 ek)∧w'.cell? ⟨b8,o8+k2*8+1,none⟩=some (.int .u8 vk)∧w'.cell? ⟨b8,o8+k2*8+2,none⟩=some (.int .i64 vi)∧w'.cell? ⟨b8,o8+k2*8+3,none⟩=some (.string vs1)∧w'.cell? ⟨b8,o8+k2*8+4,none⟩=some (.bool vb)∧w'.cell? ⟨b8,o8+k2*8+5,none⟩=some (.string tt)∧w'.cell? ⟨b8,o8+k2*8+6,none⟩=some (.string sx)∧w'.cell? ⟨b8,o8+k2*8+7,none⟩=some (.slice Ae nn ce))
            (first|go_keep|exact hd2)
            ((first
              | (go_simp;go_at_call 12;refine (H1.out _ (by first|exact θ|assumption|exact (θ).drew)).mono ?_;rintro e w9 ⟨rfl,hb9⟩;have hd2:=Gs hb9 y58 cy8 r0 r1 r2 r3 r4 r5 r6 r7)
              | (go_simp;go_at_call 13;refine (H2.out _ (by first|exact θ|assumption|exact (θ).drew)).mono ?_;rintro e w9 ⟨rfl,hb9⟩;have hd2:=Gs hb9 y58 cy8 r0 r1 r2 r3 r4 r5 r6 r7)))|fail
           all_goals
            go_wp2
            go_meet
            exact ⟨rfl,hb9⟩
         case rest =>
          obtain ⟨rfl,hb9⟩:=hcut
          clear H1 H2 r0 r1 r2 r3 r4 r5 r6 r7 ca y58 cy8
          go_wp2
          go_roundw
          case rel=>exact ⟨k2+1,by omega,by go_num,HBQ.out.1.trans (hb9.mono HBQ.out.1.size)⟩
          case measure=>simp [intOf];omega
        ·have hkq:=k7.trans (hbq.mono k7.size)
         go_wp2
         go_roundw
         case rel=>exact ⟨i+1,by omega,by go_num,hkq⟩
         case measure=>simp [intOf];omega
     ·rw [if_neg hE] at hvp
      generalize mE cs xs=E at *
      subst hvp
      have x1:(E !=0)=true:=by rw [bne,η hE];rfl
      have x2:(E==0)=false:=η hE
      clear hE
      go_upto_region 17 with fail
      go_cut [126] (fun s126 wx=>s126=.bool false∧Below w6.heap.size w6 wx)
      case first =>
       as_aux_lemma =>
        refine wp_region_held_drew (S:=(fun w'=>w'.cell? ⟨b2,o2,none⟩=some (.string ⟨nm.toArray⟩)∧w'.cell? ⟨b2,o2+1,none⟩=some (.slice At cs.length ct)∧w'.cell? ⟨w4.heap.size,5,none⟩=some (.slice (some ⟨by_,oy,none⟩) rows.length c5)∧w'.cell? ⟨by_,oy+i,none⟩=some (.slice B xs.length cB))) (by kernel_rfl) ?_ (fun hHeld => ?_)
        ·first|go_keep|exact hd2
        refine tkW 0 96 ?_
        simp only [Act.put,aB,aF,aG]
        refine tkW 1 97 ?_
        simp only [Act.put,aB,aF,aG]
        refine tkW 2 98 ?_
        simp only [Act.put,aB,aF,aG]
        refine tkW 3 99 ?_
        simp only [Act.put,aB,aF,aG]
        refine tkW 4 100 ?_
        simp only [Act.put,aB,aF,aG]
        refine tkW 5 101 ?_
        simp only [Act.put,aB,aF,aG]
        refine tkW 6 102 ?_
        simp only [Act.put,aB,aF,aG]
        refine tkW 7 103 ?_
        simp only [Act.put,aB,aF,aG]
        refine tkW 8 104 ?_
        simp only [Act.put,aB,aF,aG]
        refine wpAnyH_ready (rs:=[9]) (by kernel_rfl) (by simp) ?_
        refine AllReadyH.cons rfl (fun K hK => ?_) AllReadyH.nil
        go_simp
        go_wp2_with (first|(go_simp;go_at_call 11;refine (H2.out _ (by first|exact θ|assumption|exact (θ).drew)).mono ?_;rintro e w7 ⟨rfl,hb7⟩;have hd2:=Pw hb7 q0 q1 y5 cy))
        clear hHeld
        refine hK.out _ _ ?_ (fun hHeld => ?_)
        ·(try dsimp only);(first|go_keep|exact hd2)
        clear hK K hd2
        refine tkW 10 106 ?_
        simp only [Act.put,aB,aF,aG]
        refine tkW 11 107 ?_
        simp only [Act.put,aB,aF,aG]
        refine tkW 12 108 ?_
        simp only [Act.put,aB,aF,aG]
        refine tkW 13 109 ?_
        simp only [Act.put,aB,aF,aG]
        refine tkW 14 110 ?_
        simp only [Act.put,aB,aF,aG]
        refine tkW 15 111 ?_
        simp only [Act.put,aB,aF,aG]
        refine tkW 16 112 ?_
        simp only [Act.put,aB,aF,aG]
        refine tkW 17 113 ?_
        simp only [Act.put,aB,aF,aG]
        refine tkW 18 114 ?_
        simp only [Act.put,aB,aF,aG]
        refine tkW 19 115 ?_
        simp only [Act.put,aB,aF,aG]
        refine tkW 20 116 ?_
        simp only [Act.put,aB,aF,aG]
        refine tkW 21 117 ?_
        simp only [Act.put,aB,aF,aG]
        refine tkW 22 118 ?_
        simp only [Act.put,aB,aF,aG]
        refine tkW 23 119 ?_
        simp only [Act.put,aB,aF,aG]
        refine tkU 24 120 ?_
        simp only [Act.put,aB,aF,aG]
        refine tkU 25 121 ?_
        simp only [Act.put,aB,aF,aG]
        refine tkU 26 122 ?_
        simp only [Act.put,aB,aF,aG]
        refine tkU 27 123 ?_
        simp only [Act.put,aB,aF,aG]
        refine tkU 28 124 ?_
        simp only [Act.put,aB,aF,aG]
        refine tkW 29 125 ?_
        simp only [Act.put,aB,aF,aG]
        refine tkW 30 126 ?_
        simp only [Act.put,aB,aF,aG]
        refine wpAnyH_done (by kernel_rfl) ?_ _
        go_wp2
        go_meet
        exact ⟨rfl,hb7⟩
      case rest =>
       obtain ⟨rfl,hb7⟩:=hcut
       generalize wc=w7 at *
       have k7:=K6.out.1.trans (hb7.mono K6.out.1.size)
       clear q0 q1 cy y5 x1 x2
       go_wp2_with fail
       go_loopw [17,18,129] (fun _ _ s129 wq=>s129=.int .i64 0∧Below W.heap.size W wq) (fun _ _ _ _=>0)
       case atStart=>exact ⟨rfl,k7⟩
       case round =>
        obtain ⟨rfl,hbq⟩:=hrel
        go_wp2
        go_roundw
        case rel=>exact ⟨i+1,by omega,by go_num,hbq⟩
        case measure=>simp [intOf];omega
    ·go_wp2
     go_ret
     exact ⟨rfl,HW.out.1.trans (hb.mono HW.out.1.size)⟩
 ·obtain ⟨g,t,Az,cz,vs,u,rfl,hzb,hrz,hrx⟩:=hpk
  obtain ⟨-,hcs0,B6,c6',lS,hcs6,hr6,hl6,hx6⟩:=hq0
  simp only [δ,ε,Option.some.injEq,Value.slice.injEq,Value.int.injEq,true_and] at hcs0 hcs6
  obtain ⟨rfl,rfl,rfl⟩:=hcs6
  subst hcs0
  have hc6:=yN hr6
  have HI:=κ (ι hrz (ι hrx (ι ((Rds.own hr6).below hwx) (ι hl6 (hx6.below hwx)))))
  have HW:=κ (ι hb0 (ι hzb hz0))
  have HOK:=κ hok
  clear hrz hrx hr6 hl6 hx6 hwx hb0 hzb hz0 hok
  as_aux_lemma =>
   have ta:=fun wq=>aAB g wq
   have tb:=fun wq=>aAA g wq
   have z1:=β HW.out.2.1 1
   have y0:=β HW.out.2.2 0
   have y6:=β HW.out.2.2 6
   simp only [γ,δ,ε] at z1 y0 y6
   obtain ⟨b1,o1,hA1,p0,p1⟩:=iA (H0.out.1.1) (i:=0) Nat.zero_lt_one
   obtain ⟨b2,o2,hA2,q0,q1⟩:=iA (H0.out.2.1.1) (i:=0) Nat.zero_lt_one
   simp only [Nat.zero_mul,Nat.add_zero,List.getElem_cons_zero] at p0 p1 q0 q1
   subst hA1 hA2
   have hT1:=H0.out.1.2 _ (List.mem_singleton.2 rfl)
   have HT2:=κ (H0.out.2.1.2 _ (List.mem_singleton.2 rfl))
   have hss:=HOK.out
   have hl9:=hss.2
   have h8':=H0.out.2.2.1
   have HV:=κ (fun (Wq:World) (hq:Below W.heap.size W Wq)=>Ti hq (Kf nm At ct cs Az cz ss vs Wq (hT1.2.1.below hq) (HI.out.1.below hq) (SetsX.stays (StaysT.below hq) HI.out.2.1) (by omega) (by omega) hT1.2.2.1 (fun p hp=>(hss.1 p hp).1)))
   have y00:=y0
   have y60:=y6
   have z10:=z1
   have q00:=q0
   have q10:=q1
   clear hT1 y0 y6 q0 q1
   by_cases hE:lI ⟨nm,cs⟩ [] ss=0
   ·replace HV:=κ (fun (Wq:World) (hq:Below W.heap.size W Wq)=>(HV.out Wq hq).mono (fun e w' h=>ι h.1 (h.2.1 hE)))
    go_wp2_with fail
    go_upto_region 28 with fail
    go_cut [20,21,22] (fun s20 s21 s22 wx=>s22=.int .i64 0∧∃ Aa ca An cn ats gs B0,s20=.slice Aa ss.length ca∧s21=.slice An ss.length cn∧Below W.heap.size W wx∧Rds wx Aa (rV ats)∧ats.map some=(ss.map fun p=>eX p.1 cs)∧Rds wx An (gs.map ptr)∧NTs (fun k=>B0≤k) wx [⟨nm,cs⟩] (ss.map (·.2)) gs)
    case first =>
     as_aux_lemma =>
      first|go_region_held_law (fun w'=>w'.cell? ⟨b1,o1,none⟩=some (.string ⟨nm.toArray⟩)∧w'.cell? ⟨b1,o1+1,none⟩=some (.slice At cs.length ct)∧w'.cell? ⟨g,1,none⟩=some (.slice Az ss.length cz))
       (first|go_keep|exact hd2)
       ((first
         | (go_simp;go_at_call 14;refine (HV.out _ (by first|exact θ|assumption|exact (θ).drew)).mono ?_;rintro e w7 ⟨hb7,Aa,ca,An,cn,ats,gs,B0,rfl,g1,g2,g3,g4⟩;have hd2:=Px hb7 p0 p1 z1)))|fail
      all_goals
       go_wp2
       go_meet
       exact ⟨rfl,Aa,ca,An,cn,ats,gs,B0,rfl,rfl,hb7,g1,g2,g3,g4⟩
    case rest =>
     obtain ⟨rfl,Aa,ca,An,cn,ats,gs,B0,rfl,rfl,hb7,g1,g2,g3,g4⟩:=hcut
     generalize wc=w7 at *
     have HN:=κ (ι g1 (ι g2 (ι g3 g4)))
     clear g1 g2 g3 g4 HV p0 p1 z1 ta tb
     have y0:=aH y00 hb7
     have y6:=aH y60 hb7
     have z1:=aH z10 hb7
     have q0:=aH q00 hb7
     have q1:=aH q10 hb7
     have H2:=κ (fun (Wq:World) (hq:Below w7.heap.size w7 Wq)=>qW hq (tB nm At ct cs A6 c6 ss lS _ Wq ((HT2.out.below hb7).below hq) H0.out.2.2.2 ((HI.out.2.2.1.below hb7).below hq) HI.out.2.2.2.1 ((HI.out.2.2.2.2.below hb7).below hq) (by omega) (by omega) hc6 (fun p hp=>(hss.1 p hp).1)))
     rw [hE] at H2
     have K7:=κ hb7
     clear hb7 y00 y60 z10 q00 q10
     go_upto_region 29 with fail
     go_cut [211] (fun s211 wx=>s211=.bool false∧Below w7.heap.size w7 wx)
     case first =>
      as_aux_lemma =>
       refine wp_region_held_drew (S:=(fun w'=>w'.cell? ⟨w4.heap.size,0,none⟩=some (.int .u8 6)∧w'.cell? ⟨b2,o2,none⟩=some (.string ⟨nm.toArray⟩)∧w'.cell? ⟨b2,o2+1,none⟩=some (.slice At cs.length ct)∧w'.cell? ⟨w4.heap.size,6,none⟩=some (.slice A6 ss.length c6)∧w'.cell? ⟨g,1,none⟩=some (.slice Az ss.length cz))) (by kernel_rfl) ?_ (fun hHeld => ?_)
       ·first|go_keep|exact hd2
       refine tkW 0 163 ?_
       simp only [Act.put,aB,aF,aG]
       refine tkW 1 164 ?_
       simp only [Act.put,aB,aF,aG]
       refine tkW 2 165 ?_
       simp only [Act.put,aB,aF,aG]
       refine tkW 3 166 ?_
       simp only [Act.put,aB,aF,aG]
       refine tkW 4 167 ?_
       simp only [Act.put,aB,aF,aG]
       refine tkW 5 168 ?_
       simp only [Act.put,aB,aF,aG]
       refine tkW 6 169 ?_
       simp only [Act.put,aB,aF,aG]
       refine tkW 7 170 ?_
       simp only [Act.put,aB,aF,aG]
       refine tkW 8 171 ?_
       simp only [Act.put,aB,aF,aG]
       refine tkW 9 172 ?_
       simp only [Act.put,aB,aF,aG]
       refine wpAnyH_ready (rs:=[10]) (by kernel_rfl) (by simp) ?_
       refine AllReadyH.cons rfl (fun K hK => ?_) AllReadyH.nil
       go_simp
       go_wp2_with (first|(go_simp;go_at_call 15;refine (H2.out _ (by first|exact θ|assumption|exact (θ).drew)).mono ?_;rintro e w8 ⟨rfl,hb8⟩;have hd2:=Pv hb8 y0 q0 q1 y6 z1))
       clear hHeld
       refine hK.out _ _ ?_ (fun hHeld => ?_)
       ·(try dsimp only);(first|go_keep|exact hd2)
       clear hK K hd2
       refine tkW 11 174 ?_
       simp only [Act.put,aB,aF,aG]
       refine tkW 12 175 ?_
       simp only [Act.put,aB,aF,aG]
       refine tkW 13 176 ?_
       simp only [Act.put,aB,aF,aG]
       refine tkW 14 177 ?_
       simp only [Act.put,aB,aF,aG]
       refine tkW 15 178 ?_
       simp only [Act.put,aB,aF,aG]
       refine tkW 16 179 ?_
       simp only [Act.put,aB,aF,aG]
       refine tkU 17 180 ?_
       simp only [Act.put,aB,aF,aG]
       refine tkU 18 181 ?_
       simp only [Act.put,aB,aF,aG]
       refine tkU 19 182 ?_
       simp only [Act.put,aB,aF,aG]
       refine tkU 20 183 ?_
       simp only [Act.put,aB,aF,aG]
       refine tkU 21 184 ?_
       simp only [Act.put,aB,aF,aG]
       refine tkU 22 185 ?_
       simp only [Act.put,aB,aF,aG]
       refine tkW 23 186 ?_
       simp only [Act.put,aB,aF,aG]
       refine tkW 24 187 ?_
       simp only [Act.put,aB,aF,aG]
       refine tkW 25 188 ?_
       simp only [Act.put,aB,aF,aG]
       refine tkW 26 189 ?_
       simp only [Act.put,aB,aF,aG]
       refine tkW 27 190 ?_
       simp only [Act.put,aB,aF,aG]
       refine tkW 28 191 ?_
       simp only [Act.put,aB,aF,aG]
       refine tkW 29 192 ?_
       simp only [Act.put,aB,aF,aG]
       refine tkW 30 193 ?_
       simp only [Act.put,aB,aF,aG]
       refine tkW 31 194 ?_
       simp only [Act.put,aB,aF,aG]
       refine tkW 32 195 ?_
       simp only [Act.put,aB,aF,aG]
       refine tkW 33 196 ?_
       simp only [Act.put,aB,aF,aG]
       refine tkW 34 197 ?_
       simp only [Act.put,aB,aF,aG]
       refine tkW 35 198 ?_
       simp only [Act.put,aB,aF,aG]
       refine tkW 36 199 ?_
       simp only [Act.put,aB,aF,aG]
       refine tkW 37 200 ?_
       simp only [Act.put,aB,aF,aG]
       refine tkW 38 201 ?_
       simp only [Act.put,aB,aF,aG]
       refine tkW 39 202 ?_
       simp only [Act.put,aB,aF,aG]
       refine tkW 40 203 ?_
       simp only [Act.put,aB,aF,aG]
       refine tkW 41 204 ?_
       simp only [Act.put,aB,aF,aG]
       refine tkW 42 205 ?_
       simp only [Act.put,aB,aF,aG]
       refine tkW 43 206 ?_
       simp only [Act.put,aB,aF,aG]
       refine tkW 44 207 ?_
       simp only [Act.put,aB,aF,aG]
       refine tkW 45 208 ?_
       simp only [Act.put,aB,aF,aG]
       refine tkW 46 209 ?_
       simp only [Act.put,aB,aF,aG]
       refine tkW 47 210 ?_
       simp only [Act.put,aB,aF,aG]
       refine tkW 48 211 ?_
       simp only [Act.put,aB,aF,aG]
       refine wpAnyH_done (by kernel_rfl) ?_ _
       go_wp2
       go_meet
       exact ⟨rfl,hb8⟩
     case rest =>
      obtain ⟨rfl,hb8⟩:=hcut
      generalize wc=w8 at *
      have HK8:=κ hb8
      have k8:=K7.out.trans (hb8.mono K7.out.size)
      clear q0 q1 hb8 H2 y0 z1
      go_wp2_with fail
      go_loopw [23,24,214] (fun _ _ s214 WQ=>∃ k2:Nat,k2≤ss.length∧s214=.int .i64 k2∧Below w8.heap.size w8 WQ) (fun _ _ s214 _=>ss.length-(intOf s214).toNat)
      case atStart=>exact ⟨0,Nat.zero_le _,rfl,θ⟩
      case round =>
       obtain ⟨k2,hk2,rfl,hbq⟩:=hrel
       have hkq:=k8.trans (hbq.mono k8.size)
       by_cases hkl:k2<ss.length
       ·have h7r:=HK8.out.trans (hbq.mono HK8.out.size)
        have hgl:k2<gs.length:=by have:=HN.out.2.2.2.length;rw [List.length_map] at this;omega
        have hal:k2<ats.length:=by have:=congrArg List.length HN.out.2.1;simp at this;omega
        have hll:k2<lS.length:=by have:=congrArg List.length HI.out.2.2.2.1;simp at this;omega
        obtain ⟨x,hx,hn⟩:=HN.out.2.2.2.at_ (List.getElem?_eq_getElem hgl)
        have hx2:(ss[k2]).2=x:=by simpa [List.getElem?_eq_getElem hkl] using hx
        obtain ⟨ba,oa,hAa,ca2⟩:=(HN.out.1.below h7r).at_ (Gu hal)
        obtain ⟨bn,on,hAn,ca⟩:=(HN.out.2.2.1.below h7r).at_ (k:=k2) (u:=ptr gs[k2]) (by simp [List.getElem?_eq_getElem hgl])
        obtain ⟨b6,o6,hA6,r0,r1,r2,r3,r4,r5,r6,r7,r8,r9⟩:=sW (HI.out.2.2.1.below hkq) hll
        have hnm:(lS[k2]).1=(ss[k2]).1:=by
         have:=congrArg (fun l=>l[k2]?) HI.out.2.2.2.1
         simpa [List.getElem?_eq_getElem hll,List.getElem?_eq_getElem hkl] using this
        have hci:eX (ss[k2]).1 cs=some ats[k2]:=by
         have:=congrArg (fun l=>l[k2]?) HN.out.2.1
         simpa [List.getElem?_eq_getElem hal,List.getElem?_eq_getElem hkl] using this.symm
        have hrx:=(HI.out.2.2.2.2.below hkq).at_ (i:=k2) (by simpa using hkl) (by simpa using hll)
        rw [List.getElem_map,List.getElem_map] at hrx
        have hxo:=hss.1 _ (List.getElem_mem hkl)
        have hn:=hn.below h7r
        have hlit:=HLT.out.below hkq
        rw [hnm] at r8
        clear hx hnm
        generalize ss[k2]=sp at *
        generalize lS[k2]=lp at *
        generalize gs[k2]=gk at *
        generalize ats[k2]=j at *
        obtain ⟨sn,x'⟩:=sp
        obtain ⟨ln,ek,vk,vi,vs1,vb,tt,sx,Ae,nn,ce⟩:=lp
        simp only at r0 r1 r2 r3 r4 r5 r6 r7 r8 hci hrx hxo hx2
        subst hx2
        subst hAa hAn hA6
        have y68:=aH y6 h7r
        have hwd:bW (aX [((⟨nm,cs⟩,At,ct):dL)])≤10000:=by simp [bW,aX];omega
        have hF:atX (aX [((⟨nm,cs⟩,At,ct):dL)]) [] sn=((j:Nat):Int):=by
         rw [show atX (aX [((⟨nm,cs⟩,At,ct):dL)]) [] sn=yT (eX sn cs) from Hd ⟨nm,cs⟩ sn H0.out.2.2.2,hci]
         rfl
        have hsc:=H0.out.2.1.below hkq
        obtain ⟨TT,hTT⟩:∃ TT,shB (aX [((⟨nm,cs⟩,At,ct):dL)]) x'=TT:=⟨_,rfl⟩
        have H1:=κ (fun (Wq:World) (hb:Below wr.heap.size wr Wq)=>hTT▸sZ (aX [((⟨nm,cs⟩,At,ct):dL)]) hwd x' hxo.1 (by have:=hxo.2;omega) _ wr Wq gk hn hlit hb)
        have H2:=κ (fun (Wq:World) (hb:Below wr.heap.size wr Wq)=>hTT▸qW hb (tA (some ⟨b2,o2,none⟩) c2 [((⟨nm,cs⟩,At,ct):dL)] (by simp) hwd x' hxo.1 (by have:=hxo.2;omega) _ Wq _ (hsc.below hb) (hrx.below hb)))
        have H3:=κ (fun (Wq:World) (hb:Below wr.heap.size wr Wq)=>hF▸qW hb (nU (some ⟨b2,o2,none⟩) c2 [((⟨nm,cs⟩,At,ct):dL)] [] sn Wq (hsc.below hb) (by simp) hwd))
        simp only [RC.val,List.length_cons,List.length_nil,Nat.zero_add] at H2 H3
        unfold ptr at H1 ca
        have HBQ:=κ (ι hbq hkq)
        clear hn hrx hxo hlit hTT hbq hkq h7r hgl hal hll hF hci hsc hwd r9
        go_upto_region 34 with fail
        go_cut [244] (fun s244 wx=>s244=.bool false∧Below wr.heap.size wr wx)
        case first =>
         as_aux_lemma =>
          first|go_region_held_law (fun w'=>w'.cell? ⟨ba,oa+k2,none⟩=some (.int .i64 (j:Nat))∧w'.cell? ⟨w4.heap.size,6,none⟩=some (.slice (some ⟨b6,o6,none⟩) ss.length c6)∧w'.cell? ⟨b6,o6+k2*10,none⟩=some (.int .u8 ek)∧w'.cell? ⟨b6,o6+k2*10+1,none⟩=some (.int .u8 vk)∧w'.cell? ⟨b6,o6+k2*10+2,none⟩=some (.int .i64 vi)∧w'.cell? ⟨b6,o6+k2*10+3,none⟩=some (.string vs1)∧w'.cell? ⟨b6,o6+k2*10+4,none⟩=some (.bool vb)∧w'.cell? ⟨b6,o6+k2*10+5,none⟩=some (.string tt)∧w'.cell? ⟨b6,o6+k2*10+6,none⟩=some (.string sx)∧w'.cell? ⟨b6,o6+k2*10+7,none⟩=some (.slice Ae nn ce)∧w'.cell? ⟨b6,o6+k2*10+8,none⟩=some (.string ⟨sn.toArray⟩))
           (first|go_keep|exact hd2)
           ((first
             | (go_simp;go_at_call 16;refine (H3.out _ (by first|exact θ|assumption|exact (θ).drew)).mono ?_;rintro e w9 ⟨rfl,hb9⟩;have hd2:=yR hb9 ca2 y68 r0 r1 r2 r3 r4 r5 r6 r7 r8)
             | (go_simp;go_at_call 12;refine (H1.out _ (by first|exact θ|assumption|exact (θ).drew)).mono ?_;rintro e w9 ⟨rfl,hb9⟩;have hd2:=yR hb9 ca2 y68 r0 r1 r2 r3 r4 r5 r6 r7 r8)
             | (go_simp;go_at_call 13;refine (H2.out _ (by first|exact θ|assumption|exact (θ).drew)).mono ?_;rintro e w9 ⟨rfl,hb9⟩;have hd2:=yR hb9 ca2 y68 r0 r1 r2 r3 r4 r5 r6 r7 r8)))|fail
          all_goals
           go_wp2
           go_meet
           exact ⟨rfl,hb9⟩
        case rest =>
         obtain ⟨rfl,hb9⟩:=hcut
         clear H1 H2 H3 r0 r1 r2 r3 r4 r5 r6 r7 r8 ca ca2 y68
         go_wp2
         go_roundw
         case rel=>exact ⟨k2+1,by omega,by go_num,HBQ.out.1.trans (hb9.mono HBQ.out.1.size)⟩
         case measure=>simp [intOf];omega
       ·go_wp2
        go_ret
        exact ⟨rfl,HW.out.1.trans (hkq.mono HW.out.1.size)⟩
   ·replace HV:=κ (fun (Wq:World) (hq:Below W.heap.size W Wq)=>(HV.out Wq hq).mono (fun e w' h=>ι (h.2.2 hE) h.1))
    generalize hEE:lI ⟨nm,cs⟩ [] ss=E at *
    have x1:(E !=0)=true:=by rw [bne,η hE];rfl
    have x2:(E==0)=false:=η hE
    clear hE
    have hE:=hEE
    clear hEE
    go_wp2_with fail
    go_upto_region 28 with fail
    go_cut [20,21,22] (fun s20 s21 s22 wx=>s22=.int .i64 E∧s20=.slice none 0 0∧s21=.slice none 0 0∧Below W.heap.size W wx)
    case first =>
     as_aux_lemma =>
      first|go_region_held_law (fun w'=>w'.cell? ⟨b1,o1,none⟩=some (.string ⟨nm.toArray⟩)∧w'.cell? ⟨b1,o1+1,none⟩=some (.slice At cs.length ct)∧w'.cell? ⟨g,1,none⟩=some (.slice Az ss.length cz))
       (first|go_keep|exact hd2)
       ((first
         | (go_simp;go_at_call 14;refine (HV.out _ (by first|exact θ|assumption|exact (θ).drew)).mono ?_;rintro e w7 ⟨rfl,hb7⟩;have hd2:=Px hb7 p0 p1 z1)))|fail
      all_goals
       go_wp2
       go_meet
       exact ⟨rfl,rfl,rfl,hb7⟩
    case rest =>
     obtain ⟨rfl,rfl,rfl,hb7⟩:=hcut
     generalize wc=w7 at *
     clear HV p0 p1 z1 ta tb
     have y0:=aH y00 hb7
     have y6:=aH y60 hb7
     have z1:=aH z10 hb7
     have q0:=aH q00 hb7
     have q1:=aH q10 hb7
     have H2:=κ (fun (Wq:World) (hq:Below w7.heap.size w7 Wq)=>qW hq (tB nm At ct cs A6 c6 ss lS _ Wq ((HT2.out.below hb7).below hq) H0.out.2.2.2 ((HI.out.2.2.1.below hb7).below hq) HI.out.2.2.2.1 ((HI.out.2.2.2.2.below hb7).below hq) (by omega) (by omega) hc6 (fun p hp=>(hss.1 p hp).1)))
     rw [hE] at H2
     have K7:=κ hb7
     clear hb7 y00 y60 z10 q00 q10
     clear hE
     go_upto_region 29 with fail
     go_cut [211] (fun s211 wx=>s211=.bool false∧Below w7.heap.size w7 wx)
     case first =>
      as_aux_lemma =>
       refine wp_region_held_drew (S:=(fun w'=>w'.cell? ⟨w4.heap.size,0,none⟩=some (.int .u8 6)∧w'.cell? ⟨b2,o2,none⟩=some (.string ⟨nm.toArray⟩)∧w'.cell? ⟨b2,o2+1,none⟩=some (.slice At cs.length ct)∧w'.cell? ⟨w4.heap.size,6,none⟩=some (.slice A6 ss.length c6)∧w'.cell? ⟨g,1,none⟩=some (.slice Az ss.length cz))) (by kernel_rfl) ?_ (fun hHeld => ?_)
       ·first|go_keep|exact hd2
       refine tkW 0 163 ?_
       simp only [Act.put,aB,aF,aG]
       refine tkW 1 164 ?_
       simp only [Act.put,aB,aF,aG]
       refine tkW 2 165 ?_
       simp only [Act.put,aB,aF,aG]
       refine tkW 3 166 ?_
       simp only [Act.put,aB,aF,aG]
       refine tkW 4 167 ?_
       simp only [Act.put,aB,aF,aG]
       refine tkW 5 168 ?_
       simp only [Act.put,aB,aF,aG]
       refine tkW 6 169 ?_
       simp only [Act.put,aB,aF,aG]
       refine tkW 7 170 ?_
       simp only [Act.put,aB,aF,aG]
       refine tkW 8 171 ?_
       simp only [Act.put,aB,aF,aG]
       refine tkW 9 172 ?_
       simp only [Act.put,aB,aF,aG]
       refine wpAnyH_ready (rs:=[10]) (by kernel_rfl) (by simp) ?_
       refine AllReadyH.cons rfl (fun K hK => ?_) AllReadyH.nil
       go_simp
       go_wp2_with (first|(go_simp;go_at_call 15;refine (H2.out _ (by first|exact θ|assumption|exact (θ).drew)).mono ?_;rintro e w8 ⟨rfl,hb8⟩;have hd2:=Pv hb8 y0 q0 q1 y6 z1))
       clear hHeld
       refine hK.out _ _ ?_ (fun hHeld => ?_)
       ·(try dsimp only);(first|go_keep|exact hd2)
       clear hK K hd2
       refine tkW 11 174 ?_
       simp only [Act.put,aB,aF,aG]
       refine tkW 12 175 ?_
       simp only [Act.put,aB,aF,aG]
       refine tkW 13 176 ?_
       simp only [Act.put,aB,aF,aG]
       refine tkW 14 177 ?_
       simp only [Act.put,aB,aF,aG]
       refine tkW 15 178 ?_
       simp only [Act.put,aB,aF,aG]
       refine tkW 16 179 ?_
       simp only [Act.put,aB,aF,aG]
       refine tkW 17 180 ?_
       simp only [Act.put,aB,aF,aG]
       refine tkW 18 181 ?_
       simp only [Act.put,aB,aF,aG]
       refine tkW 19 182 ?_
       simp only [Act.put,aB,aF,aG]
       refine tkW 20 183 ?_
       simp only [Act.put,aB,aF,aG]
       refine tkW 21 184 ?_
       simp only [Act.put,aB,aF,aG]
       refine tkW 22 185 ?_
       simp only [Act.put,aB,aF,aG]
       refine tkW 23 186 ?_
       simp only [Act.put,aB,aF,aG]
       refine tkW 24 187 ?_
       simp only [Act.put,aB,aF,aG]
       refine tkW 25 188 ?_
       simp only [Act.put,aB,aF,aG]
       refine tkW 26 189 ?_
       simp only [Act.put,aB,aF,aG]
       refine tkW 27 190 ?_
       simp only [Act.put,aB,aF,aG]
       refine tkW 28 191 ?_
       simp only [Act.put,aB,aF,aG]
       refine tkU 29 192 ?_
       simp only [Act.put,aB,aF,aG]
       refine tkU 30 193 ?_
       simp only [Act.put,aB,aF,aG]
       refine tkU 31 194 ?_
       simp only [Act.put,aB,aF,aG]
       refine tkU 32 195 ?_
       simp only [Act.put,aB,aF,aG]
       refine tkU 33 196 ?_
       simp only [Act.put,aB,aF,aG]
       refine tkU 34 197 ?_
       simp only [Act.put,aB,aF,aG]
       refine tkU 35 198 ?_
       simp only [Act.put,aB,aF,aG]
       refine tkU 36 199 ?_
       simp only [Act.put,aB,aF,aG]
       refine tkU 37 200 ?_
       simp only [Act.put,aB,aF,aG]
       refine tkU 38 201 ?_
       simp only [Act.put,aB,aF,aG]
       refine tkU 39 202 ?_
       simp only [Act.put,aB,aF,aG]
       refine tkU 40 203 ?_
       simp only [Act.put,aB,aF,aG]
       refine tkU 41 204 ?_
       simp only [Act.put,aB,aF,aG]
       refine tkU 42 205 ?_
       simp only [Act.put,aB,aF,aG]
       refine tkU 43 206 ?_
       simp only [Act.put,aB,aF,aG]
       refine tkU 44 207 ?_
       simp only [Act.put,aB,aF,aG]
       refine tkU 45 208 ?_
       simp only [Act.put,aB,aF,aG]
       refine tkU 46 209 ?_
       simp only [Act.put,aB,aF,aG]
       refine tkW 47 210 ?_
       simp only [Act.put,aB,aF,aG]
       refine tkW 48 211 ?_
       simp only [Act.put,aB,aF,aG]
       refine wpAnyH_done (by kernel_rfl) ?_ _
       go_wp2
       go_meet
       exact ⟨rfl,hb8⟩
     case rest =>
      obtain ⟨rfl,hb8⟩:=hcut
      generalize wc=w8 at *
      have k8:=K7.out.trans (hb8.mono K7.out.size)
      clear q0 q1 hb8 H2 y0 z1 y6 x1 x2
      go_wp2_with fail
      go_loopw [23,24,214] (fun _ _ s214 WQ=>s214=.int .i64 0∧Below W.heap.size W WQ) (fun _ _ _ _=>0)
      case atStart=>exact ⟨rfl,k8⟩
      case round =>
       obtain ⟨rfl,hbq⟩:=hrel
       go_wp2
       go_ret
       exact ⟨rfl,HW.out.1.trans (hbq.mono HW.out.1.size)⟩
 ·obtain ⟨T,g,hO,rfl⟩:=hpk
  have a1:=fun wq=>(Ll hO g wq).1
  have a2:=fun wq=>(Ll hO g wq).2
  clear hz0 hq0 hok hwx H0 HLT hO
  go_wp2
  go_ret
  exact ⟨rfl,hb0⟩
