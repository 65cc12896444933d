/-
 Contracts. Conditions: those of each.
-/
import Derived.Test.YtkolcimllghnaaaGreatDoorQbZE
set_option maxRecDepth 100000
set_option maxHeartbeats 16000000
namespace Go.Proofs.YtkolcimllghnaaaGreatDoor
open Lp Go.Proofs.Tryz
open Go.RowKit
theorem Ex:(prog.info? 56).map (fun i=>(i.zero,i.size,i.bytes))=some (some (.int .u8 0),1,1):=by kernel_rfl
def Bw (sc:List Tb) (gr:Bool) (xs:List Lp.X):List Int:=xs.map fun y=>(aD sc y gr).1
theorem Yv (sc:List Tb) (gr:Bool) (xs:List Lp.X):(Bw sc gr xs).length=xs.length:=by simp [Bw]
theorem Vd (sc:List Tb) (gr:Bool) {xs:List Lp.X} {i:Nat} (h:i<xs.length):kv (Bw sc gr (xs.take i))++[.int .u8 (aD sc xs[i] gr).1]=kv (Bw sc gr (xs.take (i+1))):=by
 rw [List.take_succ_eq_append_getElem h]
 simp only [kv,Bw,List.map_append,List.map_cons,List.map_nil]
theorem rK (sc:List Tb) (gr:Bool) {xs:List Lp.X} {i:Nat} (h:i<xs.length) (h0:bG sc gr (xs.take i)=0):bG sc gr (xs.take (i+1))=(aD sc xs[i] gr).2:=by
 rw [List.take_succ_eq_append_getElem h,nG _ _ _ _ h0]
theorem Ch (sc:List Tb) (gr:Bool) {xs:List Lp.X} {i:Nat} (h:i<xs.length) (h0:bG sc gr (xs.take i)=0) (h1:(aD sc xs[i] gr).2≠0):bG sc gr xs=(aD sc xs[i] gr).2:=by
 have h2:=rK sc gr h h0
 have h3:=oU sc gr (xs.take (i+1)) (xs.drop (i+1)) (by rw [h2];exact h1)
 rw [List.take_append_drop] at h3
 rw [h3,h2]
theorem Pt (x:Lp.X):(eV x).length≤2:=by cases x<;>simp [eV]
def zM (A:Option Addr) (c:Nat) (l:List dL) (x:Lp.X):Prop:=∀ (gr:Bool) (S:Nat→Prop) (w:World) (r:RC),ScA w A l→RX S w x r→Calls prog 38 #[.slice A l.length c,r.val,.bool gr] w (rO (aD (aX l) x gr) w)
theorem eU {w w':World} {p q:Int×Int} (h:p=q) (hb:Below w.heap.size w w'):rO p w (.returned (.tuple #[.int .u8 q.1,.int .i64 q.2])) w':=by subst h;exact ⟨rfl,hb⟩
theorem Oq (A:Option Addr) (c:Nat) (l:List dL) (x:Lp.X) (gr gr2:Bool) (hk:eV x≠[]) (hg:lC x=6∧gr=true∧gr2=false∨lC x≠6∧gr2=gr) (hend:EndK x) (S:Nat→Prop) (w:World) (Ar:Option Addr) (rs:List RC) (hA:ScA w A l) (hp:Pts S w Ar (eV x) rs) (ho:∀ y∈eV x,zM A c l y) :
 Calls prog 38 #[.slice A l.length c,(rcN (lC x) (oQ x) Ar (eV x).length).val,.bool gr] w (rO (aD (aX l) x gr) w):=by
 obtain ⟨iK,hiK,hz0,hz1,hz2⟩:=info_parts Ex
 have hkx:=Pn (aX l) x hk hg
 obtain ⟨R,hR0⟩:∃ R,aD (aX l) x gr=R:=⟨_,rfl⟩
 rw [hR0] at hkx ⊢
 have HKX:=κ hkx
 clear hkx hR0
 have hn2:=Pt x
 have HE:=κ hend
 have key:∀ G:Bool,G=gr2→∀ y∈eV x,∀ (S:Nat→Prop) (w:World) (r:RC),ScA w A l→RX S w y r→Calls prog 38 #[.slice A l.length c,r.val,.bool G] w (rO (aD (aX l) y gr2) w):=by
  rintro G rfl y hy S w r h1 h2
  exact ho y hy G S w r h1 h2
 have HO:=κ key
 simp only [RC.val,rcN]
 have hb0:Below w.heap.size w (w.alloc (.cells #[.int .u8 (lC x),.int .u8 0,.int .i64 0,.string ⟨#[]⟩,.bool false,.string ⟨#[]⟩,.string ⟨(oQ x).toArray⟩,.slice Ar (eV x).length (eV x).length] 60)):=ρ
 have hz:=heap_alloc_new w (.cells #[.int .u8 (lC x),.int .u8 0,.int .i64 0,.string ⟨#[]⟩,.bool false,.string ⟨#[]⟩,.string ⟨(oQ x).toArray⟩,.slice Ar (eV x).length (eV x).length] 60)
 have hc:=β hz
 have HB:=κ (ι hb0 (ι hz (ι (hA.below hb0) (hp.below hb0))))
 have h6:((lC x==6)=true∧gr=true∧gr2=false)∨((lC x==6)=false∧gr2=gr):=by
  rcases hg with ⟨h1,h2,h3⟩|⟨h1,h2⟩
  ·exact .inl ⟨beq_iff_eq.2 h1,h2,h3⟩
  ·exact .inr ⟨η h1,h2⟩
 obtain ⟨xs,hxs⟩:∃ xs,eV x=xs:=⟨_,rfl⟩
 rw [hxs] at HKX hn2 HO hb0 hz hc HB ⊢
 have HXS:=κ hxs
 obtain ⟨k,hkk⟩:∃ k,lC x=k:=⟨_,rfl⟩
 rw [hkk] at hb0 hz hc HB h6 ⊢
 have HKK:=κ hkk
 obtain ⟨op,hop⟩:∃ op,oQ x=op:=⟨_,rfl⟩
 rw [hop] at hb0 hz hc HB ⊢
 have HOP:=κ hop
 have hnI:(xs.length:Int)≤2:=by omega
 clear hb0 hz hA hp hk hg hend ho key hxs hkk hop
 go_enter func38,ntmps38
 rcases h6 with ⟨h6,rfl,hg2⟩|⟨h6,hg2⟩
 case' inl =>
  have HO2:=κ (HO.out false hg2.symm)
  clear HO hg2
 case' inr =>
  obtain rfl:gr2=gr:=hg2
  have HO2:=κ (HO.out gr2 rfl)
  clear HO
 all_goals
  go_wp2_with fail
  generalize (w.alloc (.cells #[.int .u8 k,.int .u8 0,.int .i64 0,.string ⟨#[]⟩,.bool false,.string ⟨#[]⟩,.string ⟨op.toArray⟩,.slice Ar xs.length xs.length] 60))=W at *
  clear hc
  go_loopw [8,10,11,12,22] (fun s8 _ _ _ s22 wr=>∃ (i:Nat) (A8:Option Addr) (c8:Nat),i≤xs.length∧s22=.int .i64 i∧s8=.slice A8 i c8∧bG (aX l) gr2 (xs.take i)=0∧wr.ownsRow W.heap.size 56 1 (.slice A8 i c8) i (kv (Bw (aX l) gr2 (xs.take i)))∧Below W.heap.size W wr) (fun _ _ _ _ s22 _=>xs.length-(intOf s22).toNat)
  case atStart=>exact ⟨0,none,0,Nat.zero_le _,rfl,rfl,rfl,World.ownsRow_nil _ _ _ _,θ⟩
  case round =>
   obtain ⟨i,A8,c8,hi,rfl,rfl,hf,hown,hb⟩:=hrel
   have hkw:=HB.out.1.trans (hb.mono HB.out.1.size)
   by_cases hlt:i<xs.length
   ·have HR:=κ (ι hf (ι hown hb))
    have hpw:=HB.out.2.2.2.below hb
    have hri:i<rs.length:=by rw [hpw.1];exact hlt
    obtain ⟨bR,oR,hAR,q0,q1,q2,q3,q4,q5,q6,q7⟩:=lL hpw.2.1 hri
    have hrx:=hpw.2.2 i hlt hri
    have hok:=HO2.out _ (List.getElem_mem hlt)
    have HNX:=κ (rK (aX l) gr2 hlt hf)
    have HST:=κ (Ch (aX l) gr2 hlt hf)
    have HKS:=κ (Vd (aX l) gr2 hlt)
    subst hAR
    generalize rs[i]=r at *
    generalize xs[i]=y at *
    obtain ⟨rk,rvk,rvi,rvs,rvb,rt,rs0,rA,rn,rc⟩:=r
    have hbx:Below wr.heap.size wr (wr.alloc (.cells #[.int .u8 rk,.int .u8 rvk,.int .i64 rvi,.string rvs,.bool rvb,.string rt,.string rs0,.slice rA rn rc] 60)):=ρ
    have HC:=κ (hok S _ _ ((HB.out.2.2.1.below hb).below hbx) (RX.below hbx hrx))
    simp only [RC.val] at HC
    have HX:=κ (ι (aQ hown hbx) (hb.trans (hbx.mono hb.size)))
    clear hf hown hb hpw hri hrx hok hbx hkw
    go_wp2_with fail
    refine μ HC ?_
    rintro e w9 ⟨rfl,hb9⟩
    have hown9:=aQ HX.out.1 hb9
    have hb9w:=HX.out.2.trans (hb9.mono HX.out.2.size)
    by_cases h2:(aD (aX l) y gr2).2=0
    ·have HN:=κ (HNX.out.trans h2)
     have HKS2:=κ HKS.out
     have hsz:=hb9w.size
     rw [h2]
     generalize (aD (aX l) y gr2).1=p1 at *
     have HY:=κ (ι hown9 hb9w)
     clear hown9 hb9w hb9 q0 q1 q2 q3 q4 q5 q6 q7 HX HC h2 HST HNX
     go_wp2_with (at_builtin;refine bH _ rfl (.tmp 36) (.tmp 38) _ rfl W.heap.size 56 iK _ 1 1 underlying185 hiK hz0 hz1 hz2 rfl (by omega) _ _ _ _ rfl (HY.out.1.alloc _) _ 1 1 [.int .u8 p1] rfl rfl (cK _ _ _) (by simp [Value.oneCell']) (by simp only [maxLen];omega) (by omega) (by simp;omega) ?_;intro A4 c4 w4 hown4 hb4 hg4 _)
     have hb5:=(HY.out.2.alloc hsz _).trans hb4
     rw [HKS2.out] at hown4
     have HZ:=κ (ι hown4 hb5)
     clear hown4 hb4 hg4 hb5 HY
     go_wp2
     go_roundw
     case rel=>exact ⟨i+1,A4,c4,by omega,by go_num,by trivial,HN.out,HZ.out.1,HZ.out.2⟩
     case measure=>simp [intOf];omega
    ·have HS:=κ (HST.out h2)
     have e1:((aD (aX l) y gr2).2 !=0)=true:=by rw [bne,η h2];rfl
     have HQ:=κ (HB.out.1.trans (hb9w.mono HB.out.1.size))
     have HH2:=κ h2
     generalize (aD (aX l) y gr2).2=p2 at *
     clear hown9 hb9w hb9 q0 q1 q2 q3 q4 q5 q6 q7 HX HC h2 HST HNX HKS
     go_wp2
     go_ret2
     exact eU (q:=(0,p2)) (by rw [HKX.out,HS.out,if_neg HH2.out]) HQ.out
   ·have hi2:i=xs.length:=by omega
    subst hi2
    rw [List.take_length] at hf hown
    have hR:R=Cm x (Bw (aX l) gr2 xs):=by rw [HKX.out,hf];exact if_pos rfl
    have hkl:=Yv (aX l) gr2 xs
    generalize Bw (aX l) gr2 xs=ks at *
    have hzr:=aA HB.out.2.1 hb
    have hc:=β hzr
    have HQ:=κ hkw
    have HR:=κ hR
    have HL:=κ (show ks.length=(eV x).length by rw [HXS.out];exact hkl)
    have HW:=κ (ι hown hzr)
    have hal:=fun (q:Int)=>Ky A8 c8 ks q wr (Rds.own hown) (by omega)
    rw [hkl] at hal
    have HAL:=κ hal
    clear hf hb hkw hR hal hlt
    rcases HE.out with ⟨h1,h2⟩|⟨hkn,h1,h2⟩|⟨hkn,h1,h2⟩|⟨hkn,h1,h2⟩|⟨hkn,h1,h0,h2⟩|⟨hkn,h1,h0,h2⟩
    ·obtain rfl:k=5:=by rw [←HKK.out];exact h1
     have HV:=κ (h2 ks)
     clear h2 HE hkl hown hzr
     go_wp2
     go_ret2
     exact eU (q:=(3,0)) (by rw [HR.out,HV.out]) HQ.out
    ·rw [HKK.out] at hkn
     rw [HOP.out] at h1
     obtain ⟨k1,k2,k5⟩:=hkn
     have HV:=κ (h2 ks HL.out)
     have HC:=κ (HAL.out 3)
     clear h2 HE hkl hown hzr
     generalize Lp.allK ks 3=b at *
     rcases h1 with rfl|rfl|rfl
     all_goals
      simp only [fW,jN,uOr] at *
      cases b
      all_goals
       go_wp2_with fail
       refine μ HC ?_
       rintro e w' ⟨rfl,rfl⟩
       go_wp2
       go_ret2
       first|exact eU (q:=(3,0)) (by rw [HR.out,HV.out];rfl) HQ.out|exact eU (q:=(0,8)) (by rw [HR.out,HV.out];rfl) HQ.out
    ·rw [HKK.out] at hkn
     rw [HOP.out] at h1
     obtain ⟨k1,k2,k5⟩:=hkn
     have HV:=κ (h2 ks HL.out)
     have HC:=κ (HAL.out 1)
     clear h2 HE hkl hown hzr
     generalize Lp.allK ks 1=b at *
     simp only [List.mem_cons,List.not_mem_nil,or_false] at h1
     rcases h1 with rfl|rfl|rfl|rfl|rfl|rfl
     all_goals
      try simp only [dN] at *
      cases b
      all_goals
       go_wp2_with fail
       refine μ HC ?_
       rintro e w' ⟨rfl,rfl⟩
       go_wp2
       go_ret2
       first|exact eU (q:=(1,0)) (by rw [HR.out,HV.out];rfl) HQ.out|exact eU (q:=(0,8)) (by rw [HR.out,HV.out];rfl) HQ.out
    ·rw [HKK.out] at hkn
     rw [HOP.out] at h1
     obtain ⟨k1,k2,k5⟩:=hkn
     have HV:=κ (h2 ks)
     subst h1
     simp only [aU] at *
     clear h2 HE hkl hown hzr
     go_wp2
     go_ret2
     exact eU (q:=(1,0)) (by rw [HR.out,HV.out]) HQ.out
    ·rw [HKK.out] at hkn
     rw [HOP.out] at h1
     obtain ⟨k1,k2,k5⟩:=hkn
     obtain ⟨a,rfl⟩:=yO (HL.out.trans h0)
     have HV:=κ (h2 a)
     obtain ⟨b,off,hA8,q0⟩:=(Rds.own hown).at_ (Gr (l:=[a]) (i:=0) (by simp))
     subst hA8
     simp only [Nat.add_zero,List.getElem_cons_zero] at q0
     have hx1:xs.length=1:=by simpa using hkl.symm
     clear h2 HE hkl hown hzr HAL
     rcases h1 with rfl|rfl
     all_goals
      simp only [eY,eZ] at *
      go_wp2
      go_ret2
      exact eU (q:=(a,0)) (by rw [HR.out,HV.out]) HQ.out
    ·rw [HKK.out] at hkn
     rw [HOP.out] at h1
     obtain ⟨k1,k2,k5⟩:=hkn
     obtain ⟨a,b,rfl⟩:=Dn (HL.out.trans h0)
     have HV:=κ (h2 a b)
     obtain ⟨bb,off,hA8,q0⟩:=(Rds.own hown).at_ (Gr (l:=[a,b]) (i:=0) (by simp))
     obtain ⟨bb2,off2,hA82,q1⟩:=(Rds.own hown).at_ (Gr (l:=[a,b]) (i:=1) (by simp))
     subst hA8
     simp only [Option.some.injEq,Addr.mk.injEq,and_true] at hA82
     obtain ⟨rfl,rfl⟩:=hA82
     simp only [Nat.add_zero,List.getElem_cons_zero,List.getElem_cons_succ] at q0 q1
     have hx1:xs.length=2:=by simpa using hkl.symm
     obtain ⟨o1,o2,o3,o4,o5,o6,o7,o8,o9,o10,o11,o12⟩:=Ke op h1
     clear h2 HE hkl hown hzr HAL h1
     cases e1:(a==0)
     ·have n1:(a !=0)=true:=by rw [bne,e1];rfl
      cases e2:(b==0)
      ·have n2:(b !=0)=true:=by rw [bne,e2];rfl
       cases e3:(a==b)
       ·have n3:(a !=b)=true:=by rw [bne,e3];rfl
        have HT:=κ (show (if a≠0∧b≠0∧a≠b then ((0,8):Int×Int) else (3,0))=(0,8) from if_pos ⟨ne_of_beq_false e1,ne_of_beq_false e2,ne_of_beq_false e3⟩)
        go_wp2_with fail
        go_region
        go_wp2
        go_ret2
        exact eU (q:=(0,8)) (by rw [HR.out,HV.out,HT.out]) HQ.out.drew
       ·have n3:(a !=b)=false:=by rw [bne,e3];rfl
        have HT:=κ (show (if a≠0∧b≠0∧a≠b then ((0,8):Int×Int) else (3,0))=(3,0) from if_neg fun h=>h.2.2 (eq_of_beq e3))
        go_wp2_with fail
        go_region
        go_wp2
        go_ret2
        exact eU (q:=(3,0)) (by rw [HR.out,HV.out,HT.out]) HQ.out.drew
      ·have n2:(b !=0)=false:=by rw [bne,e2];rfl
       have HT:=κ (show (if a≠0∧b≠0∧a≠b then ((0,8):Int×Int) else (3,0))=(3,0) from if_neg fun h=>h.2.1 (eq_of_beq e2))
       go_wp2_with fail
       go_region
       go_wp2
       go_ret2
       exact eU (q:=(3,0)) (by rw [HR.out,HV.out,HT.out]) HQ.out.drew
     ·have n1:(a !=0)=false:=by rw [bne,e1];rfl
      have HT:=κ (show (if a≠0∧b≠0∧a≠b then ((0,8):Int×Int) else (3,0))=(3,0) from if_neg fun h=>h.1 (eq_of_beq e1))
      go_wp2_with fail
      go_region
      go_wp2
      go_ret2
      exact eU (q:=(3,0)) (by rw [HR.out,HV.out,HT.out]) HQ.out.drew
theorem uJ (A:Option Addr) (c:Nat) (l:List dL) {x:Lp.X} (hx:x.wf) (hk:eV x≠[]) (ho:∀ y∈eV x,zM A c l y) (h6:lC x≠6):zM A c l x:=by
 intro gr S w r hA hr
 obtain ⟨Ar,rs,rfl,hp⟩:=Eb hr hk
 exact Oq A c l x gr gr hk (.inr ⟨h6,rfl⟩) (Qq hx hk) S w Ar rs hA hp ho
theorem Po (A:Option Addr) (n c:Nat) (r:RC) (hr:r.k=6) (w:World) :
 Calls prog 38 #[.slice A n c,r.val,.bool false] w (rO (0,3) w):=by
 obtain ⟨k,vk,vi,vs,vb,t,s,Ar,rn,rc⟩:=r
 simp only at hr
 subst hr
 have HB:=κ (show Below w.heap.size w (w.alloc (.cells #[.int .u8 6,.int .u8 vk,.int .i64 vi,.string vs,.bool vb,.string t,.string s,.slice Ar rn rc] 60)) from ρ)
 simp only [RC.val]
 go_enter func38,ntmps38
 go_wp2
 go_ret2
 exact ⟨rfl,HB.out⟩
theorem uK (A:Option Addr) (c:Nat) (l:List dL) (hn:l.length≤100) (hw:bW (aX l)≤10000):∀ x:Lp.X,x.wf→zM A c l x:=by
 have nil_ne:∀ {y:Lp.X} {ys:List Lp.X},y::ys≠[]:=fun h=>by cases h
 intro x
 induction x with
 | lit k i s b=>intro _ gr S w r hA hr;obtain rfl:r=rcL k i s b:=hr;exact Eu A c l.length k i s b gr w
 | col t s=>intro _ gr S w r hA hr;obtain rfl:r=rcC t s:=hr;exact Ev A c l t s gr w hA hn hw
 | cnt =>
   intro _ gr S w r hA hr
   obtain rfl:r=rc0 6 aU:=hr
   exact Ew A c l.length gr w
 | un op x ih=>intro hx;exact uJ A c l hx (by exact nil_ne) (fun y hy=>by rw [List.mem_singleton.1 hy];exact ih hx.2) (by show (3:Int)≠6;decide)
 | isn n x ih=>intro hx;exact uJ A c l hx (by exact nil_ne) (fun y hy=>by rw [List.mem_singleton.1 hy];exact ih hx) (by show (5:Int)≠6;decide)
 | bin op a b iha ihb =>
   intro hx
   refine uJ A c l hx (by exact nil_ne) (fun y hy => ?_) (by show (4:Int)≠6;decide)
   rcases List.mem_cons.1 hy with rfl|hy
   ·exact iha hx.2.1
   ·rw [List.mem_singleton.1 hy];exact ihb hx.2.2
 | agg op x ih =>
   intro hx gr S w r hA hr
   obtain ⟨Ar,rs,rfl,hp⟩:=Eb (x:=.agg op x) hr (by exact nil_ne)
   cases gr
   ·exact Po A l.length c _ rfl w
   ·exact Oq A c l (.agg op x) true false (by exact nil_ne) (.inl ⟨rfl,rfl,rfl⟩) (Qq hx (by exact nil_ne)) S w Ar rs hA hp fun y hy=>by rw [List.mem_singleton.1 hy];exact ih hx.2
