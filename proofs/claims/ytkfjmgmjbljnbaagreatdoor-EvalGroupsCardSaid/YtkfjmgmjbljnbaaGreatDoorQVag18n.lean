/-
 The document's Value at a node. Conditions: as in Val18.
-/
import Derived.Test.YtkfjmgmjbljnbaaGreatDoorQZG
import Derived.BigQuiet
set_option maxRecDepth 100000
set_option maxHeartbeats 32000000
namespace Go.Proofs.YtkfjmgmjbljnbaaGreatDoor
open Go.RowKit
inductive EndR (x:Lp.X):Prop
 | isn (n:Bool) (h1:nodK x=5) (h2:nodS x=if n then Lp.uNot else []) (h0:(kids x).length=1) (h3:∀ u,endV x [u]=Lp.isX n u)
 | not (h1:nodK x=3) (h2:nodS x=Lp.uNot) (h0:(kids x).length=1) (h3:∀ u,endV x [u]=Lp.unX Lp.uNot u)
 | neg (h1:nodK x=3) (h2:nodS x=[45]) (h0:(kids x).length=1) (h3:∀ u,endV x [u]=Lp.unX [45] u)
 | bin (op:List UInt8) (h1:nodK x=4) (h2:nodS x=op) (hop:op∈Lp.binOps) (h0:(kids x).length=2) (h3:∀ u v,endV x [u,v]=Lp.binX op u v)
theorem endR_of {x:Lp.X} (hw:x.wf) (hk:kids x≠[]) (h6:nodK x≠6):EndR x:=by
 cases x with
 | lit=>exact absurd rfl hk
 | col=>exact absurd rfl hk
 | cnt=>exact absurd rfl hk
 | agg=>exact absurd rfl h6
 | isn n y=>exact .isn n rfl rfl rfl fun _=>rfl
 | un op y =>
   rcases hw.1 with rfl|rfl
   ·exact .not rfl rfl rfl fun _=>rfl
   ·exact .neg rfl rfl rfl fun _=>rfl
 | bin op a b=>exact .bin op rfl rfl hw.1 rfl fun _ _=>rfl
def CmpOk (u v:Lp.V):Prop:=∀ op,Lp.cmpX op u v=if u.k=0∨v.k=0 then (Lp.nullV,0) else (Lp.truV (Lp.refS op (Lp.vless u v) (Lp.vsame u v)),0)
theorem oneV {vs:List Lp.V} (h:vs.length=1):∃ a,vs=[a]:=by
 match vs,h with
 | [a],_=>exact ⟨a,rfl⟩
theorem twoV {vs:List Lp.V} (h:vs.length=2):∃ a b,vs=[a,b]:=by
 match vs,h with
 | [a,b],_=>exact ⟨a,b,rfl⟩
theorem bin_split:∀ op∈Lp.binOps,op=Lp.uAnd∨op=Lp.uOr∨(¬(op=Lp.uAnd∨op=Lp.uOr)∧op∈Lp.arith)∨(¬(op=Lp.uAnd∨op=Lp.uOr)∧¬op∈Lp.arith∧op∈cmpOps):=by decide
theorem ari_facts:∀ o∈Lp.arith,(o==[65,78,68])=false∧(o==[79,82])=false∧(o==[61])=false∧(o==[60,62])=false∧(o==[60])=false∧(o==[60,61])=false∧(o==[62])=false∧(o==[62,61])=false:=by decide
theorem cmp_facts2:∀ o∈cmpOps,(o==[65,78,68])=false∧(o==[79,82])=false:=by decide
theorem keep8 {w W:World} {b o:Nat} {u0 u1 u2 u3 v0 v1 v2 v3:Value} (hb:Below w.heap.size w W) (h0:w.cell? ⟨b,o,none⟩=some u0) (h1:w.cell? ⟨b,o+1,none⟩=some u1) (h2:w.cell? ⟨b,o+2,none⟩=some u2) (h3:w.cell? ⟨b,o+3,none⟩=some u3) (j0:w.cell? ⟨b,o+4,none⟩=some v0) (j1:w.cell? ⟨b,o+4+1,none⟩=some v1) (j2:w.cell? ⟨b,o+4+2,none⟩=some v2) (j3:w.cell? ⟨b,o+4+3,none⟩=some v3) :
 W.cell? ⟨b,o,none⟩=some u0∧W.cell? ⟨b,o+1,none⟩=some u1∧W.cell? ⟨b,o+2,none⟩=some u2∧W.cell? ⟨b,o+3,none⟩=some u3∧W.cell? ⟨b,o+4,none⟩=some v0∧W.cell? ⟨b,o+4+1,none⟩=some v1∧W.cell? ⟨b,o+4+2,none⟩=some v2∧W.cell? ⟨b,o+4+3,none⟩=some v3 :=
 ⟨cell_belo h0 hb,cell_belo h1 hb,cell_belo h2 hb,cell_belo h3 hb,cell_belo j0 hb,cell_belo j1 hb,cell_belo j2 hb,cell_belo j3 hb⟩
def TrF (w0:World) (bad:Bool) (n:Int) (e:Ending) (w':World):Prop:=∃ k b E,Lp.triV bad n=(⟨k,0,⟨#[]⟩,b⟩,E)∧e=.returned (.tuple #[.agg #[.int .u8 k,.int .i64 0,.string ⟨#[]⟩,.bool b],.int .i64 E])∧Below w0.heap.size w0 w'
theorem trf {w0 W:World} {f:FuncId} {args:Array Value} {bad:Bool} {n:Int} (hb:Below w0.heap.size w0 W) (h:Calls Tryz.prog f args W (TruthPost bad n W)):Calls Tryz.prog f args W (TrF w0 bad n) :=
 h.mono fun _ _ hj=>by
  obtain ⟨k,b,E,h1,h2,h3⟩:=truth_form hj
  exact ⟨k,b,E,h1,h2,hb.trans (h3.mono hb.size)⟩
theorem val_node (A:Option Addr) (c:Nat) (l:List TabA) (r:RowV) (wv:Value) (rows:List (List Lp.V)) (P:World→Prop) (hP:∀ w w':World,P w→Below w.heap.size w w'→P w') (x:Lp.X) (hk:kids x≠[]) (h6:nodK x≠6) (hend:EndR x) (S:Nat→Prop) (w:World) (Ar:Option Addr) (rs:List RC) (hA:ScA w A l) (hp:Pts S w Ar (kids x) rs) (hrd:RdsV w r.1 r.2.2) (hpw:P w) (ho:∀ y∈kids x,ValOk A c l r wv rows P y)
 (hG:firstR (scOf l) r.2.2 rows (kids x)=0→(∀ u∈valsR (scOf l) r.2.2 rows (kids x),Lp.Gd u)∧∀ u v,valsR (scOf l) r.2.2 rows (kids x)=[u,v]→nodS x∈cmpOps→CmpOk u v) :
 Calls Tryz.prog 25 #[.slice A l.length c,(rcN (nodK x) (nodS x) Ar (kids x).length).val,r.val,wv] w (EvPost (Lp.evalX (scOf l) x r.2.2 rows) w):=by
 obtain ⟨iV,hiV,hz0,hz1,hz2⟩:=info_parts valInfo
 have hkx:=eval_nod (scOf l) r.2.2 rows x hk h6
 obtain ⟨R,hR0⟩:∃ R,Lp.evalX (scOf l) x r.2.2 rows=R:=⟨_,rfl⟩
 rw [hR0] at hkx ⊢
 have HKX:=κ hkx
 have hn2:(kids x).length≤2:=by cases x<;>simp [kids]
 have HE:=κ hend
 have HO:=κ ho
 have HG:=κ hG
 obtain ⟨rA,rc0,row⟩:=r
 simp only [RC.val,rcN,RowV.val] at *
 have hb0:Below w.heap.size w (((w.alloc (.cells #[.int .u8 (nodK x),.int .u8 0,.int .i64 0,.string ⟨#[]⟩,.bool false,.string ⟨#[]⟩,.string ⟨(nodS x).toArray⟩,.slice Ar (kids x).length (kids x).length] 35)).alloc (.cells #[.int .u8 0,.int .i64 0,.string ⟨#[]⟩,.bool false] 31)).alloc (.cells #[.int .u8 0,.int .i64 0,.string ⟨#[]⟩,.bool false] 31)):=ba (ba (ba (Below.refl _ _) _) _) _
 have hzx:=box_alloc (box_alloc (heap_alloc_new w (.cells #[.int .u8 (nodK x),.int .u8 0,.int .i64 0,.string ⟨#[]⟩,.bool false,.string ⟨#[]⟩,.string ⟨(nodS x).toArray⟩,.slice Ar (kids x).length (kids x).length] 35)) (.cells #[.int .u8 0,.int .i64 0,.string ⟨#[]⟩,.bool false] 31)) (.cells #[.int .u8 0,.int .i64 0,.string ⟨#[]⟩,.bool false] 31)
 have hz8:=box_alloc (heap_new2 w (.cells #[.int .u8 (nodK x),.int .u8 0,.int .i64 0,.string ⟨#[]⟩,.bool false,.string ⟨#[]⟩,.string ⟨(nodS x).toArray⟩,.slice Ar (kids x).length (kids x).length] 35) (.cells #[.int .u8 0,.int .i64 0,.string ⟨#[]⟩,.bool false] 31)) (.cells #[.int .u8 0,.int .i64 0,.string ⟨#[]⟩,.bool false] 31)
 have hz10:=heap_alloc_new ((w.alloc (.cells #[.int .u8 (nodK x),.int .u8 0,.int .i64 0,.string ⟨#[]⟩,.bool false,.string ⟨#[]⟩,.string ⟨(nodS x).toArray⟩,.slice Ar (kids x).length (kids x).length] 35)).alloc (.cells #[.int .u8 0,.int .i64 0,.string ⟨#[]⟩,.bool false] 31)) (.cells #[.int .u8 0,.int .i64 0,.string ⟨#[]⟩,.bool false] 31)
 rw [show ((w.alloc (.cells #[.int .u8 (nodK x),.int .u8 0,.int .i64 0,.string ⟨#[]⟩,.bool false,.string ⟨#[]⟩,.string ⟨(nodS x).toArray⟩,.slice Ar (kids x).length (kids x).length] 35)).alloc (.cells #[.int .u8 0,.int .i64 0,.string ⟨#[]⟩,.bool false] 31)).heap.size=w.heap.size+1+1 by simp] at hz10
 have hsz:w.heap.size+1+1+1≤(((w.alloc (.cells #[.int .u8 (nodK x),.int .u8 0,.int .i64 0,.string ⟨#[]⟩,.bool false,.string ⟨#[]⟩,.string ⟨(nodS x).toArray⟩,.slice Ar (kids x).length (kids x).length] 35)).alloc (.cells #[.int .u8 0,.int .i64 0,.string ⟨#[]⟩,.bool false] 31)).alloc (.cells #[.int .u8 0,.int .i64 0,.string ⟨#[]⟩,.bool false] 31)).heap.size:=by simp
 have hcx:=β hzx
 have HPW:=κ (hP _ _ hpw hb0)
 have HPP:=κ hP
 clear hP
 have HB:=κ (ι hb0 (ι hzx (ι hz8 (ι hz10 (ι hsz (ι (hA.below hb0) (ι (hp.below hb0) (Rds.below hrd hb0))))))))
 have e6:(nodK x==6)=false:=beq_eq_false_iff_ne.2 h6
 obtain ⟨xs,hxs⟩:∃ xs,kids x=xs:=⟨_,rfl⟩
 rw [hxs] at HKX hn2 HO HG hcx HB HPW ⊢
 have HXS:=κ hxs
 obtain ⟨k,hkk⟩:∃ k,nodK x=k:=⟨_,rfl⟩
 rw [hkk] at hcx HB HPW e6 ⊢
 have HKK:=κ hkk
 obtain ⟨op,hop⟩:∃ op,nodS x=op:=⟨_,rfl⟩
 rw [hop] at hcx HB HPW HG ⊢
 have HOP:=κ hop
 have hnI:(xs.length:Int)≤2:=by omega
 clear hb0 hzx hz8 hz10 hsz hA hp hrd hpw hk h6 hend ho hG hxs hkk hop hkx hR0
 go_enter Tryz.func25,Tryz.ntmps25
 go_wp2_with fail
 generalize (((w.alloc (.cells #[.int .u8 k,.int .u8 0,.int .i64 0,.string ⟨#[]⟩,.bool false,.string ⟨#[]⟩,.string ⟨op.toArray⟩,.slice Ar xs.length xs.length] 35)).alloc (.cells #[.int .u8 0,.int .i64 0,.string ⟨#[]⟩,.bool false] 31)).alloc (.cells #[.int .u8 0,.int .i64 0,.string ⟨#[]⟩,.bool false] 31))=W at *
 clear hcx
 go_loopw [11,13,14,15,35] (fun s11 _ _ _ s35 wr=>∃ (i:Nat) (A8:Option Addr) (c8:Nat),i≤xs.length∧s35=.int .i64 i∧s11=.slice A8 i c8∧firstR (scOf l) row rows (xs.take i)=0∧wr.ownsRow W.heap.size 31 4 (.slice A8 i c8) i (Lp.vv (valsR (scOf l) row rows (xs.take i)))∧Below W.heap.size W wr) (fun _ _ _ _ s35 _=>xs.length-(intOf s35).toNat)
 case atStart=>exact ⟨0,none,0,Nat.zero_le _,rfl,rfl,rfl,World.ownsRow_nil _ _ _ _,Below.refl _ _⟩
 case round =>
  obtain ⟨i,A8,c8,hi,rfl,rfl,hf,hown,hb⟩:=hrel
  have hkw:=HB.out.1.trans (hb.mono HB.out.1.size)
  by_cases hlt:i<xs.length
  ·have hpw:=HB.out.2.2.2.2.2.2.1.below hb
   have hri:i<rs.length:=by rw [hpw.1];exact hlt
   obtain ⟨bR,oR,hAR,q0,q1,q2,q3,q4,q5,q6,q7⟩:=rcs_cells hpw.2.1 hri
   have hrx:=hpw.2.2 i hlt hri
   have hok:=HO.out _ (List.getElem_mem hlt)
   have HNX:=κ (firstR_next (scOf l) row rows hlt hf)
   have HST:=κ (firstR_stop (scOf l) row rows hlt hf)
   have HVS:=κ (valsR_snoc (scOf l) row rows hlt)
   subst hAR
   generalize rs[i]=r at *
   generalize xs[i]=y at *
   obtain ⟨rk,rvk,rvi,rvs,rvb,rt,rs0,rAA,rn,rc⟩:=r
   have hbx:Below wr.heap.size wr (wr.alloc (.cells #[.int .u8 rk,.int .u8 rvk,.int .i64 rvi,.string rvs,.bool rvb,.string rt,.string rs0,.slice rAA rn rc] 35)):=(Below.refl _ _).alloc (Nat.le_refl _) _
   have hC:=hok S _ _ ((HB.out.2.2.2.2.2.1.below hb).below hbx) (RX.below hbx hrx) (Rds.below (Rds.below HB.out.2.2.2.2.2.2.2 hb) hbx) (HPP.out _ _ (HPP.out _ _ HPW.out hb) hbx)
   simp only [RC.val,RowV.val] at hC
   have HC:=κ hC
   have HX:=κ (ι (own_under hown hbx) (hb.trans (hbx.mono hb.size)))
   clear hf hown hb hpw hri hrx hok hbx hkw hC
   go_wp2_with fail
   refine HC.out.mono ?_
   rintro e w9 hj
   obtain ⟨uk,ui,us,ub,E,hE,rfl,hb9⟩:=hj.form
   rw [hE] at HNX HST HVS
   have hbv:Below w9.heap.size w9 (w9.alloc (.cells #[.int .u8 uk,.int .i64 ui,.string us,.bool ub] 31)):=ba (Below.refl _ _) _
   have cv:=β (heap_alloc_new w9 (.cells #[.int .u8 uk,.int .i64 ui,.string us,.bool ub] 31))
   have hown9:=own_under (own_under HX.out.1 hb9) hbv
   have hb9w:=(HX.out.2.trans (hb9.mono HX.out.2.size)).trans (hbv.mono (HX.out.2.trans (hb9.mono HX.out.2.size)).size)
   clear hj hE HC
   by_cases h2:E=0
   ·subst h2
    have HN:=κ (HNX.out)
    have hsz9:=hb9w.size
    have HY:=κ (ι hown9 hb9w)
    clear hown9 hb9w hb9 hbv q0 q1 q2 q3 q4 q5 q6 q7 HX HST HNX
    go_wp2_with (at_builtin;go_loud (refine wpList_app _ rfl (.tmp 51) (.tmp 53) _ rfl W.heap.size 31 iV _ 4 40 Tryz.underlying23 hiV hz0 hz1 hz2 rfl (by omega) _ _ _ _ rfl (HY.out.1.alloc _) _ 1 1 (Lp.vv [⟨uk,ui,us,ub⟩]) rfl rfl (rds_blk (Lp.vv [⟨uk,ui,us,ub⟩]) (heap_new2 w9 _ _)) (by simp [Value.oneCell',Lp.vv,Lp.V.cells]) (by simp only [maxLen];omega) (by omega) (by rw [World.size_alloc];omega) ?_;intro A4 c4 w4 hown4 hb4 hg4 hk4))
    have hb5:=(HY.out.2.alloc hsz9 _).trans hb4
    rw [HVS.out] at hown4
    have HZ:=κ (ι hown4 hb5)
    clear hown4 hb4 hg4 hk4 hb5 HY
    go_wp2
    go_roundw
    case rel=>exact ⟨i+1,A4,c4,by omega,by go_num,by trivial,HN.out,HZ.out.1,HZ.out.2⟩
    case measure=>simp [intOf];omega
   ·have HS:=κ (HST.out h2)
    have e1:(E !=0)=true:=by rw [bne,beq_eq_false_iff_ne.2 h2];rfl
    have hr9:=box_below HB.out.2.2.1 hb9w
    have hn9:=box_below HB.out.2.2.2.1 hb9w
    have hk9:=HB.out.1.trans (hb9w.mono HB.out.1.size)
    have hc9:=β hr9
    have cn9:=β hn9
    have hf9:=fun j=>frozen_of_row _ _ j _ _ hr9
    have HQ:=κ (show R=(⟨0,0,⟨#[]⟩,false⟩,E) by rw [HKX.out,HS.out,if_neg h2];rfl)
    have HCE:=κ (β (set4_same hr9 (.int .u8 0) (.int .i64 0) (.string ⟨#[]⟩) (.bool false)))
    have K5:=κ (below_set4 hk9 (g:=w.heap.size+1) (Nat.le_succ _) (.int .u8 0) (.int .i64 0) (.string ⟨#[]⟩) (.bool false))
    clear hown9 hb9w hb9 hbv q0 q1 q2 q3 q4 q5 q6 q7 HX HST HNX HVS h2 hr9 hn9 hk9
    go_wp2
    have hcE:=HCE.out
    exact bodyPost_ret (v:=.tuple #[.agg #[.int .u8 0,.int .i64 0,.string ⟨#[]⟩,.bool false],.int .i64 E]) (by simp [results,Tryz.results25,go_sem,hcE]) rfl (EvPost.mk HQ.out K5.out)
  ·have hi2:i=xs.length:=by omega
   subst hi2
   rw [List.take_length] at hf hown
   have hR:R=endV x (valsR (scOf l) row rows xs):=by rw [HKX.out,hf];exact if_pos rfl
   have hvl:=valsR_len (scOf l) row rows xs
   have hgd:=HG.out hf
   generalize valsR (scOf l) row rows xs=vs at *
   have hcx:=β (box_below HB.out.2.1 hb)
   have HXB:=κ (box_below HB.out.2.1 hb)
   have hr8:=box_below HB.out.2.2.1 hb
   have hn8:=box_below HB.out.2.2.2.1 hb
   have HR:=κ hR
   have HV:=κ (ι hvl hgd)
   have HW:=κ (ι hown (ι hr8 (ι hn8 hkw)))
   clear hf hb hkw hR hvl hgd hown hr8 hn8 hlt
   rcases HE.out with ⟨n,h1,h2,h0,h3⟩|⟨h1,h2,h0,h3⟩|⟨h1,h2,h0,h3⟩|⟨op',h1,h2,hop,h0,h3⟩
   ·obtain rfl:k=5:=HKK.out.symm.trans h1
    have h2':=HOP.out.symm.trans h2
    obtain ⟨⟨u1,u2,u3,u4⟩,rfl⟩:=oneV (HV.out.1.trans ((congrArg List.length HXS.out).symm.trans h0))
    obtain ⟨bq,oq,hA8,q0,q1,q2,q3⟩:=RdsV.cells (Rds.own HW.out.1) (i:=0) (by simp)
    subst hA8
    simp only [Nat.zero_mul,Nat.add_zero,List.getElem_cons_zero] at q0 q1 q2 q3
    have hx1:xs.length=1:=by rw [←HXS.out];exact h0
    have hgu:=HV.out.2.1 _ (List.mem_singleton.2 rfl)
    have hr8:=HW.out.2.1
    have hn8:=HW.out.2.2.1
    have hk8:=HW.out.2.2.2
    have T2:=κ (fun (bb:Bool) (W':World) (hb:Below wr.heap.size wr W')=>(truth2_any bb W').mono fun _ _ ⟨e1,e2⟩=>(⟨e1,e2▸hb.alloc hb.size _⟩:_∧Below wr.heap.size wr _))
    have H3:=κ (h3 ⟨u1,u2,u3,u4⟩)
    clear h1 h2 h0 h3 HE hgu
    cases n
    ·simp only [Bool.false_eq_true,if_false] at h2'
     subst h2'
     try simp only [Lp.uNot] at *
     cases e1:(u1==0)
     ·have HQ:=κ (show R=(⟨3,0,⟨#[]⟩,false⟩,0) by rw [HR.out,H3.out];simp [Lp.isX,Lp.truV,e1])
      go_wp2_with fail
      first|go_region_with (go_at_call 54;refine (T2.out _ _ (by first|exact Below.refl _ _|assumption|exact (Below.refl _ _).drew)).mono ?_;rintro e w2 ⟨rfl,hb2⟩;have hr9:=box_below hr8 hb2;have hc9:=β hr9;have hf9:=fun j=>frozen_of_row _ _ j _ _ hr9)|fail
      all_goals
       have hk9:=hk8.trans (hb2.mono hk8.size)
       have HCE:=κ (β (set4_same hr9 (.int .u8 3) (.int .i64 0) (.string ⟨#[]⟩) (.bool false)))
       have K5:=κ (below_set4 hk9 (g:=w.heap.size+1) (Nat.le_succ _) (.int .u8 3) (.int .i64 0) (.string ⟨#[]⟩) (.bool false))
       clear hr8 hn8 hk8 hb2 hr9 hk9 q0 q1 q2 q3
       go_wp2
       have hcE:=HCE.out
       exact bodyPost_ret (v:=.tuple #[.agg #[.int .u8 3,.int .i64 0,.string ⟨#[]⟩,.bool false],.int .i64 0]) (by simp [results,Tryz.results25,go_sem,hcE]) rfl (EvPost.mk HQ.out K5.out)
     ·have HQ:=κ (show R=(⟨3,0,⟨#[]⟩,true⟩,0) by rw [HR.out,H3.out];simp [Lp.isX,Lp.truV,e1])
      go_wp2_with fail
      first|go_region_with (go_at_call 54;refine (T2.out _ _ (by first|exact Below.refl _ _|assumption|exact (Below.refl _ _).drew)).mono ?_;rintro e w2 ⟨rfl,hb2⟩;have hr9:=box_below hr8 hb2;have hc9:=β hr9;have hf9:=fun j=>frozen_of_row _ _ j _ _ hr9)|fail
      all_goals
       have hk9:=hk8.trans (hb2.mono hk8.size)
       have HCE:=κ (β (set4_same hr9 (.int .u8 3) (.int .i64 0) (.string ⟨#[]⟩) (.bool true)))
       have K5:=κ (below_set4 hk9 (g:=w.heap.size+1) (Nat.le_succ _) (.int .u8 3) (.int .i64 0) (.string ⟨#[]⟩) (.bool true))
       clear hr8 hn8 hk8 hb2 hr9 hk9 q0 q1 q2 q3
       go_wp2
       have hcE:=HCE.out
       exact bodyPost_ret (v:=.tuple #[.agg #[.int .u8 3,.int .i64 0,.string ⟨#[]⟩,.bool true],.int .i64 0]) (by simp [results,Tryz.results25,go_sem,hcE]) rfl (EvPost.mk HQ.out K5.out)
    ·simp only [if_true] at h2'
     subst h2'
     try simp only [Lp.uNot] at *
     cases e1:(u1==0)
     ·have HQ:=κ (show R=(⟨3,0,⟨#[]⟩,true⟩,0) by rw [HR.out,H3.out];simp [Lp.isX,Lp.truV,e1])
      go_wp2_with fail
      first|go_region_with (go_at_call 54;refine (T2.out _ _ (by first|exact Below.refl _ _|assumption|exact (Below.refl _ _).drew)).mono ?_;rintro e w2 ⟨rfl,hb2⟩;have hr9:=box_below hr8 hb2;have hc9:=β hr9;have hf9:=fun j=>frozen_of_row _ _ j _ _ hr9)|fail
      all_goals
       have hk9:=hk8.trans (hb2.mono hk8.size)
       have HCE:=κ (β (set4_same hr9 (.int .u8 3) (.int .i64 0) (.string ⟨#[]⟩) (.bool true)))
       have K5:=κ (below_set4 hk9 (g:=w.heap.size+1) (Nat.le_succ _) (.int .u8 3) (.int .i64 0) (.string ⟨#[]⟩) (.bool true))
       clear hr8 hn8 hk8 hb2 hr9 hk9 q0 q1 q2 q3
       go_wp2
       have hcE:=HCE.out
       exact bodyPost_ret (v:=.tuple #[.agg #[.int .u8 3,.int .i64 0,.string ⟨#[]⟩,.bool true],.int .i64 0]) (by simp [results,Tryz.results25,go_sem,hcE]) rfl (EvPost.mk HQ.out K5.out)
     ·have HQ:=κ (show R=(⟨3,0,⟨#[]⟩,false⟩,0) by rw [HR.out,H3.out];simp [Lp.isX,Lp.truV,e1])
      go_wp2_with fail
      first|go_region_with (go_at_call 54;refine (T2.out _ _ (by first|exact Below.refl _ _|assumption|exact (Below.refl _ _).drew)).mono ?_;rintro e w2 ⟨rfl,hb2⟩;have hr9:=box_below hr8 hb2;have hc9:=β hr9;have hf9:=fun j=>frozen_of_row _ _ j _ _ hr9)|fail
      all_goals
       have hk9:=hk8.trans (hb2.mono hk8.size)
       have HCE:=κ (β (set4_same hr9 (.int .u8 3) (.int .i64 0) (.string ⟨#[]⟩) (.bool false)))
       have K5:=κ (below_set4 hk9 (g:=w.heap.size+1) (Nat.le_succ _) (.int .u8 3) (.int .i64 0) (.string ⟨#[]⟩) (.bool false))
       clear hr8 hn8 hk8 hb2 hr9 hk9 q0 q1 q2 q3
       go_wp2
       have hcE:=HCE.out
       exact bodyPost_ret (v:=.tuple #[.agg #[.int .u8 3,.int .i64 0,.string ⟨#[]⟩,.bool false],.int .i64 0]) (by simp [results,Tryz.results25,go_sem,hcE]) rfl (EvPost.mk HQ.out K5.out)
   ·obtain rfl:k=3:=HKK.out.symm.trans h1
    have h2':=HOP.out.symm.trans h2
    obtain ⟨⟨u1,u2,u3,u4⟩,rfl⟩:=oneV (HV.out.1.trans ((congrArg List.length HXS.out).symm.trans h0))
    obtain ⟨bq,oq,hA8,q0,q1,q2,q3⟩:=RdsV.cells (Rds.own HW.out.1) (i:=0) (by simp)
    subst hA8
    simp only [Nat.zero_mul,Nat.add_zero,List.getElem_cons_zero] at q0 q1 q2 q3
    have hx1:xs.length=1:=by rw [←HXS.out];exact h0
    have hgu:=HV.out.2.1 _ (List.mem_singleton.2 rfl)
    have hr8:=HW.out.2.1
    have hn8:=HW.out.2.2.1
    have hk8:=HW.out.2.2.2
    have H3:=κ (h3 ⟨u1,u2,u3,u4⟩)
    have h3t:=Lp.three_tw hgu
    have HT3:=κ h3t
    clear h1 h2 h0 h3 HE hgu h3t
    subst h2'
    try simp only [Lp.uNot] at *
    go_wp2_with fail
    refine (rnot_any u1 u2 u3 u4 _).mono ?_
    rintro e w2 hj
    obtain ⟨K,bb,E,hT,rfl,hb2⟩:=truth_form hj
    clear hj
    have HQ:=κ (show R=(⟨K,0,⟨#[]⟩,bb⟩,E) by rw [HR.out,H3.out, ←hT];have:=HT3.out;(try simp only at this);rw [this];rfl)
    have hr9:=box_below hr8 hb2
    have hk9:=hk8.trans (hb2.mono hk8.size)
    have hc9:=β hr9
    have hf9:=fun j=>frozen_of_row _ _ j _ _ hr9
    have HCE:=κ (β (set4_same hr9 (.int .u8 K) (.int .i64 0) (.string ⟨#[]⟩) (.bool bb)))
    have K5:=κ (below_set4 hk9 (g:=w.heap.size+1) (Nat.le_succ _) (.int .u8 K) (.int .i64 0) (.string ⟨#[]⟩) (.bool bb))
    clear hr8 hn8 hk8 hb2 hr9 hk9 q0 q1 q2 q3 hT
    go_wp2
    have hcE:=HCE.out
    exact bodyPost_ret (v:=.tuple #[.agg #[.int .u8 K,.int .i64 0,.string ⟨#[]⟩,.bool bb],.int .i64 E]) (by simp [results,Tryz.results25,go_sem,hcE]) rfl (EvPost.mk HQ.out K5.out)
   ·obtain rfl:k=3:=HKK.out.symm.trans h1
    have h2':=HOP.out.symm.trans h2
    obtain ⟨⟨u1,u2,u3,u4⟩,rfl⟩:=oneV (HV.out.1.trans ((congrArg List.length HXS.out).symm.trans h0))
    obtain ⟨bq,oq,hA8,q0,q1,q2,q3⟩:=RdsV.cells (Rds.own HW.out.1) (i:=0) (by simp)
    subst hA8
    simp only [Nat.zero_mul,Nat.add_zero,List.getElem_cons_zero] at q0 q1 q2 q3
    have hx1:xs.length=1:=by rw [←HXS.out];exact h0
    have hgu:=HV.out.2.1 _ (List.mem_singleton.2 rfl)
    have hr8:=HW.out.2.1
    have hn8:=HW.out.2.2.1
    have hk8:=HW.out.2.2.2
    have H3:=κ (h3 ⟨u1,u2,u3,u4⟩)
    have HGU:=κ hgu
    clear h1 h2 h0 h3 HE hgu
    subst h2'
    cases e1:(u1==0)
    ·have hu:u1≠0:=ne_of_beq_false e1
     have hun:Lp.unX [45] ⟨u1,u2,u3,u4⟩=Lp.numE (Lp.val (-u2)) (Lp.err (-u2)):=by
      show Lp.twoX [45] (Lp.numV 0) ⟨u1,u2,u3,u4⟩=_
      unfold Lp.twoX
      rw [if_neg (by rintro (h|h);exact absurd h (by decide);exact hu h)]
      show Lp.numE (Lp.val (0-u2)) (Lp.err (0-u2))=_
      rw [Int.zero_sub]
     go_wp2_with fail
     refine (rneg_any u2 _ HGU.out.1).mono ?_
     rintro e w9 ⟨rfl,rfl⟩
     by_cases hE0:Lp.err (-u2)=0
     ·have HQ:=κ (show R=(⟨1,Lp.val (-u2),⟨#[]⟩,false⟩,0) by rw [HR.out,H3.out,hun,Lp.numE,if_pos hE0];rfl)
      have HE0:=κ hE0
      rw [hE0]
      clear hE0
      generalize Lp.val (-u2)=VV at *
      go_wp2_with fail
      refine (num18 VV _).mono ?_
      rintro e w2 ⟨rfl,hb2⟩
      have hr9:=box_below hr8 hb2
      have hk9:=hk8.trans (hb2.mono hk8.size)
      have hc9:=β hr9
      have hf9:=fun j=>frozen_of_row _ _ j _ _ hr9
      have HCE:=κ (β (set4_same hr9 (.int .u8 1) (.int .i64 VV) (.string ⟨#[]⟩) (.bool false)))
      have K5:=κ (below_set4 hk9 (g:=w.heap.size+1) (Nat.le_succ _) (.int .u8 1) (.int .i64 VV) (.string ⟨#[]⟩) (.bool false))
      clear hb2 hr9 hk9 q0 q1 q2 q3
      go_wp2
      have hcE:=HCE.out
      exact bodyPost_ret (v:=.tuple #[.agg #[.int .u8 1,.int .i64 VV,.string ⟨#[]⟩,.bool false],.int .i64 0]) (by simp [results,Tryz.results25,go_sem,hcE]) rfl (EvPost.mk HQ.out K5.out)
     ·have HQ:=κ (show R=(⟨0,0,⟨#[]⟩,false⟩,Lp.err (-u2)) by rw [HR.out,H3.out,hun,Lp.numE,if_neg hE0];rfl)
      have e9:(Lp.err (-u2) !=0)=true:=by rw [bne,beq_eq_false_iff_ne.2 hE0];rfl
      generalize Lp.err (-u2)=EE at *
      have cn9:=β hn8
      have hc9:=β hr8
      have hf9:=fun j=>frozen_of_row _ _ j _ _ hr8
      have HCE:=κ (β (set4_same hr8 (.int .u8 0) (.int .i64 0) (.string ⟨#[]⟩) (.bool false)))
      have K5:=κ (below_set4 hk8 (g:=w.heap.size+1) (Nat.le_succ _) (.int .u8 0) (.int .i64 0) (.string ⟨#[]⟩) (.bool false))
      clear hE0 q0 q1 q2 q3
      go_wp2
      have hcE:=HCE.out
      exact bodyPost_ret (v:=.tuple #[.agg #[.int .u8 0,.int .i64 0,.string ⟨#[]⟩,.bool false],.int .i64 EE]) (by simp [results,Tryz.results25,go_sem,hcE]) rfl (EvPost.mk HQ.out K5.out)
    ·have hu:u1=0:=eq_of_beq e1
     have HQ:=κ (show R=(⟨0,0,⟨#[]⟩,false⟩,0) by rw [HR.out,H3.out];show Lp.twoX [45] (Lp.numV 0) ⟨u1,u2,u3,u4⟩=_;unfold Lp.twoX;rw [if_pos (.inr hu)];rfl)
     have cn9:=β hn8
     have hc9:=β hr8
     have hf9:=fun j=>frozen_of_row _ _ j _ _ hr8
     have HCE:=κ (β (set4_same hr8 (.int .u8 0) (.int .i64 0) (.string ⟨#[]⟩) (.bool false)))
     have K5:=κ (below_set4 hk8 (g:=w.heap.size+1) (Nat.le_succ _) (.int .u8 0) (.int .i64 0) (.string ⟨#[]⟩) (.bool false))
     clear hu q1 q2 q3
     go_wp2
     have hcE:=HCE.out
     exact bodyPost_ret (v:=.tuple #[.agg #[.int .u8 0,.int .i64 0,.string ⟨#[]⟩,.bool false],.int .i64 0]) (by simp [results,Tryz.results25,go_sem,hcE]) rfl (EvPost.mk HQ.out K5.out)
   ·obtain rfl:k=4:=HKK.out.symm.trans h1
    obtain rfl:op'=op:=h2.symm.trans HOP.out
    obtain ⟨⟨u1,u2,u3,u4⟩,⟨v1,v2,v3,v4⟩,rfl⟩:=twoV (HV.out.1.trans ((congrArg List.length HXS.out).symm.trans h0))
    obtain ⟨bq,oq,hA8,q0,q1,q2,q3⟩:=RdsV.cells (Rds.own HW.out.1) (i:=0) (by simp)
    obtain ⟨bq',oq',hA8',p0,p1,p2,p3⟩:=RdsV.cells (Rds.own HW.out.1) (i:=1) (by simp)
    subst hA8
    simp only [Option.some.injEq,Addr.mk.injEq,and_true] at hA8'
    obtain ⟨rfl,rfl⟩:=hA8'
    simp only [Nat.zero_mul,Nat.one_mul,Nat.add_zero,List.getElem_cons_zero,List.getElem_cons_succ] at q0 q1 q2 q3 p0 p1 p2 p3
    have hx1:xs.length=2:=by rw [←HXS.out];exact h0
    have hgu:=HV.out.2.1 ⟨u1,u2,u3,u4⟩ (by simp)
    have hgv:=HV.out.2.1 ⟨v1,v2,v3,v4⟩ (by simp)
    have hr8:=HW.out.2.1
    have hn8:=HW.out.2.2.1
    have hk8:=HW.out.2.2.2
    have H3:=κ (h3 ⟨u1,u2,u3,u4⟩ ⟨v1,v2,v3,v4⟩)
    have HGG:=κ (ι hgu hgv)
    have HCM:=κ (HV.out.2.2 _ _ rfl)
    clear h1 h2 h0 h3 HE hgu hgv
    rcases bin_split op' hop with rfl|rfl|⟨hno,hari⟩|⟨hno,hna,hcm⟩
    ·simp only [Lp.uAnd] at *
     have hpl:=Lp.andK_of HGG.out.1 HGG.out.2
     have hbd:=Lp.bad2_of HGG.out.1 HGG.out.2
     have HPL:=κ (ι hpl hbd)
     have hB:Lp.binX [65,78,68] ⟨u1,u2,u3,u4⟩ ⟨v1,v2,v3,v4⟩=Lp.triV (Lp.badT ⟨u1,u2,u3,u4⟩ ⟨v1,v2,v3,v4⟩) (Lp.joinN ⟨u1,u2,u3,u4⟩ ⟨v1,v2,v3,v4⟩ false):=rfl
     have HB3:=κ hB
     clear hpl hbd hB hop
     have T2:=κ (fun (W':World) (hb:Below wr.heap.size wr W')=>trf hb (rand_any u1 u2 u3 u4 v1 v2 v3 v4 W'))
     go_wp2_with fail
     first|go_region_with (go_at_call 58;refine (T2.out _ (by first|exact Below.refl _ _|assumption|exact (Below.refl _ _).drew)).mono ?_;rintro e w2 ⟨K,bb,E,hT,rfl,hb2⟩;have hr9:=box_below hr8 hb2;have hc9:=β hr9;have hf9:=fun j=>frozen_of_row _ _ j _ _ hr9)|fail
     all_goals
      have HQ:=κ (show R=(⟨K,0,⟨#[]⟩,bb⟩,E) by rw [HR.out,H3.out,HB3.out, ←hT];have h4:=HPL.out.1;have h5:=HPL.out.2;(try simp only at h4 h5);rw [h4,h5])
      have hk9:=hk8.trans (hb2.mono hk8.size)
      have HCE:=κ (β (set4_same hr9 (.int .u8 K) (.int .i64 0) (.string ⟨#[]⟩) (.bool bb)))
      have K5:=κ (below_set4 hk9 (g:=w.heap.size+1) (Nat.le_succ _) (.int .u8 K) (.int .i64 0) (.string ⟨#[]⟩) (.bool bb))
      clear hr8 hn8 hk8 hb2 hr9 hk9 q0 q1 q2 q3 p0 p1 p2 p3 hT
      go_wp2
      have hcE:=HCE.out
      exact bodyPost_ret (v:=.tuple #[.agg #[.int .u8 K,.int .i64 0,.string ⟨#[]⟩,.bool bb],.int .i64 E]) (by simp [results,Tryz.results25,go_sem,hcE]) rfl (EvPost.mk HQ.out K5.out)
    ·simp only [Lp.uOr] at *
     have hpl:=Lp.orK_of HGG.out.1 HGG.out.2
     have hbd:=Lp.bad2_of HGG.out.1 HGG.out.2
     have HPL:=κ (ι hpl hbd)
     have hB:Lp.binX [79,82] ⟨u1,u2,u3,u4⟩ ⟨v1,v2,v3,v4⟩=Lp.triV (Lp.badT ⟨u1,u2,u3,u4⟩ ⟨v1,v2,v3,v4⟩) (Lp.joinN ⟨u1,u2,u3,u4⟩ ⟨v1,v2,v3,v4⟩ true):=rfl
     have HB3:=κ hB
     clear hpl hbd hB hop
     have T2:=κ (fun (W':World) (hb:Below wr.heap.size wr W')=>trf hb (ror_any u1 u2 u3 u4 v1 v2 v3 v4 W'))
     go_wp2_with fail
     first|go_region_with (go_at_call 59;refine (T2.out _ (by first|exact Below.refl _ _|assumption|exact (Below.refl _ _).drew)).mono ?_;rintro e w2 ⟨K,bb,E,hT,rfl,hb2⟩;have hr9:=box_below hr8 hb2;have hc9:=β hr9;have hf9:=fun j=>frozen_of_row _ _ j _ _ hr9)|fail
     all_goals
      have HQ:=κ (show R=(⟨K,0,⟨#[]⟩,bb⟩,E) by rw [HR.out,H3.out,HB3.out, ←hT];have h4:=HPL.out.1;have h5:=HPL.out.2;(try simp only at h4 h5);rw [h4,h5])
      have hk9:=hk8.trans (hb2.mono hk8.size)
      have HCE:=κ (β (set4_same hr9 (.int .u8 K) (.int .i64 0) (.string ⟨#[]⟩) (.bool bb)))
      have K5:=κ (below_set4 hk9 (g:=w.heap.size+1) (Nat.le_succ _) (.int .u8 K) (.int .i64 0) (.string ⟨#[]⟩) (.bool bb))
      clear hr8 hn8 hk8 hb2 hr9 hk9 q0 q1 q2 q3 p0 p1 p2 p3 hT
      go_wp2
      have hcE:=HCE.out
      exact bodyPost_ret (v:=.tuple #[.agg #[.int .u8 K,.int .i64 0,.string ⟨#[]⟩,.bool bb],.int .i64 E]) (by simp [results,Tryz.results25,go_sem,hcE]) rfl (EvPost.mk HQ.out K5.out)
    ·obtain ⟨o1,o2,o3,o4,o5,o6,o7,o8⟩:=ari_facts op' hari
     have hB:Lp.binX op' ⟨u1,u2,u3,u4⟩ ⟨v1,v2,v3,v4⟩=Lp.twoX op' ⟨u1,u2,u3,u4⟩ ⟨v1,v2,v3,v4⟩:=by unfold Lp.binX;rw [if_neg fun h=>hno (.inl h),if_neg fun h=>hno (.inr h),if_pos hari]
     have HB3:=κ hB
     have HAR:=κ hari
     clear hB hno hop hari
     by_cases hz:u1=0∨v1=0
     ·have HQ:=κ (show R=(⟨0,0,⟨#[]⟩,false⟩,0) by rw [HR.out,H3.out,HB3.out];unfold Lp.twoX;rw [if_pos hz];rfl)
      have cn9:=β hn8
      have hc9:=β hr8
      have hf9:=fun j=>frozen_of_row _ _ j _ _ hr8
      cases e1:(u1==0)
      ·have e2:(v1==0)=true:=beq_iff_eq.2 (hz.resolve_left (ne_of_beq_false e1))
       have HCE:=κ (β (set4_same hr8 (.int .u8 0) (.int .i64 0) (.string ⟨#[]⟩) (.bool false)))
       have K5:=κ (below_set4 hk8 (g:=w.heap.size+1) (Nat.le_succ _) (.int .u8 0) (.int .i64 0) (.string ⟨#[]⟩) (.bool false))
       clear hz
       go_wp2
       have hcE:=HCE.out
       exact bodyPost_ret (v:=.tuple #[.agg #[.int .u8 0,.int .i64 0,.string ⟨#[]⟩,.bool false],.int .i64 0]) (by simp [results,Tryz.results25,go_sem,hcE]) rfl (EvPost.mk HQ.out K5.out)
      ·have HCE:=κ (β (set4_same hr8 (.int .u8 0) (.int .i64 0) (.string ⟨#[]⟩) (.bool false)))
       have K5:=κ (below_set4 hk8 (g:=w.heap.size+1) (Nat.le_succ _) (.int .u8 0) (.int .i64 0) (.string ⟨#[]⟩) (.bool false))
       clear hz
       go_wp2
       have hcE:=HCE.out
       exact bodyPost_ret (v:=.tuple #[.agg #[.int .u8 0,.int .i64 0,.string ⟨#[]⟩,.bool false],.int .i64 0]) (by simp [results,Tryz.results25,go_sem,hcE]) rfl (EvPost.mk HQ.out K5.out)
     ·have e1:(u1==0)=false:=beq_eq_false_iff_ne.2 fun h=>hz (.inl h)
      have e2:(v1==0)=false:=beq_eq_false_iff_ne.2 fun h=>hz (.inr h)
      have LS:=κ (fun (W':World) (hb:Below wr.heap.size wr W')=>(less2_any u1 u2 u3 u4 v1 v2 v3 v4 W').mono fun _ _ ⟨e1,e2⟩=>(⟨e1,hb.trans (e2.mono hb.size)⟩:_∧Below wr.heap.size wr _))
      have SM:=κ (fun (W':World) (hb:Below wr.heap.size wr W')=>(same2_any u1 u2 u3 u4 v1 v2 v3 v4 W').mono fun _ _ ⟨e1,e2⟩=>(⟨e1,hb.trans (e2.mono hb.size)⟩:_∧Below wr.heap.size wr _))
      have HLS:=κ (ι (rfl:Lp.vless ⟨u1,u2,u3,u4⟩ ⟨v1,v2,v3,v4⟩=Lp.vless ⟨u1,u2,u3,u4⟩ ⟨v1,v2,v3,v4⟩) (rfl:Lp.vsame ⟨u1,u2,u3,u4⟩ ⟨v1,v2,v3,v4⟩=Lp.vsame ⟨u1,u2,u3,u4⟩ ⟨v1,v2,v3,v4⟩))
      have htw:Lp.twoX op' ⟨u1,u2,u3,u4⟩ ⟨v1,v2,v3,v4⟩=Lp.numE (Lp.reckV op' u2 v2) (Lp.reckE op' u2 v2):=by unfold Lp.twoX;rw [if_neg hz]
      have HTW:=κ htw
      clear htw
      obtain ⟨L,hL⟩:∃ L,Lp.vless ⟨u1,u2,u3,u4⟩ ⟨v1,v2,v3,v4⟩=L:=⟨_,rfl⟩
      obtain ⟨M,hM⟩:∃ M,Lp.vsame ⟨u1,u2,u3,u4⟩ ⟨v1,v2,v3,v4⟩=M:=⟨_,rfl⟩
      rw [hL] at LS
      rw [hM] at SM
      have HLM:=κ (ι hL hM)
      clear hL hM hz HLS
      go_wp2_with fail
      first|go_region_held_law (fun w'=>w'.cell? ⟨bq,oq,none⟩=some (.int .u8 u1)∧w'.cell? ⟨bq,oq+1,none⟩=some (.int .i64 u2)∧w'.cell? ⟨bq,oq+2,none⟩=some (.string u3)∧w'.cell? ⟨bq,oq+3,none⟩=some (.bool u4)∧w'.cell? ⟨bq,oq+4,none⟩=some (.int .u8 v1)∧w'.cell? ⟨bq,oq+4+1,none⟩=some (.int .i64 v2)∧w'.cell? ⟨bq,oq+4+2,none⟩=some (.string v3)∧w'.cell? ⟨bq,oq+4+3,none⟩=some (.bool v4)) (first|go_keep|exact hd2) ((go_simp;first|(go_at_call 60;with_reducible refine (LS.out _ (by first|exact Below.refl _ _|assumption|exact (Below.refl _ _).drew)).mono ?_;rintro e w2 ⟨rfl,hb2⟩;have hd2:=keep8 hb2 q0 q1 q2 q3 p0 p1 p2 p3)|(go_at_call 61;with_reducible refine (SM.out _ (by first|exact Below.refl _ _|assumption|exact (Below.refl _ _).drew)).mono ?_;rintro e w2 ⟨rfl,hb2⟩;have hd2:=keep8 hb2 q0 q1 q2 q3 p0 p1 p2 p3)))|fail
      all_goals
       have hr9:=box_below hr8 hb2
       have hn9:=box_below hn8 hb2
       have hk9:=hk8.trans (hb2.mono hk8.size)
       obtain ⟨d0,d1,d2,d3,d4,d5,d6,d7⟩:=keep8 hb2 q0 q1 q2 q3 p0 p1 p2 p3
       have cx9:=β (box_below HXB.out hb2)
       have RK:=κ (fun (W':World)=>(reck18 op' HAR.out u2 v2 HGG.out.1.1 HGG.out.2.1 W').mono fun _ _ ⟨e1,e2⟩=>(⟨e1,e2.symm⟩:_∧_=W'))
       clear hr8 hn8 hk8
       generalize Lp.reckV op' u2 v2=RV at *
       generalize Lp.reckE op' u2 v2=RE at *
       go_wp2_with fail
       go_quiet (with_reducible (go_at_call 62;exact Calls.quiet_of_same (RK.out _)))
       have hr10:(w2.drewN nq).heap[w.heap.size+1]? = _:=hr9
       have hn10:(w2.drewN nq).heap[w.heap.size+1+1]? = _:=hn9
       have hk10:=below_drewN1 nq hk9
       clear hr9 hn9 hk9 d0 d1 d2 d3 d4 d5 d6 d7 hb2
       by_cases hE0:RE=0
       ·have HQ:=κ (show R=(⟨1,RV,⟨#[]⟩,false⟩,0) by rw [HR.out,H3.out,HB3.out,HTW.out,Lp.numE,if_pos hE0];rfl)
        have HE0:=κ hE0
        rw [hE0]
        clear hE0
        generalize RV=VV at *
        go_wp2_with fail
        refine (num18 VV _).mono ?_
        rintro e w2 ⟨rfl,hb2⟩
        have hr9:=box_below hr10 hb2
        have hk9:=hk10.trans (hb2.mono hk10.size)
        have hc9:=β hr9
        have hf9:=fun j=>frozen_of_row _ _ j _ _ hr9
        have HCE:=κ (β (set4_same hr9 (.int .u8 1) (.int .i64 VV) (.string ⟨#[]⟩) (.bool false)))
        have K5:=κ (below_set4 hk9 (g:=w.heap.size+1) (Nat.le_succ _) (.int .u8 1) (.int .i64 VV) (.string ⟨#[]⟩) (.bool false))
        clear hb2 hr9 hk9 q0 q1 q2 q3
        go_wp2
        have hcE:=HCE.out
        exact bodyPost_ret (v:=.tuple #[.agg #[.int .u8 1,.int .i64 VV,.string ⟨#[]⟩,.bool false],.int .i64 0]) (by simp [results,Tryz.results25,go_sem,hcE]) rfl (EvPost.mk HQ.out K5.out)
       ·have HQ:=κ (show R=(⟨0,0,⟨#[]⟩,false⟩,RE) by rw [HR.out,H3.out,HB3.out,HTW.out,Lp.numE,if_neg hE0];rfl)
        have e9:(RE !=0)=true:=by rw [bne,beq_eq_false_iff_ne.2 hE0];rfl
        generalize RE=EE at *
        have cn9:=β hn10
        have hc9:=β hr10
        have hf9:=fun j=>frozen_of_row _ _ j _ _ hr10
        have HCE:=κ (β (set4_same hr10 (.int .u8 0) (.int .i64 0) (.string ⟨#[]⟩) (.bool false)))
        have K5:=κ (below_set4 hk10 (g:=w.heap.size+1) (Nat.le_succ _) (.int .u8 0) (.int .i64 0) (.string ⟨#[]⟩) (.bool false))
        clear hE0 q0 q1 q2 q3
        go_wp2
        have hcE:=HCE.out
        exact bodyPost_ret (v:=.tuple #[.agg #[.int .u8 0,.int .i64 0,.string ⟨#[]⟩,.bool false],.int .i64 EE]) (by simp [results,Tryz.results25,go_sem,hcE]) rfl (EvPost.mk HQ.out K5.out)
    ·obtain ⟨o1,o2⟩:=cmp_facts2 op' hcm
     have hB:Lp.binX op' ⟨u1,u2,u3,u4⟩ ⟨v1,v2,v3,v4⟩=if u1=0∨v1=0 then (Lp.nullV,0) else (Lp.truV (Lp.refS op' (Lp.vless ⟨u1,u2,u3,u4⟩ ⟨v1,v2,v3,v4⟩) (Lp.vsame ⟨u1,u2,u3,u4⟩ ⟨v1,v2,v3,v4⟩)),0):=by unfold Lp.binX;rw [if_neg fun h=>hno (.inl h),if_neg fun h=>hno (.inr h),if_neg hna];exact HCM.out hcm op'
     have HB3:=κ hB
     have HC:=κ hcm
     clear hB hno hop hna hcm
     by_cases hz:u1=0∨v1=0
     ·have HQ:=κ (show R=(⟨0,0,⟨#[]⟩,false⟩,0) by rw [HR.out,H3.out,HB3.out,if_pos hz];rfl)
      have cn9:=β hn8
      have hc9:=β hr8
      have hf9:=fun j=>frozen_of_row _ _ j _ _ hr8
      cases e1:(u1==0)
      ·have e2:(v1==0)=true:=beq_iff_eq.2 (hz.resolve_left (ne_of_beq_false e1))
       have HCE:=κ (β (set4_same hr8 (.int .u8 0) (.int .i64 0) (.string ⟨#[]⟩) (.bool false)))
       have K5:=κ (below_set4 hk8 (g:=w.heap.size+1) (Nat.le_succ _) (.int .u8 0) (.int .i64 0) (.string ⟨#[]⟩) (.bool false))
       clear hz
       go_wp2
       have hcE:=HCE.out
       exact bodyPost_ret (v:=.tuple #[.agg #[.int .u8 0,.int .i64 0,.string ⟨#[]⟩,.bool false],.int .i64 0]) (by simp [results,Tryz.results25,go_sem,hcE]) rfl (EvPost.mk HQ.out K5.out)
      ·have HCE:=κ (β (set4_same hr8 (.int .u8 0) (.int .i64 0) (.string ⟨#[]⟩) (.bool false)))
       have K5:=κ (below_set4 hk8 (g:=w.heap.size+1) (Nat.le_succ _) (.int .u8 0) (.int .i64 0) (.string ⟨#[]⟩) (.bool false))
       clear hz
       go_wp2
       have hcE:=HCE.out
       exact bodyPost_ret (v:=.tuple #[.agg #[.int .u8 0,.int .i64 0,.string ⟨#[]⟩,.bool false],.int .i64 0]) (by simp [results,Tryz.results25,go_sem,hcE]) rfl (EvPost.mk HQ.out K5.out)
     ·have e1:(u1==0)=false:=beq_eq_false_iff_ne.2 fun h=>hz (.inl h)
      have e2:(v1==0)=false:=beq_eq_false_iff_ne.2 fun h=>hz (.inr h)
      have LS:=κ (fun (W':World) (hb:Below wr.heap.size wr W')=>(less2_any u1 u2 u3 u4 v1 v2 v3 v4 W').mono fun _ _ ⟨e1,e2⟩=>(⟨e1,hb.trans (e2.mono hb.size)⟩:_∧Below wr.heap.size wr _))
      have SM:=κ (fun (W':World) (hb:Below wr.heap.size wr W')=>(same2_any u1 u2 u3 u4 v1 v2 v3 v4 W').mono fun _ _ ⟨e1,e2⟩=>(⟨e1,hb.trans (e2.mono hb.size)⟩:_∧Below wr.heap.size wr _))
      have HLS:=κ (ι (rfl:Lp.vless ⟨u1,u2,u3,u4⟩ ⟨v1,v2,v3,v4⟩=Lp.vless ⟨u1,u2,u3,u4⟩ ⟨v1,v2,v3,v4⟩) (rfl:Lp.vsame ⟨u1,u2,u3,u4⟩ ⟨v1,v2,v3,v4⟩=Lp.vsame ⟨u1,u2,u3,u4⟩ ⟨v1,v2,v3,v4⟩))
      have HNZ:=κ hz
      have T2:=κ (fun (bb:Bool) (W':World) (hb:Below wr.heap.size wr W')=>(truth2_any bb W').mono fun _ _ ⟨e1,e2⟩=>(⟨e1,e2▸hb.alloc hb.size _⟩:_∧Below wr.heap.size wr _))
      obtain ⟨L,hL⟩:∃ L,Lp.vless ⟨u1,u2,u3,u4⟩ ⟨v1,v2,v3,v4⟩=L:=⟨_,rfl⟩
      obtain ⟨M,hM⟩:∃ M,Lp.vsame ⟨u1,u2,u3,u4⟩ ⟨v1,v2,v3,v4⟩=M:=⟨_,rfl⟩
      rw [hL] at LS
      rw [hM] at SM
      have HLM:=κ (ι hL hM)
      clear hL hM hz HLS
      go_wp2_with fail
      first|go_region_held_law (fun w'=>w'.cell? ⟨bq,oq,none⟩=some (.int .u8 u1)∧w'.cell? ⟨bq,oq+1,none⟩=some (.int .i64 u2)∧w'.cell? ⟨bq,oq+2,none⟩=some (.string u3)∧w'.cell? ⟨bq,oq+3,none⟩=some (.bool u4)∧w'.cell? ⟨bq,oq+4,none⟩=some (.int .u8 v1)∧w'.cell? ⟨bq,oq+4+1,none⟩=some (.int .i64 v2)∧w'.cell? ⟨bq,oq+4+2,none⟩=some (.string v3)∧w'.cell? ⟨bq,oq+4+3,none⟩=some (.bool v4)) (first|go_keep|exact hd2) ((go_simp;first|(go_at_call 60;with_reducible refine (LS.out _ (by first|exact Below.refl _ _|assumption|exact (Below.refl _ _).drew)).mono ?_;rintro e w2 ⟨rfl,hb2⟩;have hd2:=keep8 hb2 q0 q1 q2 q3 p0 p1 p2 p3)|(go_at_call 61;with_reducible refine (SM.out _ (by first|exact Below.refl _ _|assumption|exact (Below.refl _ _).drew)).mono ?_;rintro e w2 ⟨rfl,hb2⟩;have hd2:=keep8 hb2 q0 q1 q2 q3 p0 p1 p2 p3)))|fail
      all_goals
       have cx9:=β (box_below HXB.out hb2)
       have hcm:=HC.out
       simp only [cmpOps,List.mem_cons,List.not_mem_nil,or_false] at hcm
       rcases hcm with rfl|rfl|rfl|rfl|rfl|rfl<;>cases L<;>cases M
       all_goals
        first
        | (have HQ:=κ (show R=(⟨3,0,⟨#[]⟩,true⟩,0) by rw [HR.out,H3.out,HB3.out,if_neg HNZ.out,HLM.out.1,HLM.out.2];rfl)
           go_wp2_with fail
           refine (T2.out _ _ hb2).mono ?_
           rintro e w3 ⟨rfl,hb3⟩
           have hr9:=box_below hr8 hb3
           have hk9:=hk8.trans (hb3.mono hk8.size)
           have hc9:=β hr9
           have hf9:=fun j=>frozen_of_row _ _ j _ _ hr9
           have HCE:=κ (β (set4_same hr9 (.int .u8 3) (.int .i64 0) (.string ⟨#[]⟩) (.bool true)))
           have K5:=κ (below_set4 hk9 (g:=w.heap.size+1) (Nat.le_succ _) (.int .u8 3) (.int .i64 0) (.string ⟨#[]⟩) (.bool true))
           clear hr8 hn8 hk8 hb2 hb3 hr9 hk9
           go_wp2
           have hcE:=HCE.out
           exact bodyPost_ret (v:=.tuple #[.agg #[.int .u8 3,.int .i64 0,.string ⟨#[]⟩,.bool true],.int .i64 0]) (by simp [results,Tryz.results25,go_sem,hcE]) rfl (EvPost.mk HQ.out K5.out))
        | (have HQ:=κ (show R=(⟨3,0,⟨#[]⟩,false⟩,0) by rw [HR.out,H3.out,HB3.out,if_neg HNZ.out,HLM.out.1,HLM.out.2];rfl)
           go_wp2_with fail
           refine (T2.out _ _ hb2).mono ?_
           rintro e w3 ⟨rfl,hb3⟩
           have hr9:=box_below hr8 hb3
           have hk9:=hk8.trans (hb3.mono hk8.size)
           have hc9:=β hr9
           have hf9:=fun j=>frozen_of_row _ _ j _ _ hr9
           have HCE:=κ (β (set4_same hr9 (.int .u8 3) (.int .i64 0) (.string ⟨#[]⟩) (.bool false)))
           have K5:=κ (below_set4 hk9 (g:=w.heap.size+1) (Nat.le_succ _) (.int .u8 3) (.int .i64 0) (.string ⟨#[]⟩) (.bool false))
           clear hr8 hn8 hk8 hb2 hb3 hr9 hk9
           go_wp2
           have hcE:=HCE.out
           exact bodyPost_ret (v:=.tuple #[.agg #[.int .u8 3,.int .i64 0,.string ⟨#[]⟩,.bool false],.int .i64 0]) (by simp [results,Tryz.results25,go_sem,hcE]) rfl (EvPost.mk HQ.out K5.out))
end Go.Proofs.YtkfjmgmjbljnbaaGreatDoor
