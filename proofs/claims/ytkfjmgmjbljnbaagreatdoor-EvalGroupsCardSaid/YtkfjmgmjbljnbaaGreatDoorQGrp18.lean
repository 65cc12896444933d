/-
 The document's group: COUNT, SUM, MIN and MAX of an expression, of at most 1000 rows. Conditions: what Value gives of the expression.
-/
import Derived.Test.YtkfjmgmjbljnbaaGreatDoorQZK
import Derived.Test.YtkfjmgmjbljnbaaGreatDoorQZG
set_option maxRecDepth 100000
set_option maxHeartbeats 32000000
namespace Go.Proofs.YtkfjmgmjbljnbaaGreatDoor
open Go.RowKit
theorem grp18_any (A:Option Addr) (c:Nat) (l:List TabA) (op:List UInt8) (hop:op∈Lp.aggOps) (y:Lp.X) (k:Int) (gA:Option Addr) (gc:Nat) (R:List RowV) (hR:R.length≤1000) (hV:∀ r∈R,ValOk A c l r (.slice none 0 0) [] (fun _=>True) y) (hres:∀ r∈R,Lp.Res k (Lp.evalX (scOf l) y r.2.2 [])) (hk:op=Lp.uSum→Lp.fitK k 1=true) (S:Nat→Prop) (w:World) (Ar:Option Addr) (rs:List RC) (hA:ScA w A l) (hp:Pts S w Ar [y] rs) (hM:RowsM w gA R) :
 Calls Tryz.prog 52 #[.slice A l.length c,(rcN 6 op Ar 1).val,.slice gA R.length gc] w (EvPost (Lp.foldA op (fun r=>Lp.evalX (scOf l) y r []) (0,Lp.nullV) (R.map fun r=>r.2.2)) w):=by
 obtain ⟨iV,hiV,hz0,hz1,hz2⟩:=info_parts valInfo
 obtain ⟨hp1,hp2,hp3⟩:=hp
 obtain ⟨r0,rfl⟩:=oneRC hp1
 have hrx:RX S w y r0:=hp3 0 (by simp) (by simp)
 obtain ⟨bR,oR,hAR,q0,q1,q2,q3,q4,q5,q6,q7⟩:=rcs_cells hp2 (i:=0) (by simp)
 subst hAR
 simp only [Nat.zero_mul,Nat.add_zero,List.getElem_cons_zero] at q0 q1 q2 q3 q4 q5 q6 q7
 obtain ⟨rk,rvk,rvi,rvs,rvb,rt,rs0,rAA,rn,rc⟩:=r0
 have hE8:E8 w bR oR _ _ _ _ _ _ _ _:=⟨q0,q1,q2,q3,q4,q5,q6,q7⟩
 simp only at hE8
 obtain ⟨Fv,hFv⟩:∃ Fv,(fun r=>Lp.evalX (scOf l) y r [])=Fv:=⟨_,rfl⟩
 obtain ⟨rows,hrows⟩:∃ rows,(R.map fun r=>r.2.2)=rows:=⟨_,rfl⟩
 have hFr:∀ r:RowV,Lp.evalX (scOf l) y r.2.2 []=Fv r.2.2:=fun r=>by rw [←hFv]
 have hrl:rows.length=R.length:=by rw [←hrows,List.length_map]
 have hri:∀ (i:Nat) (h:i<R.length) (h3:i<rows.length),rows[i]=(R[i]).2.2:=fun i h h3=>by subst hrows;simp
 rw [hFv,hrows]
 obtain ⟨Q,hQ0⟩:∃ Q,Lp.foldA op Fv (0,Lp.nullV) rows=Q:=⟨_,rfl⟩
 rw [hQ0]
 have HQ0:=κ hQ0
 have HO:=κ hop
 have HK:=κ hk
 have HRI:=κ hri
 have HRL:=κ hrl
 have HFR:=κ hFr
 have HV:=κ (ι hV hres)
 have hRI:(R.length:Int)≤1000:=by omega
 simp only [RC.val,rcN]
 have hb0:Below w.heap.size w ((w.alloc (.cells #[.int .u8 6,.int .u8 0,.int .i64 0,.string ⟨#[]⟩,.bool false,.string ⟨#[]⟩,.string ⟨op.toArray⟩,.slice (some ⟨bR,oR,none⟩) 1 1] 35)).alloc (.cells #[.int .u8 0,.int .i64 0,.string ⟨#[]⟩,.bool false] 31)):=ba (ba (Below.refl _ _) _) _
 have hzx:=box_alloc (heap_alloc_new w (.cells #[.int .u8 6,.int .u8 0,.int .i64 0,.string ⟨#[]⟩,.bool false,.string ⟨#[]⟩,.string ⟨op.toArray⟩,.slice (some ⟨bR,oR,none⟩) 1 1] 35)) (.cells #[.int .u8 0,.int .i64 0,.string ⟨#[]⟩,.bool false] 31)
 have hz6:=heap_new2 w (.cells #[.int .u8 6,.int .u8 0,.int .i64 0,.string ⟨#[]⟩,.bool false,.string ⟨#[]⟩,.string ⟨op.toArray⟩,.slice (some ⟨bR,oR,none⟩) 1 1] 35) (.cells #[.int .u8 0,.int .i64 0,.string ⟨#[]⟩,.bool false] 31)
 have hcx:=β hzx
 have HB:=κ (ι hb0 (ι hzx (ι hz6 (ι (hA.below hb0) (ι (RX.below hb0 hrx) (ι (hE8.below hb0) (hM.below hb0)))))))
 clear hb0 hzx hz6 hA hrx hE8 hM q0 q1 q2 q3 q4 q5 q6 q7 hp1 hp2 hp3 hV hres hk hri hrl hFr hQ0 hFv hrows hop
 go_enter Tryz.func52,Tryz.ntmps52
 go_wp2_with fail
 generalize ((w.alloc (.cells #[.int .u8 6,.int .u8 0,.int .i64 0,.string ⟨#[]⟩,.bool false,.string ⟨#[]⟩,.string ⟨op.toArray⟩,.slice (some ⟨bR,oR,none⟩) 1 1] 35)).alloc (.cells #[.int .u8 0,.int .i64 0,.string ⟨#[]⟩,.bool false] 31))=W at *
 clear hcx
 go_loopw [8,9,11,12,13,14,15,28] (fun s8 s9 _ _ _ _ _ s28 wr=>∃ (i:Nat) (A8:Option Addr) (c8:Nat) (vs:List Lp.V) (sum:Int),i≤R.length∧s28=.int .i64 i∧s8=.slice A8 vs.length c8∧s9=.int .i64 sum∧GI op Fv rows k i vs sum∧wr.ownsRow W.heap.size 31 4 (.slice A8 vs.length c8) vs.length (Lp.vv vs)∧Below W.heap.size W wr) (fun _ _ _ _ _ _ _ s28 _=>R.length-(intOf s28).toNat)
 case atStart=>exact ⟨0,none,0,[],0,Nat.zero_le _,rfl,rfl,rfl,GI.nil,World.ownsRow_nil _ _ _ _,Below.refl _ _⟩
 case round =>
  obtain ⟨i,A8,c8,vs,sum,hi,rfl,rfl,rfl,hgi,hown,hb⟩:=hrel
  have hkw:=HB.out.1.trans (hb.mono HB.out.1.size)
  have hcx:=β (box_below HB.out.2.1 hb)
  by_cases hlt:i<R.length
  ·have hat:(R.map RowV.val)[i]? = some (RowV.val R[i]):=by rw [List.getElem?_map,List.getElem?_eq_getElem hlt];rfl
   obtain ⟨bG,oG,hAG,hcell⟩:=(HB.out.2.2.2.2.2.2.below hb).1.at_ hat
   have hmem:R[i]∈R:=List.getElem_mem hlt
   have hC:=HV.out.1 _ hmem S wr _ (HB.out.2.2.2.1.below hb) (RX.below hb HB.out.2.2.2.2.1) ((HB.out.2.2.2.2.2.2.below hb).2 _ hmem) trivial
   have hRes:=HV.out.2 _ hmem
   have hi3:i<rows.length:=by rw [HRL.out];exact hlt
   have hrow:=HRI.out i hlt hi3
   rw [HFR.out] at hC hRes
   rw [←hrow] at hC hRes
   obtain ⟨q0,q1,q2,q3,q4,q5,q6,q7⟩:=HB.out.2.2.2.2.2.1.below hb
   have hvl:=hgi.len
   have hsr:=hgi.inR
   obtain ⟨p,hpe⟩:∃ p,Fv (rows[i]'hi3)=p:=⟨_,rfl⟩
   rw [hpe] at hC hRes
   have HGI:=κ hgi
   have HI3:=κ (ι hi3 hpe)
   generalize R[i]=r at *
   obtain ⟨rA,rc2,rl⟩:=r
   simp only [RC.val,RowV.val] at hC hcell
   have HC:=κ hC
   have HRES:=κ hRes
   have HSR:=κ hsr
   have HX:=κ (ι hown hb)
   subst hAG
   clear hat hmem hC hRes hrow hpe hgi hown hsr hkw
   go_wp2_with fail
   refine HC.out.mono ?_
   rintro e w9 hj
   obtain ⟨uk,ui,us,ub,E,hE,rfl,hb9⟩:=hj.form
   rw [hE] at HRES HI3
   have hbv:Below w9.heap.size w9 (w9.alloc (.cells #[.int .u8 uk,.int .i64 ui,.string us,.bool ub] 31)):=ba (Below.refl _ _) _
   have hzv:=heap_alloc_new w9 (.cells #[.int .u8 uk,.int .i64 ui,.string us,.bool ub] 31)
   have cv:=β hzv
   have hown0:=own_under HX.out.1 hb9
   have hne9:=own_old hown0 (Nat.le_refl w9.heap.size)
   have hown9:=own_under hown0 hbv
   have hb9w:=(HX.out.2.trans (hb9.mono HX.out.2.size)).trans (hbv.mono (HX.out.2.trans (hb9.mono HX.out.2.size)).size)
   have hcx9:=β (box_below HB.out.2.1 hb9w)
   clear hj hE HC hown0 q0 q1 q2 q3 q4 q5 q6 q7 hcell hcx
   by_cases h2:E=0
   ·subst h2
    have hof:=HRES.out.1 rfl
    by_cases hv0:uk=0
    ·subst hv0
     have HN:=κ (HGI.out.skip HI3.out.1 HI3.out.2 rfl)
     have HZ:=κ (ι hown9 hb9w)
     clear hown9 hb9w hb9 hbv hzv hne9 hof HX HRES
     go_wp2
     go_roundw
     case rel=>exact ⟨i+1,A8,c8,vs,sum,by omega,by go_num,rfl,rfl,HN.out,HZ.out.1,HZ.out.2⟩
     case measure=>simp [intOf];omega
    ·have e2:(uk==0)=false:=beq_eq_false_iff_ne.2 hv0
     have hsz9:=hb9w.size
     have HY:=κ (ι hown9 hb9w)
     have HD:=κ (ι hzv (ι hne9 hof))
     have hvl2:(vs++[(⟨uk,ui,us,ub⟩:Lp.V)]).length=vs.length+1:=by simp
     have hvv:Lp.vv vs++Lp.vv [⟨uk,ui,us,ub⟩]=Lp.vv (vs++[⟨uk,ui,us,ub⟩]):=(Lp.vv_append _ _).symm
     have HVV:=κ (ι hvl2 hvv)
     clear hown9 hb9w hb9 hbv hzv hne9 hof HX HRES hvl2 hvv
     by_cases hs:op=[83,85,77]
     ·have e3:(op==[83,85,77])=true:=beq_iff_eq.2 hs
      have hF0:Lp.sumF op sum ui=Lp.err (sum+ui):=if_pos hs
      have hN0:Lp.sumN op sum ui=Lp.val (sum+ui):=if_pos hs
      have HFN:=κ (ι hF0 hN0)
      clear hF0 hN0 hs
      go_wp2_with (at_builtin;go_loud (refine wpList_app _ rfl (.tmp 49) (.tmp 51) _ rfl W.heap.size 31 iV _ 4 40 Tryz.underlying23 hiV hz0 hz1 hz2 rfl (by omega) _ _ _ _ rfl (HY.out.1.alloc _) _ 1 1 (Lp.vv [⟨uk,ui,us,ub⟩]) rfl rfl (rds_blk (Lp.vv [⟨uk,ui,us,ub⟩]) (heap_new2 w9 _ _)) (by simp [Value.oneCell',Lp.vv,Lp.V.cells]) (by simp only [maxLen];omega) (by omega) (by rw [World.size_alloc];omega) ?_;intro A4 c4 w4 hown4 hb4 _ hk4;have hb5:=(HY.out.2.alloc hsz9 _).trans hb4;obtain ⟨hzv4, -⟩:=hk4 _ _ (box_alloc HD.out.1 _) HD.out.2.1;have cv4:=β hzv4;have cx4:=β (box_below HB.out.2.1 hb5);have HZ:=κ (ι (HVV.out.2▸hown4) hb5);clear hown4 hb4 hk4 hzv4 hb5))
      refine (radd_any sum ui _ HSR.out HD.out.2.2.1.1).mono ?_
      rintro e w10 ⟨rfl,rfl⟩
      by_cases hf:Lp.err (sum+ui)=0
      ·have HN:=κ (show GI op Fv rows k (i+1) (vs++[⟨uk,ui,us,ub⟩]) (Lp.val (sum+ui)) from HFN.out.2▸HGI.out.next HI3.out.1 HI3.out.2 HD.out.2.2 hv0 HK.out (HFN.out.1.trans hf))
       rw [hf]
       clear hf HFN
       generalize Lp.val (sum+ui)=VV at *
       go_wp2
       go_roundw
       case rel=>exact ⟨i+1,A4,c4,vs++[⟨uk,ui,us,ub⟩],VV,by omega,by go_num,by rw [HVV.out.1],rfl,HN.out,by rw [HVV.out.1];exact HZ.out.1,HZ.out.2⟩
       case measure=>simp [intOf];omega
      ·have e9:(Lp.err (sum+ui) !=0)=true:=by rw [bne,beq_eq_false_iff_ne.2 hf];rfl
       have HQ:=κ (show Q=(⟨0,0,⟨#[]⟩,false⟩,Lp.err (sum+ui)) by rw [←HQ0.out,HGI.out.bad HI3.out.1 HI3.out.2 HD.out.2.2 hv0 HK.out (fun h=>hf (HFN.out.1.symm.trans h)),HFN.out.1];rfl)
       have hr9:=box_below HB.out.2.2.1 HZ.out.2
       have hk9:=HB.out.1.trans (HZ.out.2.mono HB.out.1.size)
       have hc9:=β hr9
       have hf9:=fun j=>frozen_of_row _ _ j _ _ hr9
       clear hf HFN
       generalize Lp.err (sum+ui)=EE at *
       have HCE:=κ (β (set4_same hr9 (.int .u8 0) (.int .i64 0) (.string ⟨#[]⟩) (.bool false)))
       have K5:=κ (below_set4 hk9 (g:=w.heap.size+1) (Nat.le_succ _) (.int .u8 0) (.int .i64 0) (.string ⟨#[]⟩) (.bool false))
       clear hr9 hk9
       go_wp2
       have hcE:=HCE.out
       exact bodyPost_ret (v:=.tuple #[.agg #[.int .u8 0,.int .i64 0,.string ⟨#[]⟩,.bool false],.int .i64 EE]) (by simp [results,Tryz.results52,go_sem,hcE]) rfl (EvPost.mk HQ.out K5.out)
     ·have e3:(op==[83,85,77])=false:=beq_eq_false_iff_ne.2 hs
      have HN:=κ (show GI op Fv rows k (i+1) (vs++[⟨uk,ui,us,ub⟩]) sum from (if_neg hs:Lp.sumN op sum ui=sum)▸HGI.out.next HI3.out.1 HI3.out.2 HD.out.2.2 hv0 HK.out (if_neg hs))
      clear hs
      go_wp2_with (at_builtin;go_loud (refine wpList_app _ rfl (.tmp 49) (.tmp 51) _ rfl W.heap.size 31 iV _ 4 40 Tryz.underlying23 hiV hz0 hz1 hz2 rfl (by omega) _ _ _ _ rfl (HY.out.1.alloc _) _ 1 1 (Lp.vv [⟨uk,ui,us,ub⟩]) rfl rfl (rds_blk (Lp.vv [⟨uk,ui,us,ub⟩]) (heap_new2 w9 _ _)) (by simp [Value.oneCell',Lp.vv,Lp.V.cells]) (by simp only [maxLen];omega) (by omega) (by rw [World.size_alloc];omega) ?_;intro A4 c4 w4 hown4 hb4 _ hk4;have hb5:=(HY.out.2.alloc hsz9 _).trans hb4;obtain ⟨hzv4, -⟩:=hk4 _ _ (box_alloc HD.out.1 _) HD.out.2.1;have cv4:=β hzv4;have cx4:=β (box_below HB.out.2.1 hb5);have HZ:=κ (ι (HVV.out.2▸hown4) hb5);clear hown4 hb4 hk4 hzv4 hb5))
      go_roundw
      case rel=>exact ⟨i+1,A4,c4,vs++[⟨uk,ui,us,ub⟩],sum,by omega,by go_num,by rw [HVV.out.1],rfl,HN.out,by rw [HVV.out.1];exact HZ.out.1,HZ.out.2⟩
      case measure=>simp [intOf];omega
   ·have e1:(E !=0)=true:=by rw [bne,beq_eq_false_iff_ne.2 h2];rfl
    have HQ:=κ (show Q=(⟨0,0,⟨#[]⟩,false⟩,E) by rw [←HQ0.out,HGI.out.err HI3.out.1 HI3.out.2 h2];rfl)
    have hr9:=box_below HB.out.2.2.1 hb9w
    have hk9:=HB.out.1.trans (hb9w.mono HB.out.1.size)
    have hc9:=β hr9
    have hf9:=fun j=>frozen_of_row _ _ j _ _ hr9
    have HCE:=κ (β (set4_same hr9 (.int .u8 0) (.int .i64 0) (.string ⟨#[]⟩) (.bool false)))
    have K5:=κ (below_set4 hk9 (g:=w.heap.size+1) (Nat.le_succ _) (.int .u8 0) (.int .i64 0) (.string ⟨#[]⟩) (.bool false))
    clear hown9 hb9w hb9 hbv hzv hne9 HX h2 hr9 hk9
    go_wp2
    have hcE:=HCE.out
    exact bodyPost_ret (v:=.tuple #[.agg #[.int .u8 0,.int .i64 0,.string ⟨#[]⟩,.bool false],.int .i64 E]) (by simp [results,Tryz.results52,go_sem,hcE]) rfl (EvPost.mk HQ.out K5.out)
  ·obtain rfl:i=R.length:=by omega
   have hfin:=(show GI op Fv rows k rows.length vs sum by rw [HRL.out];exact hgi).fin HO.out
   have hvl:=hgi.len
   have hr8:=box_below HB.out.2.2.1 hb
   have HW:=κ (ι hr8 (ι hkw (ι hown (box_below HB.out.2.1 hb))))
   rw [HQ0.out] at hfin
   have HFIN:=κ hfin
   clear hgi hfin hlt hi hown hkw hb
   by_cases hc:op=[67,79,85,78,84]
   ·have e4:(op==[67,79,85,78,84])=true:=beq_iff_eq.2 hc
    have HQ:=κ (show Q=(⟨1,(vs.length:Int),⟨#[]⟩,false⟩,0) by rw [HFIN.out,if_pos (show op=Lp.uCount from hc)];rfl)
    clear hc hr8
    go_wp2_with fail
    refine (num18 (vs.length:Int) _).mono ?_
    rintro e w2 ⟨rfl,hb2⟩
    have hr9:=box_below HW.out.1 hb2
    have hk9:=HW.out.2.1.trans (hb2.mono HW.out.2.1.size)
    have hc9:=β hr9
    have hf9:=fun j=>frozen_of_row _ _ j _ _ hr9
    have HCE:=κ (β (set4_same hr9 (.int .u8 1) (.int .i64 (vs.length:Int)) (.string ⟨#[]⟩) (.bool false)))
    have K5:=κ (below_set4 hk9 (g:=w.heap.size+1) (Nat.le_succ _) (.int .u8 1) (.int .i64 (vs.length:Int)) (.string ⟨#[]⟩) (.bool false))
    clear hb2 hr9 hk9
    go_wp2
    have hcE:=HCE.out
    exact bodyPost_ret (v:=.tuple #[.agg #[.int .u8 1,.int .i64 (vs.length:Int),.string ⟨#[]⟩,.bool false],.int .i64 0]) (by simp [results,Tryz.results52,go_sem,hcE]) rfl (EvPost.mk HQ.out K5.out)
   ·have e4:(op==[67,79,85,78,84])=false:=beq_eq_false_iff_ne.2 hc
    by_cases hn:vs=[]
    ·subst hn
     have HQ:=κ (show Q=(⟨0,0,⟨#[]⟩,false⟩,0) by rw [HFIN.out,if_neg (show ¬op=Lp.uCount from hc),if_pos rfl];rfl)
     have hk8:=HW.out.2.1
     have hc9:=β hr8
     have hf9:=fun j=>frozen_of_row _ _ j _ _ hr8
     have HCE:=κ (β (set4_same hr8 (.int .u8 0) (.int .i64 0) (.string ⟨#[]⟩) (.bool false)))
     have K5:=κ (below_set4 hk8 (g:=w.heap.size+1) (Nat.le_succ _) (.int .u8 0) (.int .i64 0) (.string ⟨#[]⟩) (.bool false))
     clear hr8 hk8 hc
     go_wp2
     have hcE:=HCE.out
     exact bodyPost_ret (v:=.tuple #[.agg #[.int .u8 0,.int .i64 0,.string ⟨#[]⟩,.bool false],.int .i64 0]) (by simp [results,Tryz.results52,go_sem,hcE]) rfl (EvPost.mk HQ.out K5.out)
    ·have hlp:0<vs.length:=List.length_pos_iff.2 hn
     have e5:((vs.length:Int)==0)=false:=beq_eq_false_iff_ne.2 (by omega)
     by_cases hs:op=[83,85,77]
     ·have e6:(op==[83,85,77])=true:=beq_iff_eq.2 hs
      have HQ:=κ (show Q=(⟨1,sum,⟨#[]⟩,false⟩,0) by rw [HFIN.out,if_neg (show ¬op=Lp.uCount from hc),if_neg hn,if_pos (show op=Lp.uSum from hs)];rfl)
      clear hc hn hs hr8
      go_wp2_with fail
      refine (num18 sum _).mono ?_
      rintro e w2 ⟨rfl,hb2⟩
      have hr9:=box_below HW.out.1 hb2
      have hk9:=HW.out.2.1.trans (hb2.mono HW.out.2.1.size)
      have hc9:=β hr9
      have hf9:=fun j=>frozen_of_row _ _ j _ _ hr9
      have HCE:=κ (β (set4_same hr9 (.int .u8 1) (.int .i64 sum) (.string ⟨#[]⟩) (.bool false)))
      have K5:=κ (below_set4 hk9 (g:=w.heap.size+1) (Nat.le_succ _) (.int .u8 1) (.int .i64 sum) (.string ⟨#[]⟩) (.bool false))
      clear hb2 hr9 hk9
      go_wp2
      have hcE:=HCE.out
      exact bodyPost_ret (v:=.tuple #[.agg #[.int .u8 1,.int .i64 sum,.string ⟨#[]⟩,.bool false],.int .i64 0]) (by simp [results,Tryz.results52,go_sem,hcE]) rfl (EvPost.mk HQ.out K5.out)
     ·have e6:(op==[83,85,77])=false:=beq_eq_false_iff_ne.2 hs
      have HQB:=κ (show Q=(Lp.bestL op vs,0) by rw [HFIN.out,if_neg (show ¬op=Lp.uCount from hc),if_neg hn,if_neg (show ¬op=Lp.uSum from hs)])
      have hmm:(op==[77,73,78])=true∧(op==[77,65,88])=false∨(op==[77,73,78])=false∧(op==[77,65,88])=true:=by
       have:=HO.out
       simp only [Lp.aggOps,List.mem_cons,List.not_mem_nil,or_false] at this
       rcases this with h|h|h|h
       ·exact absurd h hc
       ·exact absurd h hs
       ·rw [h];exact .inl ⟨rfl,rfl⟩
       ·rw [h];exact .inr ⟨rfl,rfl⟩
      have HMM:=κ hmm
      obtain ⟨⟨a1,a2,a3,a4⟩,vr,hvs⟩:=List.exists_cons_of_ne_nil hn
      have hrd:=Rds.own HW.out.2.2.1
      obtain ⟨bq,oq,hA8,q0,q1,q2,q3⟩:=RdsV.cells hrd (i:=0) hlp
      have hv0:vs[0]=⟨a1,a2,a3,a4⟩:=by subst hvs;rfl
      rw [hv0] at q0 q1 q2 q3
      simp only [Nat.zero_mul,Nat.add_zero] at q0 q1 q2 q3
      subst hA8
      have HVS:=κ hvs
      have HRD:=κ hrd
      have hbA:Below wr.heap.size wr (wr.alloc (.cells #[.int .u8 a1,.int .i64 a2,.string a3,.bool a4] 31)):=ba (Below.refl _ _) _
      have hzA:=heap_alloc_new wr (.cells #[.int .u8 a1,.int .i64 a2,.string a3,.bool a4] 31)
      have HA:=κ (ι hbA hzA)
      clear hc hn hs hmm hvs hrd hv0 hbA hzA hr8
      go_wp2_with fail
      rename World=>W1
      go_loopw [18,92] (fun _ s92 wr=>∃ (j:Nat) (b:Lp.V),j≤vs.length∧s92=.int .i64 j∧bestT op ⟨a1,a2,a3,a4⟩ vs j=b∧wr.heap[W1.heap.size]? = some (.cells #[.int .u8 b.k,.int .i64 b.i,.string b.s,.bool b.b] 31 (0,0))∧Below W1.heap.size W1 wr) (fun _ s92 _=>vs.length-(intOf s92).toNat)
      case atStart=>exact ⟨0,⟨a1,a2,a3,a4⟩,Nat.zero_le _,rfl,rfl,HA.out.2,HA.out.1⟩
      case round =>
       obtain ⟨j,⟨b1,b2,b3,b4⟩,hj,rfl,hbt,hzB,hbB⟩:=hrel
       simp only at hzB
       have hcxB:=β (box_below HW.out.2.2.2 hbB)
       by_cases hlj:j<vs.length
       ·obtain ⟨bq',oq',hA8',p0,p1,p2,p3⟩:=RdsV.cells (Rds.below HRD.out hbB) hlj
        simp only [Option.some.injEq,Addr.mk.injEq,and_true] at hA8'
        obtain ⟨rfl,rfl⟩:=hA8'
        have hnx:=bestT_next op ⟨a1,a2,a3,a4⟩ hlj
        rw [hbt] at hnx
        obtain ⟨vj,hvj⟩:∃ u,vs[j]=u:=⟨_,rfl⟩
        rw [hvj] at p0 p1 p2 p3 hnx
        clear hvj
        obtain ⟨v1,v2,v3,v4⟩:=vj
        simp only at p0 p1 p2 p3
        have hbV:Below wr.heap.size wr (wr.alloc (.cells #[.int .u8 v1,.int .i64 v2,.string v3,.bool v4] 31)):=ba (Below.refl _ _) _
        have hzV:=heap_alloc_new wr (.cells #[.int .u8 v1,.int .i64 v2,.string v3,.bool v4] 31)
        have hzB1:=box_below hzB hbV
        have hk1:=hbB.trans (hbV.mono hbB.size)
        have cV1:=β hzV
        have cB1:=β hzB1
        have cX1:=β (box_below HW.out.2.2.2 hk1)
        have HNX:=κ hnx
        have HZ:=κ (ι hzB1 (ι hzV (ι hk1 (Nat.le_refl (wr.alloc (.cells #[.int .u8 v1,.int .i64 v2,.string v3,.bool v4] 31)).heap.size))))
        have LS:=κ (fun (W':World) (hb:Below (wr.alloc (.cells #[.int .u8 v1,.int .i64 v2,.string v3,.bool v4] 31)).heap.size (wr.alloc (.cells #[.int .u8 v1,.int .i64 v2,.string v3,.bool v4] 31)) W')=>(less2_any v1 v2 v3 v4 b1 b2 b3 b4 W').mono fun _ _ ⟨e1,e2⟩=>(⟨e1,hb.trans (e2.mono hb.size)⟩:_∧Below (wr.alloc (.cells #[.int .u8 v1,.int .i64 v2,.string v3,.bool v4] 31)).heap.size (wr.alloc (.cells #[.int .u8 v1,.int .i64 v2,.string v3,.bool v4] 31)) _))
        have LG:=κ (fun (W':World) (hb:Below (wr.alloc (.cells #[.int .u8 v1,.int .i64 v2,.string v3,.bool v4] 31)).heap.size (wr.alloc (.cells #[.int .u8 v1,.int .i64 v2,.string v3,.bool v4] 31)) W')=>(less2_any b1 b2 b3 b4 v1 v2 v3 v4 W').mono fun _ _ ⟨e1,e2⟩=>(⟨e1,hb.trans (e2.mono hb.size)⟩:_∧Below (wr.alloc (.cells #[.int .u8 v1,.int .i64 v2,.string v3,.bool v4] 31)).heap.size (wr.alloc (.cells #[.int .u8 v1,.int .i64 v2,.string v3,.bool v4] 31)) _))
        obtain ⟨L,hL⟩:∃ L,Lp.vless ⟨v1,v2,v3,v4⟩ ⟨b1,b2,b3,b4⟩=L:=⟨_,rfl⟩
        obtain ⟨G,hG⟩:∃ G,Lp.vless ⟨b1,b2,b3,b4⟩ ⟨v1,v2,v3,v4⟩=G:=⟨_,rfl⟩
        rw [hL] at LS
        rw [hG] at LG
        have HLG:=κ (ι hL hG)
        clear hbt hzB hbB hnx hbV hzV hzB1 hk1 hL hG
        rcases HMM.out with ⟨m1,m2⟩|⟨m1,m2⟩
        ·cases L
         ·go_wp2_with fail
          refine (LS.out _ (Below.refl _ _)).mono ?_
          rintro e w2 ⟨rfl,hb2⟩
          have hzB2:=box_below HZ.out.1 hb2
          have cB2:=β hzB2
          have fB2:=fun j=>frozen_of_row _ _ j _ _ hzB2
          have cV2:=β (box_below HZ.out.2.1 hb2)
          have cX2:=β (box_below HW.out.2.2.2 (HZ.out.2.2.1.trans (hb2.mono HZ.out.2.2.1.size)))
          have hk2:=HZ.out.2.2.1.trans (hb2.mono HZ.out.2.2.1.size)
          have HS:=κ (ι hzB2 hk2)
          have HN:=κ (show bestT op ⟨a1,a2,a3,a4⟩ vs (j+1)=⟨b1,b2,b3,b4⟩ by rw [HNX.out];unfold Lp.stepM;rw [if_neg];rintro (⟨g1,g2⟩|⟨g1,g2⟩);rw [HLG.out.1] at g2;cases g2;rw [g1] at m2;cases m2)
          clear hb2 hzB2 hk2
          go_wp2
          go_roundw
          case rel=>exact ⟨j+1,⟨b1,b2,b3,b4⟩,by omega,by go_num,HN.out,HS.out.1,HS.out.2⟩
          case measure=>simp [intOf];omega
         ·go_wp2_with fail
          refine (LS.out _ (Below.refl _ _)).mono ?_
          rintro e w2 ⟨rfl,hb2⟩
          have hzB2:=box_below HZ.out.1 hb2
          have cB2:=β hzB2
          have fB2:=fun j=>frozen_of_row _ _ j _ _ hzB2
          have cV2:=β (box_below HZ.out.2.1 hb2)
          have cX2:=β (box_below HW.out.2.2.2 (HZ.out.2.2.1.trans (hb2.mono HZ.out.2.2.1.size)))
          have hk2:=HZ.out.2.2.1.trans (hb2.mono HZ.out.2.2.1.size)
          have HS:=κ (ι (set4_same hzB2 (.int .u8 v1) (.int .i64 v2) (.string v3) (.bool v4)) (below_set4 hk2 (g:=W1.heap.size) (Nat.le_refl _) (.int .u8 v1) (.int .i64 v2) (.string v3) (.bool v4)))
          have HN:=κ (show bestT op ⟨a1,a2,a3,a4⟩ vs (j+1)=⟨v1,v2,v3,v4⟩ by rw [HNX.out];unfold Lp.stepM;rw [if_pos];exact .inl ⟨eq_of_beq m1,HLG.out.1⟩)
          clear hb2 hzB2 hk2
          go_wp2
          go_roundw
          case rel=>exact ⟨j+1,⟨v1,v2,v3,v4⟩,by omega,by go_num,HN.out,HS.out.1,HS.out.2⟩
          case measure=>simp [intOf];omega
        ·cases G
         ·go_wp2_with fail
          refine (LG.out _ (Below.refl _ _)).mono ?_
          rintro e w2 ⟨rfl,hb2⟩
          have hzB2:=box_below HZ.out.1 hb2
          have cB2:=β hzB2
          have fB2:=fun j=>frozen_of_row _ _ j _ _ hzB2
          have cV2:=β (box_below HZ.out.2.1 hb2)
          have cX2:=β (box_below HW.out.2.2.2 (HZ.out.2.2.1.trans (hb2.mono HZ.out.2.2.1.size)))
          have hk2:=HZ.out.2.2.1.trans (hb2.mono HZ.out.2.2.1.size)
          have HS:=κ (ι hzB2 hk2)
          have HN:=κ (show bestT op ⟨a1,a2,a3,a4⟩ vs (j+1)=⟨b1,b2,b3,b4⟩ by rw [HNX.out];unfold Lp.stepM;rw [if_neg];rintro (⟨g1,g2⟩|⟨g1,g2⟩);rw [g1] at m1;cases m1;rw [HLG.out.2] at g2;cases g2)
          clear hb2 hzB2 hk2
          go_wp2
          go_roundw
          case rel=>exact ⟨j+1,⟨b1,b2,b3,b4⟩,by omega,by go_num,HN.out,HS.out.1,HS.out.2⟩
          case measure=>simp [intOf];omega
         ·go_wp2_with fail
          refine (LG.out _ (Below.refl _ _)).mono ?_
          rintro e w2 ⟨rfl,hb2⟩
          have hzB2:=box_below HZ.out.1 hb2
          have cB2:=β hzB2
          have fB2:=fun j=>frozen_of_row _ _ j _ _ hzB2
          have cV2:=β (box_below HZ.out.2.1 hb2)
          have cX2:=β (box_below HW.out.2.2.2 (HZ.out.2.2.1.trans (hb2.mono HZ.out.2.2.1.size)))
          have hk2:=HZ.out.2.2.1.trans (hb2.mono HZ.out.2.2.1.size)
          have HS:=κ (ι (set4_same hzB2 (.int .u8 v1) (.int .i64 v2) (.string v3) (.bool v4)) (below_set4 hk2 (g:=W1.heap.size) (Nat.le_refl _) (.int .u8 v1) (.int .i64 v2) (.string v3) (.bool v4)))
          have HN:=κ (show bestT op ⟨a1,a2,a3,a4⟩ vs (j+1)=⟨v1,v2,v3,v4⟩ by rw [HNX.out];unfold Lp.stepM;rw [if_pos];exact .inr ⟨eq_of_beq m2,HLG.out.2⟩)
          clear hb2 hzB2 hk2
          go_wp2
          go_roundw
          case rel=>exact ⟨j+1,⟨v1,v2,v3,v4⟩,by omega,by go_num,HN.out,HS.out.1,HS.out.2⟩
          case measure=>simp [intOf];omega
       ·have hj2:j=vs.length:=by omega
        have HQ:=κ (show Q=(⟨b1,b2,b3,b4⟩,0) by rw [HQB.out, ←hbt,hj2,HVS.out,bestT_all])
        have hr9:=box_below HW.out.1 hbB
        have hk9:=HW.out.2.1.trans (hbB.mono HW.out.2.1.size)
        have hc9:=β hr9
        have hf9:=fun j=>frozen_of_row _ _ j _ _ hr9
        have cB9:=β hzB
        have HCE:=κ (β (set4_same hr9 (.int .u8 b1) (.int .i64 b2) (.string b3) (.bool b4)))
        have K5:=κ (below_set4 hk9 (g:=w.heap.size+1) (Nat.le_succ _) (.int .u8 b1) (.int .i64 b2) (.string b3) (.bool b4))
        clear hr9 hk9 hzB hbB hbt hj2
        go_wp2
        have hcE:=HCE.out
        exact bodyPost_ret (v:=.tuple #[.agg #[.int .u8 b1,.int .i64 b2,.string b3,.bool b4],.int .i64 0]) (by simp [results,Tryz.results52,go_sem,hcE]) rfl (EvPost.mk HQ.out K5.out)
end Go.Proofs.YtkfjmgmjbljnbaaGreatDoor
