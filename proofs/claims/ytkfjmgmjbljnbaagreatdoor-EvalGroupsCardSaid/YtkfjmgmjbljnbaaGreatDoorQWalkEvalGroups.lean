/-
 EvalGroups: the walk. Conditions: the tables of unicode/utf8 and of the reserved words as laid; the arguments as they came in.
-/
import Derived.Test.YtkfjmgmjbljnbaaGreatDoorQVag18e
import Derived.Test.YtkfjmgmjbljnbaaGreatDoorQZJ
import Derived.Test.YtkfjmgmjbljnbaaGreatDoorQRowsIn
import Derived.BigQuiet
import Derived.Deep.DeepCutAuto
set_option maxRecDepth 100000
set_option maxHeartbeats 16000000
namespace Go.Proofs.YtkfjmgmjbljnbaaGreatDoor
open Go.RowKit
theorem eqW_run (x1 x2:Int) (x3:ByteArray) (x4:Bool) (w:World):(binOp .eql 31 (.agg #[.int .u8 x1,.int .i64 x2,.string x3,.bool x4]) (.agg #[.int .u8 x1,.int .i64 x2,.string x3,.bool x4])).run Tryz.prog w=.ok (.bool true) w:=by
 rw [eqV_run,show vEq ⟨x1,x2,x3,x4⟩ ⟨x1,x2,x3,x4⟩=true by simp [vEq]]
def GrpI (sc:List Lp.Tb) (n:Nat) (W:World) (i:Nat) (A:Option Addr) (c:Nat) (R:List RowV) (wr:World):Prop :=
 i≤n∧(R.length≤12∧R.length≤i)∧wr.ownsRow W.heap.size 23 1 (.slice A R.length c) R.length (R.map RowV.val)∧RowsIn sc wr W.heap.size R∧Below W.heap.size W wr
attribute [local go_sem] eqG_run eqW_run
attribute [-go_sem] run_eql_struct
theorem groups_walk (A:Option Addr) (c:Nat) (la:List TabA) (s:ByteArray) (gA:Option Addr) (gc:Nat) (G:List RowV) (w:World) (hA:ScA w A la) (hG:RdsR w gA G) (hGl:G.length≤9223372036854775807) (hT:Tabs w) (hR:Resv w) :
 Calls Tryz.prog 7 #[.slice A la.length c,.string s,.slice gA G.length gc] w fun e w'=>e=.returned (.bool true)∧Below w.heap.size w w':=by
 obtain ⟨iR,hiR,hz0,hz1,hz2⟩:=info_parts rowsInfo
 have HA:=κ (awake18 w hT hR)
 have HT:=κ (ι hT hR)
 have HS:=κ hA
 have HG:=κ hG
 have hGI:(G.length:Int)≤9223372036854775807:=by omega
 clear hT hR hA hG
 go_enter Tryz.func7,Tryz.ntmps7
 go_wp2_with fail
 refine HA.out.mono ?_
 rintro e w1 ⟨rfl,hb1⟩
 go_wp2_with fail
 refine (scope18_any A c la w1 (HS.out.below hb1)).mono ?_
 rintro e w2 ⟨hb2,rfl|⟨l,A1,c1,A2,c2,rfl,hS1,hS2,hl2,h8⟩⟩
 ·have HB:=κ (hb1.trans (hb2.mono hb1.size))
  clear hb1 hb2
  go_wp2
  go_ret
  exact ⟨rfl,HB.out⟩
 ·have hB:=hb1.trans (hb2.mono hb1.size)
  have hwd:=wide_scOf (fun p hp=>(h8 p hp).1)
  have hBd:=(bound_any A1 c1 (scOf l) s true w2 (tabs_below HT.out.1 hB) (resv_below HT.out.2 hB) hS1.scm (by rw [scOf_len];omega) (by omega)).mono fun e w' h=>h.bde
  rw [scOf_len] at hBd
  have HBd:=κ hBd
  have HB:=κ (ι hB (ι hS2 (ι hl2 h8)))
  have HWD:=κ (show Lp.wide (scOf l)≤16 by omega)
  have hok:∀ x,Lp.condS (s.data.toList.take 600)=some x→x.wf:=fun x h=>(Lp.condS_ok (by rw [List.length_take];omega) h).1
  have HOK:=κ hok
  clear hb1 hb2 hS1 hS2 hBd hB h8 hwd hok
  generalize Lp.condS (s.data.toList.take 600)=q at *
  go_wp2_with fail
  refine HBd.out.mono ?_
  rintro e w3 ⟨hb3,hj⟩
  rcases hj with ⟨x,g,hq,hk,hnt,⟨k,vk,vi,vs,vb,tt,ss,Ar,nn,cr⟩,hrx,rfl⟩|⟨-,⟨k,vk,vi,vs,vb,tt,ss,Ar,nn,cr⟩,rfl⟩
  ·simp only [RC.val]
   have hbx:Below w3.heap.size w3 (w3.alloc (.cells #[.int .u8 k,.int .u8 vk,.int .i64 vi,.string vs,.bool vb,.string tt,.string ss,.slice Ar nn cr] 35)):=ba (Below.refl _ _) _
   have hzx:=heap_alloc_new w3 (.cells #[.int .u8 k,.int .u8 vk,.int .i64 vi,.string vs,.bool vb,.string tt,.string ss,.slice Ar nn cr] 35)
   have hwf:=HOK.out x hq
   have hk3:=hb3.trans (hbx.mono hb3.size)
   have hkB:=HB.out.1.trans (hk3.mono HB.out.1.size)
   have HG3:=κ (HG.out.below hkB)
   have HZ:=κ (ι (hnt.below hbx) (ι (RX.below hbx hrx) (ι hk (ι hwf (ι hkB hzx)))))
   have HS3:=κ (HB.out.2.1.below hk3)
   unfold ptr
   clear hbx hzx hwf hk3 hkB hq hk hnt hrx hb3 HBd HOK HG
   go_wp2_with fail
   generalize (w3.alloc (.cells #[.int .u8 k,.int .u8 vk,.int .i64 vi,.string vs,.bool vb,.string tt,.string ss,.slice Ar nn cr] 35))=W at *
   go_loopw [13,14,15,42] (fun s13 _ _ s42 wr=>∃ (i:Nat) (A8:Option Addr) (c8:Nat) (R:List RowV),s42=.int .i64 i∧s13=.slice A8 R.length c8∧GrpI (scOf l) G.length W i A8 c8 R wr) (fun _ _ _ s42 _=>G.length-(intOf s42).toNat)
   case atStart=>exact ⟨0,none,0,[],rfl,rfl,Nat.zero_le _,⟨Nat.zero_le _,Nat.zero_le _⟩,World.ownsRow_nil _ _ _ _,RowsIn.nil _ _ _,Below.refl _ _⟩
   case round =>
    obtain ⟨i,A8,c8,R,rfl,rfl,hi,⟨hR12,hRi⟩,hown,hrows,hb⟩:=hrel
    by_cases hlt:i<G.length
    ·have hat:(G.map RowV.val)[i]? = some (RowV.val G[i]):=by rw [List.getElem?_map,List.getElem?_eq_getElem hlt];rfl
     have hGw:=HG3.out.below hb
     obtain ⟨bG,oG,hAG,hcell⟩:=hGw.1.at_ hat
     have hx:=hGw.2 _ (List.getElem_mem hlt)
     generalize G[i]=x0 at *
     obtain ⟨Ax,cx,lx⟩:=x0
     have hxl:lx.length≤cx:=hx.2.1
     simp only [RowV.val] at hcell
     subst hAG
     by_cases h12:i<12
     ·obtain ⟨hcut,hcl⟩:=row_cut hx
      have hF:=fit_own A2 c2 l ((Ax,cx,lx.take (min lx.length 20)):RowV) _ (HS3.out.below hb) hcut HB.out.2.2.1 (fun p hp=>(HB.out.2.2.2 p hp).1) (by show (lx.take (min lx.length 20)).length≤20;rw [hcl];omega)
      simp only [RowV.val,hcl] at hF
      have HF:=κ hF
      have HX:=κ (ι hown (ι hrows hb))
      have hm:(min (lx.length:Int) 20).toNat=min lx.length 20:=by omega
      have hm0:(0:Int)≤min (lx.length:Int) 20:=by omega
      have hm1:min (lx.length:Int) 20≤(lx.length:Int):=by omega
      have hm2:min (lx.length:Int) 20≤(cx:Int):=by omega
      have hRI:R.length+1≤13:=by omega
      clear hat hGw hx hcut hcl hF hown hrows hb
      go_wp2_with fail
      refine HF.out.mono ?_
      rintro e w5 ⟨hb5,Af,cf,row,rfl,hfo,hfl,hfr⟩
      have hownF:=own_under HX.out.1 hb5
      have hrowsF:=HX.out.2.1.below hb5
      have hbF:=HX.out.2.2.trans (hb5.mono HX.out.2.2.size)
      have hba:Below w5.heap.size w5 (w5.alloc (.cells #[.slice Af row.length cf] 23)):=ba (Below.refl _ _) _
      have hnew:=rds_blk [.slice Af row.length cf] (heap_alloc_new w5 (.cells #[.slice Af row.length cf] 23))
      have hfo5:=(own_under hfo hba).mono HX.out.2.2.size
      have H5:=κ (ι (own_under hownF hba) (ι (hrowsF.below hba) (ι (hbF.trans (hba.mono hbF.size)) (ι hnew (ι hfo5 (ι hfr hfl))))))
      clear hownF hrowsF hbF hba hnew hfo5 hb5 hfo hfl hfr HF HX hcell
      go_wp2_with (at_builtin;go_loud (refine wpList_app _ rfl (.tmp 49) (.tmp 57) _ rfl W.heap.size 23 iR _ 1 24 Tryz.underlying51 hiR hz0 hz1 hz2 rfl (by omega) _ _ _ _ rfl H5.out.1 _ 1 _ [.slice Af row.length cf] rfl rfl H5.out.2.2.2.1 (by simp [Value.oneCell']) (by simp only [maxLen];omega) (by omega) H5.out.2.2.1.size ?_;intro A4 c4 w6 hown6 hb6 hg6 hk6))
      have hrows6:=(H5.out.2.1.two H5.out.1 (by decide) hg6).snoc (x:=(Af,cf,row)) (own_twoS H5.out.2.2.2.2.1 H5.out.1 (by decide) hg6) H5.out.2.2.2.2.2.1 H5.out.2.2.2.2.2.2
      have H6:=κ (ι hown6 (ι hrows6 (H5.out.2.2.1.trans hb6)))
      clear hown6 hb6 hg6 hk6 hrows6 H5
      go_wp2
      go_roundw
      case rel=>exact ⟨i+1,A4,c4,R++[(Af,cf,row)],by go_num,by simp,by omega,by simp;omega,by rw [List.length_append,List.map_append];exact H6.out.1,H6.out.2.1,H6.out.2.2⟩
      case measure=>simp [intOf];omega
     ·have HX:=κ (ι hown (ι hrows hb))
      clear hat hGw hx hown hrows hb
      go_wp2
      go_roundw
      case rel=>exact ⟨i+1,A8,c8,R,by go_num,rfl,by omega,⟨hR12,by omega⟩,HX.out.1,HX.out.2.1,HX.out.2.2⟩
      case measure=>simp [intOf];omega
    ·have hM:=hrows.rows hown
     have hro:=hrows.rowOk
     obtain ⟨hh1,hh2⟩:=hd_ok hro
     have hkW:=HZ.out.2.2.2.2.1.trans (hb.mono HZ.out.2.2.2.2.1.size)
     have hev:=eGroup_any (scOf l) x A8 c8 R (ev_all (scOf l) x true (frG A8 c8 R) HZ.out.2.2.2.1 HZ.out.2.2.1 (by show R.length≤1000;omega) (by rw [frG_row];exact hh1) (fun r hr=>(hro r hr).1)) _ g wr (HZ.out.1.below hb) hM
     rw [frG_row,frG_rows] at hev
     have HE:=κ hev
     have HM:=κ (ι hM (ι hro (ι hh1 hh2)))
     have HK:=κ (ι hkW (ι (HS3.out.below hb) (ι (HZ.out.1.below hb) (ι (RX.below hb HZ.out.2.1) (box_below HZ.out.2.2.2.2.2 hb)))))
     have htp:=(Lp.eval_res (scOf l) x true (hd R).2.2 (R.map fun q=>q.2.2) HZ.out.2.2.2.1 HZ.out.2.2.1 hh1 (fun q hq=>by obtain ⟨u,hu,rfl⟩:=List.mem_map.1 hq;exact (hro u hu).1) (by rw [List.length_map];omega)).1
     have HTP:=κ htp
     have hcell0:∀ x0 R',R=x0::R'→∃ b o,A8=some ⟨b,o,none⟩∧wr.cell? ⟨b,o+0,none⟩=some (RowV.val x0):=fun x0 R' h=>hM.1.at_ (k:=0) (by rw [h];rfl)
     have HC0:=κ hcell0
     unfold ptr at HE
     clear hM hro hh1 hh2 hkW hev htp hown hrows hb hcell0
     have hRI:(R.length:Int)≤12:=by omega
     go_upto_if 62 with fail
     go_cut [16] (fun s16 wx=>wx=wr∧s16=(hd R).val)
     case first =>
      rcases R with _|⟨⟨A0,c0,r0⟩,R'⟩
      ·go_wp2_with fail
       go_meet
       exact ⟨rfl,rfl⟩
      ·obtain ⟨b0,o0,h0,hc0⟩:=HC0.out _ _ rfl
       simp only [RowV.val,Nat.add_zero] at hc0
       subst h0
       have h1:(0:Int)<((((A0,c0,r0)::R':List RowV).length:Nat):Int):=by simp
       have h2:(0:Int)<(R'.length:Int)+1:=by omega
       go_wp2_with fail
       go_meet
       exact ⟨rfl,rfl⟩
     case rest =>
      obtain ⟨rfl,rfl⟩:=hcut
      clear HC0
      go_wp2_with fail
      refine HE.out.mono ?_
      rintro e w7 hj
      obtain ⟨uk,ui,us,ub,E,hE,rfl,hb7⟩:=hj.form
      have htp:=HTP.out
      rw [hE] at htp
      have hbv:Below w7.heap.size w7 (w7.alloc (.cells #[.int .u8 uk,.int .i64 ui,.string us,.bool ub] 31)):=ba (Below.refl _ _) _
      have hzv:=heap_alloc_new w7 (.cells #[.int .u8 uk,.int .i64 ui,.string us,.bool ub] 31)
      have hbW:=hb7.trans (hbv.mono hb7.size)
      have hMv:=HM.out.1.below hbW
      have hVK:=vag_any A2 c2 l (by have:=HB.out.2.2.1;omega) (by have:=HWD.out;omega) (hd R) HM.out.2.2.1 HM.out.2.2.2 A8 c8 R (by omega) HM.out.2.1 x HZ.out.2.2.2.1 HZ.out.2.2.1 _ (w7.alloc (.cells #[.int .u8 uk,.int .i64 ui,.string us,.bool ub] 31)) _ (HK.out.2.1.below hbW) (RX.below hbW HK.out.2.2.2.1) (hd_rds hMv) hMv
      simp only [RC.val] at hVK
      rw [hE] at hVK
      have HVK:=κ hVK
      have cx3:=β (box_below HK.out.2.2.2.2 hbW)
      have H7:=κ (ι hzv (ι (HK.out.1.trans (hbW.mono HK.out.1.size)) (ι (HK.out.2.2.1.below hbW) htp)))
      clear hj hE htp hbv hzv hbW hMv hVK HE hb7 HTP
      go_wp2_with fail
      refine HVK.out.mono ?_
      rintro e w8 ⟨rfl,hb8⟩
      simp only [vv4]
      have hbw:Below w8.heap.size w8 (w8.alloc (.cells #[.int .u8 uk,.int .i64 ui,.string us,.bool ub] 31)):=ba (Below.refl _ _) _
      have hzw:=heap_alloc_new w8 (.cells #[.int .u8 uk,.int .i64 ui,.string us,.bool ub] 31)
      have hb8w:=hb8.trans (hbw.mono hb8.size)
      obtain ⟨nop,nv,na,nA,nn9,nc9,hnc⟩:=(H7.out.2.2.1.below hb8w).kind HZ.out.2.2.1
      have HKK:=κ (H7.out.2.1.trans (hb8w.mono H7.out.2.1.size))
      have cg:=β hnc 1
      have cv:=β (box_below H7.out.1 hb8w)
      have cw:=β hzw
      simp only [ndv,List.getElem?_toArray,List.getElem?_cons_zero,List.getElem?_cons_succ] at cg
      obtain ⟨t1,t2⟩:=H7.out.2.2.2
      generalize (Lp.kindX (scOf l) x true).1=p1 at *
      clear hbw hzw hnc hb8w hb8 cx3 HVK H7 HK HM
      have hq:(E !=0)=true∨(E !=0)=false∧((uk==0)=true∨(uk==0)=false∧uk=p1):=by
       by_cases hE0:E=0
       ·have hof:=t1 hE0
        simp only at hof
        refine .inr ⟨by rw [bne,beq_iff_eq.2 hE0];rfl, ?_⟩
        by_cases hu0:uk=0
        ·exact .inl (beq_iff_eq.2 hu0)
        ·exact .inr ⟨beq_eq_false_iff_ne.2 hu0,hof.2.resolve_left hu0⟩
       ·exact .inl (by rw [bne,beq_eq_false_iff_ne.2 hE0];rfl)
      clear t1 t2
      have eE:(E==E)=true:=beq_self_eq_true E
      have eU:(uk==uk)=true:=beq_self_eq_true uk
      rcases hq with e1|⟨e1,e2|⟨e2,rfl⟩⟩
      ·go_wp2_with fail
       go_quiet (fail)
       go_wp2
       go_ret
       exact ⟨rfl,below_drewN1 nq HKK.out⟩
      ·go_wp2_with fail
       go_quiet (fail)
       go_wp2
       go_ret
       exact ⟨rfl,below_drewN1 nq HKK.out⟩
      ·go_wp2_with fail
       go_quiet (fail)
       go_wp2
       go_ret
       exact ⟨rfl,below_drewN1 nq HKK.out⟩
  ·simp only [RC.val]
   have HK:=κ (ba (HB.out.1.trans (hb3.mono HB.out.1.size)) (.cells #[.int .u8 k,.int .u8 vk,.int .i64 vi,.string vs,.bool vb,.string tt,.string ss,.slice Ar nn cr] 35))
   clear hb3
   go_wp2
   go_ret
   exact ⟨rfl,HK.out⟩
end Go.Proofs.YtkfjmgmjbljnbaaGreatDoor
