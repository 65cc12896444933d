/-
 EvalValues: the walk. Conditions: the tables of unicode/utf8 and of the reserved words as laid; the arguments as they came in.
-/
import Derived.Test.YtkfjmgmjbljnbaaGreatDoorZVal18e
import Derived.Test.YtkfjmgmjbljnbaaGreatDoorZZJ
import Derived.BigQuiet
set_option maxRecDepth 100000
set_option maxHeartbeats 16000000
namespace Go.Proofs.YtkfjmgmjbljnbaaGreatDoor
open Go.RowKit
theorem own_lit0 (w:World):(w.alloc (.cells #[] 31)).ownsRow w.heap.size 31 4 (.slice (some ⟨w.heap.size,0,none⟩) 0 0) 0 []:=by
 have:=World.ownsRow_lit (base:=w.heap.size) (e:=31) (size:=4) w #[] 0 (by simp) (Nat.zero_le _) rfl
 simpa using this
theorem vvOne (l:List Lp.V):∀ u∈Lp.vv l,u.oneCell'=true:=by
 intro u hu
 simp only [Lp.vv,List.mem_flatMap] at hu
 obtain ⟨v, -,hv⟩:=hu
 simp only [Lp.V.cells,List.mem_cons,List.not_mem_nil,or_false] at hv
 rcases hv with rfl|rfl|rfl|rfl<;>rfl
theorem gd_b {v:Lp.V} (h:Lp.Gd v) (hk:v.k≠3):v.b=false:=by
 rcases h.2 with ⟨-, -, -,h⟩|⟨-, -,h⟩|⟨-, -,h⟩|⟨h, -, -⟩
 ·exact h
 ·exact h
 ·exact h
 ·exact absurd h hk
attribute [local go_sem] eqG_run neG_run eqS_run neS_run
attribute [-go_sem] run_eql_struct run_neq_struct
theorem values_walk (A:Option Addr) (c:Nat) (la:List TabA) (s:ByteArray) (x:RowV) (w:World) (hA:ScA w A la) (hx:RowOk1 w x) (hT:Tabs w) (hR:Resv w) :
 Calls Tryz.prog 8 #[.slice A la.length c,.string s,x.val] w fun e w'=>e=.returned (.bool true)∧Below w.heap.size w w':=by
 obtain ⟨iV,hiV,hz0,hz1,hz2⟩:=info_parts valInfo
 obtain ⟨Ax,cx,lx⟩:=x
 have HA:=Lib.hid (awake18 w hT hR)
 have HT:=Lib.hid (And.intro hT hR)
 have HS:=Lib.hid hA
 have HX:=Lib.hid hx
 have hxl:lx.length≤cx:=hx.2.1
 have hm:(min (lx.length:Int) 20).toNat=min lx.length 20:=by omega
 have hm0:(0:Int)≤min (lx.length:Int) 20:=by omega
 have hm1:min (lx.length:Int) 20≤(lx.length:Int):=by omega
 have hm2:min (lx.length:Int) 20≤(cx:Int):=by omega
 simp only [RowV.val]
 clear hT hR hA hx
 go_enter Tryz.func8,Tryz.ntmps8
 go_wp2_with fail
 refine HA.out.mono ?_
 rintro e w1 ⟨rfl,hb1⟩
 go_wp2_with fail
 refine (scope18_any A c la w1 (HS.out.below hb1)).mono ?_
 rintro e w2 ⟨hb2,rfl|⟨l,A1,c1,A2,c2,rfl,hS1,hS2,hl2,h8⟩⟩
 ·have HB:=Lib.hid (hb1.trans (hb2.mono hb1.size))
  clear hb1 hb2
  go_wp2
  go_ret
  exact ⟨rfl,HB.out⟩
 ·have hB:=hb1.trans (hb2.mono hb1.size)
  have hwd:=wide_scOf (fun p hp=>(h8 p hp).1)
  have hBd:=(bound_any A1 c1 (scOf l) s false w2 (tabs_below HT.out.1 hB) (resv_below HT.out.2 hB) hS1.scm (by rw [scOf_len];omega) (by omega)).mono fun e w' h=>h.bde
  rw [scOf_len] at hBd
  have HBd:=Lib.hid hBd
  have HB:=Lib.hid (And.intro hB (And.intro hS2 (And.intro hl2 h8)))
  have HWD:=Lib.hid (show Lp.wide (scOf l)≤16 by omega)
  have hok:∀ x,Lp.condS (s.data.toList.take 600)=some x→x.wf:=fun x h=>(Lp.condS_ok (by rw [List.length_take];omega) h).1
  have HOK:=Lib.hid hok
  clear hb1 hb2 hS1 hS2 hBd hB h8 hwd hok
  generalize Lp.condS (s.data.toList.take 600)=q at *
  go_wp2_with fail
  refine HBd.out.mono ?_
  rintro e w3 ⟨hb3,hj⟩
  rcases hj with ⟨x,g,hq,hk,hnt,⟨k,vk,vi,vs,vb,tt,ss,Ar,nn,cr⟩,hrx,rfl⟩|⟨-,⟨k,vk,vi,vs,vb,tt,ss,Ar,nn,cr⟩,rfl⟩
  ·simp only [RC.val]
   have hbx:Below w3.heap.size w3 (w3.alloc (.cells #[.int .u8 k,.int .u8 vk,.int .i64 vi,.string vs,.bool vb,.string tt,.string ss,.slice Ar nn cr] 35)):=ba (Below.refl _ _) _
   have hzx:=heap_alloc_new w3 (.cells #[.int .u8 k,.int .u8 vk,.int .i64 vi,.string vs,.bool vb,.string tt,.string ss,.slice Ar nn cr] 35)
   have hwf:=HOK.out x hq
   have hk3:=hb3.trans (hbx.mono hb3.size)
   have hkB:=HB.out.1.trans (hk3.mono HB.out.1.size)
   obtain ⟨hcut,hcl⟩:=row_cut (HX.out.below hkB)
   have hF:=fit_any A2 c2 l ((Ax,cx,lx.take (min lx.length 20)):RowV) _ (HB.out.2.1.below hk3) hcut HB.out.2.2.1 (fun p hp=>(HB.out.2.2.2 p hp).1) (by show (lx.take (min lx.length 20)).length≤20;rw [hcl];omega)
   simp only [RowV.val,hcl] at hF
   have HF:=Lib.hid hF
   have HZ:=Lib.hid (And.intro (hnt.below hbx) (And.intro (RX.below hbx hrx) (And.intro hk (And.intro hwf (And.intro hk3 (And.intro hkB hzx))))))
   unfold ptr
   clear hbx hzx hwf hk3 hkB hq hk hnt hrx hb3 HBd HOK hF hcut hcl
   go_wp2_with fail
   refine HF.out.mono ?_
   rintro e w5 ⟨hb5,Af,cf,row,rfl,hrd,hrl,hrc,hro⟩
   have hrowI:(row.length:Int)≤16:=by have:=HWD.out;omega
   have hbe:Below w5.heap.size w5 (w5.alloc (.cells #[] 31)):=ba (Below.refl _ _) _
   have hown:=own_lit0 w5
   have hrd5:=Rds.below hrd hbe
   have H5:=Lib.hid (And.intro hb5 (And.intro hrd (And.intro hrl (And.intro hro (And.intro hown hrd5)))))
   have hvl:(Lp.vv row).length=row.length*4:=Lp.vv_length row
   have HVL:=Lib.hid hvl
   have HV1:=Lib.hid (vvOne row)
   clear hb5 hrd hrl hrc hro hbe hown hrd5 hvl HF
   go_wp2_with (at_builtin;go_loud (refine wpList_app _ rfl (.tmp 48) (.tmp 49) _ rfl w5.heap.size 31 iV _ 4 40 Tryz.underlying23 hiV hz0 hz1 hz2 rfl (by omega) _ _ _ _ rfl H5.out.2.2.2.2.1 _ row.length _ (Lp.vv row) rfl HVL.out H5.out.2.2.2.2.2 HV1.out (by simp only [maxLen];omega) (by omega) (by simp) ?_;intro A4 c4 w6 hown6 hb6 hg6 hk6;rw [List.nil_append,Nat.zero_add] at hown6;rw [Nat.zero_add]))
   have hbe:Below w5.heap.size w5 (w5.alloc (.cells #[] 31)):=ba (Below.refl _ _) _
   have hb36:=H5.out.1.trans ((hbe.trans hb6).mono H5.out.1.size)
   have HV:=Lib.hid (value_at HZ.out.2.2.2.1 HZ.out.2.2.1 (r:=(A4,c4,row)) H5.out.2.2.2.1 (HZ.out.1.below hb36) (Rds.own hown6))
   simp only [RowV.val] at HV
   unfold ptr at HV
   have H6:=Lib.hid (And.intro hb36 (Rds.below H5.out.2.1 (hbe.trans hb6)))
   clear hbe hb6 hg6 hk6 hown6 hb36 HVL HV1
   refine HV.out.mono ?_
   rintro e w7 hj
   obtain ⟨uk,ui,us,ub,E,hE,rfl,hb7⟩:=hj.form
   have htp:=(Lp.eval_res (scOf l) x false row [] HZ.out.2.2.2.1 HZ.out.2.2.1 H5.out.2.2.2.1 (fun _ h=>by cases h) (Nat.zero_le _)).1
   rw [hE] at htp
   have hbv:Below w7.heap.size w7 (w7.alloc (.cells #[.int .u8 uk,.int .i64 ui,.string us,.bool ub] 31)):=ba (Below.refl _ _) _
   have hzv:=heap_alloc_new w7 (.cells #[.int .u8 uk,.int .i64 ui,.string us,.bool ub] 31)
   have hb3v:=H6.out.1.trans ((hb7.trans (hbv.mono hb7.size)).mono H6.out.1.size)
   have hVK:=val18_any A2 c2 l (by have:=HB.out.2.2.1;omega) (by have:=HWD.out;omega) (Af,cf,row) H5.out.2.2.2.1 H5.out.2.2.1 x HZ.out.2.2.2.1 HZ.out.2.2.1 _ (w7.alloc (.cells #[.int .u8 uk,.int .i64 ui,.string us,.bool ub] 31)) _ ((HB.out.2.1.below HZ.out.2.2.2.2.1).below hb3v) (HZ.out.2.1.below hb3v) (Rds.below (Rds.below H6.out.2 hb7) hbv)
   simp only [RC.val,RowV.val] at hVK
   rw [hE] at hVK
   have HVK:=Lib.hid hVK
   have cx3:=box_cells (box_below HZ.out.2.2.2.2.2.2 hb3v)
   have H7:=Lib.hid (And.intro hb3v (And.intro hzv (And.intro htp hE)))
   have HR7:=Lib.hid (Rds.below (Rds.below H6.out.2 hb7) hbv)
   clear hj hE htp hbv hzv hb3v hVK HV hb7
   go_wp2_with fail
   refine HVK.out.mono ?_
   rintro e w8 ⟨rfl,hb8⟩
   simp only [vv4]
   have hbw:Below w8.heap.size w8 (w8.alloc (.cells #[.int .u8 uk,.int .i64 ui,.string us,.bool ub] 31)):=ba (Below.refl _ _) _
   have hzw:=heap_alloc_new w8 (.cells #[.int .u8 uk,.int .i64 ui,.string us,.bool ub] 31)
   have hb8w:=hb8.trans (hbw.mono hb8.size)
   have hzv9:=box_below H7.out.2.1 hb8w
   have hb39:=H7.out.1.trans (hb8w.mono H7.out.1.size)
   have hn9:=HZ.out.1.below hb39
   obtain ⟨nop,nv,na,nA,nn9,nc9,hnc⟩:=hn9.kind HZ.out.2.2.1
   have hkK:=HZ.out.2.2.2.2.2.1.trans (hb39.mono HZ.out.2.2.2.2.2.1.size)
   have HH:=Lib.hid (fun (W:World) (hb:Below (w8.alloc (.cells #[.int .u8 uk,.int .i64 ui,.string us,.bool ub] 31)).heap.size (w8.alloc (.cells #[.int .u8 uk,.int .i64 ui,.string us,.bool ub] 31)) W)=>by
    have h:=eHolds_any (scOf l) x (Af,cf,row) (ev_all (scOf l) x false (frV (Af,cf,row)) HZ.out.2.2.2.1 HZ.out.2.2.1 (Nat.zero_le _) H5.out.2.2.2.1 (fun _ h=>by cases h)) _ g W (hn9.below hb) (Rds.below (Rds.below HR7.out hb8w) hb)
    simp only at h
    rw [H7.out.2.2.2] at h
    exact h)
   simp only [RowV.val] at HH
   unfold ptr at HH
   have cg:=box_cells hnc 1
   have cv:=box_cells hzv9
   have cw:=box_cells hzw
   simp only [ndv,List.getElem?_toArray,List.getElem?_cons_zero,List.getElem?_cons_succ] at cg
   have HK:=Lib.hid hkK
   have HZV:=Lib.hid hzv9
   obtain ⟨t1,t2⟩:=H7.out.2.2.1
   generalize (Lp.kindX (scOf l) x false).1=p1 at *
   clear hbw hzw hzv9 hnc hn9 hb39 hb8w hb8 hkK cx3 HVK H5 H6 HR7
   have hq:((E==0)=false∧(E !=0)=true∧ub=false)∨(E=0∧(uk==0)=true∧(uk==3)=false∧ub=false)∨(E=0∧(uk==0)=false∧uk=p1∧((uk==3)=true∨(uk==3)=false∧ub=false)):=by
    by_cases hE0:E=0
    ·have hof:=t1 hE0
     simp only at hof
     by_cases hu0:uk=0
     ·refine .inr (.inl ⟨hE0,beq_iff_eq.2 hu0,by rw [hu0];rfl,gd_b hof.1 (by show uk≠3;omega)⟩)
     ·refine .inr (.inr ⟨hE0,beq_eq_false_iff_ne.2 hu0,hof.2.resolve_left hu0, ?_⟩)
      by_cases hu3:uk=3
      ·exact .inl (beq_iff_eq.2 hu3)
      ·exact .inr ⟨beq_eq_false_iff_ne.2 hu3,gd_b hof.1 hu3⟩
    ·have hnull:=t2 hE0
     refine .inl ⟨beq_eq_false_iff_ne.2 hE0,by rw [bne,beq_eq_false_iff_ne.2 hE0];rfl, ?_⟩
     have:=congrArg Lp.V.b hnull
     exact this
   clear t1 t2
   rcases hq with ⟨e1,e2,rfl⟩|⟨rfl,e1,e2,rfl⟩|⟨rfl,e1,rfl,e3⟩
   ·go_wp2_with fail
    go_quiet (fail)
    go_wp2_with fail
    refine (HH.out _ (below_drewN1 nq (Below.refl _ _))).mono ?_
    rintro e w10 ⟨rfl,hb10⟩
    have hq10:=(below_drewN1 nq (Below.refl _ _)).trans hb10
    have cv10:=box_cells (box_below HZV.out hq10)
    have HQ:=Lib.hid (HK.out.trans (hq10.mono HK.out.size))
    clear hb10 hq10
    go_wp2
    go_ret
    exact ⟨rfl,HQ.out⟩
   ·have e1':(uk !=0)=false:=by rw [bne,e1];rfl
    have e2':(uk !=3)=true:=by rw [bne,e2];rfl
    go_wp2_with fail
    go_quiet (fail)
    go_wp2_with fail
    refine (HH.out _ (below_drewN1 nq (Below.refl _ _))).mono ?_
    rintro e w10 ⟨rfl,hb10⟩
    have hq10:=(below_drewN1 nq (Below.refl _ _)).trans hb10
    have cv10:=box_cells (box_below HZV.out hq10)
    have HQ:=Lib.hid (HK.out.trans (hq10.mono HK.out.size))
    clear hb10 hq10
    go_wp2
    go_ret
    exact ⟨rfl,HQ.out⟩
   ·have e1':(uk !=0)=true:=by rw [bne,e1];rfl
    have e2':(uk !=uk)=false:=bne_self_eq_false _
    rcases e3 with e3|⟨e3,rfl⟩
    ·have e3':(uk !=3)=false:=by rw [bne,e3];rfl
     go_wp2_with fail
     go_quiet (fail)
     go_wp2_with fail
     refine (HH.out _ (below_drewN1 nq (Below.refl _ _))).mono ?_
     rintro e w10 ⟨rfl,hb10⟩
     have hq10:=(below_drewN1 nq (Below.refl _ _)).trans hb10
     have cv10:=box_cells (box_below HZV.out hq10)
     have HQ:=Lib.hid (HK.out.trans (hq10.mono HK.out.size))
     clear hb10 hq10
     go_wp2
     go_ret
     exact ⟨rfl,HQ.out⟩
    ·have e3':(uk !=3)=true:=by rw [bne,e3];rfl
     go_wp2_with fail
     go_quiet (fail)
     go_wp2_with fail
     refine (HH.out _ (below_drewN1 nq (Below.refl _ _))).mono ?_
     rintro e w10 ⟨rfl,hb10⟩
     have hq10:=(below_drewN1 nq (Below.refl _ _)).trans hb10
     have cv10:=box_cells (box_below HZV.out hq10)
     have HQ:=Lib.hid (HK.out.trans (hq10.mono HK.out.size))
     clear hb10 hq10
     go_wp2
     go_ret
     exact ⟨rfl,HQ.out⟩
  ·simp only [RC.val]
   have HK:=Lib.hid (ba (HB.out.1.trans (hb3.mono HB.out.1.size)) (.cells #[.int .u8 k,.int .u8 vk,.int .i64 vi,.string vs,.bool vb,.string tt,.string ss,.slice Ar nn cr] 35))
   clear hb3
   go_wp2
   go_ret
   exact ⟨rfl,HK.out⟩
end Go.Proofs.YtkfjmgmjbljnbaaGreatDoor
