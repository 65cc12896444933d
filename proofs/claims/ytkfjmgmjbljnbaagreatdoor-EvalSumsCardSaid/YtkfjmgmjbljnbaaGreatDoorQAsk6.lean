/-
 EvalSums' ask: what a group's text is, of rows of one column of numbers. Conditions: the tables of unicode/utf8 and of the reserved words as laid; at most 1000 rows.
-/
import Derived.Test.YtkfjmgmjbljnbaaGreatDoorQZI
import Derived.Test.YtkfjmgmjbljnbaaGreatDoorQRowsIn
import Derived.Test.YtkfjmgmjbljnbaaGreatDoorQZL
set_option maxRecDepth 100000
set_option maxHeartbeats 8000000
namespace Go.Proofs.YtkfjmgmjbljnbaaGreatDoor
open Go.RowKit
theorem c6_cnt:Lp.condS [67,79,85,78,84,40,97,41]=some (.agg Lp.uCount colA):=by kernel_rfl
theorem c6_sum:Lp.condS [83,85,77,40,97,41]=some (.agg Lp.uSum colA):=by kernel_rfl
theorem c6_min:Lp.condS [77,73,78,40,97,41]=some (.agg Lp.uMin colA):=by kernel_rfl
theorem c6_max:Lp.condS [77,65,88,40,97,41]=some (.agg Lp.uMax colA):=by kernel_rfl
theorem k6_cnt:(Lp.kindX scT (.agg Lp.uCount colA) true).2=0:=by kernel_rfl
theorem k6_sum:(Lp.kindX scT (.agg Lp.uSum colA) true).2=0:=by kernel_rfl
theorem k6_min:(Lp.kindX scT (.agg Lp.uMin colA) true).2=0:=by kernel_rfl
theorem k6_max:(Lp.kindX scT (.agg Lp.uMax colA) true).2=0:=by kernel_rfl
theorem ask6_any (s:ByteArray) (t:List UInt8) (x:Lp.X) (hs:s.data.toList.take 600=t) (hq:Lp.condS t=some x) (hk:(Lp.kindX scT x true).2=0) (At:Option Addr) (ct gt:Nat) (rA:Option Addr) (rc:Nat) (R:List RowV) (w:World) (hT:Tabs w) (hR:Resv w) (hS:ScM w At scT) (hM:RowsM w rA R) (hro:∀ q∈R,Lp.RowOk scT q.2.2) (hR12:R.length≤1000)
 (hgt:w.heap[gt]? = some (.cells #[.slice At 1 ct] 25 (0,0))) :
 Calls Tryz.prog 23 #[.string s,.slice rA R.length rc,.pointer (some ⟨gt,0,none⟩)] w (EvPost (Lp.evalX scT x (hd R).2.2 (R.map fun q=>q.2.2)) w):=by
 have hb0:Below w.heap.size w (w.alloc (.cells #[.int .u8 0,.int .i64 0,.string ⟨#[]⟩,.bool false] 31)):=ba (Below.refl _ _) _
 have hr0:=heap_alloc_new w (.cells #[.int .u8 0,.int .i64 0,.string ⟨#[]⟩,.bool false] 31)
 have hwf:x.wf:=(Lp.condS_ok (by rw [←hs,List.length_take];omega) hq).1
 have hBd:=(bound_any At ct scT s true _ (tabs_below hT hb0) (resv_below hR hb0) (hS.below hb0) (by decide) (by decide)).mono fun e w' h=>h.bde
 rw [hs,hq,show scT.length=1 from rfl] at hBd
 have hev:=fun (S:Nat→Prop) (g:Nat) (W:World) (hnt:NT S W scT x g) (hm:RowsM W rA R)=>eGroup_any scT x rA rc R (ev_all scT x true (frG rA rc R) hwf hk hR12 (by
  rw [frG_row]
  cases R with
  | nil=>exact Lp.RowOk.nil _
  | cons r R=>exact hro r List.mem_cons_self) hro) S g W hnt hm
 simp only [frG_row,frG_rows] at hev
 have HEV:=κ hev
 have HB:=κ hBd
 have H0:=κ (ι hb0 (ι hr0 (hM.below hb0)))
 have hct:=β (box_below hgt hb0) 0
 simp only [List.getElem?_toArray,List.getElem?_cons_zero] at hct
 generalize Lp.evalX scT x (hd R).2.2 (R.map fun q=>q.2.2)=p at *
 clear hb0 hr0 hT hR hs hq hBd hS hM hro hgt hev hR12 hwf
 go_enter Tryz.func23,Tryz.ntmps23
 go_wp2_with fail
 refine HB.out.mono ?_
 rintro e w1 ⟨hb1,hj⟩
 have hr1:=box_below H0.out.2.1 hb1
 have hM1:=H0.out.2.2.below hb1
 have hk1:=H0.out.1.trans (hb1.mono H0.out.1.size)
 rcases hj with ⟨x',g,hq,hk',hnt,⟨k,vk,vi,vs,vb,tt,ss,Ar,nn,cr⟩, -,rfl⟩|⟨hq|⟨x',hq,hk'⟩, -⟩
 ·injection hq with hq
  subst hq
  simp only [RC.val]
  have hbx:Below w1.heap.size w1 (w1.alloc (.cells #[.int .u8 k,.int .u8 vk,.int .i64 vi,.string vs,.bool vb,.string tt,.string ss,.slice Ar nn cr] 35)):=ba (Below.refl _ _) _
  have HE:=κ (HEV.out _ g _ (hnt.below hbx) (hM1.below hbx))
  have hr2:=box_below hr1 hbx
  have hk2:=hk1.trans (hbx.mono hk1.size)
  have HZ:=κ (ι hr2 hk2)
  unfold ptr at *
  clear hbx hr1 hk1 hr2 hk2 hk' hnt hb1 HB H0 hM1 hct HEV
  go_wp2_with fail
  refine HE.out.mono ?_
  rintro e w2 hj
  obtain ⟨uk,ui,us,ub,E,hE,rfl,hb3⟩:=hj.form
  have HQ:=κ hE
  have hr3:=box_below HZ.out.1 hb3
  have hk3:=HZ.out.2.trans (hb3.mono HZ.out.2.size)
  have hc1:=β hr3
  have hf1:=fun j=>frozen_of_row _ _ j _ _ hr3
  have HCE:=κ (β (set4_same hr3 (.int .u8 uk) (.int .i64 ui) (.string us) (.bool ub)))
  have K5:=κ (below_set4 hk3 (g:=w.heap.size) (Nat.le_refl _) (.int .u8 uk) (.int .i64 ui) (.string us) (.bool ub))
  clear hj hE hb3 hr3 hk3 HE
  go_wp2
  have hcE:=HCE.out
  exact bodyPost_ret (v:=.tuple #[.agg #[.int .u8 uk,.int .i64 ui,.string us,.bool ub],.int .i64 E]) (by simp [results,Tryz.results23,go_sem,hcE]) rfl (EvPost.mk HQ.out K5.out)
 ·cases hq
 ·injection hq with hq
  subst hq
  exact absurd hk hk'
end Go.Proofs.YtkfjmgmjbljnbaaGreatDoor
