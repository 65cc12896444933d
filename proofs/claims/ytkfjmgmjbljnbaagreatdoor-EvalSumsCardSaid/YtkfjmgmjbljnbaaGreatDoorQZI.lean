/-
 Contracts and laws, joined. Conditions: those of each.
-/
import Derived.Test.YtkfjmgmjbljnbaaGreatDoorQGS
import Derived.Test.YtkfjmgmjbljnbaaGreatDoorQGF
import Derived.Test.YtkfjmgmjbljnbaaGreatDoorQEval9
set_option maxRecDepth 100000
set_option maxHeartbeats 8000000
namespace Go.Proofs.YtkfjmgmjbljnbaaGreatDoor
open Go.RowKit
def BdPost (sc:List Lp.Tb) (gr:Bool) (w:World) (q:Option Lp.X) (e:Ending) (w':World):Prop :=
 Below w.heap.size w w'∧match q with
 | none=>∃ rr:RC,e=.returned (.tuple #[.pointer none,rr.val,.bool false])
 | some x=>∃ rr:RC,RX (fun k=>w.heap.size≤k) w' x rr∧if (Lp.kindX sc x gr).2=0 then ∃ g,e=.returned (.tuple #[ptr g,rr.val,.bool true])∧NT (fun k=>w.heap.size≤k) w' sc x g
   else e=.returned (.tuple #[.pointer none,rr.val,.bool false])
theorem bd_no {sc:List Lp.Tb} {gr:Bool} {w w':World} {q:Option Lp.X} (rr:RC) (hq:q=none) (hb:Below w.heap.size w w'):BdPost sc gr w q (.returned (.tuple #[.pointer none,rr.val,.bool false])) w':=by
 subst hq;exact ⟨hb,rr,rfl⟩
theorem bd_bad {sc:List Lp.Tb} {gr:Bool} {w w':World} {q:Option Lp.X} {x:Lp.X} (rr:RC) (hq:q=some x) (hb:Below w.heap.size w w') (hx:RX (fun k=>w.heap.size≤k) w' x rr) (hk:¬(Lp.kindX sc x gr).2=0):BdPost sc gr w q (.returned (.tuple #[.pointer none,rr.val,.bool false])) w':=by
 subst hq;exact ⟨hb,rr,hx,by rw [if_neg hk]⟩
theorem bd_yes {sc:List Lp.Tb} {gr:Bool} {w w':World} {q:Option Lp.X} {x:Lp.X} {g:Nat} (rr:RC) (hq:q=some x) (hb:Below w.heap.size w w') (hx:RX (fun k=>w.heap.size≤k) w' x rr) (hk:(Lp.kindX sc x gr).2=0) (hn:NT (fun k=>w.heap.size≤k) w' sc x g):BdPost sc gr w q (.returned (.tuple #[ptr g,rr.val,.bool true])) w':=by
 subst hq;exact ⟨hb,rr,hx,by rw [if_pos hk];exact ⟨g,rfl,hn⟩⟩
theorem bd_end {w v:World} {x:Lp.X} {r0 r:RC} (hz:v.heap[w.heap.size]? = some (.cells r0.cells.toArray 35 (0,0))) (hb:Below w.heap.size w v) (hx:RX (fun j=>w.heap.size<j) v x r) :
 (put8 v w.heap.size r).heap[w.heap.size]? = some (.cells r.cells.toArray 35 (0,0))∧Below w.heap.size w (put8 v w.heap.size r)∧RX (fun j=>w.heap.size≤j) (put8 v w.heap.size r) x r :=
 ⟨put8_box r hz,below_set8 hb (Nat.le_refl _),RX.mono (fun _ hk _=>Nat.le_of_lt hk) (put8_rx (fun j (hj:w.heap.size<j)=>by omega) hx)⟩
attribute [local go_sem] ta_del
theorem bound_any (A:Option Addr) (c:Nat) (sc:List Lp.Tb) (s:ByteArray) (gr:Bool) (w:World) (hT:Tabs w) (hR:Resv w) (hS:ScM w A sc) (hn:sc.length≤100) (hw:Lp.wide sc≤10000) :
 Calls Tryz.prog 18 #[.slice A sc.length c,.string s,.bool gr] w (BdPost sc gr w (Lp.condS (s.data.toList.take 600))):=by
 have hb0:Below w.heap.size w (w.alloc (.cells rcZ.cells.toArray 35)):=(Below.refl _ _).alloc (Nat.le_refl _) _
 have hz0:=heap_alloc_new w (.cells rcZ.cells.toArray 35)
 have hl:(s.data.toList.take 600).length≤1000:=by rw [List.length_take];omega
 have HP:=κ (parse_any _ (s.data.toList.take 600) _ (tabs_below hT hb0) (resv_below hR hb0) (fewP s) hl)
 have HO:=κ (fun W=>(few_list s)▸rone_any (fewB s) W (by have:=few_size s;omega))
 have H0:=κ (ι hb0 hz0)
 have HS:=κ hS
 have HN:=κ (ι hn hw)
 have hok:∀ x,Lp.condS (s.data.toList.take 600)=some x→x.wf:=fun x h=>(Lp.condS_ok (by rw [List.length_take];omega) h).1
 have HOK:=κ hok
 have hfs:=few_size s
 have hm:s.extract 0 (min (s.size:Int) 600).toNat=fewB s:=by
  have h:(min (s.size:Int) 600).toNat=min s.size 600:=by omega
  rw [h];rfl
 have h0:(0:Int)≤min (s.size:Int) 600:=by omega
 have h1:min (s.size:Int) 600≤(s.size:Int):=by omega
 have HM:=κ hm
 clear hb0 hz0 hl hT hR hS hn hw hok hm
 go_enter Tryz.func18,Tryz.ntmps18
 go_upto_region 2 with fail
 rw [HM.out]
 generalize fewB s=T at *
 clear h0 h1 HM
 go_wp2_with fail
 refine HP.out.mono ?_
 rintro e w1 ⟨hb1,hq1⟩
 have hz1:=box_below H0.out.2 hb1
 have hbw1:=H0.out.1.trans (hb1.mono H0.out.1.size)
 rcases hc:Lp.condS (s.data.toList.take 600) with _|x
 ·rw [hc] at hq1
  obtain ⟨c,hc0,rfl⟩:=hq1
  have HQ:=κ hc
  have e1:(c==0)=false:=beq_eq_false_iff_ne.2 hc0
  have e2:(c !=0)=true:=by rw [bne,e1];rfl
  rw [hc] at HO
  have HZ:=κ (ι hz1 hbw1)
  clear hc hc0 hb1 hz1 hbw1 HP H0 HOK
  go_wp2_with fail
  refine (HO.out _).mono ?_
  rintro e w2 ⟨hb2,rfl⟩
  simp only [RC.val,rcZ]
  have hb3:Below w2.heap.size w2 (w2.alloc (.cells rcZ.cells.toArray 35)):=(Below.refl _ _).alloc (Nat.le_refl _) _
  have hz2:=box_below HZ.out.1 hb2
  have hz3:=box_below hz2 hb3
  have hy3:=heap_alloc_new w2 (.cells rcZ.cells.toArray 35)
  have hbw3:=(HZ.out.2.trans (hb2.mono HZ.out.2.size)).trans (hb3.mono (Nat.le_of_lt (heap_lt hz2)))
  have c0:=β hz3
  have cy:=β hy3
  have z0:=fun j=>frozen_of_row _ _ j _ _ hz3
  simp only [RC.cells,rcZ] at c0 cy z0
  have HZ3:=κ (ι hz3 hbw3)
  clear hb2 hb3 hz2 hz3 hy3 hbw3 HZ HO
  go_wp2_with fail
  go_region
  have hbx:=put8_box rcZ HZ3.out.1
  have hbl:=below_set8 (g:=w.heap.size) (r:=rcZ) HZ3.out.2 (Nat.le_refl _)
  obtain ⟨V,hV⟩:∃ V,put8 (w2.alloc (.cells rcZ.cells.toArray 35)) w.heap.size rcZ=V:=⟨_,rfl⟩
  rw [hV] at hbx hbl
  have hcE:=β (w:=V.drew) hbx
  have HE:=κ (show Below w.heap.size w V.drew from hbl.drew)
  have HV:=κ hV
  clear c0 cy z0 hbx hbl hV HZ3
  go_wp2
  change bodyPost _ _ _ _ _ (put8 (w2.alloc (.cells rcZ.cells.toArray 35)) w.heap.size rcZ).drew
  rw [HV.out]
  simp only [RC.cells,rcZ] at hcE
  exact bodyPost_ret (v:=.tuple #[.pointer none,rcZ.val,.bool false]) (by simp [results,Tryz.results18,go_sem,hcE,RC.val,rcZ]) rfl (bd_no rcZ HQ.out HE.out)
 ·rw [hc] at hq1
  obtain ⟨g,T2,g2,rfl,hg,hx1⟩:=hq1
  have hwf:=HOK.out x hc
  have HQ:=κ (ι hc hwf)
  rw [hc] at HO
  have HZ:=κ (ι hz1 (ι hbw1 (ι hg (PX.mono (B':=0) (Nat.zero_le _) hx1))))
  clear hc hb1 hz1 hbw1 HP H0 hg hx1 hwf HOK
  go_wp2_with fail
  refine (HO.out _).mono ?_
  rintro e w2 ⟨hb2,⟨k,vk,vi,vs,vb,tt,ss,Ar,nn,cr⟩,rfl,hrx⟩
  simp only [RC.val]
  have hb3:Below w2.heap.size w2 (w2.alloc (.cells #[.int .u8 k,.int .u8 vk,.int .i64 vi,.string vs,.bool vb,.string tt,.string ss,.slice Ar nn cr] 35)):=(Below.refl _ _).alloc (Nat.le_refl _) _
  have hz2:=box_below HZ.out.1 hb2
  have hz3:=box_below hz2 hb3
  have hg3:=box_below (box_below HZ.out.2.2.1 hb2) hb3
  have hy3:=heap_alloc_new w2 (.cells #[.int .u8 k,.int .u8 vk,.int .i64 vi,.string vs,.bool vb,.string tt,.string ss,.slice Ar nn cr] 35)
  have hbw3:=(HZ.out.2.1.trans (hb2.mono HZ.out.2.1.size)).trans (hb3.mono (Nat.le_of_lt (heap_lt hz2)))
  have hlt1:=heap_lt HZ.out.1
  have hpx3:=PX.keep (stays_below hb3) (PX.keep (stays_below hb2) HZ.out.2.2.2)
  have hrx3:=RX.mono (S':=fun j=>w.heap.size<j) (fun j hj _=>by have h:w1.heap.size≤j:=hj;omega) (RX.below hb3 hrx)
  have HE:=κ (bindExpr_any A c sc gr x (.iface T2 (.pointer (some ⟨g2,0,none⟩))) _ HN.out.1 HN.out.2 HQ.out.2 hpx3 (HS.out.below hbw3))
  have cg:=β hg3
  have HZ3:=κ (ι hz3 (ι hbw3 (ι hrx3 hy3)))
  clear hb2 hb3 hz2 hz3 hg3 hy3 hbw3 HZ HO hpx3 hrx3 hrx hlt1
  go_wp2_with fail
  refine HE.out.mono ?_
  rintro e w4 ⟨hb4,hr⟩
  have hz4:=box_below HZ3.out.1 hb4
  have hy4:=box_below HZ3.out.2.2.2 hb4
  have hbw4:=HZ3.out.2.1.trans (hb4.mono HZ3.out.2.1.size)
  have hrx4:=RX.below hb4 HZ3.out.2.2.1
  have c0:=β hz4
  have cy:=β hy4
  have z0:=fun j=>frozen_of_row _ _ j _ _ hz4
  simp only [RC.cells,rcZ] at c0
  have hend:=bd_end (r:=⟨k,vk,vi,vs,vb,tt,ss,Ar,nn,cr⟩) hz4 hbw4 hrx4
  obtain ⟨V,hV⟩:∃ V,put8 w4 w.heap.size ⟨k,vk,vi,vs,vb,tt,ss,Ar,nn,cr⟩=V:=⟨_,rfl⟩
  rw [hV] at hend
  have hcE:=β (w:=V.drew) hend.1
  have HEN:=κ hend.2
  have HV:=κ hV
  have HB4:=κ (ι hbw4 (show w.heap.size≤(w2.alloc (.cells #[.int .u8 k,.int .u8 vk,.int .i64 vi,.string vs,.bool vb,.string tt,.string ss,.slice Ar nn cr] 35)).heap.size from HZ3.out.2.1.size))
  have hlt4:=heap_lt HZ3.out.1
  have HLT:=κ hlt4
  clear hb4 hz4 hy4 hbw4 hrx4 hend hV HE cg HZ3 hlt4
  simp only [RC.cells] at hcE
  by_cases hk:(Lp.kindX sc x gr).2=0
  ·rw [if_pos hk] at hr
   obtain ⟨g3,rfl,hnt⟩:=hr
   have HNT:=κ (ι hk hnt)
   unfold ptr
   clear hk hnt
   go_wp2_with fail
   go_region
   clear c0 cy z0
   go_wp2
   change bodyPost _ _ _ _ _ (put8 w4 w.heap.size ⟨k,vk,vi,vs,vb,tt,ss,Ar,nn,cr⟩).drew
   rw [HV.out]
   have hnt2:NT (fun k=>w.heap.size≤k) V sc x g3:=by
    rw [←HV.out]
    exact HNT.out.2.turn (fun j hj _=>⟨Nat.le_trans HB4.out.2 hj,put8_far (by have h:_≤j:=hj;have:=HLT.out;omega)⟩)
   exact bodyPost_ret (v:=.tuple #[ptr g3,RC.val ⟨k,vk,vi,vs,vb,tt,ss,Ar,nn,cr⟩,.bool true]) (by simp [results,Tryz.results18,go_sem,hcE,RC.val,ptr]) rfl (bd_yes ⟨k,vk,vi,vs,vb,tt,ss,Ar,nn,cr⟩ HQ.out.1 HEN.out.1.drew (RX.drew HEN.out.2) HNT.out.1 (NT.turn (w:=V) (w':=V.drew) (fun _ h _=>⟨h,rfl⟩) hnt2))
  ·rw [if_neg hk] at hr
   subst hr
   have HK:=κ hk
   have e3:((Lp.kindX sc x gr).2==0)=false:=beq_eq_false_iff_ne.2 hk
   generalize (Lp.kindX sc x gr).2=E at e3 ⊢
   clear hk
   go_wp2_with fail
   go_region
   clear c0 cy z0
   go_wp2
   change bodyPost _ _ _ _ _ (put8 w4 w.heap.size ⟨k,vk,vi,vs,vb,tt,ss,Ar,nn,cr⟩).drew
   rw [HV.out]
   exact bodyPost_ret (v:=.tuple #[.pointer none,RC.val ⟨k,vk,vi,vs,vb,tt,ss,Ar,nn,cr⟩,.bool false]) (by simp [results,Tryz.results18,go_sem,hcE,RC.val]) rfl (bd_bad ⟨k,vk,vi,vs,vb,tt,ss,Ar,nn,cr⟩ HQ.out.1 HEN.out.1.drew (RX.drew HEN.out.2) HK.out)
def toldX (q:Option Lp.X):Lp.V×Int:=match q with
 | none=>(Lp.nullV,4)
 | some x=>if (Lp.kindX [] x false).2=0 then Lp.evalX [] x [] [] else (Lp.nullV,4)
theorem scm_nil (w:World):ScM w none []:=⟨[],rfl,.inl rfl,fun p hp=>by simp at hp⟩
theorem told_no {q:Option Lp.X} (h:q=none):toldX q=(Lp.nullV,4):=by subst h;rfl
theorem told_bad {q:Option Lp.X} {x:Lp.X} (h:q=some x) (hk:¬(Lp.kindX [] x false).2=0):toldX q=(Lp.nullV,4):=by subst h;exact if_neg hk
theorem told_yes {q:Option Lp.X} {x:Lp.X} (h:q=some x) (hk:(Lp.kindX [] x false).2=0):toldX q=Lp.evalX [] x [] []:=by subst h;exact if_pos hk
def BdE (sc:List Lp.Tb) (gr:Bool) (q:Option Lp.X) (w:World) (e:Ending) (w':World):Prop :=
 Below w.heap.size w w'∧((∃ x g,q=some x∧(Lp.kindX sc x gr).2=0∧NT (fun k=>w.heap.size≤k) w' sc x g∧∃ rr:RC,RX (fun k=>w.heap.size≤k) w' x rr∧e=.returned (.tuple #[ptr g,rr.val,.bool true])) ∨
  ((q=none∨∃ x,q=some x∧¬(Lp.kindX sc x gr).2=0)∧∃ rr:RC,e=.returned (.tuple #[.pointer none,rr.val,.bool false])))
theorem BdPost.bde {sc:List Lp.Tb} {gr:Bool} {w w':World} {q:Option Lp.X} {e:Ending} (h:BdPost sc gr w q e w'):BdE sc gr q w e w':=by
 obtain ⟨hb,h⟩:=h
 refine ⟨hb, ?_⟩
 cases q with
 | none=>obtain ⟨rr,h⟩:=h;exact .inr ⟨.inl rfl,rr,h⟩
 | some x =>
   obtain ⟨rr,hx,h⟩:=h
   by_cases hk:(Lp.kindX sc x gr).2=0
   ·rw [if_pos hk] at h
    obtain ⟨g,h1,h2⟩:=h
    exact .inl ⟨x,g,rfl,hk,h2,rr,hx,h1⟩
   ·rw [if_neg hk] at h
    exact .inr ⟨.inr ⟨x,rfl,hk⟩,rr,h⟩
theorem told_any18 (s:ByteArray) (w:World) (hT:Tabs w) (hR:Resv w) :
 Calls Tryz.prog 20 #[.string s] w (EvPost (toldX (Lp.condS (s.data.toList.take 600))) w):=by
 have hb0:Below w.heap.size w (w.alloc (.cells #[.int .u8 0,.int .i64 0,.string ⟨#[]⟩,.bool false] 31)):=ba (Below.refl _ _) _
 have hr0:=heap_alloc_new w (.cells #[.int .u8 0,.int .i64 0,.string ⟨#[]⟩,.bool false] 31)
 have HB:=κ ((bound_any none 0 [] s false _ (tabs_below hT hb0) (resv_below hR hb0) (scm_nil _) (by decide) (by decide)).mono fun e w' h=>h.bde)
 have hok:∀ x,Lp.condS (s.data.toList.take 600)=some x→x.wf:=fun x h=>(Lp.condS_ok (by rw [List.length_take];omega) h).1
 have HOK:=κ hok
 have H0:=κ (ι hb0 hr0)
 generalize Lp.condS (s.data.toList.take 600)=q at *
 clear hb0 hr0 hT hR hok
 go_enter Tryz.func20,Tryz.ntmps20
 go_wp2_with fail
 refine HB.out.mono ?_
 rintro e w1 ⟨hb1,hj⟩
 have hr1:=box_below H0.out.2 hb1
 have hk1:=H0.out.1.trans (hb1.mono H0.out.1.size)
 rcases hj with ⟨x,g,hq,hk,hnt,⟨k,vk,vi,vs,vb,tt,ss,Ar,nn,cr⟩, -,rfl⟩|⟨hq,⟨k,vk,vi,vs,vb,tt,ss,Ar,nn,cr⟩,rfl⟩
 ·simp only [RC.val]
  have hbx:Below w1.heap.size w1 (w1.alloc (.cells #[.int .u8 k,.int .u8 vk,.int .i64 vi,.string vs,.bool vb,.string tt,.string ss,.slice Ar nn cr] 35)):=ba (Below.refl _ _) _
  have HE:=κ (eValue_any [] x (none,0,[]) (ev_all [] x false _ (HOK.out x hq) hk (Nat.zero_le _) (Lp.RowOk.nil _) (fun _ h=>by cases h)) _ g _ (hnt.below hbx) Rds.nil_)
  have HQ:=κ (told_yes hq hk)
  have hr2:=box_below hr1 hbx
  have hk2:=hk1.trans (hbx.mono hk1.size)
  have HZ:=κ (ι hr2 hk2)
  simp only [RowV.val,List.length_nil] at HE
  unfold ptr at *
  clear hbx hr1 hk1 hr2 hk2 hq hk hnt hb1 HB HOK H0
  go_wp2_with fail
  refine HE.out.mono ?_
  rintro e w2 hj
  obtain ⟨uk,ui,us,ub,E,hE,rfl,hb3⟩:=hj.form
  rw [hE] at HQ
  have hr3:=box_below HZ.out.1 hb3
  have hk3:=HZ.out.2.trans (hb3.mono HZ.out.2.size)
  have hc1:=β hr3
  have hf1:=fun j=>frozen_of_row _ _ j _ _ hr3
  have HCE:=κ (β (set4_same hr3 (.int .u8 uk) (.int .i64 ui) (.string us) (.bool ub)))
  have K5:=κ (below_set4 hk3 (g:=w.heap.size) (Nat.le_refl _) (.int .u8 uk) (.int .i64 ui) (.string us) (.bool ub))
  clear hj hE hb3 hr3 hk3 HE
  go_wp2
  have hcE:=HCE.out
  exact bodyPost_ret (v:=.tuple #[.agg #[.int .u8 uk,.int .i64 ui,.string us,.bool ub],.int .i64 E]) (by simp [results,Tryz.results20,go_sem,hcE]) rfl (EvPost.mk HQ.out K5.out)
 ·simp only [RC.val]
  have hbx:Below w1.heap.size w1 (w1.alloc (.cells #[.int .u8 k,.int .u8 vk,.int .i64 vi,.string vs,.bool vb,.string tt,.string ss,.slice Ar nn cr] 35)):=ba (Below.refl _ _) _
  have hQ:toldX q=(Lp.nullV,4):=by
   rcases hq with hq|⟨x,hq,hk⟩
   ·exact told_no hq
   ·exact told_bad hq hk
  have HQ:=κ hQ
  have hr3:=box_below hr1 hbx
  have hk3:=hk1.trans (hbx.mono hk1.size)
  have hc1:=β hr3
  have hf1:=fun j=>frozen_of_row _ _ j _ _ hr3
  have HCE:=κ (β (set4_same hr3 (.int .u8 0) (.int .i64 0) (.string ⟨#[]⟩) (.bool false)))
  have K5:=κ (below_set4 hk3 (g:=w.heap.size) (Nat.le_refl _) (.int .u8 0) (.int .i64 0) (.string ⟨#[]⟩) (.bool false))
  clear hbx hr1 hk1 hr3 hk3 hq hQ hb1 HB HOK H0
  go_wp2
  have hcE:=HCE.out
  exact bodyPost_ret (v:=.tuple #[.agg #[.int .u8 0,.int .i64 0,.string ⟨#[]⟩,.bool false],.int .i64 4]) (by simp [results,Tryz.results20,go_sem,hcE]) rfl (EvPost.mk HQ.out K5.out)
theorem t18_1:toldX (Lp.condS [49,32,61,32,78,85,76,76])=(⟨0,0,⟨#[]⟩,false⟩,0):=by kernel_rfl
theorem t18_2:toldX (Lp.condS [78,85,76,76,32,65,78,68,32,70,65,76,83,69])=(⟨3,0,⟨#[]⟩,false⟩,0):=by kernel_rfl
theorem t18_3:toldX (Lp.condS [49,32,47,32,48,32,61,32,49,32,79,82,32,84,82,85,69])=(⟨0,0,⟨#[]⟩,false⟩,10):=by kernel_rfl
theorem c18_cnt:Lp.condS [67,79,85,78,84,40,42,41]=some .cnt:=by kernel_rfl
theorem told_at (s:ByteArray) (l:List UInt8) (hl:s.data.toList.take 600=l) (p:Lp.V×Int) (h:toldX (Lp.condS l)=p) {w W:World} (hT:Tabs w) (hR:Resv w) (hb:Below w.heap.size w W) :
 Calls Tryz.prog 20 #[.string s] W fun e w'=>e=.returned (.tuple #[.agg #[.int .u8 p.1.k,.int .i64 p.1.i,.string p.1.s,.bool p.1.b],.int .i64 p.2])∧Below W.heap.size W w':=by
 subst hl h
 exact told_any18 s W (tabs_below hT hb) (resv_below hR hb)
theorem awake18 (w:World) (hT:Tabs w) (hR:Resv w) :
 Calls Tryz.prog 14 #[] w fun e w'=>e=.returned (.bool true)∧Below w.heap.size w w':=by
 have H1:=κ (fun (W:World) (hb:Below w.heap.size w W)=>told_at ⟨#[49,32,61,32,78,85,76,76]⟩ _ rfl _ t18_1 hT hR hb)
 have H2:=κ (fun (W:World) (hb:Below w.heap.size w W)=>told_at ⟨#[78,85,76,76,32,65,78,68,32,70,65,76,83,69]⟩ _ rfl _ t18_2 hT hR hb)
 have H3:=κ (fun (W:World) (hb:Below w.heap.size w W)=>told_at ⟨#[49,32,47,32,48,32,61,32,49,32,79,82,32,84,82,85,69]⟩ _ rfl _ t18_3 hT hR hb)
 have H4:=κ (fun (W:World) (hb:Below w.heap.size w W)=>(bound_any none 0 [] ⟨#[67,79,85,78,84,40,42,41]⟩ true W (tabs_below hT hb) (resv_below hR hb) (scm_nil _) (by decide) (by decide)).mono fun e w' h=>h.bde)
 simp only [show (⟨#[67,79,85,78,84,40,42,41]⟩:ByteArray).data.toList.take 600=[67,79,85,78,84,40,42,41] from rfl,c18_cnt] at H4
 clear hT hR
 go_enter Tryz.func14,Tryz.ntmps14
 go_wp2_with fail
 refine (H1.out _ (Below.refl _ _)).mono ?_
 rintro e w1 ⟨rfl,hb1⟩
 have hk1:=ba hb1 (.cells #[.int .u8 0,.int .i64 0,.string ⟨#[]⟩,.bool false] 31)
 have hz1:=heap_alloc_new w1 (.cells #[.int .u8 0,.int .i64 0,.string ⟨#[]⟩,.bool false] 31)
 go_wp2_with fail
 refine (H2.out _ hk1).mono ?_
 rintro e w2 ⟨rfl,hb2⟩
 have hk2:=ba (hk1.trans (hb2.mono hk1.size)) (.cells #[.int .u8 3,.int .i64 0,.string ⟨#[]⟩,.bool false] 31)
 have hz12:=box_alloc (box_below hz1 hb2) (.cells #[.int .u8 3,.int .i64 0,.string ⟨#[]⟩,.bool false] 31)
 have hz2:=heap_alloc_new w2 (.cells #[.int .u8 3,.int .i64 0,.string ⟨#[]⟩,.bool false] 31)
 clear hz1 hb2 hb1
 go_wp2_with fail
 refine (H3.out _ hk2).mono ?_
 rintro e w3 ⟨rfl,hb3⟩
 have hk3:=ba (hk2.trans (hb3.mono hk2.size)) (.cells #[.int .u8 0,.int .i64 0,.string ⟨#[]⟩,.bool false] 31)
 have hz13:=box_alloc (box_below hz12 hb3) (.cells #[.int .u8 0,.int .i64 0,.string ⟨#[]⟩,.bool false] 31)
 have hz23:=box_alloc (box_below hz2 hb3) (.cells #[.int .u8 0,.int .i64 0,.string ⟨#[]⟩,.bool false] 31)
 clear hz12 hz2 hb3
 go_wp2_with fail
 refine (H4.out _ hk3).mono ?_
 rintro e w4 ⟨hb4,hj⟩
 have hk4:=hk3.trans (hb4.mono hk3.size)
 have hz14:=box_below hz13 hb4
 have hz24:=box_below hz23 hb4
 clear hz13 hz23 hb4
 rcases hj with ⟨x,g,hq,hk,hnt,⟨k,vk,vi,vs,vb,tt,ss,Ar,nn,cr⟩, -,rfl⟩|⟨hq|⟨x,hq,hk⟩, -⟩
 ·injection hq with hq
  subst hq
  simp only [RC.val]
  have hbx:Below w4.heap.size w4 (w4.alloc (.cells #[.int .u8 k,.int .u8 vk,.int .i64 vi,.string vs,.bool vb,.string tt,.string ss,.slice Ar nn cr] 35)):=ba (Below.refl _ _) _
  have HE:=κ (eGroup_any [] .cnt none 0 [] (ev_all [] .cnt true _ trivial rfl (Nat.zero_le _) (Lp.RowOk.nil _) (fun _ h=>by cases h)) _ g _ (hnt.below hbx) ⟨Rds.nil_,fun _ h=>by cases h⟩)
  have HQ:=κ (show Lp.evalX [] .cnt (frG none 0 []).row (frG none 0 []).rows=(⟨1,0,⟨#[]⟩,false⟩,0) from rfl)
  rw [HQ.out] at HE
  have hk5:=hk4.trans (hbx.mono hk4.size)
  have hz15:=box_below hz14 hbx
  have hz25:=box_below hz24 hbx
  simp only [List.length_nil] at HE
  unfold ptr at *
  clear hz14 hz24 hk4 hbx hnt hk hk3 hk2 hk1 H1 H2 H3 H4
  go_wp2_with fail
  refine HE.out.mono ?_
  rintro e w5 ⟨rfl,hb5⟩
  unfold vv4
  have hk6:=κ (ba (hk5.trans (hb5.mono hk5.size)) (.cells #[.int .u8 1,.int .i64 0,.string ⟨#[]⟩,.bool false] 31))
  have c1:=β (box_alloc (box_below hz15 hb5) (.cells #[.int .u8 1,.int .i64 0,.string ⟨#[]⟩,.bool false] 31))
  have c2:=β (box_alloc (box_below hz25 hb5) (.cells #[.int .u8 1,.int .i64 0,.string ⟨#[]⟩,.bool false] 31))
  clear hz15 hz25 hb5 hk5 HE
  go_wp2
  go_ret
  exact ⟨rfl,hk6.out⟩
 ·cases hq
 ·injection hq with hq
  subst hq
  exact absurd rfl hk
end Go.Proofs.YtkfjmgmjbljnbaaGreatDoor
