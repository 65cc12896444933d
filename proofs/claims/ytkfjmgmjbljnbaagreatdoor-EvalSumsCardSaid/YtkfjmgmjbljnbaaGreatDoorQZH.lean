/-
 Contracts and laws, joined. Conditions: those of each.
-/
import Derived.Test.YtkfjmgmjbljnbaaGreatDoorQEval4
set_option maxRecDepth 100000
set_option maxHeartbeats 8000000
namespace Go.Proofs.YtkfjmgmjbljnbaaGreatDoor
open Go.RowKit
theorem ev_lit (sc:List Lp.Tb) (f:Fr) (k i:Int) (s:List UInt8) (b:Bool):EvOk sc f (.lit k i s b):=by
 intro S w g hnt hF
 obtain ⟨-,hg⟩:=hnt
 obtain ⟨fr,hfr⟩:∃ u,u=f.r.val:=⟨_,rfl⟩
 have hb1:Below w.heap.size w (w.alloc (.cells #[fr,.slice f.A f.R.length f.c,.bool f.g] 105)):=ba (Below.refl _ _) _
 have hb2:∀ o,Below w.heap.size w ((w.alloc (.cells #[fr,.slice f.A f.R.length f.c,.bool f.g] 105)).alloc o):=fun o=>ba hb1 o
 have hc:=β (box_below hg (hb2 (.cells #[.int .u8 0,.int .i64 0,.string ⟨#[]⟩,.bool false] 31)))
 simp only [ndv,sLit] at hc
 have HB:=κ hb2
 unfold Fr.val ptr
 rw [←hfr]
 clear hfr hb1 hb2 hg hF
 have hQ:Lp.evalX sc (.lit k i s b) f.row f.rows=(⟨k,i,⟨s.toArray⟩,b⟩,0):=rfl
 have HQ:=κ hQ
 clear hQ
 go_enter Tryz.func45,Tryz.ntmps45
 go_wp2
 exact bodyPost_ret (v:=.tuple #[.agg #[.int .u8 k,.int .i64 i,.string ⟨s.toArray⟩,.bool b],.int .i64 0]) (by simp [results,Tryz.results45,go_sem]) rfl (EvPost.mk HQ.out (HB.out _))
theorem ev_col_eq (sc:List Lp.Tb) (f:Fr) (t s:List UInt8) {p:Nat×Int} (hp:Lp.findX sc t s=some p):Lp.evalX sc (.col t s) f.row f.rows=((f.row[p.1]?).getD Lp.nullV,0):=by
 simp only [Lp.evalX,hp]
theorem ev_col (sc:List Lp.Tb) (f:Fr) (t s:List UInt8):EvOk sc f (.col t s):=by
 intro S w g hnt hF
 obtain ⟨-,p,hp,hg⟩:=hnt
 have HQ:=κ (ev_col_eq sc f t s hp)
 obtain ⟨fr,hfr⟩:∃ u,u=f.r.val:=⟨_,rfl⟩
 have hb1:Below w.heap.size w ((w.alloc (.cells #[fr,.slice f.A f.R.length f.c,.bool f.g] 105)).alloc (.cells #[.int .u8 0,.int .i64 0,.string ⟨#[]⟩,.bool false] 31)):=ba (ba (Below.refl _ _) _) _
 have hr1:=heap_new2 w (.cells #[fr,.slice f.A f.R.length f.c,.bool f.g] 105) (.cells #[.int .u8 0,.int .i64 0,.string ⟨#[]⟩,.bool false] 31)
 have hx1:=box_alloc (heap_alloc_new w (.cells #[fr,.slice f.A f.R.length f.c,.bool f.g] 105)) (.cells #[.int .u8 0,.int .i64 0,.string ⟨#[]⟩,.bool false] 31)
 have hg1:=box_below hg hb1
 have HK:=κ (column_any f p.1 _ (hF.below hb1.drew))
 have hc:=β hg1
 have hcx:=β hx1
 have H1:=κ (ι hb1 hr1)
 simp only [ndv,sCol] at hc
 generalize p.1=at_ at *
 obtain ⟨v,hv⟩:∃ v,(f.row[at_]?).getD Lp.nullV=v:=⟨_,rfl⟩
 rw [hv] at HK HQ
 obtain ⟨k,vi,vs,vb⟩:=v
 unfold Fr.val ptr vv4 at *
 rw [←hfr] at HK ⊢
 clear hfr hb1 hr1 hx1 hg1 hg hp hF hv
 go_enter Tryz.func45,Tryz.ntmps45
 go_wp2_with fail
 go_region_with (go_at_call 81;refine HK.out.mono ?_;rintro e w2 ⟨rfl,hb3⟩;have hr3:=box_below (w:=((w.alloc (.cells #[fr,.slice f.A f.R.length f.c,.bool f.g] 105)).alloc (.cells #[.int .u8 0,.int .i64 0,.string ⟨#[]⟩,.bool false] 31)).drew) H1.out.2 hb3;have hk3:=H1.out.1.drew.trans (hb3.mono H1.out.1.size);have hc1:=β hr3;have hf1:=fun j=>frozen_of_row _ _ j _ _ hr3;have HCE:=κ (β (set4_same hr3 (.int .u8 k) (.int .i64 vi) (.string vs) (.bool vb)));have K5:=κ (below_set4 hk3 (g:=w.heap.size+1) (by omega) (.int .u8 k) (.int .i64 vi) (.string vs) (.bool vb));clear hb3 hr3 hk3)
 all_goals
  clear HK hc hcx
  go_wp2
  have hcE:=HCE.out
  exact bodyPost_ret (v:=.tuple #[.agg #[.int .u8 k,.int .i64 vi,.string vs,.bool vb],.int .i64 0]) (by simp [results,Tryz.results45,go_sem,hcE]) rfl (EvPost.mk HQ.out K5.out)
def frV (r:RowV):Fr:=⟨r,none,0,[],false⟩
def frG (A:Option Addr) (c:Nat) (R:List RowV):Fr:=⟨(none,0,[]),A,c,R,true⟩
theorem frV_row (r:RowV):(frV r).row=r.2.2:=rfl
theorem frV_rows (r:RowV):(frV r).rows=[]:=rfl
theorem eValue_any (sc:List Lp.Tb) (x:Lp.X) (r:RowV) (h:EvOk sc (frV r) x) (S:Nat→Prop) (g:Nat) (w:World) (hnt:NT S w sc x g) (hr:RdsV w r.1 r.2.2) :
 Calls Tryz.prog 19 #[ptr g,r.val] w (EvPost (Lp.evalX sc x r.2.2 []) w):=by
 have hb1:Below w.heap.size w (w.alloc (.cells #[.int .u8 0,.int .i64 0,.string ⟨#[]⟩,.bool false] 31)):=ba (Below.refl _ _) _
 have hr1:=heap_alloc_new w (.cells #[.int .u8 0,.int .i64 0,.string ⟨#[]⟩,.bool false] 31)
 have HK:=κ (h S _ g (hnt.below hb1) ⟨hr.below hb1,Rds.nil_,fun x hx=>by cases hx⟩)
 rw [frV_row,frV_rows] at HK
 obtain ⟨A,c,l⟩:=r
 simp only [frV,Fr.val,RowV.val,List.length_nil] at HK ⊢
 have H1:=κ (ι hb1 hr1)
 generalize Lp.evalX sc x l []=p at *
 unfold ptr at *
 clear hb1 hr1 hnt hr h
 go_enter Tryz.func19,Tryz.ntmps19
 go_wp2_with fail
 refine HK.out.mono ?_
 rintro e w2 hj
 obtain ⟨k,vi,vs,vb,E,hE,rfl,hb3⟩:=hj.form
 have HQ:=κ hE
 clear hj hE
 have hr3:=box_below H1.out.2 hb3
 have hk3:=H1.out.1.trans (hb3.mono H1.out.1.size)
 have hc1:=β hr3
 have hf1:=fun j=>frozen_of_row _ _ j _ _ hr3
 have HCE:=κ (β (set4_same hr3 (.int .u8 k) (.int .i64 vi) (.string vs) (.bool vb)))
 have K5:=κ (below_set4 hk3 (g:=w.heap.size) (by omega) (.int .u8 k) (.int .i64 vi) (.string vs) (.bool vb))
 clear hb3 hr3 hk3 HK
 go_wp2
 have hcE:=HCE.out
 exact bodyPost_ret (v:=.tuple #[.agg #[.int .u8 k,.int .i64 vi,.string vs,.bool vb],.int .i64 E]) (by simp [results,Tryz.results19,go_sem,hcE]) rfl (EvPost.mk HQ.out K5.out)
theorem eGroup_any (sc:List Lp.Tb) (x:Lp.X) (A:Option Addr) (c:Nat) (R:List RowV) (h:EvOk sc (frG A c R) x) (S:Nat→Prop) (g:Nat) (w:World) (hnt:NT S w sc x g) (hr:RowsM w A R) :
 Calls Tryz.prog 24 #[ptr g,.slice A R.length c] w (EvPost (Lp.evalX sc x (frG A c R).row (frG A c R).rows) w):=by
 have hb1:Below w.heap.size w (w.alloc (.cells #[.int .u8 0,.int .i64 0,.string ⟨#[]⟩,.bool false] 31)):=ba (Below.refl _ _) _
 have hr1:=heap_alloc_new w (.cells #[.int .u8 0,.int .i64 0,.string ⟨#[]⟩,.bool false] 31)
 have HK:=κ (h S _ g (hnt.below hb1) ⟨Rds.nil_,hr.below hb1⟩)
 generalize Lp.evalX sc x (frG A c R).row (frG A c R).rows=p at *
 simp only [frG,Fr.val,RowV.val,List.length_nil] at HK
 have H1:=κ (ι hb1 hr1)
 unfold ptr at *
 clear hb1 hr1 hnt hr h
 go_enter Tryz.func24,Tryz.ntmps24
 go_wp2_with fail
 refine HK.out.mono ?_
 rintro e w2 hj
 obtain ⟨k,vi,vs,vb,E,hE,rfl,hb3⟩:=hj.form
 have HQ:=κ hE
 clear hj hE
 have hr3:=box_below H1.out.2 hb3
 have hk3:=H1.out.1.trans (hb3.mono H1.out.1.size)
 have hc1:=β hr3
 have hf1:=fun j=>frozen_of_row _ _ j _ _ hr3
 have HCE:=κ (β (set4_same hr3 (.int .u8 k) (.int .i64 vi) (.string vs) (.bool vb)))
 have K5:=κ (below_set4 hk3 (g:=w.heap.size) (by omega) (.int .u8 k) (.int .i64 vi) (.string vs) (.bool vb))
 clear hb3 hr3 hk3 HK
 go_wp2
 have hcE:=HCE.out
 exact bodyPost_ret (v:=.tuple #[.agg #[.int .u8 k,.int .i64 vi,.string vs,.bool vb],.int .i64 E]) (by simp [results,Tryz.results24,go_sem,hcE]) rfl (EvPost.mk HQ.out K5.out)
end Go.Proofs.YtkfjmgmjbljnbaaGreatDoor
