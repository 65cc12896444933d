/-
 Contracts and laws, joined. Conditions: those of each.
-/
import Derived.Test.YtkfjmgmjbljnbaaGreatDoorQEval8
import Derived.Test.YtkfjmgmjbljnbaaGreatDoorQZG
import Derived.Test.YtkfjmgmjbljnbaaGreatDoorQZE
set_option maxRecDepth 100000
set_option maxHeartbeats 8000000
namespace Go.Proofs.YtkfjmgmjbljnbaaGreatDoor
open Go.RowKit
def GI (op:List UInt8) (F:List Lp.V→Lp.V×Int) (rows:List (List Lp.V)) (k:Int) (i:Nat) (vs:List Lp.V) (sum:Int):Prop :=
 ∃ st,Lp.RelA op st vs sum∧Lp.foldA op F (0,Lp.nullV) rows=Lp.foldA op F st (rows.drop i)∧(∀ v∈vs,Lp.Of k v)∧vs.length≤i
section
variable {op:List UInt8} {F:List Lp.V→Lp.V×Int} {rows:List (List Lp.V)} {k:Int} {i:Nat} {vs:List Lp.V} {sum:Int} {v:Lp.V} {E:Int}
theorem GI.nil:GI op F rows k 0 [] 0:=⟨_,Lp.RelA.nil op,rfl,(fun _ h=>by cases h),Nat.le_refl _⟩
theorem GI.inR (h:GI op F rows k i vs sum):Lp.inR sum:=by obtain ⟨st,h1, -⟩:=h;exact h1.2.1
theorem GI.len (h:GI op F rows k i vs sum):vs.length≤i:=by obtain ⟨st, -, -, -,h4⟩:=h;exact h4
theorem GI.err (h:GI op F rows k i vs sum) (hi:i<rows.length) (hF:F rows[i]=(v,E)) (hE:E≠0):Lp.foldA op F (0,Lp.nullV) rows=(Lp.nullV,E):=by
 obtain ⟨st, -,h2, -, -⟩:=h
 rw [h2,List.drop_eq_getElem_cons hi]
 exact fold_err (by rw [hF]) hE
theorem GI.skip (h:GI op F rows k i vs sum) (hi:i<rows.length) (hF:F rows[i]=(v,0)) (hv:v.k=0):GI op F rows k (i+1) vs sum:=by
 obtain ⟨st,h1,h2,h3,h4⟩:=h
 refine ⟨st,h1, ?_,h3,by omega⟩
 rw [h2,List.drop_eq_getElem_cons hi,fold_ok hF (step_null hv)]
theorem GI.next (h:GI op F rows k i vs sum) (hi:i<rows.length) (hF:F rows[i]=(v,0)) (hv:Lp.Of k v) (hv0:v.k≠0) (hk:op=Lp.uSum→Lp.fitK k 1=true) (hs:Lp.sumF op sum v.i=0):GI op F rows k (i+1) (vs++[v]) (Lp.sumN op sum v.i):=by
 obtain ⟨st,h1,h2,h3,h4⟩:=h
 obtain ⟨r1,r2⟩:=Lp.relA_step h1 hv hv0 hk
 have h0:(Lp.stepA op st v).2=0:=r1.trans hs
 refine ⟨_,r2 h0, ?_, ?_,by rw [List.length_append];simp;omega⟩
 ·rw [h2,List.drop_eq_getElem_cons hi]
  exact fold_ok hF (by rw [←h0])
 ·intro u hu
  rcases List.mem_append.1 hu with hu|hu
  ·exact h3 u hu
  ·rw [List.mem_singleton.1 hu];exact hv
theorem GI.bad (h:GI op F rows k i vs sum) (hi:i<rows.length) (hF:F rows[i]=(v,0)) (hv:Lp.Of k v) (hv0:v.k≠0) (hk:op=Lp.uSum→Lp.fitK k 1=true) (hs:Lp.sumF op sum v.i≠0):Lp.foldA op F (0,Lp.nullV) rows=(Lp.nullV,Lp.sumF op sum v.i):=by
 obtain ⟨st,h1,h2, -, -⟩:=h
 obtain ⟨r1, -⟩:=Lp.relA_step h1 hv hv0 hk
 rw [h2,List.drop_eq_getElem_cons hi]
 exact fold_bad hF r1 hs
theorem GI.fin (h:GI op F rows k rows.length vs sum) (hop:op∈Lp.aggOps):Lp.foldA op F (0,Lp.nullV) rows=(if op=Lp.uCount then Lp.numV vs.length else if vs=[] then Lp.nullV else if op=Lp.uSum then Lp.numV sum else Lp.bestL op vs,0):=by
 obtain ⟨st,h1,h2, -, -⟩:=h
 rw [h2,List.drop_length]
 show (if op=Lp.uCount then Lp.numV st.1 else st.2,0)=_
 rw [Lp.relA_end h1 hop]
theorem GI.of (h:GI op F rows k i vs sum):∀ v∈vs,Lp.Of k v:=by obtain ⟨st, -, -,h3, -⟩:=h;exact h3
end
def bestT (op:List UInt8) (a:Lp.V) (vs:List Lp.V) (i:Nat):Lp.V:=(vs.take i).foldl (Lp.stepM op) a
theorem bestT_next (op:List UInt8) (a:Lp.V) {vs:List Lp.V} {i:Nat} (h:i<vs.length):bestT op a vs (i+1)=Lp.stepM op (bestT op a vs i) vs[i]:=by
 unfold bestT
 rw [List.take_succ_eq_append_getElem h,List.foldl_append]
 rfl
theorem bestT_all (op:List UInt8) (a:Lp.V) (r:List Lp.V):bestT op a (a::r) (a::r).length=Lp.bestL op (a::r):=by
 unfold bestT
 rw [List.take_length]
 rfl
def E8 (w:World) (b o:Nat) (u0 u1 u2 u3 u4 u5 u6 u7:Value):Prop:=w.cell? ⟨b,o,none⟩=some u0∧w.cell? ⟨b,o+1,none⟩=some u1∧w.cell? ⟨b,o+2,none⟩=some u2∧w.cell? ⟨b,o+3,none⟩=some u3∧w.cell? ⟨b,o+4,none⟩=some u4∧w.cell? ⟨b,o+5,none⟩=some u5∧w.cell? ⟨b,o+6,none⟩=some u6∧w.cell? ⟨b,o+7,none⟩=some u7
theorem E8.below {w W:World} {b o:Nat} {u0 u1 u2 u3 u4 u5 u6 u7:Value} (h:E8 w b o u0 u1 u2 u3 u4 u5 u6 u7) (hb:Below w.heap.size w W):E8 W b o u0 u1 u2 u3 u4 u5 u6 u7:=by
 obtain ⟨h0,h1,h2,h3,h4,h5,h6,h7⟩:=h
 exact ⟨cell_belo h0 hb,cell_belo h1 hb,cell_belo h2 hb,cell_belo h3 hb,cell_belo h4 hb,cell_belo h5 hb,cell_belo h6 hb,cell_belo h7 hb⟩
theorem oneRC {l:List RC} (h:l.length=1):∃ r,l=[r]:=by
 match l,h with
 | [r],_=>exact ⟨r,rfl⟩
theorem grp18_cnt (A:Option Addr) (n c:Nat) (s:ByteArray) (gA:Option Addr) (m gc:Nat) (hm:m≤1000) (w:World) :
 Calls Tryz.prog 52 #[.slice A n c,(⟨6,0,0,⟨#[]⟩,false,⟨#[]⟩,s,none,0,0⟩:RC).val,.slice gA m gc] w (EvPost (Lp.numV m,0) w):=by
 simp only [RC.val]
 have hb0:Below w.heap.size w ((w.alloc (.cells #[.int .u8 6,.int .u8 0,.int .i64 0,.string ⟨#[]⟩,.bool false,.string ⟨#[]⟩,.string s,.slice none 0 0] 35)).alloc (.cells #[.int .u8 0,.int .i64 0,.string ⟨#[]⟩,.bool false] 31)):=ba (ba (Below.refl _ _) _) _
 have hzx:=box_alloc (heap_alloc_new w (.cells #[.int .u8 6,.int .u8 0,.int .i64 0,.string ⟨#[]⟩,.bool false,.string ⟨#[]⟩,.string s,.slice none 0 0] 35)) (.cells #[.int .u8 0,.int .i64 0,.string ⟨#[]⟩,.bool false] 31)
 have hz6:=heap_new2 w (.cells #[.int .u8 6,.int .u8 0,.int .i64 0,.string ⟨#[]⟩,.bool false,.string ⟨#[]⟩,.string s,.slice none 0 0] 35) (.cells #[.int .u8 0,.int .i64 0,.string ⟨#[]⟩,.bool false] 31)
 have hcx:=β hzx
 have HB:=κ (ι hb0 hz6)
 have hmI:(m:Int)≤1000:=by omega
 clear hb0 hzx hz6 hm
 go_enter Tryz.func52,Tryz.ntmps52
 go_wp2_with fail
 refine (num18 (m:Int) _).mono ?_
 rintro e w2 ⟨rfl,hb2⟩
 have hr9:=box_below HB.out.2 hb2
 have hk9:=HB.out.1.trans (hb2.mono HB.out.1.size)
 have hc9:=β hr9
 have hf9:=fun j=>frozen_of_row _ _ j _ _ hr9
 have HCE:=κ (β (set4_same hr9 (.int .u8 1) (.int .i64 (m:Int)) (.string ⟨#[]⟩) (.bool false)))
 have K5:=κ (below_set4 hk9 (g:=w.heap.size+1) (Nat.le_succ _) (.int .u8 1) (.int .i64 (m:Int)) (.string ⟨#[]⟩) (.bool false))
 clear hr9 hk9 hb2
 go_wp2
 have hcE:=HCE.out
 exact bodyPost_ret (v:=.tuple #[.agg #[.int .u8 1,.int .i64 (m:Int),.string ⟨#[]⟩,.bool false],.int .i64 0]) (by simp [results,Tryz.results52,go_sem,hcE]) rfl (EvPost.mk rfl K5.out)
theorem val_six (A:Option Addr) (n c:Nat) (vk vi:Int) (vs:ByteArray) (vb:Bool) (t s:ByteArray) (Ar:Option Addr) (an ac:Nat) (rv wv:Value) (q:Lp.V×Int) (w:World) (h:∀ W,Below w.heap.size w W→Calls Tryz.prog 52 #[.slice A n c,(⟨6,vk,vi,vs,vb,t,s,Ar,an,ac⟩:RC).val,wv] W (EvPost q W)) :
 Calls Tryz.prog 25 #[.slice A n c,(⟨6,vk,vi,vs,vb,t,s,Ar,an,ac⟩:RC).val,rv,wv] w (EvPost q w):=by
 simp only [RC.val] at h ⊢
 have hb0:Below w.heap.size w (((w.alloc (.cells #[.int .u8 6,.int .u8 vk,.int .i64 vi,.string vs,.bool vb,.string t,.string s,.slice Ar an ac] 35)).alloc (.cells #[.int .u8 0,.int .i64 0,.string ⟨#[]⟩,.bool false] 31)).alloc (.cells #[.int .u8 0,.int .i64 0,.string ⟨#[]⟩,.bool false] 31)):=ba (ba (ba (Below.refl _ _) _) _) _
 have hzx:=box_alloc (box_alloc (heap_alloc_new w (.cells #[.int .u8 6,.int .u8 vk,.int .i64 vi,.string vs,.bool vb,.string t,.string s,.slice Ar an ac] 35)) (.cells #[.int .u8 0,.int .i64 0,.string ⟨#[]⟩,.bool false] 31)) (.cells #[.int .u8 0,.int .i64 0,.string ⟨#[]⟩,.bool false] 31)
 have hz8:=box_alloc (heap_new2 w (.cells #[.int .u8 6,.int .u8 vk,.int .i64 vi,.string vs,.bool vb,.string t,.string s,.slice Ar an ac] 35) (.cells #[.int .u8 0,.int .i64 0,.string ⟨#[]⟩,.bool false] 31)) (.cells #[.int .u8 0,.int .i64 0,.string ⟨#[]⟩,.bool false] 31)
 have hcx:=β hzx
 have HG:=κ (h _ hb0)
 have HB:=κ (ι hb0 hz8)
 clear hb0 hzx hz8 h
 go_enter Tryz.func25,Tryz.ntmps25
 go_wp2_with fail
 refine HG.out.mono ?_
 rintro e w2 hj
 obtain ⟨uk,ui,us,ub,E,hE,rfl,hb2⟩:=hj.form
 have HE:=κ hE
 clear hj hE HG hcx
 have hr9:=box_below HB.out.2 hb2
 have hk9:=HB.out.1.trans (hb2.mono HB.out.1.size)
 have hc9:=β hr9
 have hf9:=fun j=>frozen_of_row _ _ j _ _ hr9
 have HCE:=κ (β (set4_same hr9 (.int .u8 uk) (.int .i64 ui) (.string us) (.bool ub)))
 have K5:=κ (below_set4 hk9 (g:=w.heap.size+1) (Nat.le_succ _) (.int .u8 uk) (.int .i64 ui) (.string us) (.bool ub))
 clear hr9 hk9 hb2
 go_wp2
 have hcE:=HCE.out
 exact bodyPost_ret (v:=.tuple #[.agg #[.int .u8 uk,.int .i64 ui,.string us,.bool ub],.int .i64 E]) (by simp [results,Tryz.results25,go_sem,hcE]) rfl (EvPost.mk HE.out K5.out)
end Go.Proofs.YtkfjmgmjbljnbaaGreatDoor
