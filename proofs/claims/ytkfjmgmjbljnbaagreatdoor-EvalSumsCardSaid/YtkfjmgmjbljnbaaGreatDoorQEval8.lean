/-
 eval's group. Conditions: what value gives of the part, of each row; at most 1000 rows.
-/
import Derived.Test.YtkfjmgmjbljnbaaGreatDoorQZH
import Derived.Test.YtkfjmgmjbljnbaaGreatDoorQPlainTyped
set_option maxRecDepth 100000
set_option maxHeartbeats 8000000
namespace Go.Proofs.YtkfjmgmjbljnbaaGreatDoor
open Go.RowKit
section
variable {op:List UInt8} {F:List Lp.V→Lp.V×Int} {st st':Int×Lp.V} {r:List Lp.V} {l:List (List Lp.V)} {v:Lp.V} {E:Int}
theorem fold_err (h:(F r).2=E) (hE:E≠0):Lp.foldA op F st (r::l)=(Lp.nullV,E):=by subst h;exact if_neg hE
theorem fold_ok (h:F r=(v,0)) (hs:Lp.stepA op st v=(st',0)):Lp.foldA op F st (r::l)=Lp.foldA op F st' l:=by
 have e:Lp.foldA op F st (r::l)=if (F r).2=0 then (if (Lp.stepA op st (F r).1).2=0 then Lp.foldA op F (Lp.stepA op st (F r).1).1 l else (Lp.nullV,(Lp.stepA op st (F r).1).2)) else (Lp.nullV,(F r).2):=rfl
 rw [e,h]
 simp only [hs,if_true]
theorem fold_bad (h:F r=(v,0)) (hs:(Lp.stepA op st v).2=E) (hE:E≠0):Lp.foldA op F st (r::l)=(Lp.nullV,E):=by
 have e:Lp.foldA op F st (r::l)=if (F r).2=0 then (if (Lp.stepA op st (F r).1).2=0 then Lp.foldA op F (Lp.stepA op st (F r).1).1 l else (Lp.nullV,(Lp.stepA op st (F r).1).2)) else (Lp.nullV,(F r).2):=rfl
 rw [e,h]
 simp only [hs,if_true]
 exact if_neg hE
theorem step_null (h:v.k=0):Lp.stepA op st v=(st,0):=if_pos h
theorem step_first (h:v.k≠0) (h0:st.1=0):Lp.stepA op st v=((st.1+1,v),0):=by unfold Lp.stepA;rw [if_neg h,if_pos (.inl h0)]
theorem step_min (ho:op=Lp.uMin) (h:v.k≠0) (h0:st.1≠0):Lp.stepA op st v=((st.1+1,if Lp.vless v st.2 then v else st.2),0):=by
 subst ho
 unfold Lp.stepA
 rw [if_neg h]
 cases hv:Lp.vless v st.2
 ·rw [if_neg (by rintro (g|g|g);exact h0 g;exact absurd g.2 (by decide);exact absurd g.1 (by decide)),if_neg (by decide)];rfl
 ·rw [if_pos (.inr (.inl ⟨rfl,rfl⟩))];rfl
theorem step_max (ho:op=Lp.uMax) (h:v.k≠0) (h0:st.1≠0):Lp.stepA op st v=((st.1+1,if Lp.vless st.2 v then v else st.2),0):=by
 subst ho
 unfold Lp.stepA
 rw [if_neg h]
 cases hv:Lp.vless st.2 v
 ·rw [if_neg (by rintro (g|g|g);exact h0 g;exact absurd g.1 (by decide);exact absurd g.2 (by decide)),if_neg (by decide)];rfl
 ·rw [if_pos (.inr (.inr ⟨rfl,rfl⟩))];rfl
theorem step_sum (ho:op=Lp.uSum) (h:v.k≠0) (h0:st.1≠0):Lp.stepA op st v=((st.1+1,(Lp.twoX [43] st.2 v).1),(Lp.twoX [43] st.2 v).2):=by
 subst ho
 unfold Lp.stepA
 rw [if_neg h,if_neg (by rintro (g|g|g);exact h0 g;exact absurd g.1 (by decide);exact absurd g.1 (by decide)),if_pos rfl]
theorem step_cnt (ho:op=Lp.uCount) (h:v.k≠0) (h0:st.1≠0):Lp.stepA op st v=((st.1+1,st.2),0):=by
 subst ho
 unfold Lp.stepA
 rw [if_neg h,if_neg (by rintro (g|g|g);exact h0 g;exact absurd g.1 (by decide);exact absurd g.1 (by decide)),if_neg (by decide)]
end
theorem far4 (w:World) (g:Nat) (u0 u1 u2 u3:Value) {k:Nat} (h:k≠g):((((w.setCell ⟨g,0,none⟩ u0).setCell ⟨g,1,none⟩ u1).setCell ⟨g,2,none⟩ u2).setCell ⟨g,3,none⟩ u3).heap[k]? = w.heap[k]? := by
 simp only [fun (w:World) (o:Nat) (v:Value)=>Below.heap_setCell w ⟨g,o,none⟩ v k h]
def GInv (op:List UInt8) (F:List Lp.V→Lp.V×Int) (rows:List (List Lp.V)) (k:Int) (w:World) (i:Nat) (st:Int×Lp.V) (wr:World):Prop :=
 wr.heap[w.heap.size+1+1]? = some (.cells #[.int .u8 st.2.k,.int .i64 st.2.i,.string st.2.s,.bool st.2.b] 31 (0,0))∧wr.heap[w.heap.size+1]? = some (.cells #[.int .u8 0,.int .i64 0,.string ⟨#[]⟩,.bool false] 31 (0,0)) ∧
 Lp.foldA op F (0,Lp.nullV) rows=Lp.foldA op F st (rows.drop i)∧Lp.StOk op k i st∧Below w.heap.size w wr
theorem GInv.next {op:List UInt8} {F:List Lp.V→Lp.V×Int} {rows:List (List Lp.V)} {k:Int} {w wr w':World} {i:Nat} {st st':Int×Lp.V} {v:Lp.V} (h:GInv op F rows k w i st wr) (hi:i<rows.length) (hF:F rows[i]=(v,0)) (hs:Lp.stepA op st v=(st',0)) (hv:Lp.Of k v) (hk:op=Lp.uSum→Lp.fitK k 1=true)
 (h1:w'.heap[w.heap.size+1+1]? = some (.cells #[.int .u8 st'.2.k,.int .i64 st'.2.i,.string st'.2.s,.bool st'.2.b] 31 (0,0))) (h2:w'.heap[w.heap.size+1]? = some (.cells #[.int .u8 0,.int .i64 0,.string ⟨#[]⟩,.bool false] 31 (0,0))) (hb:Below w.heap.size w w'):GInv op F rows k w (i+1) st' w':=by
 refine ⟨h1,h2, ?_, ?_,hb⟩
 ·rw [h.2.2.1,List.drop_eq_getElem_cons hi,fold_ok hF hs]
 ·have:=(Lp.stepA_ok h.2.2.2.1 hv hk).1 (by rw [hs])
  rw [hs] at this
  exact this
theorem GInv.err {op:List UInt8} {F:List Lp.V→Lp.V×Int} {rows:List (List Lp.V)} {k:Int} {w wr w':World} {i:Nat} {st:Int×Lp.V} {E:Int} (h:GInv op F rows k w i st wr) (hi:i<rows.length) (hF:Lp.foldA op F st (rows[i]::rows.drop (i+1))=(Lp.nullV,E)) (hb:Below w.heap.size w w') :
 EvPost (Lp.foldA op F (0,Lp.nullV) rows) w (.returned (.tuple #[.agg #[.int .u8 0,.int .i64 0,.string ⟨#[]⟩,.bool false],.int .i64 E])) w':=by
 refine EvPost.mk ?_ hb
 rw [h.2.2.1,List.drop_eq_getElem_cons hi,hF]
 rfl
theorem agg_facts2:∀ o∈Lp.aggOps,(o==[67,79,85,78,84,40,42,41])=false:=by decide
theorem egroup_any (sc:List Lp.Tb) (op:List UInt8) (hop:op∈Lp.aggOps) (x:Lp.X) (k:Int) (f:Fr) (hR:f.R.length≤1000) (hV:∀ r∈f.R,EvOk sc (frV r) x) (hres:∀ r∈f.R,Lp.Res k (Lp.evalX sc x r.2.2 [])) (hk:op=Lp.uSum→Lp.fitK k 1=true) (S:Nat→Prop) (g g1:Nat) (w:World) (kd:Int) (nv:Lp.V) (a:Int) (A:Option Addr) (c:Nat)
 (hg:w.heap[g]? = some (.cells (ndv op kd nv a A 1 c) 66 (0,0))) (hp:Prts S w A [g1]) (hx:NT S w sc x g1) (hF:f.At w) :
 Calls Tryz.prog 82 #[f.val,ptr g] w (EvPost (Lp.foldA op (fun r=>Lp.evalX sc x r []) (0,Lp.nullV) f.rows) w):=by
 obtain ⟨b,off,rfl, -,hp⟩:=hp
 have hp0:=hp 0 _ rfl
 obtain ⟨fr,hfr⟩:∃ u,u=f.r.val:=⟨_,rfl⟩
 have hb1:Below w.heap.size w (((w.alloc (.cells #[fr,.slice f.A f.R.length f.c,.bool f.g] 105)).alloc (.cells #[.int .u8 0,.int .i64 0,.string ⟨#[]⟩,.bool false] 31)).alloc (.cells #[.int .u8 0,.int .i64 0,.string ⟨#[]⟩,.bool false] 31)):=ba (ba (ba (Below.refl _ _) _) _) _
 have hr1:=box_alloc (heap_new2 w (.cells #[fr,.slice f.A f.R.length f.c,.bool f.g] 105) (.cells #[.int .u8 0,.int .i64 0,.string ⟨#[]⟩,.bool false] 31)) (.cells #[.int .u8 0,.int .i64 0,.string ⟨#[]⟩,.bool false] 31)
 have hr2:(((w.alloc (.cells #[fr,.slice f.A f.R.length f.c,.bool f.g] 105)).alloc (.cells #[.int .u8 0,.int .i64 0,.string ⟨#[]⟩,.bool false] 31)).alloc (.cells #[.int .u8 0,.int .i64 0,.string ⟨#[]⟩,.bool false] 31)).heap[w.heap.size+1+1]? = some (.cells #[.int .u8 0,.int .i64 0,.string ⟨#[]⟩,.bool false] 31 (0,0)):=by
  have:=heap_alloc_new ((w.alloc (.cells #[fr,.slice f.A f.R.length f.c,.bool f.g] 105)).alloc (.cells #[.int .u8 0,.int .i64 0,.string ⟨#[]⟩,.bool false] 31)) (.cells #[.int .u8 0,.int .i64 0,.string ⟨#[]⟩,.bool false] 31)
  simpa using this
 have hI:GInv op (fun r=>Lp.evalX sc x r []) f.rows k w 0 (0,Lp.nullV) (((w.alloc (.cells #[fr,.slice f.A f.R.length f.c,.bool f.g] 105)).alloc (.cells #[.int .u8 0,.int .i64 0,.string ⟨#[]⟩,.bool false] 31)).alloc (.cells #[.int .u8 0,.int .i64 0,.string ⟨#[]⟩,.bool false] 31)) :=
  ⟨hr2,hr1,rfl,⟨Int.le_refl _,Int.le_refl _,Lp.Of.null _⟩,hb1⟩
 have HI:=κ hI
 have hb0:Below w.heap.size w ((w.alloc (.cells #[fr,.slice f.A f.R.length f.c,.bool f.g] 105)).alloc (.cells #[.int .u8 0,.int .i64 0,.string ⟨#[]⟩,.bool false] 31)):=ba (ba (Below.refl _ _) _) _
 have hcg:=β (box_below hg hb0)
 have hcg2:=β (box_below hg hb1)
 have hcf:=β (box_alloc (box_alloc (heap_alloc_new w (.cells #[fr,.slice f.A f.R.length f.c,.bool f.g] 105)) (.cells #[.int .u8 0,.int .i64 0,.string ⟨#[]⟩,.bool false] 31)) (.cells #[.int .u8 0,.int .i64 0,.string ⟨#[]⟩,.bool false] 31))
 have e1:=agg_facts2 op hop
 simp only [ndv] at hcg hcg2
 have HG:=κ hg
 have HP:=κ hp0
 have HX:=κ hx
 have HF:=κ hF
 have HV:=κ (ι hV hres)
 have HK:=κ hk
 have HO:=κ hop
 have hlr:f.rows.length=f.R.length:=by simp [Fr.rows]
 have HLR:=κ hlr
 have hRI:(f.R.length:Int)≤1000:=by omega
 unfold Fr.val ptr
 rw [←hfr]
 clear hb1 hr1 hr2 hI hb0 hg hp hp0 hx hF hV hres hk hop hlr hfr hR
 go_enter Tryz.func82,Tryz.ntmps82
 go_wp2_with fail
 generalize (((w.alloc (.cells #[fr,.slice f.A f.R.length f.c,.bool f.g] 105)).alloc (.cells #[.int .u8 0,.int .i64 0,.string ⟨#[]⟩,.bool false] 31)).alloc (.cells #[.int .u8 0,.int .i64 0,.string ⟨#[]⟩,.bool false] 31))=W0 at *
 clear hcg hcg2 hcf
 go_loopw [7,9,10,11,25] (fun s7 _ _ _ s25 wr=>∃ (i:Nat) (st:Int×Lp.V),i≤f.R.length∧s25=.int .i64 i∧s7=.int .i64 st.1∧GInv op (fun r=>Lp.evalX sc x r []) f.rows k w i st wr) (fun _ _ _ _ s25 _=>f.R.length-(intOf s25).toNat)
 case atStart=>exact ⟨0,(0,Lp.nullV),Nat.zero_le _,rfl,rfl,HI.out⟩
 case round =>
  obtain ⟨i,st,hi,rfl,rfl,hinv⟩:=hrel
  have hst0:=hinv.2.2.2.1.1
  have hst1:=hinv.2.2.2.1.2.1
  have hsto:=hinv.2.2.2.1.2.2
  by_cases hlt:i<f.R.length
  ·have hat:(f.R.map RowV.val)[i]? = some (RowV.val f.R[i]):=by rw [List.getElem?_map,List.getElem?_eq_getElem hlt];rfl
   obtain ⟨bR,oR,hA,hcell⟩:=(HF.out.below hinv.2.2.2.2).2.1.at_ hat
   have hmem:f.R[i]∈f.R:=List.getElem_mem hlt
   have hVC:=eValue_any sc x f.R[i] (HV.out.1 _ hmem) S g1 wr (HX.out.below hinv.2.2.2.2) ((HF.out.below hinv.2.2.2.2).2.2 _ hmem)
   have hRes:=HV.out.2 _ hmem
   have hrow:f.rows[i]'(by rw [HLR.out];exact hlt)=(f.R[i]).2.2:=by simp [Fr.rows]
   have HROW:=κ hrow
   have hcg:=β (box_below HG.out hinv.2.2.2.2)
   have hcp:=cell_belo HP.out hinv.2.2.2.2
   have hb0:=hinv.2.2.2.2
   simp only [ndv,Nat.add_zero] at hcg hcp
   generalize hrr:(f.R[i])=r at *
   obtain ⟨p,hpe⟩:∃ p,Lp.evalX sc x r.2.2 []=p:=⟨_,rfl⟩
   rw [hpe] at hVC hRes
   have HVC:=κ hVC
   have HRES:=κ hRes
   have HPE:=κ hpe
   have HINV:=κ hinv
   simp only [RowV.val] at hcell HVC
   unfold ptr at *
   clear hat hVC hRes hrow hmem hinv hpe hrr
   rw [hA] at *
   go_wp2_with fail
   refine HVC.out.mono ?_
   rintro e w1 hj
   obtain ⟨vk,vi,vs,vb,E,hE,rfl,hb2⟩:=hj.form
   rw [hE] at HRES HPE
   have hkk:=hb0.trans (hb2.mono hb0.size)
   have hzB:=box_below HINV.out.1 hb2
   have hzR:=box_below HINV.out.2.1 hb2
   have hbV:Below w1.heap.size w1 (w1.alloc (.cells #[.int .u8 vk,.int .i64 vi,.string vs,.bool vb] 31)):=ba (Below.refl _ _) _
   have hzV:=heap_alloc_new w1 (.cells #[.int .u8 vk,.int .i64 vi,.string vs,.bool vb] 31)
   have hgV:=box_below (box_below (box_below HG.out hb0) hb2) hbV
   clear hj hE HVC hb2 hcell hcg hcp hb0
   by_cases h0:E=0
   ·subst h0
    have hv:Lp.Of k ⟨vk,vi,vs,vb⟩:=HRES.out.1 rfl
    have hFv:(fun r=>Lp.evalX sc x r []) (f.rows[i]'(by rw [HLR.out];exact hlt))=(⟨vk,vi,vs,vb⟩,0):=by rw [HROW.out];exact HPE.out
    have hzB2:=box_below hzB hbV
    have hzR2:=box_below hzR hbV
    have hk2:=hkk.trans (hbV.mono hkk.size)
    have HZ:=κ (ι hzR2 (ι hk2 (ι hv (ι hFv (ι hzB2 (ι hzV hgV))))))
    have cB:=β hzB2
    have fB:=fun j=>frozen_of_row _ _ j _ _ hzB2
    have cV:=β hzV
    have cG:=β hgV
    simp only [ndv] at cG
    clear hzB hzR hbV hzR2 hk2 hv hFv hzV hgV hkk hzB2
    by_cases hv0:vk=0
    ·subst hv0
     have HN:=κ (GInv.next (w':=w1.alloc (.cells #[.int .u8 0,.int .i64 vi,.string vs,.bool vb] 31)) HINV.out (by rw [HLR.out];exact hlt) HZ.out.2.2.2.1 (step_null rfl) HZ.out.2.2.1 HK.out HZ.out.2.2.2.2.1 HZ.out.1 HZ.out.2.1)
     clear cB fB cG
     go_wp2
     go_roundw
     case rel=>exact ⟨i+1,st,by omega,by go_num,rfl,HN.out⟩
     case measure=>simp [intOf];omega
    ·have e2:(vk==0)=false:=beq_eq_false_iff_ne.2 hv0
     by_cases hs0:st.1=0
     ·have e3:((st.1+1)==1)=true:=by rw [hs0];rfl
      have hnB:=set4_same HZ.out.2.2.2.2.1 (.int .u8 vk) (.int .i64 vi) (.string vs) (.bool vb)
      have hne:w.heap.size+1≠w.heap.size+1+1:=by omega
      have hnR:=(far4 (w1.alloc (.cells #[.int .u8 vk,.int .i64 vi,.string vs,.bool vb] 31)) (w.heap.size+1+1) (.int .u8 vk) (.int .i64 vi) (.string vs) (.bool vb) hne).trans HZ.out.1
      have hnb:=below_set4 HZ.out.2.1 (g:=w.heap.size+1+1) (by omega) (.int .u8 vk) (.int .i64 vi) (.string vs) (.bool vb)
      have HN:=κ (GInv.next HINV.out (by rw [HLR.out];exact hlt) HZ.out.2.2.2.1 (step_first hv0 hs0) HZ.out.2.2.1 HK.out hnB hnR hnb)
      clear hnB hnR hnb
      clear hs0
      go_wp2
      go_roundw
      case rel=>exact ⟨i+1,_,by omega,by go_num,by go_num,HN.out⟩
      case measure=>simp [intOf];omega
     ·have e3:((st.1+1)==1)=false:=beq_eq_false_iff_ne.2 (by omega)
      have hop:=HO.out
      simp only [Lp.aggOps,List.mem_cons,List.not_mem_nil,or_false] at hop
      rcases hop with ho|ho|ho|ho
      ·have HN:=κ (GInv.next (w':=w1.alloc (.cells #[.int .u8 vk,.int .i64 vi,.string vs,.bool vb] 31)) HINV.out (by rw [HLR.out];exact hlt) HZ.out.2.2.2.1 (step_cnt ho hv0 hs0) HZ.out.2.2.1 HK.out HZ.out.2.2.2.2.1 HZ.out.1 HZ.out.2.1)
       have e6:(op==[77,73,78])=false:=by rw [ho];rfl
       have e7:(op==[77,65,88])=false:=by rw [ho];rfl
       have e8:(op==[83,85,77])=false:=by rw [ho];rfl
       clear hs0 ho
       go_wp2
       go_roundw
       case rel=>exact ⟨i+1,_,by omega,by go_num,by go_num,HN.out⟩
       case measure=>simp [intOf];omega
      ·have HK2:=κ (two_any [43] (by decide) st.2 ⟨vk,vi,vs,vb⟩ (w1.alloc (.cells #[.int .u8 vk,.int .i64 vi,.string vs,.bool vb] 31)) hsto.1.1 HZ.out.2.2.1.1.1)
       have hst:=step_sum (v:=⟨vk,vi,vs,vb⟩) ho hv0 hs0
       obtain ⟨q,hq⟩:∃ q,Lp.twoX [43] st.2 ⟨vk,vi,vs,vb⟩=q:=⟨_,rfl⟩
       rw [hq] at HK2 hst
       have HST:=κ hst
       simp only [vv4] at HK2
       have e6:(op==[77,73,78])=false:=by rw [ho];rfl
       have e7:(op==[77,65,88])=false:=by rw [ho];rfl
       have e8:(op==[83,85,77])=true:=by rw [ho];rfl
       clear hs0 hq hst ho
       go_wp2_with fail
       refine HK2.out.mono ?_
       rintro e w2 hj
       obtain ⟨uk,ui,us,ub,E2,hE2,rfl,hb3⟩:=hj.form
       rw [hE2] at HST
       have hzB3:=box_below HZ.out.2.2.2.2.1 hb3
       have hzR3:=box_below HZ.out.1 hb3
       have hk3:=HZ.out.2.1.trans (hb3.mono HZ.out.2.1.size)
       have hgV3:=box_below HZ.out.2.2.2.2.2.2 hb3
       have cB3:=β hzB3
       have fB3:=fun j=>frozen_of_row _ _ j _ _ hzB3
       clear hj hE2 HK2 hb3 cB fB cV cG hgV3
       by_cases h2:E2=0
       ·subst h2
        have hnB:=set4_same hzB3 (.int .u8 uk) (.int .i64 ui) (.string us) (.bool ub)
        have hne:w.heap.size+1≠w.heap.size+1+1:=by omega
        have hnR:=(far4 w2 (w.heap.size+1+1) (.int .u8 uk) (.int .i64 ui) (.string us) (.bool ub) hne).trans hzR3
        have hnb:=below_set4 hk3 (g:=w.heap.size+1+1) (by omega) (.int .u8 uk) (.int .i64 ui) (.string us) (.bool ub)
        have HN:=κ (GInv.next HINV.out (by rw [HLR.out];exact hlt) HZ.out.2.2.2.1 HST.out HZ.out.2.2.1 HK.out hnB hnR hnb)
        clear hnB hnR hnb
        clear hzB3 hzR3 hk3
        go_wp2
        go_roundw
        case rel=>exact ⟨i+1,_,by omega,by go_num,by go_num,HN.out⟩
        case measure=>simp [intOf];omega
       ·have e4:(E2==0)=false:=beq_eq_false_iff_ne.2 h2
        have e5:(E2 !=0)=true:=by rw [bne,e4];rfl
        have hne:w.heap.size+1≠w.heap.size+1+1:=by omega
        have hr:=(far4 w2 (w.heap.size+1+1) (.int .u8 uk) (.int .i64 ui) (.string us) (.bool ub) hne).trans hzR3
        have hk:=below_set4 hk3 (g:=w.heap.size+1+1) (by omega) (.int .u8 uk) (.int .i64 ui) (.string us) (.bool ub)
        have hfb:=fold_bad (op:=op) (st:=st) (F:=fun r=>Lp.evalX sc x r []) (l:=f.rows.drop (i+1)) HZ.out.2.2.2.1 (show _=E2 by rw [HST.out]) h2
        have HFB:=κ hfb
        clear hzB3 hzR3 hk3 h2 hfb
        have hc1:=β hr
        have hf1:=fun j=>frozen_of_row _ _ j _ _ hr
        have HCE:=κ (β (set4_same hr (.int .u8 0) (.int .i64 0) (.string ⟨#[]⟩) (.bool false)))
        have K5:=κ (GInv.err HINV.out (by rw [HLR.out];exact hlt) (HFB.out) (below_set4 hk (g:=w.heap.size+1) (by omega) (.int .u8 0) (.int .i64 0) (.string ⟨#[]⟩) (.bool false)))
        clear hr hk
        go_wp2
        have hcE:=HCE.out
        exact bodyPost_ret (v:=.tuple #[.agg #[.int .u8 0,.int .i64 0,.string ⟨#[]⟩,.bool false],.int .i64 E2]) (by simp [results,Tryz.results82,go_sem,hcE]) rfl K5.out
      ·have hst:=step_min (v:=⟨vk,vi,vs,vb⟩) ho hv0 hs0
       have HL:=κ (cless_any vk vi vs vb st.2.k st.2.i st.2.s st.2.b (w1.alloc (.cells #[.int .u8 vk,.int .i64 vi,.string vs,.bool vb] 31)))
       rw [show (⟨st.2.k,st.2.i,st.2.s,st.2.b⟩:Lp.V)=st.2 from rfl] at HL
       cases hB:Lp.vless ⟨vk,vi,vs,vb⟩ st.2
       ·rw [hB] at hst HL
        have HST:=κ hst
        have e6:(op==[77,73,78])=true:=by rw [ho];rfl
        have e7:(op==[77,65,88])=false:=by rw [ho];rfl
        have e8:(op==[83,85,77])=false:=by rw [ho];rfl
        clear hs0 hst hB ho
        go_wp2_with fail
        refine HL.out.mono ?_
        rintro e w2 ⟨rfl,hb3⟩
        have hzB3:=box_below HZ.out.2.2.2.2.1 hb3
        have hzR3:=box_below HZ.out.1 hb3
        have hzV3:=box_below HZ.out.2.2.2.2.2.1 hb3
        have hk3:=HZ.out.2.1.trans (hb3.mono HZ.out.2.1.size)
        have cG3:=β (box_below HZ.out.2.2.2.2.2.2 hb3)
        simp only [ndv] at cG3
        have cB3:=β hzB3
        have fB3:=fun j=>frozen_of_row _ _ j _ _ hzB3
        have cV3:=β hzV3
        clear HL hb3 cB fB cV cG
        have HN:=κ (GInv.next (w':=w2) HINV.out (by rw [HLR.out];exact hlt) HZ.out.2.2.2.1 HST.out HZ.out.2.2.1 HK.out hzB3 hzR3 hk3)
        clear hzB3 hzR3 hzV3 hk3
        go_wp2
        go_roundw
        case rel=>exact ⟨i+1,_,by omega,by go_num,by go_num,HN.out⟩
        case measure=>simp [intOf];omega
       ·rw [hB] at hst HL
        have HST:=κ hst
        have e6:(op==[77,73,78])=true:=by rw [ho];rfl
        have e7:(op==[77,65,88])=false:=by rw [ho];rfl
        have e8:(op==[83,85,77])=false:=by rw [ho];rfl
        clear hs0 hst hB ho
        go_wp2_with fail
        refine HL.out.mono ?_
        rintro e w2 ⟨rfl,hb3⟩
        have hzB3:=box_below HZ.out.2.2.2.2.1 hb3
        have hzR3:=box_below HZ.out.1 hb3
        have hzV3:=box_below HZ.out.2.2.2.2.2.1 hb3
        have hk3:=HZ.out.2.1.trans (hb3.mono HZ.out.2.1.size)
        have cG3:=β (box_below HZ.out.2.2.2.2.2.2 hb3)
        simp only [ndv] at cG3
        have cB3:=β hzB3
        have fB3:=fun j=>frozen_of_row _ _ j _ _ hzB3
        have cV3:=β hzV3
        clear HL hb3 cB fB cV cG
        have hnB:=set4_same hzB3 (.int .u8 vk) (.int .i64 vi) (.string vs) (.bool vb)
        have hne:w.heap.size+1≠w.heap.size+1+1:=by omega
        have hnR:=(far4 w2 (w.heap.size+1+1) (.int .u8 vk) (.int .i64 vi) (.string vs) (.bool vb) hne).trans hzR3
        have hnb:=below_set4 hk3 (g:=w.heap.size+1+1) (by omega) (.int .u8 vk) (.int .i64 vi) (.string vs) (.bool vb)
        have HN:=κ (GInv.next HINV.out (by rw [HLR.out];exact hlt) HZ.out.2.2.2.1 HST.out HZ.out.2.2.1 HK.out hnB hnR hnb)
        clear hnB hnR hnb
        clear hzB3 hzR3 hzV3 hk3
        go_wp2
        go_roundw
        case rel=>exact ⟨i+1,_,by omega,by go_num,by go_num,HN.out⟩
        case measure=>simp [intOf];omega
      ·have hst:=step_max (v:=⟨vk,vi,vs,vb⟩) ho hv0 hs0
       have HL:=κ (cless_any st.2.k st.2.i st.2.s st.2.b vk vi vs vb (w1.alloc (.cells #[.int .u8 vk,.int .i64 vi,.string vs,.bool vb] 31)))
       rw [show (⟨st.2.k,st.2.i,st.2.s,st.2.b⟩:Lp.V)=st.2 from rfl] at HL
       cases hB:Lp.vless st.2 ⟨vk,vi,vs,vb⟩
       ·rw [hB] at hst HL
        have HST:=κ hst
        have e6:(op==[77,73,78])=false:=by rw [ho];rfl
        have e7:(op==[77,65,88])=true:=by rw [ho];rfl
        have e8:(op==[83,85,77])=false:=by rw [ho];rfl
        clear hs0 hst hB ho
        go_wp2_with fail
        refine HL.out.mono ?_
        rintro e w2 ⟨rfl,hb3⟩
        have hzB3:=box_below HZ.out.2.2.2.2.1 hb3
        have hzR3:=box_below HZ.out.1 hb3
        have hzV3:=box_below HZ.out.2.2.2.2.2.1 hb3
        have hk3:=HZ.out.2.1.trans (hb3.mono HZ.out.2.1.size)
        have cG3:=β (box_below HZ.out.2.2.2.2.2.2 hb3)
        simp only [ndv] at cG3
        have cB3:=β hzB3
        have fB3:=fun j=>frozen_of_row _ _ j _ _ hzB3
        have cV3:=β hzV3
        clear HL hb3 cB fB cV cG
        have HN:=κ (GInv.next (w':=w2) HINV.out (by rw [HLR.out];exact hlt) HZ.out.2.2.2.1 HST.out HZ.out.2.2.1 HK.out hzB3 hzR3 hk3)
        clear hzB3 hzR3 hzV3 hk3
        go_wp2
        go_roundw
        case rel=>exact ⟨i+1,_,by omega,by go_num,by go_num,HN.out⟩
        case measure=>simp [intOf];omega
       ·rw [hB] at hst HL
        have HST:=κ hst
        have e6:(op==[77,73,78])=false:=by rw [ho];rfl
        have e7:(op==[77,65,88])=true:=by rw [ho];rfl
        have e8:(op==[83,85,77])=false:=by rw [ho];rfl
        clear hs0 hst hB ho
        go_wp2_with fail
        refine HL.out.mono ?_
        rintro e w2 ⟨rfl,hb3⟩
        have hzB3:=box_below HZ.out.2.2.2.2.1 hb3
        have hzR3:=box_below HZ.out.1 hb3
        have hzV3:=box_below HZ.out.2.2.2.2.2.1 hb3
        have hk3:=HZ.out.2.1.trans (hb3.mono HZ.out.2.1.size)
        have cG3:=β (box_below HZ.out.2.2.2.2.2.2 hb3)
        simp only [ndv] at cG3
        have cB3:=β hzB3
        have fB3:=fun j=>frozen_of_row _ _ j _ _ hzB3
        have cV3:=β hzV3
        clear HL hb3 cB fB cV cG
        have hnB:=set4_same hzB3 (.int .u8 vk) (.int .i64 vi) (.string vs) (.bool vb)
        have hne:w.heap.size+1≠w.heap.size+1+1:=by omega
        have hnR:=(far4 w2 (w.heap.size+1+1) (.int .u8 vk) (.int .i64 vi) (.string vs) (.bool vb) hne).trans hzR3
        have hnb:=below_set4 hk3 (g:=w.heap.size+1+1) (by omega) (.int .u8 vk) (.int .i64 vi) (.string vs) (.bool vb)
        have HN:=κ (GInv.next HINV.out (by rw [HLR.out];exact hlt) HZ.out.2.2.2.1 HST.out HZ.out.2.2.1 HK.out hnB hnR hnb)
        clear hnB hnR hnb
        clear hzB3 hzR3 hzV3 hk3
        go_wp2
        go_roundw
        case rel=>exact ⟨i+1,_,by omega,by go_num,by go_num,HN.out⟩
        case measure=>simp [intOf];omega
   ·have e4:(E==0)=false:=beq_eq_false_iff_ne.2 h0
    have e5:(E !=0)=true:=by rw [bne,e4];rfl
    have hr:=box_below hzR hbV
    have hk:=hkk.trans (hbV.mono hkk.size)
    have hfb:=fold_err (op:=op) (st:=st) (F:=fun r=>Lp.evalX sc x r []) (r:=f.rows[i]'(by rw [HLR.out];exact hlt)) (l:=f.rows.drop (i+1)) (E:=E) (by show (Lp.evalX sc x (f.rows[i]'(by rw [HLR.out];exact hlt)) []).2=E;rw [HROW.out,HPE.out]) h0
    have HFB:=κ hfb
    clear h0 hzB hzR hbV hzV hgV hkk hfb
    have hc1:=β hr
    have hf1:=fun j=>frozen_of_row _ _ j _ _ hr
    have HCE:=κ (β (set4_same hr (.int .u8 0) (.int .i64 0) (.string ⟨#[]⟩) (.bool false)))
    have K5:=κ (GInv.err HINV.out (by rw [HLR.out];exact hlt) (HFB.out) (below_set4 hk (g:=w.heap.size+1) (by omega) (.int .u8 0) (.int .i64 0) (.string ⟨#[]⟩) (.bool false)))
    clear hr hk
    go_wp2
    have hcE:=HCE.out
    exact bodyPost_ret (v:=.tuple #[.agg #[.int .u8 0,.int .i64 0,.string ⟨#[]⟩,.bool false],.int .i64 E]) (by simp [results,Tryz.results82,go_sem,hcE]) rfl K5.out
  ·have hi2:i=f.R.length:=by omega
   have hfin:Lp.foldA op (fun r=>Lp.evalX sc x r []) (0,Lp.nullV) f.rows=(if op=Lp.uCount then Lp.numV st.1 else st.2,0):=by
    rw [hinv.2.2.1,hi2, ←HLR.out,List.drop_length]
    rfl
   have HFIN:=κ hfin
   have hcg:=β (box_below HG.out hinv.2.2.2.2)
   simp only [ndv] at hcg
   have hk:=hinv.2.2.2.2
   have hzB:=hinv.1
   have hr:=hinv.2.1
   have cB:=β hzB
   clear hinv hfin hi2
   by_cases hc:op=Lp.uCount
   ·rw [if_pos hc] at HFIN
    have e2:(op==[67,79,85,78,84])=true:=beq_iff_eq.2 hc
    clear cB hzB hsto
    go_wp2_with fail
    refine (number_any st.1 _).mono ?_
    rintro e w2 ⟨rfl,rfl⟩
    have hr2:=box_alloc hr (.cells #[.int .u8 1,.int .i64 st.1,.string ⟨#[]⟩,.bool false] 31)
    have hk2:=ba hk (.cells #[.int .u8 1,.int .i64 st.1,.string ⟨#[]⟩,.bool false] 31)
    have hc1:=β hr2
    have hf1:=fun j=>frozen_of_row _ _ j _ _ hr2
    have HCE:=κ (β (set4_same hr2 (.int .u8 1) (.int .i64 st.1) (.string ⟨#[]⟩) (.bool false)))
    have K5:=κ (below_set4 hk2 (g:=w.heap.size+1) (by omega) (.int .u8 1) (.int .i64 st.1) (.string ⟨#[]⟩) (.bool false))
    clear hr hk hr2 hk2 hcg
    go_wp2
    have hcE:=HCE.out
    exact bodyPost_ret (v:=.tuple #[.agg #[.int .u8 1,.int .i64 st.1,.string ⟨#[]⟩,.bool false],.int .i64 0]) (by simp [results,Tryz.results82,go_sem,hcE]) rfl (EvPost.mk HFIN.out K5.out)
   ·rw [if_neg hc] at HFIN
    have e2:(op==[67,79,85,78,84])=false:=beq_eq_false_iff_ne.2 hc
    have hc1:=β hr
    have hf1:=fun j=>frozen_of_row _ _ j _ _ hr
    have HCE:=κ (β (set4_same hr (.int .u8 st.2.k) (.int .i64 st.2.i) (.string st.2.s) (.bool st.2.b)))
    have K5:=κ (below_set4 hk (g:=w.heap.size+1) (by omega) (.int .u8 st.2.k) (.int .i64 st.2.i) (.string st.2.s) (.bool st.2.b))
    clear hr hk hzB hc hsto
    go_wp2
    have hcE:=HCE.out
    exact bodyPost_ret (v:=.tuple #[.agg #[.int .u8 st.2.k,.int .i64 st.2.i,.string st.2.s,.bool st.2.b],.int .i64 0]) (by simp [results,Tryz.results82,go_sem,hcE]) rfl (EvPost.mk HFIN.out K5.out)
end Go.Proofs.YtkfjmgmjbljnbaaGreatDoor
