/-
 EvalSums: the walk. Conditions: the tables of unicode/utf8 and of the reserved words as laid; the arguments as they came in.
-/
import Derived.Test.YtkfjmgmjbljnbaaGreatDoorQAsk6
import Derived.Test.YtkfjmgmjbljnbaaGreatDoorQZL
import Derived.Test.YtkfjmgmjbljnbaaGreatDoorQOpenN
import Derived.Test.YtkfjmgmjbljnbaaGreatDoorQZG
import Derived.Deep.RegionHeld3
import Derived.Deep.DeepCutAuto
import Derived.BigQuiet
set_option maxRecDepth 100000
set_option maxHeartbeats 40000000
namespace Go.Proofs.YtkfjmgmjbljnbaaGreatDoor
open Go.RowKit
def usOf (l:List Int) (b:List Bool):List Lp.V:=(List.range l.length).map fun i=>if b.getD i false=true then Lp.nullV else Lp.numV (l.getD i 0)
theorem usOf_len (l:List Int) (b:List Bool):(usOf l b).length=l.length:=by simp [usOf]
theorem usOf_at {l:List Int} {b:List Bool} {i:Nat} (h:i<(usOf l b).length) (hl:i<l.length):(usOf l b)[i]=if b.getD i false=true then Lp.nullV else Lp.numV l[i]:=by
 simp only [usOf,List.getElem_map,List.getElem_range]
 rw [show l.getD i 0=l[i] by simp [List.getD,List.getElem?_eq_getElem hl]]
theorem usOf_ok {l:List Int} {b:List Bool} (hl:∀ n∈l,Lp.inR n):∀ u∈usOf l b,u=Lp.nullV∨∃ n,u=Lp.numV n∧Lp.inR n:=by
 intro u hu
 obtain ⟨i,hi,rfl⟩:=List.mem_map.1 hu
 have hi2:i<l.length:=List.mem_range.1 hi
 split
 ·exact .inl rfl
 ·refine .inr ⟨_,rfl,hl _ ?_⟩
  rw [List.getD,List.getElem?_eq_getElem hi2]
  exact List.getElem_mem hi2
theorem row_okT {u:Lp.V} (h:u=Lp.nullV∨∃ n,u=Lp.numV n∧Lp.inR n):Lp.RowOk scT [u]:=by
 refine rowOk_snoc (row:=[]) (Lp.RowOk.nil _) ?_ fun k hk => ?_
 ·rcases h with rfl|⟨n,rfl,hn⟩
  ·exact Lp.gd_null
  ·exact Lp.gd_num hn
 ·have hk1:k=1:=by
   have:(Lp.flatK scT)[0]? = some 1:=rfl
   rw [show ([]:List Lp.V).length=0 from rfl,this] at hk
   injection hk with hk
   exact hk.symm
  rcases h with rfl|⟨n,rfl,hn⟩
  ·exact .inl rfl
  ·exact .inr hk1.symm
def SumM (us:List Lp.V) (W:World) (i:Nat) (v5 v6:Value) (wr:World):Prop:=LP W.heap.size (us.take i) wr v5∧LP W.heap.size (us.take i).reverse wr v6∧Ap v5 v6∧Below W.heap.size W wr
theorem LP.len {B:Nat} {us:List Lp.V} {X:World} {v:Value} (h:LP B us X v):∃ (A:Option Addr) (c:Nat) (R:List RowV),v=.slice A R.length c∧R.length=us.length∧RowsM X A R∧(∀ q∈R,Lp.RowOk scT q.2.2)∧(R.map fun q=>q.2.2)=rowsOf us:=by
 obtain ⟨R,h1,h2,h3⟩:=h
 obtain ⟨A,c,rfl, -⟩:=own_form h2
 have hl:R.length=us.length:=by
  have:=congrArg List.length h1
  simpa [rowsOf] using this
 rw [←hl] at h2
 exact ⟨A,c,R,by rw [hl],hl,h3.rows h2,fun q hq=>(h3 q hq).2.1,h1⟩
theorem belowCat {B:Nat} {a b c d:World} (h1:Below B a b) (h2:B≤b.heap.size) (h3:Below b.heap.size b c) (h4:Below B c d):Below B a d:=h1.trans ((h3.mono h2).trans h4)
theorem SumM.step {us:List Lp.V} {W w9 X:World} {i:Nat} {u:Lp.V} {v5 v6:Value} (htk:us.take (i+1)=us.take i++[u]) (ha:LP W.heap.size (us.take i++[u]) w9 v5) (hb:LP W.heap.size (u::(us.take i).reverse) w9 v6) (hp:Ap v5 v6) (hw:Below W.heap.size W w9) (hx:Below w9.heap.size w9 X):SumM us W (i+1) v5 v6 X:=by
 refine ⟨?_, ?_,hp,hw.trans (hx.mono hw.size)⟩
 ·rw [htk];exact ha.below hx
 ·rw [htk,List.reverse_append];exact hb.below hx
theorem scm_T {X:World} {b1 b2:Nat} (h1:X.heap[b1]? = some (.cells #[.string ⟨#[97]⟩,.int .u8 1] 55 (0,0))) (h2:X.heap[b2]? = some (.cells #[.string ⟨#[116]⟩,.slice (some ⟨b1,0,none⟩) 1 1] 58 (0,0))):ScM X (some ⟨b2,0,none⟩) scT:=by
 refine ⟨[(⟨[116],[⟨[97],1⟩]⟩,some ⟨b1,0,none⟩,1)],rfl,rds_blk [.string ⟨#[116]⟩,.slice (some ⟨b1,0,none⟩) 1 1] h2,fun p hp => ?_⟩
 rw [List.mem_singleton.1 hp]
 exact rds_blk [.string ⟨#[97]⟩,.int .u8 1] h1
theorem agg_ev (op:List UInt8) (row:List Lp.V) (rows:List (List Lp.V)):Lp.evalX scT (.agg op colA) row rows=Lp.foldA op F1 (0,Lp.nullV) rows:=rfl
theorem cnt_ev (row:List Lp.V) (us:List Lp.V):Lp.evalX scT .cnt row (rowsOf us)=(Lp.numV us.length,0):=by
 show (Lp.numV (rowsOf us).length,(0:Int))=_
 rw [show (rowsOf us).length=us.length by simp [rowsOf]]
theorem sums_walk (A:Option Addr) (c:Nat) (l:List Int) (bA:Option Addr) (bc:Nat) (bl:List Bool) (w:World) (hl:Rds w A (nuv l)) (hlc:l.length≤c) (hin:∀ n∈l, -9223372036854775808≤n∧n≤9223372036854775807) (hbl:Rds w bA (bov bl)) (hb63:bl.length≤9223372036854775807) (hT:Tabs w) (hR:Resv w) :
 Calls Tryz.prog 6 #[.slice A l.length c,.slice bA bl.length bc] w fun e w'=>e=.returned (.bool true)∧Below w.heap.size w w':=by
 have HA:=κ (awake18 w hT hR)
 have HT:=κ (ι hT hR)
 have hm:(min (l.length:Int) 20).toNat=min l.length 20:=by omega
 have hm0:(0:Int)≤min (l.length:Int) 20:=by omega
 have hm1:min (l.length:Int) 20≤(l.length:Int):=by omega
 have hm2:min (l.length:Int) 20≤(c:Int):=by omega
 have hml:(l.take (min l.length 20)).length=min l.length 20:=by rw [List.length_take];omega
 have hmI:min l.length 20≤20:=by omega
 have hl2:Rds w A (nuv (l.take (min l.length 20))):=by
  have:=Rds.take hl (min l.length 20)
  rwa [show (nuv l).take (min l.length 20)=nuv (l.take (min l.length 20)) by simp [nuv,List.map_take]] at this
 have hin2:∀ n∈l.take (min l.length 20),Lp.inR n:=fun n hn=>hin n (List.mem_of_mem_take hn)
 have HL:=κ (ι hl2 (ι hbl hin2))
 have hbI:(bl.length:Int)≤9223372036854775807:=by omega
 clear hT hR hl hlc hin hbl hl2 hin2 hb63
 go_enter Tryz.func6,Tryz.ntmps6
 go_wp2_with fail
 refine HA.out.mono ?_
 rintro e w1 ⟨rfl,hb1⟩
 go_upto_region 4 with fail
 try rw [hm]
 generalize l.take (min l.length 20)=k at *
 generalize min l.length 20=m at *
 subst hml
 clear hm hm0 hm1 hm2
 have HK:=κ (ι (HL.out.1.below hb1) (ι (HL.out.2.1.below hb1) HL.out.2.2))
 have HB1:=κ hb1
 have HUL:=κ (usOf_len k bl)
 have HUK:=κ (usOf_ok (b:=bl) HK.out.2.2)
 clear HL hb1 HA
 go_wp2_with fail
 go_loopw [5,6,7,8,9,10,11,12,13,14,15,16,38] (fun s5 s6 s7 s8 s9 s10 s11 _ _ _ _ _ s38 wr=>∃ (i:Nat) (A5 A6:Option Addr) (c5 c6:Nat) (sum count least most:Int) (over:Bool),i≤k.length∧s38=.int .i64 i∧s5=.slice A5 i c5∧s6=.slice A6 i c6∧s7=.int .i64 sum∧s8=.int .i64 count∧s9=.bool over∧s10=.int .i64 least∧s11=.int .i64 most∧SumI (usOf k bl) i count sum least most over∧SumM (usOf k bl) w1 i (.slice A5 i c5) (.slice A6 i c6) wr) (fun _ _ _ _ _ _ _ _ _ _ _ _ s38 _=>k.length-(intOf s38).toNat)
 case atStart=>exact ⟨0,none,none,0,0,0,0,0,0,false,Nat.zero_le _,rfl,rfl,rfl,rfl,rfl,rfl,rfl,rfl,SumI.nil _,LP.nil _ _,LP.nil _ _,(fun g h=>by cases h),Below.refl _ _⟩
 case round =>
  obtain ⟨i,A5,A6,c5,c6,sum,count,least,most,over,hi,rfl,rfl,rfl,rfl,rfl,rfl,rfl,rfl,hsi,hsm⟩:=hrel
  have hcI:0≤count∧count≤20:=by
   have h1:=hsi.1
   have h2:(nz ((usOf k bl).take i)).length≤((usOf k bl).take i).length:=List.length_filter_le _ _
   rw [List.length_take,HUL.out] at h2
   omega
  obtain ⟨hc0,hc20⟩:=hcI
  have HSI:=κ hsi
  have HSM:=κ hsm
  clear hsi hsm
  by_cases hlt:i<k.length
  ·have hat:(nuv k)[i]? = some (.int .i64 k[i]):=by simp [nuv,List.getElem?_eq_getElem hlt]
   obtain ⟨bL,oL,hAL,hcell⟩:=(HK.out.1.below HSM.out.2.2.2).at_ hat
   have hn:=HK.out.2.2 _ (List.getElem_mem hlt)
   have hu:=usOf_at (b:=bl) (i:=i) (by rw [HUL.out];exact hlt) hlt
   have hnul:=HK.out.2.1.below HSM.out.2.2.2
   have HLT:=κ (show i<(usOf k bl).length by rw [HUL.out];exact hlt)
   generalize hUS:usOf k bl=us at *
   clear hUS
   obtain ⟨u,huu⟩:∃ u,us[i]'HLT.out=u:=⟨_,rfl⟩
   rw [huu] at hu
   generalize k[i]=n at *
   subst hAL
   have HUU:=κ huu
   have HNR:=κ hn
   clear hat hn huu
   go_upto_region 11 with fail
   have hbv:Below wr.heap.size wr (wr.alloc (.cells #[.int .u8 1,.int .i64 n,.string ⟨#[]⟩,.bool false] 31)):=ba (Below.refl _ _) _
   have hzv:=heap_alloc_new wr (.cells #[.int .u8 1,.int .i64 n,.string ⟨#[]⟩,.bool false] 31)
   have hbn:=hnul.below hbv
   have HV0:=κ (ι hbv hzv)
   clear hbv hzv hnul hcell
   have HR:=κ (HSI.out.2.1)
   go_cut [54] (fun s54 wx=>wx=wr.alloc (.cells #[.int .u8 1,.int .i64 n,.string ⟨#[]⟩,.bool false] 31)∧s54=.bool (bl.getD i false))
   case first =>
    by_cases hnl:i<bl.length
    ·have hatb:(bov bl)[i]? = some (.bool bl[i]):=by simp [bov,List.getElem?_eq_getElem hnl]
     obtain ⟨bN,oN,hAN,hcb⟩:=hbn.at_ hatb
     have HGG:=κ (show Value.bool bl[i]=.bool (bl.getD i false) by simp [List.getD,List.getElem?_eq_getElem hnl])
     subst hAN
     clear hatb hbn hu
     go_wp2_with fail
     go_meet
     exact ⟨rfl,HGG.out⟩
    ·have HGG:=κ (show Value.bool false=.bool (bl.getD i false) by simp [List.getD,List.getElem?_eq_none (Nat.le_of_not_lt hnl)])
     clear hbn hu
     go_wp2_with fail
     go_meet
     exact ⟨rfl,HGG.out⟩
   case rest =>
    obtain ⟨rfl,rfl⟩:=hcut
    generalize bl.getD i false=nb at *
    clear hbn
    go_upto_if 54 with fail
    go_cut [7,8,9,10,11] (fun s7 s8 s9 s10 s11 wx=>∃ (sum count least most:Int) (over:Bool),s7=.int .i64 sum∧s8=.int .i64 count∧s9=.bool over∧s10=.int .i64 least∧s11=.int .i64 most∧SumI us (i+1) count sum least most over∧wx.heap[wr.heap.size]? = some (.cells #[.int .u8 u.k,.int .i64 u.i,.string u.s,.bool u.b] 31 (0,0))∧Below wr.heap.size wr wx)
    case first =>
     cases nb
     ·rw [if_neg Bool.false_ne_true] at hu
      subst hu
      have hnx:=HSI.out.next HLT.out HUU.out HNR.out
      have HAD:=κ (fun W=>radd_any sum n W HR.out HNR.out)
      generalize Lp.err (sum+n)=E at *
      generalize Lp.val (sum+n)=SV at *
      by_cases h0:count=0
      ·rw [if_pos h0,if_pos h0,show min n n=n by omega,show max n n=n by omega] at hnx
       have e0:(count==0)=true:=beq_iff_eq.2 h0
       clear h0
       have HNX:=κ hnx
       clear hnx
       go_wp2_with fail
       refine (HAD.out _).mono ?_
       rintro e' w' ⟨rfl,rfl⟩
       cases over
       ·by_cases hE:E=0
        ·have e1:(E==0)=true:=beq_iff_eq.2 hE
         have e2:(E !=0)=false:=by rw [bne,e1];rfl
         clear hE
         go_wp2_with fail
         go_meet
         exact ⟨_,_,_,_,_,rfl,rfl,rfl,rfl,rfl,(by have h:=HNX.out;rw [e2] at h;exact h),(by first|exact heap_alloc_new _ _|exact set4_same HV0.out.2 _ _ _ _),(by first|exact ba (Below.refl _ _) _|exact below_set4 HV0.out.1 (Nat.le_refl _) _ _ _ _)⟩
        ·have e1:(E==0)=false:=beq_eq_false_iff_ne.2 hE
         have e2:(E !=0)=true:=by rw [bne,e1];rfl
         clear hE
         go_wp2_with fail
         go_meet
         exact ⟨_,_,_,_,_,rfl,rfl,rfl,rfl,rfl,(by have h:=HNX.out;rw [e2] at h;exact h),(by first|exact heap_alloc_new _ _|exact set4_same HV0.out.2 _ _ _ _),(by first|exact ba (Below.refl _ _) _|exact below_set4 HV0.out.1 (Nat.le_refl _) _ _ _ _)⟩
       ·go_wp2_with fail
        go_meet
        exact ⟨_,_,_,_,_,rfl,rfl,rfl,rfl,rfl,(by exact HNX.out),(by first|exact heap_alloc_new _ _|exact set4_same HV0.out.2 _ _ _ _),(by first|exact ba (Below.refl _ _) _|exact below_set4 HV0.out.1 (Nat.le_refl _) _ _ _ _)⟩
      ·rw [if_neg h0,if_neg h0] at hnx
       have e0:(count==0)=false:=beq_eq_false_iff_ne.2 h0
       clear h0
       have HNX:=κ hnx
       clear hnx
       go_wp2_with fail
       refine (HAD.out _).mono ?_
       rintro e' w' ⟨rfl,rfl⟩
       cases over
       ·by_cases hE:E=0
        ·have e1:(E==0)=true:=beq_iff_eq.2 hE
         have e2:(E !=0)=false:=by rw [bne,e1];rfl
         clear hE
         go_wp2_with fail
         go_meet
         exact ⟨_,_,_,_,_,rfl,rfl,rfl,rfl,rfl,(by have h:=HNX.out;rw [e2] at h;exact h),(by first|exact heap_alloc_new _ _|exact set4_same HV0.out.2 _ _ _ _),(by first|exact ba (Below.refl _ _) _|exact below_set4 HV0.out.1 (Nat.le_refl _) _ _ _ _)⟩
        ·have e1:(E==0)=false:=beq_eq_false_iff_ne.2 hE
         have e2:(E !=0)=true:=by rw [bne,e1];rfl
         clear hE
         go_wp2_with fail
         go_meet
         exact ⟨_,_,_,_,_,rfl,rfl,rfl,rfl,rfl,(by have h:=HNX.out;rw [e2] at h;exact h),(by first|exact heap_alloc_new _ _|exact set4_same HV0.out.2 _ _ _ _),(by first|exact ba (Below.refl _ _) _|exact below_set4 HV0.out.1 (Nat.le_refl _) _ _ _ _)⟩
       ·go_wp2_with fail
        go_meet
        exact ⟨_,_,_,_,_,rfl,rfl,rfl,rfl,rfl,(by exact HNX.out),(by first|exact heap_alloc_new _ _|exact set4_same HV0.out.2 _ _ _ _),(by first|exact ba (Below.refl _ _) _|exact below_set4 HV0.out.1 (Nat.le_refl _) _ _ _ _)⟩
     ·rw [if_pos rfl] at hu
      subst hu
      go_wp2_with fail
      go_meet
      exact ⟨_,_,_,_,_,rfl,rfl,rfl,rfl,rfl,(by exact HSI.out.skip HLT.out HUU.out),(by first|exact heap_alloc_new _ _|exact set4_same HV0.out.2 _ _ _ _),(by first|exact ba (Below.refl _ _) _|exact below_set4 HV0.out.1 (Nat.le_refl _) _ _ _ _)⟩
    case rest =>
     obtain ⟨sum,count,least,most,over,rfl,rfl,rfl,rfl,rfl,hsi2,hgv,hbx⟩:=hcut
     have hO:=ι (HSM.out.1.below hbx) (ι (HSM.out.2.1.below hbx) (ι HSM.out.2.2.1 (ι hgv (HSM.out.2.2.2.trans (hbx.mono HSM.out.2.2.2.size)))))
     have HO:=κ hO
     have hsw:=hO.2.2.2.2.size
     have hgw:=heap_lt hgv
     have HN:=κ (show (us.take i).length=i∧(us.take i).reverse.length=i∧i≤20 by have:=HLT.out;simp only [List.length_reverse,List.length_take];omega)
     have HV:=κ (row_okT (HUK.out u (HUU.out▸List.getElem_mem HLT.out)))
     have HSN:=κ hsi2
     have hws:=HSM.out.2.2.2.size
     have HTK:=κ (show us.take (i+1)=us.take i++[u] by rw [List.take_succ_eq_append_getElem HLT.out,HUU.out])
     have hcx:=four_cells hgv
     obtain ⟨uk,ui,us0,ub⟩:=u
     simp only at hcx
     obtain ⟨cx0,cx1,cx2,cx3⟩:=hcx
     clear hO hsi2 hgv hbx HSI HSM HR HV0 hu
     go_wp2_with fail
     go_region_held3 (fun w'=>w'.cell? ⟨wr.heap.size,0,none⟩=some (.int .u8 uk)∧w'.cell? ⟨wr.heap.size,1,none⟩=some (.int .i64 ui)∧w'.cell? ⟨wr.heap.size,2,none⟩=some (.string us0)∧w'.cell? ⟨wr.heap.size,3,none⟩=some (.bool ub))
      (first|(go_keep;done)|exact hd3|exact hd2|(refine four_cells (t:=31) (box_below (w:=wc) HO.out.2.2.2.1 ?_);(iterate 8 (try (first|with_reducible apply Below.refl|with_reducible apply Below.drew|with_reducible apply ba))))|(refine four_cells (t:=31) (box_below (w:=w7) hgv7 ?_);(iterate 8 (try (first|with_reducible apply Below.refl|with_reducible apply Below.drew|with_reducible apply ba)))))
      (first
      | (refine stepA (v:=⟨uk,ui,us0,ub⟩) (u:=⟨uk,ui,us0,ub⟩) (B:=w1.heap.size) (us2:=(us.take i).reverse) (gv:=wr.heap.size) rfl (.tmp 82) (.tmp 85) rfl HN.out.1 rfl rfl (HO.out.1.below (by (iterate 8 (try (first|with_reducible apply Below.refl|with_reducible apply Below.drew|with_reducible apply ba))))) (HO.out.2.1.below (by (iterate 8 (try (first|with_reducible apply Below.refl|with_reducible apply Below.drew|with_reducible apply ba))))) HO.out.2.2.1 HN.out.2.2 HV.out (box_below HO.out.2.2.2.1 (by (iterate 8 (try (first|with_reducible apply Below.refl|with_reducible apply Below.drew|with_reducible apply ba))))) ?_ ?_ ?_
         ·exact ⟨_,by (iterate 9 (try (first|with_reducible apply heap_alloc_new|with_reducible apply heap_new2|with_reducible apply heap_new3|with_reducible apply heap_new4|with_reducible apply box_alloc|with_reducible apply box_drew))),by (iterate 9 (try (first|with_reducible apply heap_alloc_new|with_reducible apply heap_new2|with_reducible apply heap_new3|with_reducible apply heap_new4|with_reducible apply box_alloc|with_reducible apply box_drew))),by (first|omega|(simp;done)|(simp;omega))⟩
         ·(first|omega|(simp;done)|(simp;omega))
         intro A7 c7 w7 hLa hLo hAp hba hka hgv7
         have hd2:=four_cells hgv7
         have hs7:wc.heap.size≤w7.heap.size:=Nat.le_trans (by first|(simp;done)|(simp;omega)) hba.size
         have hs1:=Nat.le_trans hsw hs7
         have hbA:=belowCat HO.out.2.2.2.2 hsw (by (iterate 8 (try (first|with_reducible apply Below.refl|with_reducible apply Below.drew|with_reducible apply ba)))) hba
         have hkp:=fun g o h1 h2=>(hka g o h1 h2).1
         have hkn:=fun g hg h2=>(hka g _ (Array.getElem?_eq_getElem hg) h2).2)
      | (refine stepB (v:=⟨uk,ui,us0,ub⟩) (u:=⟨uk,ui,us0,ub⟩) (B:=w1.heap.size) (us1:=us.take i++[⟨uk,ui,us0,ub⟩]) (v1:=.slice A7 (i+1) c7) (gv:=wr.heap.size) rfl (.tmp 89) (.tmp 90) rfl HN.out.2.1 rfl rfl (hLo.below (by (iterate 8 (try (first|with_reducible apply Below.refl|with_reducible apply Below.drew|with_reducible apply ba))))) (hLa.below (by (iterate 8 (try (first|with_reducible apply Below.refl|with_reducible apply Below.drew|with_reducible apply ba))))) HN.out.2.2 HV.out (box_below hgv7 (by (iterate 8 (try (first|with_reducible apply Below.refl|with_reducible apply Below.drew|with_reducible apply ba))))) ?_ ?_ ?_ ?_ ?_
         ·exact ⟨_,by (iterate 9 (try (first|with_reducible apply heap_alloc_new|with_reducible apply heap_new2|with_reducible apply heap_new3|with_reducible apply heap_new4|(with_reducible apply hkp;rotate_left;focus (refine LP.old HO.out.1 ?_;(first|omega|(simp;done)|(simp;omega))))|with_reducible apply box_alloc|with_reducible apply box_drew))),by (iterate 9 (try (first|with_reducible apply heap_alloc_new|with_reducible apply heap_new2|with_reducible apply heap_new3|with_reducible apply heap_new4|(with_reducible apply hkp;rotate_left;focus (refine LP.old HO.out.1 ?_;(first|omega|(simp;done)|(simp;omega))))|with_reducible apply box_alloc|with_reducible apply box_drew))),by (first|omega|(simp;done)|(simp;omega))⟩
         ·(first|omega|(simp;done)|(simp;omega))
         ·(first|exact LP.old hLa (by (first|omega|(simp;done)|(simp;omega)))|((with_reducible apply hkn)<;>(first|(refine LP.old HO.out.1 ?_;(first|omega|(simp;done)|(simp;omega)))|(first|omega|(simp;done)|(simp;omega)))))
         ·(first|omega|(simp;done)|(simp;omega))
         intro A8 c8 w9 hFb hFa hFp hbb _ hgv9
         have hd3:=four_cells hgv9
         have hFw:=belowCat hbA hs1 (by (iterate 8 (try (first|with_reducible apply Below.refl|with_reducible apply Below.drew|with_reducible apply ba)))) hbb))
     all_goals
      rw [Nat.add_comm 1 i] at hFb hFp
      have HF:=κ (ι hFa (ι hFb (ι hFp hFw)))
      clear hFa hFb hFp hFw
      go_wp2
      go_roundw
      case rel=>exact ⟨i+1,A7,A8,c7,c8,sum,count,least,most,over,by omega,by go_num,rfl,by rw [Nat.add_comm],rfl,rfl,rfl,rfl,rfl,HSN.out,SumM.step HTK.out HF.out.1 HF.out.2.1 HF.out.2.2.1 HF.out.2.2.2 (by repeat (first|exact Below.refl _ _|apply Below.drew|refine ba ?_ _))⟩
      case measure=>simp [intOf];omega
  ·have hi2:i=k.length:=by omega
   subst hi2
   obtain ⟨A5',c5',R,hv5,hRl,hRM,hRok,hRr⟩:=HSM.out.1.len
   obtain ⟨A6',c6',K,hv6,hKl,hKM,hKok,hKr⟩:=HSM.out.2.1.len
   have hlen:((usOf k bl).take k.length).length=k.length:=by rw [List.length_take,HUL.out];omega
   have htake:(usOf k bl).take k.length=usOf k bl:=List.take_of_length_le (by rw [HUL.out];exact Nat.le_refl _)
   rw [htake] at hRl hRr hKl hKr
   rw [List.length_reverse] at hKl
   injection hv5 with a1 a2 a3
   injection hv6 with a4 a5 a6
   subst a1 a3 a4 a6
   clear a2 a5
   have hend:=sums_end HUK.out (show SumI (usOf k bl) (usOf k bl).length count sum least most over by rw [HUL.out];exact HSI.out)
   have hkl:=HUL.out
   have hb:=HSM.out.2.2.2
   have hd3:((usOf k bl).reverse.length:Int)=k.length:=by rw [List.length_reverse,hkl]
   generalize usOf k bl=us at *
   obtain ⟨hc,⟨E,⟨sk,si,ss,sb⟩,hs1,hs2,hs3,hs4⟩,⟨⟨nk,ni,ns,nb⟩,ha1,ha2,ha3⟩,⟨⟨bk,bi,bs,bb⟩,hm1,hm2,hm3⟩⟩:=hend
   have hRlk:R.length=k.length:=by omega
   have hKlk:K.length=k.length:=by omega
   have hW:=ba (ba (ba (Below.refl wr.heap.size wr) (.cells #[.string ⟨#[97]⟩,.int .u8 1] 55)) (.cells #[.string ⟨#[116]⟩,.slice (some ⟨wr.heap.size,0,none⟩) 1 1] 58)) (.cells #[.slice (some ⟨wr.heap.size+1,0,none⟩) 1 1] 25)
   have hsc:=scm_T (box_alloc (box_alloc (heap_alloc_new wr (.cells #[.string ⟨#[97]⟩,.int .u8 1] 55)) (.cells #[.string ⟨#[116]⟩,.slice (some ⟨wr.heap.size,0,none⟩) 1 1] 58)) (.cells #[.slice (some ⟨wr.heap.size+1,0,none⟩) 1 1] 25)) (box_alloc (heap_new2 wr (.cells #[.string ⟨#[97]⟩,.int .u8 1] 55) (.cells #[.string ⟨#[116]⟩,.slice (some ⟨wr.heap.size,0,none⟩) 1 1] 58)) (.cells #[.slice (some ⟨wr.heap.size+1,0,none⟩) 1 1] 25))
   have hgt:=heap_new3 wr (.cells #[.string ⟨#[97]⟩,.int .u8 1] 55) (.cells #[.string ⟨#[116]⟩,.slice (some ⟨wr.heap.size,0,none⟩) 1 1] 58) (.cells #[.slice (some ⟨wr.heap.size+1,0,none⟩) 1 1] 25)
   have hq1:=HB1.out.trans ((hb.trans (hW.mono hb.size)).mono HB1.out.size)
   have HQ:=κ (ι (tabs_below HT.out.1 hq1) (ι (resv_below HT.out.2 hq1) (ι hsc (ι hgt (ι (hRM.below hW) (ι (hKM.below hW) (ι hRok (ι hKok hq1))))))))
   clear hRM hKM hRok hKok hsc hgt hq1 hW hb hlen htake HSI HSM
   go_upto_region 24 with fail
   generalize ((wr.alloc (.cells #[.string ⟨#[97]⟩,.int .u8 1] 55)).alloc (.cells #[.string ⟨#[116]⟩,.slice (some ⟨wr.heap.size,0,none⟩) 1 1] 58)).alloc (.cells #[.slice (some ⟨wr.heap.size+1,0,none⟩) 1 1] 25)=V at *
   have ASK:=fun (s:ByteArray) (t:List UInt8) (x:Lp.X) (hs:s.data.toList.take 600=t) (hq:Lp.condS t=some x) (hk:(Lp.kindX scT x true).2=0) (X:World) (hb:Below V.heap.size V X)=>ask6_any s t x hs hq hk _ 1 _ A5 c5 R X (tabs_below HQ.out.1 hb) (resv_below HQ.out.2.1 hb) (HQ.out.2.2.1.below hb) (HQ.out.2.2.2.2.1.below hb) HQ.out.2.2.2.2.2.2.1 (by omega) (box_below HQ.out.2.2.2.1 hb)
   have ASB:=fun (s:ByteArray) (t:List UInt8) (x:Lp.X) (hs:s.data.toList.take 600=t) (hq:Lp.condS t=some x) (hk:(Lp.kindX scT x true).2=0) (X:World) (hb:Below V.heap.size V X)=>ask6_any s t x hs hq hk _ 1 _ A6 c6 K X (tabs_below HQ.out.1 hb) (resv_below HQ.out.2.1 hb) (HQ.out.2.2.1.below hb) (HQ.out.2.2.2.2.2.1.below hb) HQ.out.2.2.2.2.2.2.2.1 (by omega) (box_below HQ.out.2.2.2.1 hb)
   simp only [hRr,hRlk] at ASK
   simp only [hKr,hKlk] at ASB
   have Q1:=κ (ASK ⟨#[67,79,85,78,84,40,97,41]⟩ _ _ rfl c6_cnt k6_cnt)
   have Q2:=κ (ASB ⟨#[67,79,85,78,84,40,42,41]⟩ _ _ rfl c18_cnt rfl)
   have Q3:=κ (ASK ⟨#[83,85,77,40,97,41]⟩ _ _ rfl c6_sum k6_sum)
   have Q4:=κ (ASB ⟨#[77,73,78,40,97,41]⟩ _ _ rfl c6_min k6_min)
   have Q5:=κ (ASB ⟨#[77,65,88,40,97,41]⟩ _ _ rfl c6_max k6_max)
   rw [agg_ev,hc] at Q1
   rw [cnt_ev,List.length_reverse,hkl] at Q2
   rw [agg_ev,hs1] at Q3
   rw [agg_ev,ha1] at Q4
   rw [agg_ev,hm1] at Q5
   have HQV:=κ HQ.out.2.2.2.2.2.2.2.2
   clear ASK ASB HQ hRr hKr hRl hKl hRlk hKlk hc hs1 ha1 hm1 hd3 hkl HUL HUK HK HT HB1
   go_wp2_with fail
   refine (Q1.out _ (Below.refl _ _)).mono ?_
   rintro e1 w2 ⟨rfl,hb2⟩
   simp only [vv4,Lp.numV]
   have K1:=ba (hb2) (.cells #[.int .u8 1,.int .i64 (count:Int),.string ⟨#[]⟩,.bool false] 31)
   have z1:=heap_alloc_new w2 (.cells #[.int .u8 1,.int .i64 (count:Int),.string ⟨#[]⟩,.bool false] 31)
   clear hb2 Q1
   go_wp2_with fail
   refine (Q2.out _ K1).mono ?_
   rintro e2 w3 ⟨rfl,hb3⟩
   simp only [vv4,Lp.numV]
   have K2:=ba (K1.trans (hb3.mono K1.size)) (.cells #[.int .u8 1,.int .i64 (k.length:Int),.string ⟨#[]⟩,.bool false] 31)
   have z2:=heap_alloc_new w3 (.cells #[.int .u8 1,.int .i64 (k.length:Int),.string ⟨#[]⟩,.bool false] 31)
   have z1:=box_alloc (box_below z1 hb3) (.cells #[.int .u8 1,.int .i64 (k.length:Int),.string ⟨#[]⟩,.bool false] 31)
   clear hb3 Q2
   go_wp2_with fail
   refine (Q3.out _ K2).mono ?_
   rintro e3 w4 ⟨rfl,hb4⟩
   simp only [vv4]
   have K3:=ba (K2.trans (hb4.mono K2.size)) (.cells #[.int .u8 sk,.int .i64 si,.string ss,.bool sb] 31)
   have z3:=heap_alloc_new w4 (.cells #[.int .u8 sk,.int .i64 si,.string ss,.bool sb] 31)
   have z1:=box_alloc (box_below z1 hb4) (.cells #[.int .u8 sk,.int .i64 si,.string ss,.bool sb] 31)
   have z2:=box_alloc (box_below z2 hb4) (.cells #[.int .u8 sk,.int .i64 si,.string ss,.bool sb] 31)
   clear hb4 Q3
   go_wp2_with fail
   refine (Q4.out _ K3).mono ?_
   rintro e4 w5 ⟨rfl,hb5⟩
   simp only [vv4]
   have K4:=ba (K3.trans (hb5.mono K3.size)) (.cells #[.int .u8 nk,.int .i64 ni,.string ns,.bool nb] 31)
   have z4:=heap_alloc_new w5 (.cells #[.int .u8 nk,.int .i64 ni,.string ns,.bool nb] 31)
   have z1:=box_alloc (box_below z1 hb5) (.cells #[.int .u8 nk,.int .i64 ni,.string ns,.bool nb] 31)
   have z2:=box_alloc (box_below z2 hb5) (.cells #[.int .u8 nk,.int .i64 ni,.string ns,.bool nb] 31)
   have z3:=box_alloc (box_below z3 hb5) (.cells #[.int .u8 nk,.int .i64 ni,.string ns,.bool nb] 31)
   clear hb5 Q4
   go_wp2_with fail
   refine (Q5.out _ K4).mono ?_
   rintro e5 w6 ⟨rfl,hb6⟩
   simp only [vv4]
   have K5:=ba (K4.trans (hb6.mono K4.size)) (.cells #[.int .u8 bk,.int .i64 bi,.string bs,.bool bb] 31)
   have z5:=heap_alloc_new w6 (.cells #[.int .u8 bk,.int .i64 bi,.string bs,.bool bb] 31)
   have z1:=box_alloc (box_below z1 hb6) (.cells #[.int .u8 bk,.int .i64 bi,.string bs,.bool bb] 31)
   have z2:=box_alloc (box_below z2 hb6) (.cells #[.int .u8 bk,.int .i64 bi,.string bs,.bool bb] 31)
   have z3:=box_alloc (box_below z3 hb6) (.cells #[.int .u8 bk,.int .i64 bi,.string bs,.bool bb] 31)
   have z4:=box_alloc (box_below z4 hb6) (.cells #[.int .u8 bk,.int .i64 bi,.string bs,.bool bb] 31)
   clear hb6 Q5
   have y1:=β z1
   have y2:=β z2
   have y3:=β z3
   have y4:=β z4
   have y5:=β z5
   have HKK:=κ (HQV.out.trans (K5.mono HQV.out.size))
   clear K1 K2 K3 K4 K5 z1 z2 z3 z4 z5 HQV
   have cc:(count==count)=true:=beq_self_eq_true count
   have cc2:(count !=count)=false:=by rw [bne,cc];rfl
   have kk:((k.length:Int)==(k.length:Int))=true:=beq_self_eq_true _
   have kk2:((k.length:Int) !=(k.length:Int))=false:=by rw [bne,kk];rfl
   by_cases h0:count=0
   ·have s0:(sk==0)=true:=beq_iff_eq.2 (hs3 h0)
    have a0:(nk==0)=true:=beq_iff_eq.2 (ha2 h0)
    have b0:(bk==0)=true:=beq_iff_eq.2 (hm2 h0)
    have e0:(count==0)=true:=beq_iff_eq.2 h0
    clear h0 hs3 ha2 hm2 hs4 ha3 hm3
    cases over
    ·rw [Bool.not_false] at hs2
     go_wp2
     go_ret
     exact ⟨rfl,HKK.out⟩
    ·rw [Bool.not_true] at hs2
     go_wp2
     go_ret
     exact ⟨rfl,HKK.out⟩
   ·have a0:(ni==least)=true:=beq_iff_eq.2 (ha3 h0)
    have b0:(bi==most)=true:=beq_iff_eq.2 (hm3 h0)
    have e0:(count==0)=false:=beq_eq_false_iff_ne.2 h0
    cases over
    ·have s0:(si==sum)=true:=beq_iff_eq.2 (hs4 rfl h0)
     rw [Bool.not_false] at hs2
     clear h0 hs3 ha2 hm2 hs4 ha3 hm3
     go_wp2
     go_ret
     exact ⟨rfl,HKK.out⟩
    ·rw [Bool.not_true] at hs2
     clear h0 hs3 ha2 hm2 hs4 ha3 hm3
     go_wp2
     go_ret
     exact ⟨rfl,HKK.out⟩
end Go.Proofs.YtkfjmgmjbljnbaaGreatDoor
