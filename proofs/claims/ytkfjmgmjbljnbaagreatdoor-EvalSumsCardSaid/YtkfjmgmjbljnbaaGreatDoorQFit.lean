/-
 The document's Fit: a row of a scope out of any values. Conditions: at most 2 tables, of at most 8 columns each.
-/
import Derived.Test.YtkfjmgmjbljnbaaGreatDoorQZA
import Derived.Test.YtkfjmgmjbljnbaaGreatDoorQOpenU
import Derived.Test.YtkfjmgmjbljnbaaGreatDoorQPlainTyped
import Derived.Test.YtkfjmgmjbljnbaaGreatDoorQGQ
import Derived.Test.YtkfjmgmjbljnbaaGreatDoorQZF
set_option maxRecDepth 100000
set_option maxHeartbeats 40000000
namespace Go.Proofs.YtkfjmgmjbljnbaaGreatDoor
open Go.RowKit
theorem empty_ba {s:ByteArray} (h:s.data.toList.isEmpty=true):s=⟨#[]⟩:=by
 have h1:s.data=#[]:=by
  apply Array.toList_inj.1
  rw [List.isEmpty_iff.1 h]
 cases s
 simp only at h1
 rw [h1]
theorem gd_right {k i:Int} {s:ByteArray} {b:Bool} (h:Lp.rightB k i s b=true) (hi:Lp.inR i):Lp.Gd ⟨k,i,s,b⟩:=by
 unfold Lp.rightB at h
 refine ⟨hi, ?_⟩
 split at h
 ·rename_i hk
  simp only [Bool.and_eq_true,beq_iff_eq,Bool.not_eq_true'] at h
  exact .inl ⟨hk,h.1.1,empty_ba h.1.2,h.2⟩
 ·split at h
  ·rename_i hk
   simp only [Bool.and_eq_true,Bool.not_eq_true'] at h
   exact .inr (.inl ⟨hk,empty_ba h.1,h.2⟩)
  ·split at h
   ·rename_i hk
    simp only [Bool.and_eq_true,beq_iff_eq,Bool.not_eq_true'] at h
    exact .inr (.inr (.inl ⟨hk,h.1.1.1,h.1.1.2⟩))
   ·split at h
    ·rename_i hk
     simp only [Bool.and_eq_true,beq_iff_eq] at h
     exact .inr (.inr (.inr ⟨hk,h.1,empty_ba h.2⟩))
    ·cases h
theorem rowOk_snoc {sc:List Lp.Tb} {row:List Lp.V} {v:Lp.V} (h:Lp.RowOk sc row) (hv:Lp.Gd v) (hk:∀ k,(Lp.flatK sc)[row.length]? = some k→v.k=0∨v.k=k):Lp.RowOk sc (row++[v]):=by
 intro i u hu
 by_cases hi:i<row.length
 ·rw [List.getElem?_append_left hi] at hu
  exact h i u hu
 ·rw [List.getElem?_append_right (by omega)] at hu
  have h0:i=row.length:=by
   have:=(List.getElem?_eq_some_iff.1 hu).1
   simp at this
   omega
  subst h0
  simp only [Nat.sub_self,List.getElem?_cons_zero,Option.some.injEq] at hu
  subst hu
  exact ⟨hv,hk⟩
theorem wide_take1 (sc:List Lp.Tb) {t:Nat} (h:t<sc.length):Lp.wide (sc.take (t+1))=Lp.wide (sc.take t)+(sc[t]).cs.length:=by
 rw [List.take_succ_eq_append_getElem h,Lp.wide_snoc]
theorem flatK_at {sc:List Lp.Tb}:∀ {t j:Nat} (h:t<sc.length) (hj:j<(sc[t]).cs.length),(Lp.flatK sc)[Lp.wide (sc.take t)+j]? = some ((sc[t]).cs[j]).k:=by
 induction sc with
 | nil=>intro t j h;simp at h
 | cons tb sc ih =>
   intro t j h hj
   have e:Lp.flatK (tb::sc)=tb.cs.map (·.k)++Lp.flatK sc:=by simp [Lp.flatK]
   rw [e]
   cases t with
   | zero =>
     simp only [List.take_zero,List.getElem_cons_zero] at hj ⊢
     rw [show Lp.wide []=0 from rfl,Nat.zero_add,List.getElem?_append_left (by simpa using hj)]
     simp [List.getElem?_eq_getElem hj]
   | succ t =>
     have h2:=ih (t:=t) (j:=j) (by simpa using h) (by simpa using hj)
     have e2:Lp.wide ((tb::sc).take (t+1))=tb.cs.length+Lp.wide (sc.take t):=by simp [Lp.wide]
     rw [e2,List.getElem?_append_right (by simp;omega),show tb.cs.length+Lp.wide (sc.take t)+j-(tb.cs.map (·.k)).length=Lp.wide (sc.take t)+j by simp;omega,h2]
     simp
def FitOwn (sc:List Lp.Tb) (w:World) (e:Ending) (w':World):Prop :=
 Below w.heap.size w w'∧∃ (A:Option Addr) (c:Nat) (row:List Lp.V),e=.returned (.slice A row.length c)∧w'.ownsRow w.heap.size 31 4 (.slice A row.length c) row.length (Lp.vv row)∧row.length=Lp.wide sc∧Lp.RowOk sc row
def FitPost (sc:List Lp.Tb) (w:World) (e:Ending) (w':World):Prop :=
 Below w.heap.size w w'∧∃ (A:Option Addr) (c:Nat) (row:List Lp.V),e=.returned (.slice A row.length c)∧RdsV w' A row∧row.length=Lp.wide sc∧row.length≤c∧Lp.RowOk sc row
theorem FitOwn.post {sc:List Lp.Tb} {w w':World} {e:Ending} (h:FitOwn sc w e w'):FitPost sc w e w':=by
 obtain ⟨hb,A,c,row,he,hown,hw,hr⟩:=h
 refine ⟨hb,A,c,row,he,Rds.own hown,hw, ?_,hr⟩
 obtain ⟨A',c',hv,hle⟩:=own_form hown
 injection hv with _ _ h3
 omega
theorem fit_end {sc:List Lp.Tb} {w w':World} {A:Option Addr} {c n:Nat} {row:List Lp.V} (hn:n=row.length) (hb:Below w.heap.size w w') (hown:w'.ownsRow w.heap.size 31 4 (.slice A n c) n (Lp.vv row)) (hw:row.length=Lp.wide sc) (hr:Lp.RowOk sc row):FitOwn sc w (.returned (.slice A n c)) w':=by
 subst hn
 exact ⟨hb,A,c,row,rfl,hown,hw,hr⟩
theorem fit_own (A:Option Addr) (c:Nat) (l:List TabA) (x:RowV) (w:World) (hA:ScA w A l) (hx:RowOk1 w x) (h2:l.length≤2) (h8:∀ p∈l,p.1.cs.length≤8) (hxl:x.2.2.length≤20) :
 Calls Tryz.prog 16 #[.slice A l.length c,x.val] w (FitOwn (scOf l) w):=by
 obtain ⟨iV,hiV,hz0,hz1,hz2⟩:=info_parts valInfo
 obtain ⟨Ax,cx,lx⟩:=x
 have HA:=κ hA
 have HX:=κ hx
 have H8:=κ h8
 have hlI:(l.length:Int)≤2:=by omega
 have hxI:(lx.length:Int)≤20:=by simpa using Int.ofNat_le.2 hxl
 simp only [RowV.val]
 clear hA hx h8 hxl
 go_enter Tryz.func16,Tryz.ntmps16
 go_wp2_with fail
 go_loopw [5,7,14] (fun s5 _ s14 wr=>∃ (t:Nat) (row:List Lp.V) (Ao:Option Addr) (co n:Nat),t≤l.length∧s14=.int .i64 t∧s5=.slice Ao n co∧n=row.length∧n=Lp.wide ((scOf l).take t)∧n≤8*t∧wr.ownsRow w.heap.size 31 4 (.slice Ao n co) n (Lp.vv row)∧Lp.RowOk (scOf l) row∧Below w.heap.size w wr) (fun _ _ s14 _=>l.length-(intOf s14).toNat)
 case atStart=>exact ⟨0,[],none,0,0,Nat.zero_le _,rfl,rfl,rfl,rfl,Nat.zero_le _,World.ownsRow_nil _ _ _ _,Lp.RowOk.nil _,Below.refl _ _⟩
 case round =>
  obtain ⟨t,row,Ao,co,n,ht,rfl,rfl,hn1,hn2,hn3,hown,hrow,hb⟩:=hrel
  have HN:=κ (ι hn1 (ι hn2 (ι hown (ι hrow hb))))
  clear hn1 hn2 hown hrow hb
  by_cases hlt:t<l.length
  ·obtain ⟨bT,oT,hAT,q0,q1⟩:=tbv_cells ((HA.out.below HN.out.2.2.2.2).1) hlt
   have hok:=HA.out.2 _ (List.getElem_mem hlt)
   have h8:=H8.out _ (List.getElem_mem hlt)
   have hsct:(scOf l)[t]'(by simp [scOf];exact hlt)=(l[t]).1:=by simp [scOf]
   have HSC:=κ hsct
   generalize (l[t])=p at *
   obtain ⟨⟨nm,cs⟩,At,ct⟩:=p
   simp only at q0 q1 hok h8 HSC
   subst hAT
   have HK:=κ hok
   have hcsI:(cs.length:Int)≤8:=by omega
   clear hok hsct h8
   go_wp2_with fail
   have hbT:Below wr.heap.size wr (wr.alloc (.cells #[.string ⟨nm.toArray⟩,.slice At cs.length ct] 90)):=bal (Below.refl _ _) _
   have HT:=κ (ι (own_under HN.out.2.2.1 hbT) (HN.out.2.2.2.2.trans (hbT.mono HN.out.2.2.2.2.size)))
   generalize (wr.alloc (.cells #[.string ⟨nm.toArray⟩,.slice At cs.length ct] 90))=W1 at *
   clear hbT q0 q1
   go_loopw [5,9,10,11,21] (fun s5 _ _ _ s21 w5=>∃ (j:Nat) (row:List Lp.V) (Ao:Option Addr) (co n:Nat),j≤cs.length∧s21=.int .i64 j∧s5=.slice Ao n co∧n=row.length∧n=Lp.wide ((scOf l).take t)+j∧n≤8*t+j∧w5.ownsRow w.heap.size 31 4 (.slice Ao n co) n (Lp.vv row)∧Lp.RowOk (scOf l) row∧Below w.heap.size w w5) (fun _ _ _ _ s21 _=>cs.length-(intOf s21).toNat)
   case atStart=>exact ⟨0,row,Ao,co,n,Nat.zero_le _,rfl,rfl,HN.out.1,HN.out.2.1,by omega,HT.out.1,HN.out.2.2.2.1,HT.out.2⟩
   case round =>
    rename_i w5
    obtain ⟨j,row,Ao,co,n,hj,rfl,rfl,hn1,hn2,hn3,hown,hrow,hb⟩:=hrel
    have HM:=κ (ι hn1 (ι hn2 (ι hown (ι hrow hb))))
    clear hn1 hn2 hown hrow hb
    by_cases hjl:j<cs.length
    ·obtain ⟨bC,oC,hAC,r0,r1⟩:=colv_cells ((HK.out.below HM.out.2.2.2.2).2.1) hjl
     simp only at hAC
     subst hAC
     have hkat:=flatK_at (sc:=scOf l) (t:=t) (j:=j) (by simp [scOf];exact hlt) (by rw [HSC.out];exact hjl)
     simp only [HSC.out] at hkat
     rw [←HM.out.2.1] at hkat
     generalize (cs[j]).k=kc at *
     generalize (⟨(cs[j]).n.toArray⟩:ByteArray)=nc at *
     have HAT:=κ hkat
     clear hkat
     go_upto_region 9 with fail
     have hk2:Below wr.heap.size wr ((wr.alloc (.cells #[.string nc,.int .u8 kc] 55)).alloc (.cells #[.int .u8 0,.int .i64 0,.string ⟨#[]⟩,.bool false] 31)):=bal (bal (Below.refl _ _) _) _
     have hzc:=box_alloc (heap_alloc_new wr (.cells #[.string nc,.int .u8 kc] 55)) (.cells #[.int .u8 0,.int .i64 0,.string ⟨#[]⟩,.bool false] 31)
     have hzz:=heap_new2 wr (.cells #[.string nc,.int .u8 kc] 55) (.cells #[.int .u8 0,.int .i64 0,.string ⟨#[]⟩,.bool false] 31)
     have hbw:=HM.out.2.2.2.2.trans (hk2.mono HM.out.2.2.2.2.size)
     have hlx:RdsV ((wr.alloc (.cells #[.string nc,.int .u8 kc] 55)).alloc (.cells #[.int .u8 0,.int .i64 0,.string ⟨#[]⟩,.bool false] 31)) Ax lx:=HX.out.1.below hbw
     have hown2:=own_under HM.out.2.2.1 hk2
     have HZ:=κ (ι hzc (ι hzz (ι hbw hown2)))
     have HK2:=κ hk2
     generalize ((wr.alloc (.cells #[.string nc,.int .u8 kc] 55)).alloc (.cells #[.int .u8 0,.int .i64 0,.string ⟨#[]⟩,.bool false] 31))=W2 at *
     clear hzc hzz hbw hown2 r0 r1 hk2
     have cz:=β HZ.out.2.1
     by_cases hnx:n<lx.length
     ·obtain ⟨bL,oL,hAL,v0,v1,v2,v3⟩:=RdsV.vat hlx hnx
      subst hAL
      have hu:=HX.out.2.2 _ (List.getElem_mem hnx)
      obtain ⟨⟨uk,ui,us,ub⟩,huu⟩:∃ u,u=lx[n]:=⟨_,rfl⟩
      rw [←huu] at v0 v1 v2 v3 hu
      obtain ⟨r,hr⟩:∃ r,Lp.rightB uk ui us ub=r:=⟨_,rfl⟩
      have HRt:=κ (fun W=>right2_at uk ui us ub r hr W hu.1)
      have hgd:r=true→Lp.Gd ⟨uk,ui,us,ub⟩:=fun h=>gd_right (hr.trans h) hu.2.1
      have HG:=κ hgd
      clear hr hgd huu hu hlx
      have cc:=β HZ.out.1
      cases r with
      | false =>
        go_wp2_with fail
        first|go_region_with (go_at_call 42;refine (HRt.out _).mono ?_;rintro e w3 ⟨rfl,hb3⟩;have hbz:Below W2.heap.size W2 w3:=(by first|exact hb3|exact (Below.refl W2.heap.size W2).drew.trans hb3);have hq:=VAt.below (w:=W2) (w':=w3) (b:=bL) (o:=oL+n*4) (v:=⟨uk,ui,us,ub⟩) ⟨v0,v1,v2,v3⟩ hbz;obtain ⟨x0,x1,x2,x3⟩:=hq;have cc3:=β (box_below HZ.out.1 hbz);have cz3:=β (box_below HZ.out.2.1 hbz);have fz3:=fun j=>frozen_of_row _ _ j _ _ (box_below HZ.out.2.1 hbz))|fail
        all_goals
         have hk3:=HK2.out.trans (hbz.mono HK2.out.size)
         have hbX:=HM.out.2.2.2.2.trans (hk3.mono HM.out.2.2.2.2.size)
         have hownX:=own_under HM.out.2.2.1 hk3
         have HBX:=κ (ι hownX hbX)
         clear hbz hb3 hk3 hbX hownX v0 v1 v2 v3 x0 x1 x2 x3 cc cc3 fz3 HRt cz
         go_wp2_with (at_builtin;refine wpList_app _ rfl (.tmp 53) (.tmp 55) _ rfl w.heap.size 31 iV _ 4 40 Tryz.underlying23 hiV hz0 hz1 hz2 rfl (by omega) _ _ _ _ rfl (HBX.out.1.alloc _) _ 1 1 (Lp.vv [⟨0,0,⟨#[]⟩,false⟩]) rfl rfl (rds_blk (Lp.vv [⟨0,0,⟨#[]⟩,false⟩]) (heap_alloc_new _ _)) (by simp [Value.oneCell',Lp.vv,Lp.V.cells]) (by simp only [maxLen];omega) (by omega) (by have:=(HBX.out.2).size;simp at this ⊢;omega) ?_;intro A4 c4 w4 hown4 hb4 _ _)
         have hbn:=((HBX.out.2).alloc (HBX.out.2).size _).trans hb4
         have hrow2:=rowOk_snoc HM.out.2.2.2.1 Lp.gd_null (fun _ _=>.inl rfl)
         rw [←Lp.vv_append] at hown4
         have HNX:=κ (ι hown4 (ι hrow2 hbn))
         clear hown4 hb4 hrow2 hbn
         go_wp2
         go_roundw
         case rel=>exact ⟨j+1,row++[⟨0,0,⟨#[]⟩,false⟩],A4,c4,n+1,by omega,by go_num,rfl,by rw [List.length_append, ←HM.out.1];rfl,by rw [HM.out.2.1];omega,by omega,HNX.out.1,HNX.out.2.1,HNX.out.2.2⟩
         case measure=>simp [intOf];omega
      | true =>
        by_cases huk:uk=kc
        ·subst huk
         have e1:(uk==uk)=true:=beq_self_eq_true uk
         go_wp2_with fail
         first|go_region_with (go_at_call 42;refine (HRt.out _).mono ?_;rintro e w3 ⟨rfl,hb3⟩;have hbz:Below W2.heap.size W2 w3:=(by first|exact hb3|exact (Below.refl W2.heap.size W2).drew.trans hb3);have hq:=VAt.below (w:=W2) (w':=w3) (b:=bL) (o:=oL+n*4) (v:=⟨uk,ui,us,ub⟩) ⟨v0,v1,v2,v3⟩ hbz;obtain ⟨x0,x1,x2,x3⟩:=hq;have cc3:=β (box_below HZ.out.1 hbz);have cz3:=β (box_below HZ.out.2.1 hbz);have fz3:=fun j=>frozen_of_row _ _ j _ _ (box_below HZ.out.2.1 hbz))|fail
         all_goals
          have hk3:=HK2.out.trans (hbz.mono HK2.out.size)
          have hzz3:=box_below HZ.out.2.1 hbz
          have hkS:=below_set4 hk3 (g:=wr.heap.size+1) (by omega) (.int .u8 uk) (.int .i64 ui) (.string us) (.bool ub)
          have hbX:=HM.out.2.2.2.2.trans (hkS.mono HM.out.2.2.2.2.size)
          have hownX:=own_under HM.out.2.2.1 hkS
          have HBX:=κ (ι hownX hbX)
          have HCS:=κ (β (set4_same hzz3 (.int .u8 uk) (.int .i64 ui) (.string us) (.bool ub)))
          have hkk:∀ k,(Lp.flatK (scOf l))[row.length]? = some k→(⟨uk,ui,us,ub⟩:Lp.V).k=0∨(⟨uk,ui,us,ub⟩:Lp.V).k=k:=fun k h=>by
           rw [←HM.out.1,HAT.out] at h
           injection h with h
           exact .inr h
          have HKK:=κ hkk
          clear hbz hb3 hk3 hbX hownX v0 v1 v2 v3 cc cc3 HRt hzz3 hkS hkk cz
          go_upto_region 12 with fail
          obtain ⟨V,hV⟩:∃ V,((((w3.setCell ⟨wr.heap.size+1,0,none⟩ (.int .u8 uk)).setCell ⟨wr.heap.size+1,1,none⟩ (.int .i64 ui)).setCell ⟨wr.heap.size+1,2,none⟩ (.string us)).setCell ⟨wr.heap.size+1,3,none⟩ (.bool ub))=V:=⟨_,rfl⟩
          have czV:=HCS.out
          have hbx:=HBX.out
          rw [hV] at czV hbx ⊢
          clear HCS HBX hV cz3 x0 x1 x2 x3 fz3
          have HBX:=κ hbx
          clear hbx
          go_wp2_with (at_builtin;refine wpList_app _ rfl (.tmp 53) (.tmp 55) _ rfl w.heap.size 31 iV _ 4 40 Tryz.underlying23 hiV hz0 hz1 hz2 rfl (by omega) _ _ _ _ rfl (HBX.out.1.alloc _) _ 1 1 (Lp.vv [⟨uk,ui,us,ub⟩]) rfl rfl (rds_blk (Lp.vv [⟨uk,ui,us,ub⟩]) (heap_alloc_new _ _)) (by simp [Value.oneCell',Lp.vv,Lp.V.cells]) (by simp only [maxLen];omega) (by omega) (by have:=(HBX.out.2).size;simp at this ⊢;omega) ?_;intro A4 c4 w4 hown4 hb4 _ _)
          have hbn:=((HBX.out.2).alloc (HBX.out.2).size _).trans hb4
          have hrow2:=rowOk_snoc HM.out.2.2.2.1 (HG.out (by first|trivial|rfl)) HKK.out
          rw [←Lp.vv_append] at hown4
          have HNX:=κ (ι hown4 (ι hrow2 hbn))
          clear hown4 hb4 hrow2 hbn
          go_wp2
          go_roundw
          case rel=>exact ⟨j+1,row++[⟨uk,ui,us,ub⟩],A4,c4,n+1,by omega,by go_num,rfl,by rw [List.length_append, ←HM.out.1];rfl,by rw [HM.out.2.1];omega,by omega,HNX.out.1,HNX.out.2.1,HNX.out.2.2⟩
          case measure=>simp [intOf];omega
        ·have e1:(uk==kc)=false:=beq_eq_false_iff_ne.2 huk
         clear huk
         go_wp2_with fail
         first|go_region_with (go_at_call 42;refine (HRt.out _).mono ?_;rintro e w3 ⟨rfl,hb3⟩;have hbz:Below W2.heap.size W2 w3:=(by first|exact hb3|exact (Below.refl W2.heap.size W2).drew.trans hb3);have hq:=VAt.below (w:=W2) (w':=w3) (b:=bL) (o:=oL+n*4) (v:=⟨uk,ui,us,ub⟩) ⟨v0,v1,v2,v3⟩ hbz;obtain ⟨x0,x1,x2,x3⟩:=hq;have cc3:=β (box_below HZ.out.1 hbz);have cz3:=β (box_below HZ.out.2.1 hbz);have fz3:=fun j=>frozen_of_row _ _ j _ _ (box_below HZ.out.2.1 hbz))|fail
         all_goals
          have hk3:=HK2.out.trans (hbz.mono HK2.out.size)
          have hbX:=HM.out.2.2.2.2.trans (hk3.mono HM.out.2.2.2.2.size)
          have hownX:=own_under HM.out.2.2.1 hk3
          have HBX:=κ (ι hownX hbX)
          clear hbz hb3 hk3 hbX hownX v0 v1 v2 v3 x0 x1 x2 x3 cc cc3 fz3 HRt cz
          go_wp2_with (at_builtin;refine wpList_app _ rfl (.tmp 53) (.tmp 55) _ rfl w.heap.size 31 iV _ 4 40 Tryz.underlying23 hiV hz0 hz1 hz2 rfl (by omega) _ _ _ _ rfl (HBX.out.1.alloc _) _ 1 1 (Lp.vv [⟨0,0,⟨#[]⟩,false⟩]) rfl rfl (rds_blk (Lp.vv [⟨0,0,⟨#[]⟩,false⟩]) (heap_alloc_new _ _)) (by simp [Value.oneCell',Lp.vv,Lp.V.cells]) (by simp only [maxLen];omega) (by omega) (by have:=(HBX.out.2).size;simp at this ⊢;omega) ?_;intro A4 c4 w4 hown4 hb4 _ _)
          have hbn:=((HBX.out.2).alloc (HBX.out.2).size _).trans hb4
          have hrow2:=rowOk_snoc HM.out.2.2.2.1 Lp.gd_null (fun _ _=>.inl rfl)
          rw [←Lp.vv_append] at hown4
          have HNX:=κ (ι hown4 (ι hrow2 hbn))
          clear hown4 hb4 hrow2 hbn
          go_wp2
          go_roundw
          case rel=>exact ⟨j+1,row++[⟨0,0,⟨#[]⟩,false⟩],A4,c4,n+1,by omega,by go_num,rfl,by rw [List.length_append, ←HM.out.1];rfl,by rw [HM.out.2.1];omega,by omega,HNX.out.1,HNX.out.2.1,HNX.out.2.2⟩
          case measure=>simp [intOf];omega
     ·clear hlx
      have cc:=β HZ.out.1
      have HBX:=κ (ι HZ.out.2.2.2 HZ.out.2.2.1)
      go_wp2_with fail
      go_quiet (fail)
      go_wp2_with (at_builtin;refine wpList_app _ rfl (.tmp 53) (.tmp 55) _ rfl w.heap.size 31 iV _ 4 40 Tryz.underlying23 hiV hz0 hz1 hz2 rfl (by omega) _ _ _ _ rfl (HBX.out.1.alloc _) _ 1 1 (Lp.vv [⟨0,0,⟨#[]⟩,false⟩]) rfl rfl (rds_blk (Lp.vv [⟨0,0,⟨#[]⟩,false⟩]) (heap_alloc_new _ _)) (by simp [Value.oneCell',Lp.vv,Lp.V.cells]) (by simp only [maxLen];omega) (by omega) (by have:=(HBX.out.2.trans (drewN_below2 w.heap.size W2 nq)).size;simp at this ⊢;omega) ?_;intro A4 c4 w4 hown4 hb4 _ _)
      have hbn:=((HBX.out.2.trans (drewN_below2 w.heap.size W2 nq)).alloc (HBX.out.2.trans (drewN_below2 w.heap.size W2 nq)).size _).trans hb4
      have hrow2:=rowOk_snoc HM.out.2.2.2.1 Lp.gd_null (fun _ _=>.inl rfl)
      rw [←Lp.vv_append] at hown4
      have HNX:=κ (ι hown4 (ι hrow2 hbn))
      clear hown4 hb4 hrow2 hbn
      go_wp2
      go_roundw
      case rel=>exact ⟨j+1,row++[⟨0,0,⟨#[]⟩,false⟩],A4,c4,n+1,by omega,by go_num,rfl,by rw [List.length_append, ←HM.out.1];rfl,by rw [HM.out.2.1];omega,by omega,HNX.out.1,HNX.out.2.1,HNX.out.2.2⟩
      case measure=>simp [intOf];omega
    ·have hj2:j=cs.length:=by omega
     have hwd:n=Lp.wide ((scOf l).take (t+1)):=by rw [wide_take1 _ (by simp [scOf];exact hlt),HSC.out,HM.out.2.1,hj2]
     have HW:=κ hwd
     clear hwd
     go_wp2
     go_roundw
     case rel=>exact ⟨t+1,row,Ao,co,n,by omega,by go_num,rfl,HM.out.1,HW.out,by omega,HM.out.2.2.1,HM.out.2.2.2.1,HM.out.2.2.2.2⟩
     case measure=>simp [intOf];omega
  ·have ht2:t=l.length:=by omega
   have hw:Lp.wide ((scOf l).take t)=Lp.wide (scOf l):=by rw [List.take_of_length_le (by simp [scOf];omega)]
   have HE:=κ (fit_end (sc:=scOf l) (w:=w) HN.out.1 HN.out.2.2.2.2 HN.out.2.2.1 (by rw [←HN.out.1,HN.out.2.1,hw]) HN.out.2.2.2.1)
   clear hw ht2
   go_wp2
   go_ret
   exact HE.out
end Go.Proofs.YtkfjmgmjbljnbaaGreatDoor
