/-
 Contracts and laws, joined. Conditions: those of each.
-/
import Derived.Test.YtkfjmgmjbljnbaaGreatDoorQOpenT
import Derived.Deep.QuietTactic
import Derived.BigQuiet
import Derived.Laws.OwnMore
import Derived.Deep.Onto
import Derived.Deep.RegionHeld3
set_option maxRecDepth 100000
set_option maxHeartbeats 8000000
namespace Go.Proofs.YtkfjmgmjbljnbaaGreatDoor
open Go.RowKit
theorem bal {w w':World} (h:Below w.heap.size w w') (o:Obj):Below w.heap.size w (w'.alloc o):=h.alloc h.size o
def SomeB (e:Ending):Prop:=∃ b,e=.returned (.bool b)
theorem SomeB.mk (b:Bool):SomeB (.returned (.bool b)):=⟨b,rfl⟩
theorem name11_any (s:ByteArray) (w:World) (hs:s.size≤9223372036854775807) :
 Calls Tryz.prog 41 #[.string s] w fun e w'=>SomeB e∧w=w':=by
 have hsI:(s.size:Int)≤9223372036854775807:=by omega
 by_cases h1:s.size<1
 ·go_enter Tryz.func41,Tryz.ntmps41
  go_wp2
  go_ret
  exact ⟨SomeB.mk _,rfl⟩
 ·by_cases h2:20<s.size
  ·go_enter Tryz.func41,Tryz.ntmps41
   go_wp2
   go_ret
   exact ⟨SomeB.mk _,rfl⟩
  ·have hb:s.size≤20:=by omega
   have hp:0<s.size:=by omega
   go_enter Tryz.func41,Tryz.ntmps41
   go_wp2_with fail
   all_goals first
    | (go_ret;exact ⟨SomeB.mk _,rfl⟩)
    | skip
   all_goals
    go_loop [3,4] (fun s3 _=>∃ i:Nat,i≤s.size∧s3=.int .i64 i) (fun s3 _=>s.size-(intOf s3).toNat)
    case atStart=>exact ⟨0,by omega,rfl⟩
    case round =>
     obtain ⟨i,hi,rfl⟩:=hrel
     by_cases hlt:i<s.size
     ·go_wp2
      all_goals first
       | (go_ret;exact ⟨SomeB.mk _,rfl⟩)
       | skip
      all_goals
       go_round
       case rel=>exact ⟨i+1,by omega,by go_num⟩
       case measure=>simp [intOf];omega
     ·go_wp2
      go_ret
      exact ⟨SomeB.mk _,rfl⟩
theorem colv_cells {w:World} {A:Option Addr} {cs:List Lp.Col} (h:Rds w A (colv cs)) {i:Nat} (hi:i<cs.length):∃ b off,A=some ⟨b,off,none⟩∧w.cell? ⟨b,off+i*2,none⟩=some (.string ⟨(cs[i]).n.toArray⟩)∧w.cell? ⟨b,off+i*2+1,none⟩=some (.int .u8 (cs[i]).k):=by
 obtain ⟨h0,h1⟩:=colv_at hi
 rcases h with hn|⟨b,off,rfl,hc⟩
 ·rw [hn] at h0;simp at h0
 ·exact ⟨b,off,rfl,hc _ _ h0,by rw [Nat.add_assoc];exact hc _ _ h1⟩
theorem right11_any (A:Option Addr) (c:Nat) (cs:List Lp.Col) (w:World) (h:Rds w A (colv cs)) (hc:cs.length≤c) (hn:cs.length≤10) (hok:∀ u∈cs,ColOk u) :
 Calls Tryz.prog 40 #[.slice A cs.length c] w fun e w'=>SomeB e∧Below w.heap.size w w':=by
 have HR:=κ h
 have HO:=κ hok
 have hcI:(cs.length:Int)≤(c:Int):=by omega
 have hnI:(cs.length:Int)≤10:=by omega
 clear h hok
 go_enter Tryz.func40,Tryz.ntmps40
 go_wp2_with fail
 go_loopw [3,4,9] (fun _ _ s9 wr=>∃ i:Nat,i≤cs.length∧s9=.int .i64 i∧Below w.heap.size w wr) (fun _ _ s9 _=>cs.length-(intOf s9).toNat)
 case atStart=>exact ⟨0,Nat.zero_le _,rfl,Below.refl _ _⟩
 case round =>
  obtain ⟨i,hi,rfl,hb⟩:=hrel
  by_cases hlt:i<cs.length
  ·obtain ⟨b,off,rfl,q0,q1⟩:=colv_cells (HR.out.below hb) hlt
   have hlen:=(HO.out _ (List.getElem_mem hlt)).1
   obtain ⟨s,hs⟩:∃ s:ByteArray,s=⟨(cs[i]).n.toArray⟩:=⟨_,rfl⟩
   obtain ⟨k,hk⟩:∃ k,k=(cs[i]).k:=⟨_,rfl⟩
   have hsz:s.size≤9223372036854775807:=by
    rw [hs]
    show (cs[i]).n.toArray.size≤_
    rw [List.size_toArray]
    unfold maxLen at hlen
    omega
   rw [←hs] at q0
   rw [←hk] at q1
   clear hs hk hlen
   go_wp2_with fail
   refine (name11_any s _ hsz).mono ?_
   rintro e w' ⟨⟨r,rfl⟩,rfl⟩
   have hbX:Below w.heap.size w (wr.alloc (.cells #[.string s,.int .u8 k] 55)):=hb.alloc hb.size _
   have hzX:=heap_alloc_new wr (.cells #[.string s,.int .u8 k] 55)
   have HB:=κ (ι hbX (ι hzX hb))
   clear hbX hzX q0 q1 hb
   generalize hW4:wr.alloc (.cells #[.string s,.int .u8 k] 55)=W4 at *
   have HW4:=κ hW4
   have cx:=β HB.out.2.1
   clear hW4
   cases r
   ·go_wp2
    go_ret
    exact ⟨SomeB.mk _,HB.out.1⟩
   ·go_wp2_with fail
    all_goals first
     | (go_ret;exact ⟨SomeB.mk _,HB.out.1⟩)
     | skip
    all_goals
     clear cx
     go_loopw [6,32] (fun _ s32 w5=>∃ j:Nat,j≤i∧s32=.int .i64 j∧Below W4.heap.size W4 w5) (fun _ s32 _=>i-(intOf s32).toNat)
     case atStart=>exact ⟨0,Nat.zero_le _,rfl,Below.refl _ _⟩
     case round =>
      rename_i w5
      obtain ⟨j,hj,rfl,hb5⟩:=hrel
      have hbT:=HB.out.1.trans (hb5.mono HB.out.1.size)
      have HBT:=κ (ι hbT hb5)
      by_cases hjlt:j<i
      ·obtain ⟨b',off',hA,p0,p1⟩:=colv_cells (HR.out.below hbT) (show j<cs.length by omega)
       simp only [Option.some.injEq,Addr.mk.injEq,and_true] at hA
       obtain ⟨rfl,rfl⟩:=hA
       have cx:=β (box_alloc (box_below HB.out.2.1 hb5) (.cells #[.string ⟨(cs[j]).n.toArray⟩,.int .u8 (cs[j]).k] 55))
       generalize (⟨(cs[j]).n.toArray⟩:ByteArray)=s2 at *
       generalize (cs[j]).k=k2 at *
       clear hbT hb5
       go_wp2
       all_goals first
        | (go_ret;exact ⟨SomeB.mk _,HBT.out.1.alloc HBT.out.1.size _⟩)
        | skip
       all_goals
        go_roundw
        case rel=>exact ⟨j+1,by omega,by go_num,HBT.out.2.alloc HBT.out.2.size _⟩
        case measure=>simp [intOf];omega
      ·clear hbT hb5
       go_wp2
       go_roundw
       case rel=>exact ⟨i+1,by omega,by go_num,HBT.out.1⟩
       case measure=>simp [intOf];omega
  ·go_wp2
   all_goals (go_ret;exact ⟨SomeB.mk _,hb⟩)
theorem colInfo:(Tryz.prog.info? 55).map (fun i=>(i.zero,i.size,i.bytes))=some (some (.agg #[.string ⟨#[]⟩,.int .u8 0]),2,24):=by kernel_rfl
def FewPost (s:ByteArray) (w:World) (e:Ending) (w':World):Prop :=
 Below w.heap.size w w'∧∃ A c cs,e=.returned (.agg #[.string s,.slice A cs.length c])∧w'.ownsRow w.heap.size 55 2 (.slice A cs.length c) cs.length (colv cs)∧cs.length≤8∧cs.length≤c∧∀ u∈cs,ColOk u∧1≤u.k∧u.k≤3
theorem colv_take (cs:List Lp.Col) (n:Nat):colv (cs.take n)=(colv cs).take (n*2):=by
 induction cs generalizing n with
 | nil=>simp [colv]
 | cons c cs ih =>
   cases n with
   | zero=>simp [colv]
   | succ n =>
     have:=ih n
     show [Value.string ⟨c.n.toArray⟩,.int .u8 c.k]++colv (cs.take n)=([Value.string ⟨c.n.toArray⟩,.int .u8 c.k]++colv cs).take ((n+1)*2)
     rw [this,show (n+1)*2=n*2+1+1 by omega]
     rfl
theorem colv_len (cs:List Lp.Col):(colv cs).length=cs.length*2:=flat_len (f:=colC) (n:=2) (fun _=>rfl) cs
theorem colv_one (cs:List Lp.Col):∀ u∈colv cs,u.oneCell'=true:=by
 intro u hu
 unfold colv at hu
 obtain ⟨c, -,hc⟩:=List.mem_flatMap.1 hu
 simp only [List.mem_cons,List.not_mem_nil,or_false] at hc
 rcases hc with rfl|rfl<;>rfl
theorem colv_set {cs:List Lp.Col} {i:Nat} (hi:i<cs.length) (k:Int):(colv cs).set (i*2+1) (.int .u8 k)=colv (cs.set i ⟨(cs[i]).n,k⟩):=by
 induction cs generalizing i with
 | nil=>simp at hi
 | cons c cs ih =>
   cases i with
   | zero=>rfl
   | succ i =>
     have:=ih (i:=i) (by simpa using hi)
     have e:colv (c::cs)=Value.string ⟨c.n.toArray⟩::.int .u8 c.k::colv cs:=rfl
     rw [e,show (i+1)*2+1=(i*2+1)+1+1 by omega,List.set_cons_succ,List.set_cons_succ,this]
     rfl
def FewCs (i:Nat) (cs:List Lp.Col):Prop:=(∀ u∈cs,ColOk u)∧∀ j (h:j<cs.length),j<i→1≤(cs[j]).k∧(cs[j]).k≤3
theorem FewCs.next {i:Nat} {cs:List Lp.Col} (h:FewCs i cs) (hi:i<cs.length) {k:Int} (h1:1≤k) (h2:k≤3):FewCs (i+1) (cs.set i ⟨(cs[i]).n,k⟩):=by
 refine ⟨fun u hu => ?_,fun j hj hlt => ?_⟩
 ·rcases List.mem_or_eq_of_mem_set hu with hu|rfl
  ·exact h.1 u hu
  ·exact ⟨(h.1 _ (List.getElem_mem hi)).1,by show 0≤k;omega,by show k≤255;omega⟩
 ·rw [List.getElem_set]
  split
  ·exact ⟨h1,h2⟩
  ·exact h.2 j (by simpa using hj) (by omega)
theorem FewCs.all {cs:List Lp.Col} (h:FewCs cs.length cs):∀ u∈cs,ColOk u∧1≤u.k∧u.k≤3:=by
 intro u hu
 obtain ⟨j,hj,rfl⟩:=List.getElem_of_mem hu
 exact ⟨h.1 _ hu,h.2 j hj hj⟩
theorem World.ownsRow_setCell_lt {w:World} {base:Nat} {e:TypeId} {size:Nat} {v:Value} {n:Nat} {xs:List Value} (h:w.ownsRow base e size v n xs) {a:Addr} (ha:a.block<base) (u:Value):(w.setCell a u).ownsRow base e size v n xs:=ownsRow_setCell_below h ha u
theorem few_ne {k g n c:Nat} (h:k<g):some k≠Value.ownBlock (.slice (some ⟨g,0,none⟩) n c):=by
 show some k≠some g
 intro e
 injection e with e
 omega
theorem few17r_any (s:ByteArray) (A:Option Addr) (c:Nat) (cs:List Lp.Col) (w:World) (h:Rds w A (colv cs)) (hc:cs.length≤c) (hok:∀ u∈cs,ColOk u) :
 Calls Tryz.prog 39 #[.agg #[.string s,.slice A cs.length c]] w (FewPost s w):=by
 obtain ⟨iC,hiC,hz0,hz1,hz2⟩:=info_parts colInfo
 have hm:(min (cs.length:Int) 8).toNat=min cs.length 8:=by omega
 have h0:(0:Int)≤min (cs.length:Int) 8:=by omega
 have h1:min (cs.length:Int) 8≤(cs.length:Int):=by omega
 have h2:min (cs.length:Int) 8≤(c:Int):=by omega
 have h3:(min cs.length 8)≤8:=by omega
 have hb0:Below w.heap.size w ((w.alloc (.cells #[.string s,.slice A cs.length c] 90)).alloc (.cells #[.string ⟨#[]⟩,.slice none 0 0] 90)):=bal (bal (Below.refl _ _) _) _
 have hbl:Below w.heap.size w (((w.alloc (.cells #[.string s,.slice A cs.length c] 90)).alloc (.cells #[.string ⟨#[]⟩,.slice none 0 0] 90)).alloc (.cells #[] 55)):=bal hb0 _
 have hown:(((w.alloc (.cells #[.string s,.slice A cs.length c] 90)).alloc (.cells #[.string ⟨#[]⟩,.slice none 0 0] 90)).alloc (.cells #[] 55)).ownsRow (w.heap.size+1+1) 55 2 (.slice (some ⟨w.heap.size+1+1,0,none⟩) 0 0) 0 []:=by
  have:=World.ownsRow_lit (base:=w.heap.size+1+1) (e:=55) (size:=2) ((w.alloc (.cells #[.string s,.slice A cs.length c] 90)).alloc (.cells #[.string ⟨#[]⟩,.slice none 0 0] 90)) #[] 0 (by simp) (Nat.zero_le _) rfl
  simpa using this
 have hrd:Rds (((w.alloc (.cells #[.string s,.slice A cs.length c] 90)).alloc (.cells #[.string ⟨#[]⟩,.slice none 0 0] 90)).alloc (.cells #[] 55)) A (colv (cs.take (min cs.length 8))):=by
  rw [colv_take]
  exact (h.below hbl).take _
 have hx:=box_alloc (box_alloc (heap_alloc_new w (.cells #[.string s,.slice A cs.length c] 90)) (.cells #[.string ⟨#[]⟩,.slice none 0 0] 90)) (.cells #[] 55)
 have hr:=box_alloc (heap_new2 w (.cells #[.string s,.slice A cs.length c] 90) (.cells #[.string ⟨#[]⟩,.slice none 0 0] 90)) (.cells #[] 55)
 have hcl:(cs.take (min cs.length 8)).length=(min cs.length 8):=by rw [List.length_take];omega
 have hF0:FewCs 0 (cs.take (min cs.length 8)):=⟨fun u hu=>hok u (List.mem_of_mem_take hu),fun j _ hj=>by omega⟩
 have HX:=κ (ι hx (ι hr (ι hbl (ι hcl hF0))))
 have HO:=κ hown
 have HR:=κ hrd
 have hcl2:(colv (cs.take (min cs.length 8))).length=(min cs.length 8)*2:=by rw [colv_len,hcl]
 have HC:=κ hcl2
 have HCO:=κ (colv_one (cs.take (min cs.length 8)))
 have hcI:((min cs.length 8:Nat):Int)≤8:=by omega
 clear hx hr hbl hcl hF0 hown hrd hcl2 hb0 h hok
 go_enter Tryz.func39,Tryz.ntmps39
 go_wp2_with (at_builtin;go_loud (refine wpList_app _ rfl (.tmp 4) (.tmp 11) _ rfl (w.heap.size+1+1) 55 iC _ 2 24 Tryz.underlying56 hiC hz0 hz1 hz2 rfl (by omega) _ _ _ _ rfl HO.out _ (min cs.length 8) _ (colv (cs.take (min cs.length 8))) rfl HC.out HR.out HCO.out (by simp only [maxLen];omega) (by omega) (by simp) ?_;intro A4 c4 w4 hown4 hb4 _ hk4;rw [List.nil_append,Nat.zero_add] at hown4;rw [Nat.zero_add] at hk4 ⊢;obtain ⟨hx,hxn⟩:=hk4 _ _ HX.out.1 (few_ne (by omega));obtain ⟨hr, -⟩:=hk4 _ _ HX.out.2.1 (few_ne (by omega));have cx4:=β hx;have fx4:=fun j=>frozen_of_row _ _ j _ _ hx))
 have hb5:=HX.out.2.2.1.trans (hb4.mono (Nat.le_trans (Nat.le_succ _) (Nat.le_succ _)))
 have hown5:=World.ownsRow_setCell_lt hown4 (a:=⟨w.heap.size,1,none⟩) (by show w.heap.size<w.heap.size+1+1;omega) (.slice A4 (min cs.length 8) c4)
 have hx5:=heap_setCell_same w4 w.heap.size 1 _ _ (.slice A4 (min cs.length 8) c4) hx
 rw [show (#[Value.string s,.slice A cs.length c]:Array Value).setIfInBounds 1 (.slice A4 (min cs.length 8) c4)=#[.string s,.slice A4 (min cs.length 8) c4] by simp] at hx5
 have hr5:=(Below.heap_setCell w4 ⟨w.heap.size,1,none⟩ (.slice A4 (min cs.length 8) c4) (w.heap.size+1) (by show w.heap.size+1≠w.heap.size;omega)).trans hr
 have hb6:=hb5.setCell (p:=⟨w.heap.size,1,none⟩) (Nat.le_refl _) (.slice A4 (min cs.length 8) c4)
 have hF0:=HX.out.2.2.2.2
 have hcl:=HX.out.2.2.2.1
 generalize (w4.setCell ⟨w.heap.size,1,none⟩ (.slice A4 (min cs.length 8) c4))=W5 at *
 generalize cs.take (min cs.length 8)=ct at *
 have HI:=κ (ι hown5 (ι hx5 (ι hr5 (ι hb6 (ι hF0 hcl)))))
 clear hown5 hx5 hr5 hb6 hF0 hcl hb5 cx4 fx4 hx hxn hr hk4 hb4 hown4 HO HR HC HCO HX
 go_loopw [3,17] (fun _ s17 wr=>∃ (i:Nat) (ct:List Lp.Col),i≤min cs.length 8∧s17=.int .i64 i∧ct.length=min cs.length 8∧wr.ownsRow (w.heap.size+1+1) 55 2 (.slice A4 (min cs.length 8) c4) (min cs.length 8) (colv ct)∧FewCs i ct ∧
  wr.heap[w.heap.size]? = some (.cells #[.string s,.slice A4 (min cs.length 8) c4] 90 (0,0))∧wr.heap[w.heap.size+1]? = some (.cells #[.string ⟨#[]⟩,.slice none 0 0] 90 (0,0))∧Below w.heap.size w wr) (fun _ s17 _=>min cs.length 8-(intOf s17).toNat)
 case atStart=>exact ⟨0,ct,Nat.zero_le _,rfl,HI.out.2.2.2.2.2,HI.out.1,HI.out.2.2.2.2.1,HI.out.2.1,HI.out.2.2.1,HI.out.2.2.2.1⟩
 case round =>
  obtain ⟨i,ct,hi,rfl,hcl,hown,hF,hx,hr,hb⟩:=hrel
  generalize min cs.length 8=m at *
  by_cases hlt:i<m
  ·obtain ⟨g4,cap,hv, -⟩:=hown.form (by omega)
   injection hv with hA4 h7 h8
   clear h7 h8
   subst hA4
   obtain ⟨b,off,hA,q0,q1⟩:=colv_cells (Rds.own hown) (show i<ct.length by omega)
   simp only [Option.some.injEq,Addr.mk.injEq,and_true] at hA
   obtain ⟨rfl,rfl⟩:=hA
   have hk:=hF.1 _ (List.getElem_mem (show i<ct.length by omega))
   have hk0:=hk.2.1
   have hk1:=hk.2.2
   have cx:=β hx
   have fo:=hown.frozenAt
   simp only [Nat.zero_add] at q0 q1
   generalize (ct[i]'(by omega)).k=kd at *
   have HS:=κ (ι hcl (ι hown (ι hF (ι hx (ι hr hb)))))
   clear q0 hk hcl hown hF hx hr hb HI
   go_wp2_with fail
   go_region
   obtain ⟨hcl,hown,hF,hx,hr,hb⟩:=HS.out
   have hg4:=(hown.lt g4 rfl).1
   have ho2:=(hown.stored (i*2+1) (.int .u8 (1+kd % 3))).1
   rw [colv_set (show i<ct.length by omega)] at ho2
   have hF2:=hF.next (show i<ct.length by omega) (k:=1+kd % 3) (by omega) (by omega)
   have hx2:=(Below.heap_setCell wr ⟨g4,i*2+1,none⟩ (.int .u8 (1+kd % 3)) w.heap.size (by show w.heap.size≠g4;omega)).trans hx
   have hr2:=(Below.heap_setCell wr ⟨g4,i*2+1,none⟩ (.int .u8 (1+kd % 3)) (w.heap.size+1) (by show w.heap.size+1≠g4;omega)).trans hr
   have hb2:=hb.setCell (p:=⟨g4,i*2+1,none⟩) (by show w.heap.size≤g4;omega) (.int .u8 (1+kd % 3))
   have hl2:(ct.set i ⟨(ct[i]'(by omega)).n,1+kd % 3⟩).length=m:=by rw [List.length_set];exact hcl
   have hN:=ι hl2 (ι ho2.drew (ι hF2 (ι hx2 (ι hr2 hb2.drew))))
   generalize ct.set i ⟨(ct[i]'(by omega)).n,1+kd % 3⟩=ct2 at hN
   have HN:=κ hN
   clear hcl hown hF hx hr hb hg4 ho2 hF2 hx2 hr2 hb2 hl2 hN HS cx fo q1
   go_wp2
   go_roundw
   case rel=>exact ⟨i+1,_,by omega,by go_num,HN.out.1,HN.out.2.1,HN.out.2.2.1,HN.out.2.2.2.1,HN.out.2.2.2.2.1,HN.out.2.2.2.2.2⟩
   case measure=>simp [intOf];omega
  ·have hi2:i=ct.length:=by omega
   have hok2:=(hi2▸hF).all
   have cx:=β hx
   have cr:=β hr
   have fr:=fun j=>frozen_of_row _ _ j _ _ hr
   have hm8:ct.length≤8:=by omega
   have hcap:ct.length≤c4:=by
    rcases hown.2 with ⟨hv,h0⟩|⟨g,cap,cur,hv, -, -,hnc, -⟩
    ·omega
    ·injection hv with _ _ hv
     omega
   have hm2:m=ct.length:=by omega
   subst hm2
   have hr3:=heap_setCell_same _ (w.heap.size+1) 1 _ _ (.slice A4 ct.length c4) (heap_setCell_same wr (w.heap.size+1) 0 _ _ (.string s) hr)
   have hb3:=(hb.setCell (p:=⟨w.heap.size+1,0,none⟩) (Nat.le_succ _) (.string s)).setCell (p:=⟨w.heap.size+1,1,none⟩) (Nat.le_succ _) (.slice A4 ct.length c4)
   have HCE:=κ (β hr3)
   have hrd2:=(World.ownsRow_setCell_lt (World.ownsRow_setCell_lt hown (a:=⟨w.heap.size+1,0,none⟩) (by show w.heap.size+1<_;omega) (.string s)) (a:=⟨w.heap.size+1,1,none⟩) (by show w.heap.size+1<_;omega) (.slice A4 ct.length c4)).mono (base':=w.heap.size) (by omega)
   have HE:=κ (show FewPost s w (.returned (.agg #[.string s,.slice A4 ct.length c4])) ((wr.setCell ⟨w.heap.size+1,0,none⟩ (.string s)).setCell ⟨w.heap.size+1,1,none⟩ (.slice A4 ct.length c4)) from ⟨hb3,A4,c4,ct,rfl,hrd2,hm8,hcap,hok2⟩)
   clear hown hx hr hb hb3 hrd2 hok2 hF hr3 hi2
   go_wp2
   have hcE:=HCE.out
   simp only [List.setIfInBounds_toArray,List.set_cons_zero,List.set_cons_succ] at hcE
   exact bodyPost_ret (v:=.agg #[.string s,.slice A4 ct.length c4]) (by simp [results,Tryz.results39,go_sem,hcE]) rfl HE.out
theorem own_twoS {w w':World} {B1 B2 n1 n2 s1 s2:Nat} {e1 e2:TypeId} {v1 v2:Value} {x1 x2:List Value} (h1:w.ownsRow B1 e1 s1 v1 n1 x1) (h2:w.ownsRow B2 e2 s2 v2 n2 x2) (hne:e2≠e1) (hg:w.grownBy w' v2.ownBlock) :
 w'.ownsRow B1 e1 s1 v1 n1 x1:=by
 refine h1.kept hg ?_
 rcases h1.2 with ⟨rfl,_⟩|⟨g,cap,cur,rfl,_,hgg,_⟩
 ·exact .inl rfl
 ·exact .inr (own_ne h2 hgg hne)
def TabIn (W:World) (B:Nat) (p:TabA):Prop:=W.ownsRow B 55 2 (.slice p.2.1 p.1.cs.length p.2.2) p.1.cs.length (colv p.1.cs)∧p.1.n.length≤maxLen∧p.1.cs.length≤8∧p.1.cs.length≤p.2.2∧∀ u∈p.1.cs,ColOk u∧1≤u.k∧u.k≤3
def TabsIn (W:World) (B:Nat) (l:List TabA):Prop:=∀ p∈l,TabIn W B p
theorem TabsIn.below {W W':World} {B:Nat} {l:List TabA} (h:TabsIn W B l) (hb:Below W.heap.size W W'):TabsIn W' B l:=fun p hp=>⟨own_under (h p hp).1 hb,(h p hp).2⟩
theorem TabsIn.two {W W':World} {B B2 n2 s2:Nat} {e2:TypeId} {v2:Value} {x2:List Value} {l:List TabA} (h:TabsIn W B l) (h2:W.ownsRow B2 e2 s2 v2 n2 x2) (hne:e2≠55) (hg:W.grownBy W' v2.ownBlock):TabsIn W' B l :=
 fun p hp=>⟨own_twoS (h p hp).1 h2 hne hg,(h p hp).2⟩
theorem TabsIn.snoc {W:World} {B:Nat} {l:List TabA} {p:TabA} (h:TabsIn W B l) (hp:TabIn W B p):TabsIn W B (l++[p]):=fun q hq=>by
 rcases List.mem_append.1 hq with hq|hq
 ·exact h q hq
 ·rw [List.mem_singleton] at hq;rw [hq];exact hp
theorem tbv_snoc (l:List TabA) (p:TabA):tbv (l++[p])=tbv l++[.string ⟨p.1.n.toArray⟩,.slice p.2.1 p.1.cs.length p.2.2]:=by simp [tbv]
theorem tbv_cells {w:World} {A:Option Addr} {l:List TabA} (h:Rds w A (tbv l)) {i:Nat} (hi:i<l.length):∃ b off,A=some ⟨b,off,none⟩∧w.cell? ⟨b,off+i*2,none⟩=some (.string ⟨(l[i]).1.n.toArray⟩)∧w.cell? ⟨b,off+i*2+1,none⟩=some (.slice (l[i]).2.1 (l[i]).1.cs.length (l[i]).2.2):=by
 obtain ⟨h0,h1⟩:=tbv_at hi
 rcases h with hn|⟨b,off,rfl,hc⟩
 ·rw [hn] at h0;simp at h0
 ·exact ⟨b,off,rfl,hc _ _ h0,by rw [Nat.add_assoc];exact hc _ _ h1⟩
theorem two_cells {w:World} {g:Nat} {a b:Value} {t:TypeId} (h:w.heap[g]? = some (.cells #[a,b] t (0,0))):w.cell? ⟨g,0,none⟩=some a∧w.cell? ⟨g,1,none⟩=some b:=⟨β h 0,β h 1⟩
theorem tabInfoB:(Tryz.prog.info? 58).map (fun i=>(i.zero,i.size,i.bytes))=some (some (.agg #[.string ⟨#[]⟩,.slice none 0 0]),2,40):=by kernel_rfl
theorem tabInfoM:(Tryz.prog.info? 90).map (fun i=>(i.zero,i.size,i.bytes))=some (some (.agg #[.string ⟨#[]⟩,.slice none 0 0]),2,40):=by kernel_rfl
def ScPost (most:Nat) (w:World) (e:Ending) (w':World):Prop :=
 Below w.heap.size w w'∧((e=.returned (.tuple #[.slice none 0 0,.slice none 0 0,.bool false]))∨∃ (l:List TabA) (A1:Option Addr) (c1:Nat) (A2:Option Addr) (c2:Nat),e=.returned (.tuple #[.slice A1 l.length c1,.slice A2 l.length c2,.bool true])∧ScA w' A1 l∧ScA w' A2 l∧l.length≤most ∧
  ∀ p∈l,p.1.cs.length≤8∧∀ u∈p.1.cs,1≤u.k∧u.k≤3)
theorem ScPost.no {most:Nat} {w w':World} (hb:Below w.heap.size w w'):ScPost most w (.returned (.tuple #[.slice none 0 0,.slice none 0 0,.bool false])) w':=⟨hb,.inl rfl⟩
theorem ScPost.yes {most:Nat} {w w':World} {B1 n:Nat} {l:List TabA} {A1 A2:Option Addr} {c1 c2:Nat} (hn:n=l.length) (hm:l.length≤most) (hb:Below w.heap.size w w') (h1:w'.ownsRow B1 58 2 (.slice A1 n c1) n (tbv l)) (h2:w'.ownsRow B1 90 2 (.slice A2 n c2) n (tbv l)) (hT:TabsIn w' B1 l) :
 ScPost most w (.returned (.tuple #[.slice A1 n c1,.slice A2 n c2,.bool true])) w':=by
 subst hn
 have ok:∀ u∈l,TabOk w' u:=fun u hu=>⟨(hT u hu).2.1,Rds.own (hT u hu).1,(hT u hu).2.2.2.1,fun c hc=>((hT u hu).2.2.2.2 c hc).1⟩
 exact ⟨hb,.inr ⟨l,A1,c1,A2,c2,rfl,⟨Rds.own h1,ok⟩,⟨Rds.own h2,ok⟩,hm,fun p hp=>⟨(hT p hp).2.2.1,fun u hu=>((hT p hp).2.2.2.2 u hu).2⟩⟩⟩
def scOf (l:List TabA):List Lp.Tb:=l.map (·.1)
theorem ScA.scm {w:World} {A:Option Addr} {l:List TabA} (h:ScA w A l):ScM w A (scOf l):=⟨l,rfl,h.1,fun p hp=>(h.2 p hp).2.1⟩
theorem scOf_len (l:List TabA):(scOf l).length=l.length:=by simp [scOf]
theorem wide_scOf:∀ {l:List TabA},(∀ p∈l,p.1.cs.length≤8)→Lp.wide (scOf l)≤8*l.length
 | [],_=>by simp [Lp.wide,scOf]
 | p::l,h=>by
   have h1:=wide_scOf (l:=l) (fun q hq=>h q (by simp [hq]))
   have h2:=h p (by simp)
   have e:Lp.wide (scOf (p::l))=p.1.cs.length+Lp.wide (scOf l):=by simp [Lp.wide,scOf]
   rw [e,List.length_cons]
   omega
end Go.Proofs.YtkfjmgmjbljnbaaGreatDoor
