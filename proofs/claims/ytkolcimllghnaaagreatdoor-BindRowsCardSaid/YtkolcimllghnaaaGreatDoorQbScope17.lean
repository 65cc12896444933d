/-
 Contracts. Conditions: those of each.
-/
import Derived.Test.YtkolcimllghnaaaGreatDoorQbZA
set_option maxRecDepth 100000
set_option maxHeartbeats 8000000
namespace Go.Proofs.YtkolcimllghnaaaGreatDoor
open Go.Proofs.Tryz
open Go.RowKit
theorem Ai (A:Option Addr) (c:Nat) (la:List dL) (most:Nat) (hmost:most≤2) (w:World) (hA:ScA w A la) :
 Calls prog 6 #[.slice A la.length c,.int .i64 (most:Nat)] w (ScPost most w):=by
 obtain ⟨iB,hiB,hB0,hB1,hB2⟩:=info_parts Lx
 obtain ⟨iM,hiM,hM0,hM1,hM2⟩:=info_parts Lw
 have HA:=κ hA
 clear hA
 go_enter func6,ntmps6
 go_wp2_with fail
 go_loopw [7,8,9,10,13] (fun s7 s8 _ _ s13 wr=>∃ (i:Nat) (l:List dL) (A1:Option Addr) (c1:Nat) (A2:Option Addr) (c2:Nat),i≤la.length∧i≤most∧i=l.length∧s13=.int .i64 i∧s7=.slice A1 i c1∧s8=.slice A2 i c2∧wr.ownsRow w.heap.size 50 2 (.slice A1 i c1) i (tbv l)∧wr.ownsRow w.heap.size 52 2 (.slice A2 i c2) i (tbv l)∧TabsIn wr w.heap.size l∧Below w.heap.size w wr) (fun _ _ _ _ s13 _=>la.length-(intOf s13).toNat)
 case atStart=>exact ⟨0,[],none,0,none,0,Nat.zero_le _,Nat.zero_le _,rfl,rfl,rfl,rfl,World.ownsRow_nil _ _ _ _,World.ownsRow_nil _ _ _ _,fun p hp=>absurd hp List.not_mem_nil,θ⟩
 case round =>
  obtain ⟨i,l,A1,c1,A2,c2,hi,hi2,hil,rfl,rfl,rfl,ho1,ho2,hTT,hb⟩:=hrel
  have HIL:=κ hil
  clear hil
  by_cases hlt:i<la.length
  ·obtain ⟨bT,oT,hAT,q0,q1⟩:=iA ((HA.out.below hb).1) hlt
   have hok:=(HA.out.below hb).2 _ (List.getElem_mem hlt)
   generalize (la[i])=p at *
   obtain ⟨⟨nm,cs⟩,At,ct⟩:=p
   simp only at q0 q1 hok
   subst hAT
   have HB:=κ (ι ho1 (ι ho2 (ι hTT hb)))
   have HK:=κ hok
   obtain ⟨s,hs⟩:∃ s:ByteArray,s=⟨nm.toArray⟩:=⟨_,rfl⟩
   rw [←hs] at q0
   have hbT:Below wr.heap.size wr (wr.alloc (.cells #[.string s,.slice At cs.length ct] 52)):=ρ
   have HF:=κ (Fg s At ct cs _ (hok.2.1.below hbT) hok.2.2.1 hok.2.2.2)
   have hzT:=heap_alloc_new wr (.cells #[.string s,.slice At cs.length ct] 52)
   have HT:=κ (ι hbT hzT)
   have HS:=κ hs
   clear ho1 ho2 hTT hb hok hbT hzT hs
   by_cases h2:i<most
   ·go_wp2_with fail
    refine μ HF ?_
    rintro e w1 ⟨hb1,A3,c3,cs3,rfl,ho3,h8,hc3,hok3⟩
    have hz1:=aA HT.out.2 hb1
    have hk1:=HT.out.1.trans (hb1.mono HT.out.1.size)
    have c1x:=β hz1
    have f1x:=fun j=>frozen_of_row _ _ j _ _ hz1
    have hz2:=heap_setCell_same _ wr.heap.size 1 _ _ (.slice A3 cs3.length c3) (heap_setCell_same w1 wr.heap.size 0 _ _ (.string s) hz1)
    rw [show ((#[Value.string s,.slice At cs.length ct]:Array Value).setIfInBounds 0 (.string s)).setIfInBounds 1 (.slice A3 cs3.length c3)=#[.string s,.slice A3 cs3.length c3] by simp] at hz2
    have hk2:=(hk1.setCell (p:=⟨wr.heap.size,0,none⟩) (ν _) (.string s)).setCell (p:=⟨wr.heap.size,1,none⟩) (ν _) (.slice A3 cs3.length c3)
    rw [World.size_alloc] at ho3
    have ho32:=World.ownsRow_setCell_lt (World.ownsRow_setCell_lt ho3 (a:=⟨wr.heap.size,0,none⟩) (Nat.lt_succ_self _) (.string s)) (a:=⟨wr.heap.size,1,none⟩) (Nat.lt_succ_self _) (.slice A3 cs3.length c3)
    have HZ:=κ (ι hz2 (ι hk2 ho32))
    have HC3:=κ (ι h8 (ι hc3 hok3))
    clear hb1 hz1 hk1 hz2 hk2 ho3 ho32 h8 hc3 hok3 q0 q1 HF
    go_upto_region 8 with fail
    obtain ⟨W2,hW2⟩:∃ W2,(w1.setCell ⟨wr.heap.size,0,none⟩ (.string s)).setCell ⟨wr.heap.size,1,none⟩ (.slice A3 cs3.length c3)=W2:=⟨_,rfl⟩
    rw [hW2] at HZ ⊢
    have c2x:=β HZ.out.1
    have HR:=κ (Av A3 c3 cs3 W2 (Rds.own HZ.out.2.2) HC3.out.2.1 (by have:=HC3.out.1;omega) (fun u hu=>(HC3.out.2.2 u hu).1))
    clear hW2 c1x f1x
    go_wp2_with fail
    refine μ HR ?_
    rintro e w3 ⟨⟨r,rfl,hds⟩,hb3⟩
    have hz3:=aA HZ.out.1 hb3
    have hk3:=HZ.out.2.1.trans (hb3.mono HZ.out.2.1.size)
    have hO1:=aQ HB.out.1 hk3
    have hO2:=aQ HB.out.2.1 hk3
    have hb5:=HB.out.2.2.2.trans (hk3.mono HB.out.2.2.2.size)
    have hTN:r=true→Sj w3 w.heap.size ((⟨nm,cs3⟩,A3,c3):dL):=fun hr=>⟨(aQ HZ.out.2.2 hb3).mono (Nat.le_trans HB.out.2.2.2.size (Nat.le_succ _)),HK.out.1,HC3.out.1,HC3.out.2.1,hds hr,HC3.out.2.2⟩
    have hTT:=fun hr=>TabsIn.snoc (TabsIn.below HB.out.2.2.1 hk3) (hTN hr)
    have cx:=β hz3
    have hsz:s.size≤9223372036854775807:=by
     have:=HK.out.1
     rw [HS.out]
     show nm.toArray.size≤_
     rw [List.size_toArray]
     exact this
    have HS3:=κ (ι hz3 (ι hk3 (ι hTN (ι hb5 hb5.size))))
    clear hz3 hk3 hb3 hTN c2x HR hb5
    cases r
    ·go_wp2
     go_ret3
     exact ScPost.no HS3.out.2.2.2.1
    ·replace hTT:=hTT rfl
     go_wp2_with fail
     refine (uA s _ hsz).mono ?_
     rintro e w' ⟨⟨r2,rfl⟩,rfl⟩
     cases r2
     ·go_wp2
      go_ret3
      exact ScPost.no HS3.out.2.2.2.1
     ·go_wp2_with fail
      go_region_held3 (fun w'=>w'.cell? ⟨wr.heap.size,0,none⟩=some (.string s)∧w'.cell? ⟨wr.heap.size,1,none⟩=some (.slice A3 cs3.length c3))
       (first|go_keep|exact hd2|exact hd3)
       (first
        | (refine eC _ rfl (.tmp 37) (.tmp 39) _ rfl w.heap.size 52 iM _ 2 40 underlying22 hiM hM0 hM1 hM2 rfl (by omega) _ _ _ (tbv l) rfl ?_ _ 1 1 [.string s,.slice A3 cs3.length c3] rfl rfl ?_ ?_ ?_ ?_ ?_ ?_
           ·exact (aQ hm4 (by repeat (first|exact θ|apply Below.drew|refine Below.alloc ?_ (by simp) _)))
           ·(first|exact cK _ _ _|exact mX (cK _ _ _)|exact bD [.string s,.slice A3 cs3.length c3] (aC (heap_alloc_new _ _) _)|exact bD [.string s,.slice A3 cs3.length c3] (bN _ _ _)|exact bD [.string s,.slice A3 cs3.length c3] (hk4 _ _ (bN _ _ _) (eI hO1 (Nat.le_succ _))).1|exact bD [.string s,.slice A3 cs3.length c3] (hk4 _ _ (heap_alloc_new _ _) (eI hO1 (ν _))).1|exact bD [.string s,.slice A3 cs3.length c3] (hk4 _ _ (aC (heap_alloc_new _ _) _) (eI hO1 (ν _))).1)
           ·simp [Value.oneCell']
           ·simp only [maxLen];omega
           ·omega
           ·(have:=HS3.out.2.2.2.2;have:=hb4.size;simp at *;omega)
           intro A5 c5 w5 hFm hb5 hg5 hk5
           have hFo:=kI (aQ ho4 (by repeat (first|exact θ|apply Below.drew|refine Below.alloc ?_ (by simp) _))) (aQ hm4 (by repeat (first|exact θ|apply Below.drew|refine Below.alloc ?_ (by simp) _))) (by decide) hg5
           have hFT:=TabsIn.two (TabsIn.below hT4 (by repeat (first|exact θ|apply Below.drew|refine Below.alloc ?_ (by simp) _))) (aQ hm4 (by repeat (first|exact θ|apply Below.drew|refine Below.alloc ?_ (by simp) _))) (by decide) hg5
           have hd3:=nQ (hk5 _ _ (aA hbx (by repeat (first|exact θ|apply Below.drew|refine Below.alloc ?_ (by simp) _))) (eI HB.out.2.1 (ν _))).1
           have hFb:=(hbA.trans ((by repeat (first|exact θ|apply Below.drew|refine Below.alloc ?_ (by simp) _):Below w4.heap.size w4 _).mono hbA.size)).trans hb5)
        | (refine eC _ rfl (.tmp 33) (.tmp 35) _ rfl w.heap.size 50 iB _ 2 40 underlying24 hiB hB0 hB1 hB2 rfl (by omega) _ _ _ (tbv l) rfl ?_ _ 1 1 [.string s,.slice A3 cs3.length c3] rfl rfl ?_ ?_ ?_ ?_ ?_ ?_
           ·exact (aQ ho5 (by repeat (first|exact θ|apply Below.drew|refine Below.alloc ?_ (by simp) _)))
           ·(first|exact cK _ _ _|exact mX (cK _ _ _)|exact bD [.string s,.slice A3 cs3.length c3] (aC (heap_alloc_new _ _) _)|exact bD [.string s,.slice A3 cs3.length c3] (bN _ _ _)|exact bD [.string s,.slice A3 cs3.length c3] (hk5 _ _ (bN _ _ _) (eI hO2 (Nat.le_succ _))).1|exact bD [.string s,.slice A3 cs3.length c3] (hk5 _ _ (heap_alloc_new _ _) (eI hO2 (ν _))).1|exact bD [.string s,.slice A3 cs3.length c3] (hk5 _ _ (aC (heap_alloc_new _ _) _) (eI hO2 (ν _))).1)
           ·simp [Value.oneCell']
           ·simp only [maxLen];omega
           ·omega
           ·(have:=HS3.out.2.2.2.2;have:=hb5.size;simp at *;omega)
           intro A4 c4 w4 hFo hb4 hg4 hk4
           have hFm:=kI (aQ hm5 (by repeat (first|exact θ|apply Below.drew|refine Below.alloc ?_ (by simp) _))) (aQ ho5 (by repeat (first|exact θ|apply Below.drew|refine Below.alloc ?_ (by simp) _))) (by decide) hg4
           have hFT:=TabsIn.two (TabsIn.below hT5 (by repeat (first|exact θ|apply Below.drew|refine Below.alloc ?_ (by simp) _))) (aQ ho5 (by repeat (first|exact θ|apply Below.drew|refine Below.alloc ?_ (by simp) _))) (by decide) hg4
           have hd3:=nQ (hk4 _ _ (aA hbx (by repeat (first|exact θ|apply Below.drew|refine Below.alloc ?_ (by simp) _))) (eI HB.out.1 (ν _))).1
           have hFb:=(hbA.trans ((by repeat (first|exact θ|apply Below.drew|refine Below.alloc ?_ (by simp) _):Below w5.heap.size w5 _).mono hbA.size)).trans hb4)
        | (refine eC _ rfl (.tmp 33) (.tmp 35) _ rfl w.heap.size 50 iB _ 2 40 underlying24 hiB hB0 hB1 hB2 rfl (by omega) _ _ _ (tbv l) rfl ?_ _ 1 1 [.string s,.slice A3 cs3.length c3] rfl rfl ?_ ?_ ?_ ?_ ?_ ?_
           ·exact (aQ hO1 (by repeat (first|exact θ|apply Below.drew|refine Below.alloc ?_ (by simp) _)))
           ·(first|exact cK _ _ _|exact mX (cK _ _ _)|exact bD [.string s,.slice A3 cs3.length c3] (aC (heap_alloc_new _ _) _)|exact bD [.string s,.slice A3 cs3.length c3] (bN _ _ _))
           ·simp [Value.oneCell']
           ·simp only [maxLen];omega
           ·omega
           ·(have:=HS3.out.2.2.2.2;simp at this ⊢;omega)
           intro A4 c4 w4 ho4 hb4 hg4 hk4
           have hm4:=kI (aQ hO2 (by repeat (first|exact θ|apply Below.drew|refine Below.alloc ?_ (by simp) _))) (aQ hO1 (by repeat (first|exact θ|apply Below.drew|refine Below.alloc ?_ (by simp) _))) (by decide) hg4
           have hT4:=TabsIn.two (TabsIn.below hTT (by repeat (first|exact θ|apply Below.drew|refine Below.alloc ?_ (by simp) _))) (aQ hO1 (by repeat (first|exact θ|apply Below.drew|refine Below.alloc ?_ (by simp) _))) (by decide) hg4
           have hbx:=(hk4 _ _ (aA HS3.out.1 (by repeat (first|exact θ|apply Below.drew|refine Below.alloc ?_ (by simp) _))) (eI HB.out.1 (ν _))).1
           have hd2:=nQ hbx
           have hbA:=(HS3.out.2.2.2.1.trans ((by repeat (first|exact θ|apply Below.drew|refine Below.alloc ?_ (by simp) _):Below w3.heap.size w3 _).mono HS3.out.2.2.2.2)).trans hb4
           have hs4:=hb4.size)
        | (refine eC _ rfl (.tmp 37) (.tmp 39) _ rfl w.heap.size 52 iM _ 2 40 underlying22 hiM hM0 hM1 hM2 rfl (by omega) _ _ _ (tbv l) rfl ?_ _ 1 1 [.string s,.slice A3 cs3.length c3] rfl rfl ?_ ?_ ?_ ?_ ?_ ?_
           ·exact (aQ hO2 (by repeat (first|exact θ|apply Below.drew|refine Below.alloc ?_ (by simp) _)))
           ·(first|exact cK _ _ _|exact mX (cK _ _ _)|exact bD [.string s,.slice A3 cs3.length c3] (aC (heap_alloc_new _ _) _)|exact bD [.string s,.slice A3 cs3.length c3] (bN _ _ _))
           ·simp [Value.oneCell']
           ·simp only [maxLen];omega
           ·omega
           ·(have:=HS3.out.2.2.2.2;simp at this ⊢;omega)
           intro A5 c5 w5 hm5 hb5 hg5 hk5
           have ho5:=kI (aQ hO1 (by repeat (first|exact θ|apply Below.drew|refine Below.alloc ?_ (by simp) _))) (aQ hO2 (by repeat (first|exact θ|apply Below.drew|refine Below.alloc ?_ (by simp) _))) (by decide) hg5
           have hT5:=TabsIn.two (TabsIn.below hTT (by repeat (first|exact θ|apply Below.drew|refine Below.alloc ?_ (by simp) _))) (aQ hO2 (by repeat (first|exact θ|apply Below.drew|refine Below.alloc ?_ (by simp) _))) (by decide) hg5
           have hbx:=(hk5 _ _ (aA HS3.out.1 (by repeat (first|exact θ|apply Below.drew|refine Below.alloc ?_ (by simp) _))) (eI HB.out.2.1 (ν _))).1
           have hd2:=nQ hbx
           have hbA:=(HS3.out.2.2.2.1.trans ((by repeat (first|exact θ|apply Below.drew|refine Below.alloc ?_ (by simp) _):Below w3.heap.size w3 _).mono HS3.out.2.2.2.2)).trans hb5
           have hs5:=hb5.size))
      all_goals
       rw [HS.out] at hFo hFm
       rw [←Lu l ((⟨nm,cs3⟩,A3,c3):dL)] at hFo hFm
       have HN:=κ (ι hFo (ι hFm (ι hFT hFb)))
       clear hFo hFm hFT hFb
       go_wp2
       go_roundw
       case rel=>exact ⟨i+1,l++[(⟨nm,cs3⟩,A3,c3)],A4,c4,A5,c5,by omega,by omega,by rw [List.length_append, ←HIL.out];rfl,by go_num,rfl,rfl,HN.out.1,HN.out.2.1,HN.out.2.2.1,HN.out.2.2.2⟩
       case measure=>simp [intOf];omega
   ·go_wp2
    go_ret3
    exact ScPost.yes HIL.out (by have:=HIL.out;omega) (HB.out.2.2.2.trans (HT.out.1.mono HB.out.2.2.2.size)) (aQ HB.out.1 HT.out.1) (aQ HB.out.2.1 HT.out.1) (TabsIn.below HB.out.2.2.1 HT.out.1)
  ·go_wp2
   go_ret3
   exact ScPost.yes HIL.out (by have:=HIL.out;omega) hb ho1 ho2 hTT
