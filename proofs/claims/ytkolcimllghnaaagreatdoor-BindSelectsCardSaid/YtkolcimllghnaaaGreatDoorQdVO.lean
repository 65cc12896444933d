/-
 Contracts. Conditions: those of each.
-/
import Derived.Test.YtkolcimllghnaaaGreatDoorQdVN
import Derived.Laws.OwnMore
set_option maxRecDepth 100000
set_option maxHeartbeats 8000000
namespace Go.Proofs.YtkolcimllghnaaaGreatDoor
open Lp Go.Proofs.Tryz
open Go.RowKit
variable{i n:Nat}{w:World}
theorem kE {A:ZT} {cs:List Col} (h:Rds w A (jD cs)) (hi:i<cs.length):∃ b off,A=some ⟨b,off,none⟩∧w.cell? ⟨b,off+i*2,none⟩=some (.string ⟨(cs[i]).n.toArray⟩)∧w.cell? ⟨b,off+i*2+1,none⟩=some (.int .u8 (cs[i]).k):=by
 obtain ⟨h0,h1⟩:=tI hi;rcases h with hn|⟨b,off,rfl,hc⟩
 ·rw [hn] at h0;simp at h0
 ·exact qh
def RightP (cs:List Col) (e:Ending):Prop:=∃ b,e=.returned (.bool b)∧(b=true->Ew cs)
theorem RightP.no (cs:List Col):RightP cs (.returned (.bool false)):=⟨false,rfl,λh=>lq⟩
theorem RightP.of {cs:List Col} (h:Ew cs) (b:Bool):RightP cs (.returned (.bool b)):=⟨b,rfl,λ_=>h⟩
def Apart (n:ZS) (l:List Col):Prop:=∀ a∈l,n≠a.n
theorem Apart.next {n:ZS} {cs:List Col} {j:Nat} (h:Apart n (cs.take j)) (hj:j<cs.length) (hne:((cs[j]).n==n)=false):Apart n (cs.take (j+1)):=by
 intro a ha;rw [List.take_succ_eq_append_getElem hj] at ha;rcases List.mem_append.1 ha with ha|ha
 ·exact h a ha
 ·rw [List.mem_singleton] at ha;rintro rfl;rw [ha] at hne;simp at hne
theorem Ry {cs:List Col} (h:Ew (cs.take i)) (hi:i<cs.length) (ha:Apart (cs[i]).n (cs.take i)) (hn:1≤(cs[i]).n.length∧(cs[i]).n.length≤20):Ew (cs.take (i+1)):=by
 rw [List.take_succ_eq_append_getElem hi];refine ⟨List.pairwise_append.2 ⟨h.1,List.pairwise_singleton _ _,λa hm b hb => ?_⟩,λu hu => ?_⟩
 ·rw [List.mem_singleton] at hb;rw [hb];exact ha a hm
 ·rcases List.mem_append.1 hu with hu|hu
  ·exact h.2 u hu
  ·rw [List.mem_singleton] at hu;rw [hu];exact hn
theorem Gd (A:ZT) (c:Nat) (cs:List Col) (w:World) (h:Rds w A (jD cs)) (hc:cs.length≤c) (hn:cs.length≤10) (hok:∀ u∈cs,rL u) :
 Calls prog 25 #[.slice A cs.length c] w λe w'=>RightP cs e∧Below w w w':=by
 have HR:=da;have HO:=κ hok;have hcI:(cs.length:Int)≤(c:Int):=ac
 have hnI:(cs.length:Int)≤10:=ac
 clear h hok;go_enter func25,ntmps25;go_wp2_with fail
 go_loopw [3,4,9] (λ_ _ s9 wr=>∃ i:Nat,i≤cs.length∧s9=.int .i64 i∧Below w w wr∧Ew (cs.take i)) (λ_ _ s9 _=>cs.length-(intOf s9).toNat)
 case atStart=>exact ⟨0,Nat.zero_le _,rfl,θ,List.Pairwise.nil,λu hu=>by simp at hu⟩
 case round =>
  obtain ⟨i,hi,rfl,hb,hdi⟩:=dd
  by_cases hlt:i<cs.length
  ·obtain ⟨b,off,rfl,q0,q1⟩:=kE (HR.o.below hb) hlt;have hlen:=(HO.o _ (List.getElem_mem hlt)).1;have HD:=κ (λ(ha:Apart (cs[i]).n (cs.take i)) (hn:1≤(cs[i]).n.length∧(cs[i]).n.length≤20)=>Ry hdi hlt ha hn);obtain ⟨n,hs⟩:∃ n,(cs[i]).n=n:=cw;obtain ⟨k,hk⟩:∃ k,k=(cs[i]).k:=cw;rw [hs] at q0 hlen HD;have hsz:(n:ByteArray).size≤9223372036854775807:=by
    show n.toArray.size≤_;rw [List.size_toArray];unfold maxLen at hlen;omega
   rw [<-hk] at q1;clear hs hk hlen hdi;go_wp2_with fail;refine (xV _ _ hsz).mono ?_;rintro e w' ⟨⟨r,rfl,hnm⟩,rfl⟩;have HNm:=κ hnm;clear hnm;have hbX:Below w w (wr.alloc (.cells #[n,.int .u8 k] 116)):=hb.alloc hb.size _;have hzX:=heap_alloc_new wr (.cells #[n,.int .u8 k] 116);have HB:=κ (ι hbX (ι hzX hb));clear hbX hzX q0 q1 hb;generalize hW4:wr.alloc (.cells #[n,.int .u8 k] 116)=W4 at *;have HW4:=κ hW4;have cx:=β HB.o.2.1;clear hW4;cases r
   ·go_wp2;go_ret;exact ⟨RightP.no _,HB.o.1⟩
   ·go_wp2_with fail
    all_goals first
     | (go_ret;exact ⟨RightP.no _,HB.o.1⟩)
     | skip
    all_goals
     clear cx
     go_loopw [6,32] (λ_ s32 w5=>∃ j:Nat,j≤i∧s32=.int .i64 j∧Below W4 W4 w5∧Apart n (cs.take j)) (λ_ s32 _=>i-(intOf s32).toNat)
     case atStart=>exact ⟨0,Nat.zero_le _,rfl,θ,λa ha=>by simp at ha⟩
     case round =>
      rename_i w5
      obtain ⟨j,hj,rfl,hb5,hap⟩:=dd;have hbT:=HB.o.1.trans (hb5.mono HB.o.1.size);have HBT:=κ (ι hbT hb5)
      by_cases hjlt:j<i
      ·obtain ⟨b',off',hA,p0,p1⟩:=kE (HR.o.below hbT) (show j<cs.length by omega);simp only [Option.some.injEq,Addr.mk.injEq,and_true] at hA;obtain ⟨rfl,rfl⟩:=hA;have cx:=β (aB (aA HB.o.2.1 hb5) (.cells #[.string ⟨(cs[j]).n.toArray⟩,.int .u8 (cs[j]).k] 116));have hjc:j<cs.length:=ac
       have HA:=κ (λ(h:((cs[j]).n==n)=false)=>hap.next hjc h);generalize (cs[j]).n=n2 at *;generalize (cs[j]).k=k2 at *;clear hbT hb5 hap;cases he:(n2==n)
       ·have HA2:=κ (HA.o he);clear HA;go_wp2
        go_roundw
        case rel=>exact ⟨j+1,ac,de,HBT.o.2.alloc HBT.o.2.size _,HA2.o⟩
        case measure=>simp [intOf];omega
       ·go_wp2;go_ret;exact ⟨RightP.no _,HBT.o.1.alloc HBT.o.1.size _⟩
      ·have hji:j=i:=ac
       subst hji;have HD2:=κ (HD.o hap (by have:=HNm.o (by first|exact rfl|exact True.intro);rwa [show (n:ByteArray).size=n.length from List.size_toArray] at this));clear hbT hb5 hap;go_wp2
       go_roundw
       case rel=>exact ⟨j+1,ac,de,HBT.o.1,HD2.o⟩
       case measure=>simp [intOf];omega
  ·have hD:Ew cs:=by rwa [List.take_of_length_le ac] at hdi
   clear hdi;go_wp2
   all_goals (go_ret;exact ⟨RightP.of hD _,hb⟩)
theorem aFH:(prog.info? 116).map (λi=>(i.zero,i.size,i.bytes))=some (some (.agg #[(),.int .u8 0]),2,24):=aj
def Oq (s:ByteArray) (w:World) (e:Ending) (w':World):Prop :=
 Below w w w'∧∃ A c cs,e=.returned (.agg #[s,.slice A cs.length c])∧w'.ownsRow w 116 2 (.slice A cs.length c) cs.length (jD cs)∧cs.length≤8∧cs.length≤c∧∀ u∈cs,rL u∧1≤u.k∧u.k≤3
theorem Sd (cs:List Col) (n:Nat):jD (cs.take n)=(jD cs).take (n*2):=by
 induction cs generalizing n with
 | nil=>simp [jD]
 | cons c cs ih =>
   cases n with
   | zero=>simp [jD]
   | succ n =>
     have:=ih n;show [Value.string ⟨c.n.toArray⟩,.int .u8 c.k]++jD (cs.take n)=([Value.string ⟨c.n.toArray⟩,.int .u8 c.k]++jD cs).take ((n+1)*2);rw [this,show (n+1)*2=n*2+1+1 by omega];rfl
theorem Zy (cs:List Col):(jD cs).length=cs.length*2:=pW (f:=aJC) (n:=2) (λ_=>rfl) cs
theorem Zx (cs:List Col):∀ u∈jD cs,u.oneCell'=true:=by
 intro u hu;unfold jD at hu;obtain ⟨c, -,hc⟩:=List.mem_flatMap.1 hu;simp only [List.mem_cons,List.not_mem_nil,or_false] at hc;rcases hc with rfl|rfl<;>rfl
theorem Zw {cs:List Col} (hi:i<cs.length) (k:Int):(jD cs).set (i*2+1) (.int .u8 k)=jD (cs.set i ⟨(cs[i]).n,k⟩):=by
 induction cs generalizing i with
 | nil=>simp at hi
 | cons c cs ih =>
   cases i with
   | zero=>rfl
   | succ i =>
     have:=ih (i:=i) mq;have e:jD (c::cs)=Value.string ⟨c.n.toArray⟩::.int .u8 c.k::jD cs:=rfl;rw [e,show (i+1)*2+1=(i*2+1)+1+1 by omega,List.set_cons_succ,List.set_cons_succ,this];rfl
def FewCs (i:Nat) (cs:List Col):Prop:=(∀ u∈cs,rL u)∧∀ j (h:j<cs.length),j<i->1≤(cs[j]).k∧(cs[j]).k≤3
theorem FewCs.next {cs:List Col} (h:FewCs i cs) (hi:i<cs.length) {k:Int} (h1:1≤k) (h2:k≤3):FewCs (i+1) (cs.set i ⟨(cs[i]).n,k⟩):=by
 refine ⟨λu hu => ?_,λj hj hlt => ?_⟩
 ·rcases List.mem_or_eq_of_mem_set hu with hu|rfl
  ·exact h.1 u hu
  ·exact ⟨(h.1 _ (List.getElem_mem hi)).1,by show 0≤k;omega,by show k≤255;omega⟩
 ·rw [List.getElem_set]
  split
  ·exact ⟨h1,h2⟩
  ·exact h.2 j ll ac
theorem FewCs.all {cs:List Col} (h:FewCs cs.length cs):∀ u∈cs,rL u∧1≤u.k∧u.k≤3:=by
 intro u hu;obtain ⟨j,hj,rfl⟩:=List.getElem_of_mem hu;exact ⟨h.1 _ hu,h.2 j hj hj⟩
theorem World.ownsRow_setCell_lt {base:Nat} {e:TypeId} {size:Nat} {v:Value} {xs:ZU} (h:w.ownsRow base e size v n xs) {a:Addr} (ha:a.block<base) (u:Value):(w.setCell a u).ownsRow base e size v n xs:=ownsRow_setCell_below h ha u
theorem Yz {k g c:Nat} (h:k<g):some k≠Value.ownBlock (.slice (some ⟨g,0,none⟩) n c):=by
 show some k≠some g;intro e;injection e with e;omega
theorem Ls (s:ByteArray) (A:ZT) (c:Nat) (cs:List Col) (w:World) (h:Rds w A (jD cs)) (hc:cs.length≤c) (hok:∀ u∈cs,rL u) :
 Calls prog 24 #[.agg #[s,.slice A cs.length c]] w (Oq s w):=by
 obtain ⟨iC,hiC,hz0,hz1,hz2⟩:=info_parts aFH;have hm:(min (cs.length:Int) 8).toNat=min cs.length 8:=ac
 have h0:(0:Int)≤min (cs.length:Int) 8:=ac
 have h1:min (cs.length:Int) 8≤(cs.length:Int):=ac
 have h2:min (cs.length:Int) 8≤(c:Int):=ac
 have h3:(min cs.length 8)≤8:=ac
 have hb0:Below w w ((w.alloc (.cells #[s,.slice A cs.length c] 52)).alloc (.cells #[(),.slice none 0 0] 52)):=bal (bal (θ) _) _;have hbl:Below w w (((w.alloc (.cells #[s,.slice A cs.length c] 52)).alloc (.cells #[(),.slice none 0 0] 52)).alloc (.cells #[] 116)):=bal hb0 _;have hown:(((w.alloc (.cells #[s,.slice A cs.length c] 52)).alloc (.cells #[(),.slice none 0 0] 52)).alloc (.cells #[] 116)).ownsRow (w+1+1) 116 2 (.slice (some ⟨w+1+1,0,none⟩) 0 0) 0 []:=by
  have:=World.ownsRow_lit (base:=w.heap.size+1+1) (e:=116) (size:=2) ((w.alloc (.cells #[s,.slice A cs.length c] 52)).alloc (.cells #[(),.slice none 0 0] 52)) #[] 0 aa (Nat.zero_le _) rfl
  simpa using this
 have hrd:Rds (((w.alloc (.cells #[s,.slice A cs.length c] 52)).alloc (.cells #[(),.slice none 0 0] 52)).alloc (.cells #[] 116)) A (jD (cs.take (min cs.length 8))):=by
  rw [Sd];exact (h.below hbl).take _
 have hx:=aB (aB (heap_alloc_new w (.cells #[s,.slice A cs.length c] 52)) (.cells #[(),.slice none 0 0] 52)) (.cells #[] 116);have hr:=aB (bG w (.cells #[s,.slice A cs.length c] 52) (.cells #[(),.slice none 0 0] 52)) (.cells #[] 116);have hcl:(cs.take (min cs.length 8)).length=(min cs.length 8):=rx
 have hF0:FewCs 0 (cs.take (min cs.length 8)):=⟨λu hu=>hok u (List.mem_of_mem_take hu),λj _ hj=>ac⟩;have HX:=κ (ι hx (ι hr (ι hbl (ι hcl hF0))));have HO:=κ hown;have HR:=κ hrd;have hcl2:(jD (cs.take (min cs.length 8))).length=(min cs.length 8)*2:=by rw [Zy,hcl]
 have HC:=κ hcl2;have HCO:=κ (Zx (cs.take (min cs.length 8)));have hcI:((min cs.length 8:Nat):Int)≤8:=ac
 clear hx hr hbl hcl hF0 hown hrd hcl2 hb0 h hok;go_enter func24,ntmps24;go_wp2_with (at_builtin;go_loud (refine bJ _ rfl (.tmp 4) (.tmp 11) _ rfl (w+1+1) 116 iC _ 2 24 underlying33 hiC hz0 hz1 hz2 rfl ac _ _ _ _ rfl HO.o _ (min cs.length 8) _ (jD (cs.take (min cs.length 8))) rfl HC.o HR.o HCO.o kt ac aa ?_;intro A4 c4 w4 hown4 hb4 _ hk4;rw [List.nil_append,Nat.zero_add] at hown4;rw [Nat.zero_add] at hk4 |-;obtain ⟨hx,hxn⟩:=hk4 _ _ HX.o.1 (Yz ac);obtain ⟨hr, -⟩:=hk4 _ _ HX.o.2.1 (Yz ac);have cx4:=β hx;have fx4:=λj=>frozen_of_row _ _ j _ _ hx));have hb5:=HX.o.2.2.1.trans (hb4.mono (Nat.le_trans (Nat.le_succ _) (Nat.le_succ _)));have hown5:=World.ownsRow_setCell_lt hown4 (a:=⟨w,1,none⟩) (by show w<w.heap.size+1+1;omega) (.slice A4 (min cs.length 8) c4);have hx5:=heap_setCell_same w4 w 1 _ _ (.slice A4 (min cs.length 8) c4) hx;rw [show (#[Value.string s,.slice A cs.length c]:ZV).setIfInBounds 1 (.slice A4 (min cs.length 8) c4)=#[.string s,.slice A4 (min cs.length 8) c4] by simp] at hx5;have hr5:=(Below.heap_setCell w4 ⟨w,1,none⟩ (.slice A4 (min cs.length 8) c4) (w+1) (by show w.heap.size+1≠w.heap.size;omega)).trans hr;have hb6:=hb5.setCell (p:=⟨w,1,none⟩) (ν _) (.slice A4 (min cs.length 8) c4);have hF0:=HX.o.2.2.2.2;have hcl:=HX.o.2.2.2.1
 generalize (w4.setCell ⟨w,1,none⟩ (.slice A4 (min cs.length 8) c4))=W5 at *;generalize cs.take (min cs.length 8)=ct at *;have HI:=κ (ι hown5 (ι hx5 (ι hr5 (ι hb6 (ι hF0 hcl)))));clear hown5 hx5 hr5 hb6 hF0 hcl hb5 cx4 fx4 hx hxn hr hk4 hb4 hown4 HO HR HC HCO HX
 go_loopw [3,17] (λ_ s17 wr=>∃ (i:Nat) (ct:List Col),i≤min cs.length 8∧s17=.int .i64 i∧ct.length=min cs.length 8∧wr.ownsRow (w+1+1) 116 2 (.slice A4 (min cs.length 8) c4) (min cs.length 8) (jD ct)∧FewCs i ct ∧
  wr.heap[w.heap.size]? = some (.cells #[s,.slice A4 (min cs.length 8) c4] 52 (0,0))∧wr.heap[w.heap.size+1]? = some (.cells #[(),.slice none 0 0] 52 (0,0))∧Below w w wr) (λ_ s17 _=>min cs.length 8-(intOf s17).toNat)
 case atStart=>exact ⟨0,ct,Nat.zero_le _,rfl,HI.o.2.2.2.2.2,HI.o.1,HI.o.2.2.2.2.1,HI.o.2.1,HI.o.2.2.1,HI.o.2.2.2.1⟩
 case round =>
  obtain ⟨i,ct,hi,rfl,hcl,hown,hF,hx,hr,hb⟩:=dd;generalize min cs.length 8=m at *
  by_cases hlt:i<m
  ·obtain ⟨g4,cap,hv, -⟩:=hown.form ac;injection hv with hA4 h7 h8;clear h7 h8;subst hA4;obtain ⟨b,off,hA,q0,q1⟩:=kE (Rds.own hown) (show i<ct.length by omega);simp only [Option.some.injEq,Addr.mk.injEq,and_true] at hA;obtain ⟨rfl,rfl⟩:=hA;have hk:=hF.1 _ (List.getElem_mem (show i<ct.length by omega));have hk0:=hk.2.1;have hk1:=hk.2.2;have cx:=β hx;have fo:=hown.frozenAt;simp only [Nat.zero_add] at q0 q1;generalize (ct[i]' ac).k=kd at *;have HS:=κ (ι hcl (ι hown (ι hF (ι hx (ι hr hb)))));clear q0 hk hcl hown hF hx hr hb HI;go_wp2_with fail
   go_region
   obtain ⟨hcl,hown,hF,hx,hr,hb⟩:=HS.o;have hg4:=(hown.lt g4 rfl).1;have ho2:=(hown.stored (i*2+1) (.int .u8 (1+kd % 3))).1;rw [Zw (show i<ct.length by omega)] at ho2;have hF2:=hF.next (show i<ct.length by omega) (k:=1+kd % 3) ac ac;have hx2:=(Below.heap_setCell wr ⟨g4,i*2+1,none⟩ (.int .u8 (1+kd % 3)) w (by show w.heap.size≠g4;omega)).trans hx;have hr2:=(Below.heap_setCell wr ⟨g4,i*2+1,none⟩ (.int .u8 (1+kd % 3)) (w+1) (by show w.heap.size+1≠g4;omega)).trans hr;have hb2:=hb.setCell (p:=⟨g4,i*2+1,none⟩) (by show w.heap.size≤g4;omega) (.int .u8 (1+kd % 3));have hl2:(ct.set i ⟨(ct[i]' ac).n,1+kd % 3⟩).length=m:=by rw [List.length_set];exact hcl
   have hN:=ι hl2 (ι ho2.drew (ι hF2 (ι hx2 (ι hr2 hb2.drew))));generalize ct.set i ⟨(ct[i]' ac).n,1+kd % 3⟩=ct2 at hN;have HN:=κ hN;clear hcl hown hF hx hr hb hg4 ho2 hF2 hx2 hr2 hb2 hl2 hN HS cx fo q1;go_wp2
   go_roundw
   case rel=>exact ⟨i+1,_,ac,de,HN.o.1,HN.o.2.1,HN.o.2.2.1,HN.o.2.2.2.1,HN.o.2.2.2.2.1,HN.o.2.2.2.2.2⟩
   case measure=>simp [intOf];omega
  ·have hi2:i=ct.length:=ac
   have hok2:=(hi2▸hF).all;have cx:=β hx;have cr:=β hr;have fr:=λj=>frozen_of_row _ _ j _ _ hr;have hm8:ct.length≤8:=ac
   have hcap:ct.length≤c4:=by
    rcases hown.2 with ⟨hv,h0⟩|⟨g,cap,cur,hv, -, -,hnc, -⟩
    ·omega
    ·injection hv with _ _ hv;omega
   have hm2:m=ct.length:=ac
   subst hm2;have hr3:=heap_setCell_same _ (w+1) 1 _ _ (.slice A4 ct.length c4) (heap_setCell_same wr (w+1) 0 _ _ (.string s) hr);have hb3:=(hb.setCell (p:=⟨w+1,0,none⟩) (Nat.le_succ _) (.string s)).setCell (p:=⟨w+1,1,none⟩) (Nat.le_succ _) (.slice A4 ct.length c4);have HCE:=κ (β hr3);have hrd2:=(World.ownsRow_setCell_lt (World.ownsRow_setCell_lt hown (a:=⟨w+1,0,none⟩) (by show w.heap.size+1<_;omega) (.string s)) (a:=⟨w+1,1,none⟩) (by show w.heap.size+1<_;omega) (.slice A4 ct.length c4)).mono (base':=w.heap.size) ac;have HE:=κ (show Oq s w (.returned (.agg #[s,.slice A4 ct.length c4])) ((wr.setCell ⟨w+1,0,none⟩ (.string s)).setCell ⟨w+1,1,none⟩ (.slice A4 ct.length c4)) from ⟨hb3,A4,c4,ct,rfl,hrd2,hm8,hcap,hok2⟩);clear hown hx hr hb hb3 hrd2 hok2 hF hr3 hi2;go_wp2;have hcE:=HCE.o;simp only [List.setIfInBounds_toArray,List.set_cons_zero,List.set_cons_succ] at hcE;exact bodyPost_ret (v:=.agg #[s,.slice A4 ct.length c4]) (by simp [results,results24,go_sem,hcE]) rfl HE.o
