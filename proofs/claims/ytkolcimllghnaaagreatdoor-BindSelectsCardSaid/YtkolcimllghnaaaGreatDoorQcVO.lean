/-
 Contracts. Conditions: those of each.
-/
import Derived.Test.YtkolcimllghnaaaGreatDoorQcVN
import Derived.Laws.OwnMore
set_option maxRecDepth 100000
set_option maxHeartbeats 8000000
namespace Go.Proofs.YtkolcimllghnaaaGreatDoor
open Lp Go.Proofs.Tryz
open Go.RowKit
variable{B B1 B2 g i most n n2 s2:Nat}{e2:TypeId}{v2:Value}{W W' w w':World}{A:ZT}{x2:ZU}
theorem kE {cs:List Col} (h:Rds w A (jD cs)) (hi:i<cs.length):∃ b off,A=some ⟨b,off,none⟩/\w.cell? ⟨b,off+i*2,none⟩=some (.string ⟨(cs[i]).n.toArray⟩)/\w.cell? ⟨b,off+i*2+1,none⟩=some (.int .u8 (cs[i]).k):=by
 obtain ⟨h0,h1⟩:=tI hi;rcases h with hn|⟨b,off,rfl,hc⟩
 ·rw [hn] at h0;simp at h0
 ·exact ID
def RightP (cs:List Col) (e:Ending):Prop:=∃ b,e=.returned (.bool b)/\(b=true->Ew cs)
theorem RightP.no (cs:List Col):RightP cs (.returned (.bool false)):=⟨false,rfl,λh=>ao⟩
theorem RightP.of {cs:List Col} (h:Ew cs) (b:Bool):RightP cs (.returned (.bool b)):=⟨b,rfl,λ_=>h⟩
def Apart (n:ZS) (l:List Col):Prop:=∀ a∈l,n≠a.n
theorem Apart.next {n:ZS} {cs:List Col} {j:Nat} (h:Apart n (cs.take j)) (hj:j<cs.length) (hne:((cs[j]).n==n)=false):Apart n (cs.take (j+1)):=by
 intro a ha;rw [List.take_succ_eq_append_getElem hj] at ha;rcases List.mem_append.1 ha with ha|ha
 ·exact h a ha
 ·rw [List.mem_singleton] at ha;rintro rfl;rw [ha] at hne;simp at hne
theorem Ry {cs:List Col} (h:Ew (cs.take i)) (hi:i<cs.length) (ha:Apart (cs[i]).n (cs.take i)) (hn:1<=(cs[i]).n.length/\(cs[i]).n.length<=20):Ew (cs.take (i+1)):=by
 rw [List.take_succ_eq_append_getElem hi];refine ⟨List.pairwise_append.2 ⟨h.1,List.pairwise_singleton _ _,λa hm b hb => ?_⟩,λu hu => ?_⟩
 ·rw [List.mem_singleton] at hb;rw [hb];exact ha a hm
 ·rcases List.mem_append.1 hu with hu|hu
  ·exact h.2 u hu
  ·rw [List.mem_singleton] at hu;rw [hu];exact hn
theorem Gd (A:ZT) (c:Nat) (cs:List Col) (w:World) (h:Rds w A (jD cs)) (hc:cs.length<=c) (hn:cs.length<=10) (hok:∀ u∈cs,rL u) :
 Calls prog 25 #[.slice A cs.length c] w λe w'=>RightP cs e/\Below w w w':=by
 have HR:=db;have HO:=κ hok;have hcI:(cs.length:Int)<=(c:Int):=ac
 have hnI:(cs.length:Int)<=10:=ac
 clear h hok;go_enter func25,ntmps25;go_wp2_with fail
 go_loopw [3,4,9] (λ_ _ s9 wr=>∃ i:Nat,i<=cs.length/\s9=.int .i64 i/\Below w w wr/\Ew (cs.take i)) (λ_ _ s9 _=>cs.length-(intOf s9).toNat)
 case atStart=>exact ⟨0,Nat.zero_le _,rfl,θ,List.Pairwise.nil,λu hu=>by simp at hu⟩
 case round =>
  obtain ⟨i,hi,rfl,hb,hdi⟩:=de
  by_cases hlt:i<cs.length
  ·obtain ⟨b,off,rfl,q0,q1⟩:=kE (HR.o.below hb) hlt;have hlen:=(HO.o _ (List.getElem_mem hlt)).1;have HD:=κ (λ(ha:Apart (cs[i]).n (cs.take i)) (hn:1<=(cs[i]).n.length/\(cs[i]).n.length<=20)=>Ry hdi hlt ha hn);obtain ⟨n,hs⟩:∃ n,(cs[i]).n=n:=da;obtain ⟨k,hk⟩:∃ k,k=(cs[i]).k:=da;rw [hs] at q0 hlen HD;have hsz:(n:ByteArray).size<=9223372036854775807:=by
    show n.toArray.size<=_;rw [List.size_toArray];unfold maxLen at hlen;omega
   rw [<-hk] at q1;clear hs hk hlen hdi;go_wp2_with fail;refine (xV _ _ hsz).mono ?_;rintro e w' ⟨⟨r,rfl,hnm⟩,rfl⟩;have HNm:=κ hnm;clear hnm;have hbX:Below w w (wr.alloc (.cells #[n,.int .u8 k] 116)):=hb.alloc hb.size _;have hzX:=heap_alloc_new wr (.cells #[n,.int .u8 k] 116);have HB:=κ (ι hbX (ι hzX hb));clear hbX hzX q0 q1 hb;generalize hW4:wr.alloc (.cells #[n,.int .u8 k] 116)=W4 at *;have HW4:=κ hW4;have cx:=β HB.o.2.1;clear hW4;cases r
   ·go_wp2;go_ret;exact ⟨RightP.no _,HB.o.1⟩
   ·go_wp2_with fail
    all_goals first
     | (go_ret;exact ⟨RightP.no _,HB.o.1⟩)
     | skip
    all_goals
     clear cx
     go_loopw [6,32] (λ_ s32 w5=>∃ j:Nat,j<=i/\s32=.int .i64 j/\Below W4 W4 w5/\Apart n (cs.take j)) (λ_ s32 _=>i-(intOf s32).toNat)
     case atStart=>exact ⟨0,Nat.zero_le _,rfl,θ,λa ha=>by simp at ha⟩
     case round =>
      rename_i w5
      obtain ⟨j,hj,rfl,hb5,hap⟩:=de;have hbT:=HB.o.1.trans (hb5.mono HB.o.1.size);have HBT:=κ (ι hbT hb5)
      by_cases hjlt:j<i
      ·obtain ⟨b',off',hA,p0,p1⟩:=kE (HR.o.below hbT) (show j<cs.length by omega);simp only [Option.some.injEq,Addr.mk.injEq,and_true] at hA;obtain ⟨rfl,rfl⟩:=hA;have cx:=β (aB (aA HB.o.2.1 hb5) (.cells #[.string ⟨(cs[j]).n.toArray⟩,.int .u8 (cs[j]).k] 116));have hjc:j<cs.length:=ac
       have HA:=κ (λ(h:((cs[j]).n==n)=false)=>hap.next hjc h);generalize (cs[j]).n=n2 at *;generalize (cs[j]).k=k2 at *;clear hbT hb5 hap;cases he:(n2==n)
       ·have HA2:=κ (HA.o he);clear HA;go_wp2
        go_roundw
        case rel=>exact ⟨j+1,ac,dg,HBT.o.2.alloc HBT.o.2.size _,HA2.o⟩
        case measure=>simp [intOf];omega
       ·go_wp2;go_ret;exact ⟨RightP.no _,HBT.o.1.alloc HBT.o.1.size _⟩
      ·have hji:j=i:=ac
       subst hji;have HD2:=κ (HD.o hap (by have:=HNm.o (by first|exact rfl|exact True.intro);rwa [show (n:ByteArray).size=n.length from List.size_toArray] at this));clear hbT hb5 hap;go_wp2
       go_roundw
       case rel=>exact ⟨j+1,ac,dg,HBT.o.1,HD2.o⟩
       case measure=>simp [intOf];omega
  ·have hD:Ew cs:=by rwa [List.take_of_length_le ac] at hdi
   clear hdi;go_wp2
   all_goals (go_ret;exact ⟨RightP.of hD _,hb⟩)
theorem aFH:(prog.info? 116).map (λi=>(i.zero,i.size,i.bytes))=some (some (.agg #[(),.int .u8 0]),2,24):=aj
def Oq (s:ByteArray) (w:World) (e:Ending) (w':World):Prop :=
 Below w w w'/\∃ A c cs,e=.returned (.agg #[s,.slice A cs.length c])/\w'.ownsRow w 116 2 (.slice A cs.length c) cs.length (jD cs)/\cs.length<=8/\cs.length<=c/\∀ u∈cs,rL u/\1<=u.k/\u.k<=3
theorem Sd (cs:List Col) (n:Nat):jD (cs.take n)=(jD cs).take (n*2):=by
 induction cs generalizing n with
 | nil=>simp [jD]
 | cons c cs ih =>
   cases n with
   | zero=>simp [jD]
   | succ n =>
     have:=ih n;show [Value.string ⟨c.n.toArray⟩,.int .u8 c.k]++jD (cs.take n)=([Value.string ⟨c.n.toArray⟩,.int .u8 c.k]++jD cs).take ((n+1)*2);rw [this,show (n+1)*2=n*2+1+1 by omega];rfl
theorem Zy (cs:List Col):(jD cs).length=cs.length*2:=pW (f:=aJC) (n:=2) (λ_=>rfl) cs
theorem Zx (cs:List Col):∀ u∈jD cs,u.oneCell'=true:=by
 intro u hu;unfold jD at hu;obtain ⟨c, -,hc⟩:=List.mem_flatMap.1 hu;simp only [List.mem_cons,List.not_mem_nil,or_false] at hc;rcases hc with rfl|rfl<;>rfl
theorem Zw {cs:List Col} (hi:i<cs.length) (k:Int):(jD cs).set (i*2+1) (.int .u8 k)=jD (cs.set i ⟨(cs[i]).n,k⟩):=by
 induction cs generalizing i with
 | nil=>simp at hi
 | cons c cs ih =>
   cases i with
   | zero=>rfl
   | succ i =>
     have:=ih (i:=i) IA;have e:jD (c::cs)=Value.string ⟨c.n.toArray⟩::.int .u8 c.k::jD cs:=rfl;rw [e,show (i+1)*2+1=(i*2+1)+1+1 by omega,List.set_cons_succ,List.set_cons_succ,this];rfl
def FewCs (i:Nat) (cs:List Col):Prop:=(∀ u∈cs,rL u)/\∀ j (h:j<cs.length),j<i->1<=(cs[j]).k/\(cs[j]).k<=3
theorem FewCs.next {cs:List Col} (h:FewCs i cs) (hi:i<cs.length) {k:Int} (h1:1<=k) (h2:k<=3):FewCs (i+1) (cs.set i ⟨(cs[i]).n,k⟩):=by
 refine ⟨λu hu => ?_,λj hj hlt => ?_⟩
 ·rcases List.mem_or_eq_of_mem_set hu with hu|rfl
  ·exact h.1 u hu
  ·exact ⟨(h.1 _ (List.getElem_mem hi)).1,by show 0<=k;omega,by show k<=255;omega⟩
 ·rw [List.getElem_set]
  split
  ·exact ⟨h1,h2⟩
  ·exact h.2 j ru ac
theorem FewCs.all {cs:List Col} (h:FewCs cs.length cs):∀ u∈cs,rL u/\1<=u.k/\u.k<=3:=by
 intro u hu;obtain ⟨j,hj,rfl⟩:=List.getElem_of_mem hu;exact ⟨h.1 _ hu,h.2 j hj hj⟩
theorem World.ownsRow_setCell_lt {base:Nat} {e:TypeId} {size:Nat} {v:Value} {xs:ZU} (h:w.ownsRow base e size v n xs) {a:Addr} (ha:a.block<base) (u:Value):(w.setCell a u).ownsRow base e size v n xs:=ownsRow_setCell_below h ha u
theorem Yz {k c:Nat} (h:k<g):some k≠Value.ownBlock (.slice (some ⟨g,0,none⟩) n c):=by
 show some k≠some g;intro e;injection e with e;omega
theorem Ls (s:ByteArray) (A:ZT) (c:Nat) (cs:List Col) (w:World) (h:Rds w A (jD cs)) (hc:cs.length<=c) (hok:∀ u∈cs,rL u) :
 Calls prog 24 #[.agg #[s,.slice A cs.length c]] w (Oq s w):=by
 obtain ⟨iC,hiC,hz0,hz1,hz2⟩:=info_parts aFH;have hm:(min (cs.length:Int) 8).toNat=min cs.length 8:=ac
 have h0:(0:Int)<=min (cs.length:Int) 8:=ac
 have h1:min (cs.length:Int) 8<=(cs.length:Int):=ac
 have h2:min (cs.length:Int) 8<=(c:Int):=ac
 have h3:(min cs.length 8)<=8:=ac
 have hb0:Below w w ((w.alloc (.cells #[s,.slice A cs.length c] 52)).alloc (.cells #[(),.slice none 0 0] 52)):=bal (bal (θ) _) _;have hbl:Below w w (((w.alloc (.cells #[s,.slice A cs.length c] 52)).alloc (.cells #[(),.slice none 0 0] 52)).alloc (.cells #[] 116)):=bal hb0 _;have hown:(((w.alloc (.cells #[s,.slice A cs.length c] 52)).alloc (.cells #[(),.slice none 0 0] 52)).alloc (.cells #[] 116)).ownsRow (w+1+1) 116 2 (.slice (some ⟨w+1+1,0,none⟩) 0 0) 0 []:=by
  have:=World.ownsRow_lit (base:=w.heap.size+1+1) (e:=116) (size:=2) ((w.alloc (.cells #[s,.slice A cs.length c] 52)).alloc (.cells #[(),.slice none 0 0] 52)) #[] 0 aa (Nat.zero_le _) rfl
  simpa using this
 have hrd:Rds (((w.alloc (.cells #[s,.slice A cs.length c] 52)).alloc (.cells #[(),.slice none 0 0] 52)).alloc (.cells #[] 116)) A (jD (cs.take (min cs.length 8))):=by
  rw [Sd];exact (h.below hbl).take _
 have hx:=aB (aB (heap_alloc_new w (.cells #[s,.slice A cs.length c] 52)) (.cells #[(),.slice none 0 0] 52)) (.cells #[] 116);have hr:=aB (bG w (.cells #[s,.slice A cs.length c] 52) (.cells #[(),.slice none 0 0] 52)) (.cells #[] 116);have hcl:(cs.take (min cs.length 8)).length=(min cs.length 8):=xf
 have hF0:FewCs 0 (cs.take (min cs.length 8)):=⟨λu hu=>hok u (List.mem_of_mem_take hu),λj _ hj=>ac⟩;have HX:=κ (ι hx (ι hr (ι hbl (ι hcl hF0))));have HO:=κ hown;have HR:=κ hrd;have hcl2:(jD (cs.take (min cs.length 8))).length=(min cs.length 8)*2:=by rw [Zy,hcl]
 have HC:=κ hcl2;have HCO:=κ (Zx (cs.take (min cs.length 8)));have hcI:((min cs.length 8:Nat):Int)<=8:=ac
 clear hx hr hbl hcl hF0 hown hrd hcl2 hb0 h hok;go_enter func24,ntmps24;go_wp2_with (at_builtin;go_loud (refine bJ _ rfl (.tmp 4) (.tmp 11) _ rfl (w+1+1) 116 iC _ 2 24 underlying33 hiC hz0 hz1 hz2 rfl ac _ _ _ _ rfl HO.o _ (min cs.length 8) _ (jD (cs.take (min cs.length 8))) rfl HC.o HR.o HCO.o rf ac aa ?_;intro A4 c4 w4 hown4 hb4 _ hk4;rw [List.nil_append,Nat.zero_add] at hown4;rw [Nat.zero_add] at hk4 |-;obtain ⟨hx,hxn⟩:=hk4 _ _ HX.o.1 (Yz ac);obtain ⟨hr, -⟩:=hk4 _ _ HX.o.2.1 (Yz ac);have cx4:=β hx;have fx4:=λj=>frozen_of_row _ _ j _ _ hx));have hb5:=HX.o.2.2.1.trans (hb4.mono (Nat.le_trans (Nat.le_succ _) (Nat.le_succ _)));have hown5:=World.ownsRow_setCell_lt hown4 (a:=⟨w,1,none⟩) (by show w<w.heap.size+1+1;omega) (.slice A4 (min cs.length 8) c4);have hx5:=heap_setCell_same w4 w 1 _ _ (.slice A4 (min cs.length 8) c4) hx;rw [show (#[Value.string s,.slice A cs.length c]:ZV).setIfInBounds 1 (.slice A4 (min cs.length 8) c4)=#[.string s,.slice A4 (min cs.length 8) c4] by simp] at hx5;have hr5:=(Below.heap_setCell w4 ⟨w,1,none⟩ (.slice A4 (min cs.length 8) c4) (w+1) (by show w.heap.size+1≠w.heap.size;omega)).trans hr;have hb6:=hb5.setCell (p:=⟨w,1,none⟩) (ν _) (.slice A4 (min cs.length 8) c4);have hF0:=HX.o.2.2.2.2;have hcl:=HX.o.2.2.2.1
 generalize (w4.setCell ⟨w,1,none⟩ (.slice A4 (min cs.length 8) c4))=W5 at *;generalize cs.take (min cs.length 8)=ct at *;have HI:=κ (ι hown5 (ι hx5 (ι hr5 (ι hb6 (ι hF0 hcl)))));clear hown5 hx5 hr5 hb6 hF0 hcl hb5 cx4 fx4 hx hxn hr hk4 hb4 hown4 HO HR HC HCO HX
 go_loopw [3,17] (λ_ s17 wr=>∃ (i:Nat) (ct:List Col),i<=min cs.length 8/\s17=.int .i64 i/\ct.length=min cs.length 8/\wr.ownsRow (w+1+1) 116 2 (.slice A4 (min cs.length 8) c4) (min cs.length 8) (jD ct)/\FewCs i ct /\
  wr.heap[w.heap.size]? = some (.cells #[s,.slice A4 (min cs.length 8) c4] 52 (0,0))/\wr.heap[w.heap.size+1]? = some (.cells #[(),.slice none 0 0] 52 (0,0))/\Below w w wr) (λ_ s17 _=>min cs.length 8-(intOf s17).toNat)
 case atStart=>exact ⟨0,ct,Nat.zero_le _,rfl,HI.o.2.2.2.2.2,HI.o.1,HI.o.2.2.2.2.1,HI.o.2.1,HI.o.2.2.1,HI.o.2.2.2.1⟩
 case round =>
  obtain ⟨i,ct,hi,rfl,hcl,hown,hF,hx,hr,hb⟩:=de;generalize min cs.length 8=m at *
  by_cases hlt:i<m
  ·obtain ⟨g4,cap,hv, -⟩:=hown.form ac;injection hv with hA4 h7 h8;clear h7 h8;subst hA4;obtain ⟨b,off,hA,q0,q1⟩:=kE (Rds.own hown) (show i<ct.length by omega);simp only [Option.some.injEq,Addr.mk.injEq,and_true] at hA;obtain ⟨rfl,rfl⟩:=hA;have hk:=hF.1 _ (List.getElem_mem (show i<ct.length by omega));have hk0:=hk.2.1;have hk1:=hk.2.2;have cx:=β hx;have fo:=hown.frozenAt;simp only [Nat.zero_add] at q0 q1;generalize (ct[i]' ac).k=kd at *;have HS:=κ (ι hcl (ι hown (ι hF (ι hx (ι hr hb)))));clear q0 hk hcl hown hF hx hr hb HI;go_wp2_with fail
   go_region
   obtain ⟨hcl,hown,hF,hx,hr,hb⟩:=HS.o;have hg4:=(hown.lt g4 rfl).1;have ho2:=(hown.stored (i*2+1) (.int .u8 (1+kd % 3))).1;rw [Zw (show i<ct.length by omega)] at ho2;have hF2:=hF.next (show i<ct.length by omega) (k:=1+kd % 3) ac ac;have hx2:=(Below.heap_setCell wr ⟨g4,i*2+1,none⟩ (.int .u8 (1+kd % 3)) w (by show w.heap.size≠g4;omega)).trans hx;have hr2:=(Below.heap_setCell wr ⟨g4,i*2+1,none⟩ (.int .u8 (1+kd % 3)) (w+1) (by show w.heap.size+1≠g4;omega)).trans hr;have hb2:=hb.setCell (p:=⟨g4,i*2+1,none⟩) (by show w.heap.size<=g4;omega) (.int .u8 (1+kd % 3));have hl2:(ct.set i ⟨(ct[i]' ac).n,1+kd % 3⟩).length=m:=by rw [List.length_set];exact hcl
   have hN:=ι hl2 (ι ho2.drew (ι hF2 (ι hx2 (ι hr2 hb2.drew))));generalize ct.set i ⟨(ct[i]' ac).n,1+kd % 3⟩=ct2 at hN;have HN:=κ hN;clear hcl hown hF hx hr hb hg4 ho2 hF2 hx2 hr2 hb2 hl2 hN HS cx fo q1;go_wp2
   go_roundw
   case rel=>exact ⟨i+1,_,ac,dg,HN.o.1,HN.o.2.1,HN.o.2.2.1,HN.o.2.2.2.1,HN.o.2.2.2.2.1,HN.o.2.2.2.2.2⟩
   case measure=>simp [intOf];omega
  ·have hi2:i=ct.length:=ac
   have hok2:=(hi2▸hF).all;have cx:=β hx;have cr:=β hr;have fr:=λj=>frozen_of_row _ _ j _ _ hr;have hm8:ct.length<=8:=ac
   have hcap:ct.length<=c4:=by
    rcases hown.2 with ⟨hv,h0⟩|⟨g,cap,cur,hv, -, -,hnc, -⟩
    ·omega
    ·injection hv with _ _ hv;omega
   have hm2:m=ct.length:=ac
   subst hm2;have hr3:=heap_setCell_same _ (w+1) 1 _ _ (.slice A4 ct.length c4) (heap_setCell_same wr (w+1) 0 _ _ (.string s) hr);have hb3:=(hb.setCell (p:=⟨w+1,0,none⟩) (Nat.le_succ _) (.string s)).setCell (p:=⟨w+1,1,none⟩) (Nat.le_succ _) (.slice A4 ct.length c4);have HCE:=κ (β hr3);have hrd2:=(World.ownsRow_setCell_lt (World.ownsRow_setCell_lt hown (a:=⟨w+1,0,none⟩) (by show w.heap.size+1<_;omega) (.string s)) (a:=⟨w+1,1,none⟩) (by show w.heap.size+1<_;omega) (.slice A4 ct.length c4)).mono (base':=w.heap.size) ac;have HE:=κ (show Oq s w (.returned (.agg #[s,.slice A4 ct.length c4])) ((wr.setCell ⟨w+1,0,none⟩ (.string s)).setCell ⟨w+1,1,none⟩ (.slice A4 ct.length c4)) from ⟨hb3,A4,c4,ct,rfl,hrd2,hm8,hcap,hok2⟩);clear hown hx hr hb hb3 hrd2 hok2 hF hr3 hi2;go_wp2;have hcE:=HCE.o;simp only [List.setIfInBounds_toArray,List.set_cons_zero,List.set_cons_succ] at hcE;exact bodyPost_ret (v:=.agg #[s,.slice A4 ct.length c4]) (by simp [results,results24,go_sem,hcE]) rfl HE.o
theorem pN {n1 s1:Nat} {e1:TypeId} {v1:Value} {x1:ZU} (h1:w.ownsRow B1 e1 s1 v1 n1 x1) (h2:w.ownsRow B2 e2 s2 v2 n2 x2) (hne:e2≠e1) (hg:w.grownBy w' v2.ownBlock) :
 w'.ownsRow B1 e1 s1 v1 n1 x1:=by
 refine h1.kept hg ?_;rcases h1.2 with ⟨rfl,_⟩|⟨g,cap,cur,rfl,_,hgg,_⟩
 ·exact ab
 ·exact .inr (cU h2 hgg hne)
def aBE (W:World) (B:Nat) (p:dW):Prop:=W.ownsRow B 116 2 (.slice p.2.1 p.1.cs.length p.2.2) p.1.cs.length (jD p.1.cs)/\p.1.n.length<=maxLen/\p.1.cs.length<=8/\p.1.cs.length<=p.2.2/\Ew p.1.cs/\(∀ u∈p.1.cs,rL u/\1<=u.k/\u.k<=3)/\1<=p.1.n.length/\p.1.n.length<=20
def TabsIn (W:World) (B:Nat) (l:List dW):Prop:=∀ p∈l,aBE W B p
theorem TabsIn.below {l:List dW} (h:TabsIn W B l) (hb:Below W W W'):TabsIn W' B l:=λp hp=>⟨aN (h p hp).1 hb,(h p hp).2⟩
theorem TabsIn.two {l:List dW} (h:TabsIn W B l) (h2:W.ownsRow B2 e2 s2 v2 n2 x2) (hne:e2≠116) (hg:W.grownBy W' v2.ownBlock):TabsIn W' B l :=
 λp hp=>⟨pN (h p hp).1 h2 hne hg,(h p hp).2⟩
theorem TabsIn.snoc {l:List dW} {p:dW} (h:TabsIn W B l) (hp:aBE W B p):TabsIn W B (l++[p]):=λq hq=>by
 rcases List.mem_append.1 hq with hq|hq
 ·exact h q hq
 ·rw [List.mem_singleton] at hq;rw [hq];exact hp
theorem Tw (l:List dW) (p:dW):tbv (l++[p])=tbv l++[.string ⟨p.1.n.toArray⟩,.slice p.2.1 p.1.cs.length p.2.2]:=by simp [tbv]
theorem qK {l:List dW} (h:Rds w A (tbv l)) (hi:i<l.length):∃ b off,A=some ⟨b,off,none⟩/\w.cell? ⟨b,off+i*2,none⟩=some (.string ⟨(l[i]).1.n.toArray⟩)/\w.cell? ⟨b,off+i*2+1,none⟩=some (.slice (l[i]).2.1 (l[i]).1.cs.length (l[i]).2.2):=by
 obtain ⟨h0,h1⟩:=Ct hi;rcases h with hn|⟨b,off,rfl,hc⟩
 ·rw [hn] at h0;simp at h0
 ·exact ID
theorem qI {a b:Value} {t:TypeId} (h:w.heap[g]? = some (.cells #[a,b] t (0,0))):w.cell? ⟨g,0,none⟩=some a/\w.cell? ⟨g,1,none⟩=some b:=⟨β h 0,β h 1⟩
theorem Tz:(prog.info? 50).map (λi=>(i.zero,i.size,i.bytes))=some (some (.agg #[(),.slice none 0 0]),2,40):=aj
theorem Ty:(prog.info? 52).map (λi=>(i.zero,i.size,i.bytes))=some (some (.agg #[(),.slice none 0 0]),2,40):=aj
def ScPost (most:Nat) (w:World) (e:Ending) (w':World):Prop :=
 Below w w w'/\((e=.returned (.tuple #[.slice none 0 0,.slice none 0 0,false]))\/∃ (l:List dW) (A1:ZT) (c1:Nat) (A2:ZT) (c2:Nat),e=.returned (.tuple #[.slice A1 l.length c1,.slice A2 l.length c2,true])/\ScA w' A1 l/\ScA w' A2 l/\l.length<=most /\
  ∀ p∈l,p.1.cs.length<=8/\Ew p.1.cs/\(∀ u∈p.1.cs,1<=u.k/\u.k<=3)/\1<=p.1.n.length/\p.1.n.length<=20)
theorem ScPost.no (hb:Below w w w'):ScPost most w (.returned (.tuple #[.slice none 0 0,.slice none 0 0,false])) w':=⟨hb,.inl rfl⟩
theorem ScPost.yes {l:List dW} {A1 A2:ZT} {c1 c2:Nat} (hn:n=l.length) (hm:l.length<=most) (hb:Below w w w') (h1:w'.ownsRow B1 50 2 (.slice A1 n c1) n (tbv l)) (h2:w'.ownsRow B1 52 2 (.slice A2 n c2) n (tbv l)) (hT:TabsIn w' B1 l) :
 ScPost most w (.returned (.tuple #[.slice A1 n c1,.slice A2 n c2,true])) w':=by
 subst hn;have ok:∀ u∈l,TabOk w' u:=λu hu=>⟨(hT u hu).2.1,Rds.own (hT u hu).1,(hT u hu).2.2.2.1,λc hc=>((hT u hu).2.2.2.2.2.1 c hc).1⟩;exact ⟨hb,.inr ⟨l,A1,c1,A2,c2,rfl,⟨Rds.own h1,ok⟩,⟨Rds.own h2,ok⟩,hm,λp hp=>⟨(hT p hp).2.2.1,(hT p hp).2.2.2.2.1,λu hu=>((hT p hp).2.2.2.2.2.1 u hu).2,(hT p hp).2.2.2.2.2.2⟩⟩⟩
def aE (l:List dW):List Tb:=l.map (·.1)
theorem ScA.scm {l:List dW} (h:ScA w A l):ScM w A (aE l):=⟨l,rfl,h.1,λp hp=>(h.2 p hp).2.1⟩
theorem pG (l:List dW):(aE l).length=l.length:=by simp [aE]
def Hy (l:List (Nat×Int)):Int:=match l.getLast? with
 | none => -1
 | some p=>(p.1:Int)
theorem Rq (l:List (Nat×Int)) (a:Nat) (k:Int):Hy (l++[(a,k)])=(a:Int):=by simp [Hy]
theorem Bb (l:List dW) (h:i<l.length):aE (l.take (i+1))=aE (l.take i)++[(l[i]).1]:=by
 unfold aE;rw [List.take_succ_eq_append_getElem h,List.map_append];rfl
theorem Yv {sc:List Tb} {t s:ZS} {HL:List (Nat×Int)} {TN:Nat} (h:gT t s 0 sc=HL) (ht:fV t sc=TN):atX sc t s=if HL.length=1/\(t=[]\/TN=1) then Hy HL else -1:=by
 unfold atX dX;rw [h,ht]
 split
 ·rename_i hn
  split at hn
  ·rename_i hc
   rw [if_pos hc];unfold Hy;rw [hn]
  ·rename_i hc
   rw [if_neg hc]
 ·rename_i p hn
  split at hn
  ·rename_i hc
   rw [if_pos hc];unfold Hy;rw [hn]
  ·cases hn
theorem Bf (A:ZT) (c:Nat) (l:List dW) (t s:ZS) (w:World) (hA:ScA w A l) (hn:l.length<=100) (hw:bY (aE l)<=10000) :
 Calls prog 16 #[.slice A l.length c,t,s] w λe w'=>e=.returned (.int .i64 (atX (aE l) t s))/\Below w w w':=by
 have HA:=κ hA;have HW:=κ hw;have hnI:=qa
 clear hA hw;go_enter func16,ntmps16;go_wp2_with fail
 go_loopw [7,8,9,10,18] (λs7 s8 s9 s10 s18 wr=>∃ i:Nat,i<=l.length/\s18=.int .i64 i/\s7=.int .i64 (Hy (gT t s 0 (aE (l.take i))))/\s8=.int .i64 ((gT t s 0 (aE (l.take i))).length:Nat)/\s9=.int .i64 (fV t (aE (l.take i)):Nat)/\s10=.int .i64 (bY (aE (l.take i)):Nat)/\Below w w wr) (λ_ _ _ _ s18 _=>l.length-(intOf s18).toNat)
 case atStart=>exact ⟨0,Nat.zero_le _,rfl,rfl,rfl,rfl,rfl,θ⟩
 case round =>
  obtain ⟨i,hi,rfl,rfl,rfl,rfl,rfl,hb⟩:=de;have HB:=dn
  by_cases hlt:i<l.length
  ·obtain ⟨bT,oT,hAT,q0,q1⟩:=qK ((HA.o.below hb).1) hlt;have hok:=(HA.o.below hb).2 _ (List.getElem_mem hlt);have hT1:=Bb l hlt;have hwd:bY (aE (l.take (i+1)))<=10000:=by
    have:=nJ (aE l) (i+1);rw [show (aE l).take (i+1)=aE (l.take (i+1)) from IE] at this;have:=HW.o;omega
   have hwd0:=IF
   have htn:fV t (aE (l.take i))<=100:=by
    have:=List.length_filter_le (jJ t) (aE (l.take i));rw [show (aE (l.take i)).length=(l.take i).length from by simp [aE],List.length_take] at this;unfold fV;omega
   have hhn:(gT t s 0 (aE (l.take i))).length<=bY (aE (l.take i)):=yJ t s 0 _;have hh1:gT t s 0 (aE (l.take (i+1)))=gT t s 0 (aE (l.take i))++(if jJ t (l[i]).1 then cJ s (bY (aE (l.take i))) (l[i]).1.cs else []):=by rw [hT1,uJ,Nat.zero_add]
   have hh2:fV t (aE (l.take (i+1)))=fV t (aE (l.take i))+(if jJ t (l[i]).1 then 1 else 0):=by rw [hT1,wW]
   generalize gT t s 0 (aE (l.take i))=HL at *;generalize fV t (aE (l.take i))=TN at *;generalize bY (aE (l.take i))=ND at *;generalize (l[i])=p at *;obtain ⟨⟨tn,cs⟩,At,ct⟩:=p;simp only at q0 q1 hok hwd0 hh1 hh2;subst hAT;have hcsI:=qf
   have hNI:(ND:Int)+(cs.length:Int)<=10000:=ac
   have hTI:(TN:Int)<=100:=ac
   have hHI:(HL.length:Int)<=(ND:Int):=ac
   have hbT:=IH;have x2:=IG;have HT:=κ (ι (hok.2.1.below hbT) (ι (hb.trans (hbT.mono hb.size)) (heap_alloc_new wr (.cells #[tn,.slice At cs.length ct] 52))));have HH:=κ (ι hh1 (ι hh2 hwd0));clear hok hT1 hwd hwd0 htn hhn hh1 hh2 hb hbT;cases hh:jJ t ⟨tn,cs⟩
   ·have e1:=qh
    have e2:=qi
    have HH2:=HH.o;rw [hh] at HH2;simp only [φ,if_false,List.append_nil,Nat.add_zero] at HH2;have HG:=κ HH2;clear HH HH2 hh;go_wp2_with fail;generalize (wr.alloc (.cells #[tn,.slice At cs.length ct] 52))=W1 at *;clear x2 q0 q1 e1 e2
    go_loopw [7,8,10,36] (λs7 s8 s10 s36 wq=>∃ j:Nat,j<=cs.length/\s36=.int .i64 j/\s7=.int .i64 (Hy HL)/\s8=.int .i64 (HL.length:Nat)/\s10=.int .i64 ((ND+j:Nat):Int)/\Below W1 W1 wq) (λ_ _ _ s36 _=>cs.length-(intOf s36).toNat)
    case atStart=>exact ⟨0,Nat.zero_le _,rfl,rfl,rfl,rfl,θ⟩
    case round =>
     obtain ⟨j,hj,rfl,rfl,rfl,rfl,hbq⟩:=de
     by_cases hjl:j<cs.length
     ·obtain ⟨bC,oC,hAC,r0,r1⟩:=kE (HT.o.1.below hbq) hjl;subst hAC;generalize (cs[j]).k=kc at *;generalize (⟨(cs[j]).n.toArray⟩:ByteArray)=nc at *;have hjI:=qj
      have HQ:=κ (hbq.trans ((θ).alloc (ν _) (.cells #[nc,.int .u8 kc] 116) |>.mono hbq.size));clear hbq;go_wp2
      go_roundw
      case rel=>exact ⟨j+1,ac,dg,rfl,rfl,dg,HQ.o⟩
      case measure=>simp [intOf];omega
     ·have hj2:=qo
      subst hj2;have HQ:=IJ;clear hbq hj hjl;go_wp2
      go_roundw
      case rel=>exact ⟨i+1,ac,dg,IK,IK,by rw [HG.o.2.1],by rw [HG.o.2.2],HQ.o⟩
      case measure=>simp [intOf];omega
   ·have hee:((t==[])=true)\/((t==[])=false/\(tn==t)=true):=by
     unfold jJ at hh;rcases Bool.eq_false_or_eq_true (t==[]) with h|h
     ·exact .inl h
     ·rw [h] at hh;exact .inr ⟨h,by simpa using hh⟩
    have HH2:=HH.o;rw [hh] at HH2;simp only [if_true] at HH2;have HG:=κ HH2;clear HH HH2 hh;rcases hee with e1|⟨e1,e2⟩
    all_goals
     go_wp2_with fail;generalize (wr.alloc (.cells #[tn,.slice At cs.length ct] 52))=W1 at *;clear x2 q0 q1 e1
     go_loopw [7,8,10,36] (λs7 s8 s10 s36 wq=>∃ j:Nat,j<=cs.length/\s36=.int .i64 j/\s7=.int .i64 (Hy (HL++cJ s ND (cs.take j)))/\s8=.int .i64 ((HL++cJ s ND (cs.take j)).length:Nat)/\s10=.int .i64 ((ND+j:Nat):Int)/\Below W1 W1 wq) (λ_ _ _ s36 _=>cs.length-(intOf s36).toNat)
     case atStart=>exact ⟨0,Nat.zero_le _,rfl,bu,bu,rfl,θ⟩
     case round =>
      obtain ⟨j,hj,rfl,rfl,rfl,rfl,hbq⟩:=de
      by_cases hjl:j<cs.length
      ·obtain ⟨bC,oC,hAC,r0,r1⟩:=kE (HT.o.1.below hbq) hjl;subst hAC;have hstep:=Is s ND cs hjl;have hlen:(HL++cJ s ND (cs.take j)).length<=20000:=by
        have h1:=qV s ND (cs.take j);rw [List.length_take] at h1;rw [List.length_append];omega
       obtain ⟨HJ,hHJ⟩:∃ HJ,HL++cJ s ND (cs.take j)=HJ:=da;have hlen2:(HJ.length:Int)<=20000:=by rw [<-hHJ];omega
       generalize (cs[j])=cj at *;obtain ⟨cn,ck⟩:=cj;simp only at r0 r1 hstep;have hjI:=qj
       have hNJ:(ND:Int)+(j:Int)<=10000:=ac
       have hbC:=ql;have q2:=qk;have HQ:=κ (hbq.trans (hbC.mono hbq.size));have HSt:=qn;rw [hHJ];clear hbq hbC hstep hlen hHJ;cases e3:(cn==s)
       ·rw [e3] at HSt;simp only [φ,if_false,List.append_nil] at HSt;go_wp2
        go_roundw
        case rel=>exact ⟨j+1,ac,dg,by rw [HSt.o],by rw [HSt.o],dg,HQ.o⟩
        case measure=>simp [intOf];omega
       ·rw [e3] at HSt;simp only [if_true] at HSt;go_wp2
        go_roundw
        case rel=>exact ⟨j+1,ac,dg,by rw [HSt.o,Rq],by rw [HSt.o];simp,dg,HQ.o⟩
        case measure=>simp [intOf];omega
      ·have hj2:=qo
       subst hj2;have HQ:=IJ;rw [List.take_length];clear hbq hj hjl;go_wp2
       go_roundw
       case rel=>exact ⟨i+1,ac,dg,IK,IK,by rw [HG.o.2.1];go_num,by rw [HG.o.2.2],HQ.o⟩
       case measure=>simp [intOf];omega
  ·have hi2:=qs
   rw [hi2,List.take_length];obtain ⟨HL,hHL⟩:∃ HL,gT t s 0 (aE l)=HL:=da;obtain ⟨TN,hTN⟩:∃ TN,fV t (aE l)=TN:=da;have hF:=Yv hHL hTN;rw [hHL,hTN];have HF:=κ hF;clear hi2 hb hF hHL hTN HA HW hlt hi
   by_cases hN:HL.length=1
   ·have n1:((HL.length:Int)==1)=true:=by rw [hN];rfl
    have n2:((HL.length:Int) !=1)=false:=qt
    by_cases hOk:t=[]\/TN=1
    ·have HR:=κ (HF.o.trans (if_pos ⟨hN,hOk⟩));have hee:((t==[])=true/\(t != [])=false)\/((t==[])=false/\(t != [])=true/\((TN:Int)==1)=true/\((TN:Int) !=1)=false):=by
      by_cases ht:t=[]
      ·subst ht;exact .inl ⟨rfl,rfl⟩
      ·have e1:(t==[])=false:=η ht;have e4:TN=1:=by rcases hOk with h|h;exact absurd h ht;exact h
       subst e4;exact .inr ⟨e1,qu,rfl,rfl⟩
     clear hOk hN HF;rcases hee with ⟨e1,e2⟩|⟨e1,e2,e3,e4⟩
     all_goals
      go_wp2;go_ret;exact IL
    ·have HR:=κ (HF.o.trans (if_neg (λh=>hOk h.2)));have ht:t≠[]:=λh=>hOk (.inl h);have hT:TN≠1:=λh=>hOk (.inr h);have e1:(t==[])=false:=η ht;have e2:(t != [])=true:=qu
     have e3:((TN:Int)==1)=false:=fj
     have e4:((TN:Int) !=1)=true:=qx
     clear hOk hN ht hT HF;go_wp2;go_ret;exact IL
   ·have HR:=κ (HF.o.trans (if_neg (λh=>hN h.1)));have n1:=qz
    have n2:((HL.length:Int) !=1)=true:=qt
    clear hN HF;go_wp2;go_ret;exact IL
