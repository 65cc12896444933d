/-
 Contracts. Conditions: those of each.
-/
import Derived.Test.YtkolcimllghnaaaGreatDoorQbOpenT
import Derived.Laws.OwnMore
set_option maxRecDepth 100000
set_option maxHeartbeats 8000000
namespace Go.Proofs.YtkolcimllghnaaaGreatDoor
open Go.Proofs.Tryz
open Go.RowKit
theorem bal {w w':World} (h:Below w.heap.size w w') (o:Obj):Below w.heap.size w (w'.alloc o):=h.alloc h.size o
def SomeB (e:Ending):Prop:=∃ b,e=.returned (.bool b)
theorem SomeB.mk (b:Bool):SomeB (.returned (.bool b)):=⟨b,rfl⟩
theorem uA (s:ByteArray) (w:World) (hs:s.size≤9223372036854775807) :
 Calls prog 26 #[.string s] w fun e w'=>SomeB e∧w=w':=by
 have hsI:(s.size:Int)≤9223372036854775807:=by omega
 by_cases h1:s.size<1
 ·go_enter func26,ntmps26
  go_wp2
  go_ret
  exact ⟨SomeB.mk _,rfl⟩
 ·by_cases h2:20<s.size
  ·go_enter func26,ntmps26
   go_wp2
   go_ret
   exact ⟨SomeB.mk _,rfl⟩
  ·have hb:s.size≤20:=by omega
   have hp:0<s.size:=by omega
   go_enter func26,ntmps26
   go_wp2_with fail
   all_goals first
    | (go_ret;exact ⟨SomeB.mk _,rfl⟩)
    | skip
   all_goals
    go_loop [3,4] (fun s3 _=>∃ i:Nat,i≤s.size∧s3=.int .i64 i) (fun s3 _=>s.size-(intOf s3).toNat)
    case atStart=>exact ⟨0,by omega,rfl⟩
    case round =>
     obtain ⟨i,hi,rfl⟩:=hrel
     by_cases hlt:i<s.size
     ·go_wp2
      all_goals first
       | (go_ret;exact ⟨SomeB.mk _,rfl⟩)
       | skip
      all_goals
       go_round
       case rel=>exact ⟨i+1,by omega,by go_num⟩
       case measure=>simp [intOf];omega
     ·go_wp2
      go_ret
      exact ⟨SomeB.mk _,rfl⟩
end Go.Proofs.YtkolcimllghnaaaGreatDoor

namespace Go.Proofs.YtkolcimllghnaaaGreatDoor.Lp
def mL:List Col→List X→Int
 | c::cs,x::xs=>if (aD [] x false).2=0 then (if fitK (aD [] x false).1 c.k then mL cs xs else 8) else (aD [] x false).2
 | _,_=>0
def mE (cs:List Col) (xs:List X):Int:=if xs.length=cs.length then mL cs xs else 3
theorem Gb {cs:List Col} {xs:List X} {i:Nat} (h:i<cs.length) (h':i<xs.length):mL (cs.drop i) (xs.drop i)=if (aD [] xs[i] false).2=0 then (if fitK (aD [] xs[i] false).1 (cs[i]).k then mL (cs.drop (i+1)) (xs.drop (i+1)) else 8) else (aD [] xs[i] false).2:=by
 rw [List.drop_eq_getElem_cons h,List.drop_eq_getElem_cons h'];rfl
theorem zR {cs:List Col} {xs:List X} {i:Nat} (h:xs.length≤i):mL (cs.drop i) (xs.drop i)=0:=by
 rw [List.drop_of_length_le h]
 cases cs.drop i<;>rfl
def eX (s:List UInt8) (cs:List Col):Option Nat:=cs.findIdx? fun c=>c.n==s
def rF (cs:List Col):Prop:=cs.Pairwise fun a b=>b.n≠a.n
theorem uO {s:List UInt8}:∀ {cs:List Col} (a:Nat),(∀ d∈cs,d.n≠s)→cP s a cs=[]
 | [],_,_=>rfl
 | c::cs,a,h=>by
   show (if c.n==s then [(a,c.k)] else [])++cP s (a+1) cs=[]
   rw [uO (a+1) fun d hd=>h d (by simp [hd])]
   have:=h c (by simp)
   simp [this]
theorem wZ {s:List UInt8}:∀ {cs:List Col} (a:Nat),rF cs→cP s a cs=(match eX s cs with|none=>[]|some i=>[(a+i,(cs[i]?.map (·.k)).getD 0)])
 | [],_,_=>rfl
 | c::cs,a,h=>by
   obtain ⟨h1,h2⟩:=List.pairwise_cons.1 h
   show (if c.n==s then [(a,c.k)] else [])++cP s (a+1) cs=_
   unfold eX
   rw [List.findIdx?_cons]
   by_cases hc:c.n=s
   ·rw [uO (a+1) fun d hd=>by rw [←hc];exact h1 d hd]
    simp [hc]
   ·have hc':(c.n==s)=false:=by simpa using hc
    rw [wZ (a+1) h2]
    simp only [hc',φ,if_false]
    unfold eX
    cases cs.findIdx? (fun c=>c.n==s) with
    | none=>rfl
    | some i=>simp;omega
theorem Qh (tb:Tb) (s:List UInt8) (h:rF tb.cs):gA [tb] [] s=(eX s tb.cs).map fun i=>(i,(tb.cs[i]?.map (·.k)).getD 0):=by
 have h1:fU [] s 0 [tb]=cP s 0 tb.cs:=by
  show (if kP [] tb then cP s 0 tb.cs else [])++[]=_
  simp [kP]
 unfold gA
 rw [h1,wZ 0 h]
 cases eX s tb.cs with
 | none=>rfl
 | some i=>simp
theorem Ha {s:List UInt8} {cs:List Col} {i:Nat} (h:eX s cs=some i):i<cs.length:=(List.findIdx?_eq_some_iff_findIdx_eq.1 h).1
def lI (tb:Tb):List (List UInt8)→List (List UInt8×X)→Int
 | _,[]=>0
 | seen,s::r=>match eX s.1 tb.cs with
   | none=>6
   | some i=>if seen.contains s.1 then 3 else if (aD [tb] s.2 false).2=0 then (if fitK (aD [tb] s.2 false).1 ((tb.cs[i]?.map (·.k)).getD 0) then lI tb (seen++[s.1]) r else 8) else (aD [tb] s.2 false).2
theorem Gh (tb:Tb) {ss:List (List UInt8×X)} {i:Nat} (h:i<ss.length):lI tb ((ss.take i).map (·.1)) (ss.drop i)=match eX (ss[i]).1 tb.cs with
 | none=>6
 | some j=>if ((ss.take i).map (·.1)).contains (ss[i]).1 then 3 else if (aD [tb] (ss[i]).2 false).2=0 then (if fitK (aD [tb] (ss[i]).2 false).1 ((tb.cs[j]?.map (·.k)).getD 0) then lI tb ((ss.take (i+1)).map (·.1)) (ss.drop (i+1)) else 8) else (aD [tb] (ss[i]).2 false).2:=by
 rw [List.drop_eq_getElem_cons h,List.take_succ_eq_append_getElem h,List.map_append];rfl
end Go.Proofs.YtkolcimllghnaaaGreatDoor.Lp

namespace Go.Proofs.YtkolcimllghnaaaGreatDoor
open Lp Go.Proofs.Tryz
open Go.RowKit
theorem iQ {w:World} {A:Option Addr} {cs:List Col} (h:Rds w A (fB cs)) {i:Nat} (hi:i<cs.length):∃ b off,A=some ⟨b,off,none⟩∧w.cell? ⟨b,off+i*2,none⟩=some (.string ⟨(cs[i]).n.toArray⟩)∧w.cell? ⟨b,off+i*2+1,none⟩=some (.int .u8 (cs[i]).k):=by
 obtain ⟨h0,h1⟩:=qA hi
 rcases h with hn|⟨b,off,rfl,hc⟩
 ·rw [hn] at h0;simp at h0
 ·exact ⟨b,off,rfl,hc _ _ h0,by rw [Nat.add_assoc];exact hc _ _ h1⟩
def RightP (cs:List Col) (e:Ending):Prop:=∃ b,e=.returned (.bool b)∧(b=true→rF cs)
theorem RightP.no (cs:List Col):RightP cs (.returned (.bool false)):=⟨false,rfl,fun h=>by cases h⟩
theorem RightP.of {cs:List Col} (h:rF cs) (b:Bool):RightP cs (.returned (.bool b)):=⟨b,rfl,fun _=>h⟩
def Apart (n:List UInt8) (l:List Col):Prop:=∀ a∈l,n≠a.n
theorem Apart.next {n:List UInt8} {cs:List Col} {j:Nat} (h:Apart n (cs.take j)) (hj:j<cs.length) (hne:((cs[j]).n==n)=false):Apart n (cs.take (j+1)):=by
 intro a ha
 rw [List.take_succ_eq_append_getElem hj] at ha
 rcases List.mem_append.1 ha with ha|ha
 ·exact h a ha
 ·rw [List.mem_singleton] at ha
  rintro rfl
  rw [ha] at hne
  simp at hne
theorem Jx {cs:List Col} {i:Nat} (h:rF (cs.take i)) (hi:i<cs.length) (ha:Apart (cs[i]).n (cs.take i)):rF (cs.take (i+1)):=by
 rw [List.take_succ_eq_append_getElem hi]
 refine List.pairwise_append.2 ⟨h,List.pairwise_singleton _ _,fun a hm b hb => ?_⟩
 rw [List.mem_singleton] at hb
 rw [hb]
 exact ha a hm
theorem Av (A:Option Addr) (c:Nat) (cs:List Col) (w:World) (h:Rds w A (fB cs)) (hc:cs.length≤c) (hn:cs.length≤10) (hok:∀ u∈cs,oI u) :
 Calls prog 25 #[.slice A cs.length c] w fun e w'=>RightP cs e∧Below w.heap.size w w':=by
 have HR:=κ h
 have HO:=κ hok
 have hcI:(cs.length:Int)≤(c:Int):=by omega
 have hnI:(cs.length:Int)≤10:=by omega
 clear h hok
 go_enter func25,ntmps25
 go_wp2_with fail
 go_loopw [3,4,9] (fun _ _ s9 wr=>∃ i:Nat,i≤cs.length∧s9=.int .i64 i∧Below w.heap.size w wr∧rF (cs.take i)) (fun _ _ s9 _=>cs.length-(intOf s9).toNat)
 case atStart=>exact ⟨0,Nat.zero_le _,rfl,θ,List.Pairwise.nil⟩
 case round =>
  obtain ⟨i,hi,rfl,hb,hdi⟩:=hrel
  by_cases hlt:i<cs.length
  ·obtain ⟨b,off,rfl,q0,q1⟩:=iQ (HR.out.below hb) hlt
   have hlen:=(HO.out _ (List.getElem_mem hlt)).1
   have HD:=κ (fun (ha:Apart (cs[i]).n (cs.take i))=>Jx hdi hlt ha)
   obtain ⟨n,hs⟩:∃ n,(cs[i]).n=n:=⟨_,rfl⟩
   obtain ⟨k,hk⟩:∃ k,k=(cs[i]).k:=⟨_,rfl⟩
   rw [hs] at q0 hlen HD
   have hsz:(⟨n.toArray⟩:ByteArray).size≤9223372036854775807:=by
    show n.toArray.size≤_
    rw [List.size_toArray]
    unfold maxLen at hlen
    omega
   rw [←hk] at q1
   clear hs hk hlen hdi
   go_wp2_with fail
   refine (uA _ _ hsz).mono ?_
   rintro e w' ⟨⟨r,rfl⟩,rfl⟩
   have hbX:Below w.heap.size w (wr.alloc (.cells #[.string ⟨n.toArray⟩,.int .u8 k] 116)):=hb.alloc hb.size _
   have hzX:=heap_alloc_new wr (.cells #[.string ⟨n.toArray⟩,.int .u8 k] 116)
   have HB:=κ (ι hbX (ι hzX hb))
   clear hbX hzX q0 q1 hb
   generalize hW4:wr.alloc (.cells #[.string ⟨n.toArray⟩,.int .u8 k] 116)=W4 at *
   have HW4:=κ hW4
   have cx:=β HB.out.2.1
   clear hW4
   cases r
   ·go_wp2
    go_ret
    exact ⟨RightP.no _,HB.out.1⟩
   ·go_wp2_with fail
    all_goals first
     | (go_ret;exact ⟨RightP.no _,HB.out.1⟩)
     | skip
    all_goals
     clear cx
     go_loopw [6,32] (fun _ s32 w5=>∃ j:Nat,j≤i∧s32=.int .i64 j∧Below W4.heap.size W4 w5∧Apart n (cs.take j)) (fun _ s32 _=>i-(intOf s32).toNat)
     case atStart=>exact ⟨0,Nat.zero_le _,rfl,θ,fun a ha=>by simp at ha⟩
     case round =>
      rename_i w5
      obtain ⟨j,hj,rfl,hb5,hap⟩:=hrel
      have hbT:=HB.out.1.trans (hb5.mono HB.out.1.size)
      have HBT:=κ (ι hbT hb5)
      by_cases hjlt:j<i
      ·obtain ⟨b',off',hA,p0,p1⟩:=iQ (HR.out.below hbT) (show j<cs.length by omega)
       simp only [Option.some.injEq,Addr.mk.injEq,and_true] at hA
       obtain ⟨rfl,rfl⟩:=hA
       have cx:=β (aC (aA HB.out.2.1 hb5) (.cells #[.string ⟨(cs[j]).n.toArray⟩,.int .u8 (cs[j]).k] 116))
       have hjc:j<cs.length:=by omega
       have HA:=κ (fun (h:((cs[j]).n==n)=false)=>hap.next hjc h)
       generalize (cs[j]).n=n2 at *
       generalize (cs[j]).k=k2 at *
       clear hbT hb5 hap
       cases he:(n2==n)
       ·have HA2:=κ (HA.out he)
        clear HA
        go_wp2
        go_roundw
        case rel=>exact ⟨j+1,by omega,by go_num,HBT.out.2.alloc HBT.out.2.size _,HA2.out⟩
        case measure=>simp [intOf];omega
       ·go_wp2
        go_ret
        exact ⟨RightP.no _,HBT.out.1.alloc HBT.out.1.size _⟩
      ·have hji:j=i:=by omega
       subst hji
       have HD2:=κ (HD.out hap)
       clear hbT hb5 hap
       go_wp2
       go_roundw
       case rel=>exact ⟨j+1,by omega,by go_num,HBT.out.1,HD2.out⟩
       case measure=>simp [intOf];omega
  ·have hD:rF cs:=by rwa [List.take_of_length_le (by omega)] at hdi
   clear hdi
   go_wp2
   all_goals (go_ret;exact ⟨RightP.of hD _,hb⟩)
theorem Wa:(prog.info? 116).map (fun i=>(i.zero,i.size,i.bytes))=some (some (.agg #[.string ⟨#[]⟩,.int .u8 0]),2,24):=by kernel_rfl
def Hi (s:ByteArray) (w:World) (e:Ending) (w':World):Prop :=
 Below w.heap.size w w'∧∃ A c cs,e=.returned (.agg #[.string s,.slice A cs.length c])∧w'.ownsRow w.heap.size 116 2 (.slice A cs.length c) cs.length (fB cs)∧cs.length≤8∧cs.length≤c∧∀ u∈cs,oI u∧1≤u.k∧u.k≤3
theorem Kc (cs:List Col) (n:Nat):fB (cs.take n)=(fB cs).take (n*2):=by
 induction cs generalizing n with
 | nil=>simp [fB]
 | cons c cs ih =>
   cases n with
   | zero=>simp [fB]
   | succ n =>
     have:=ih n
     show [Value.string ⟨c.n.toArray⟩,.int .u8 c.k]++fB (cs.take n)=([Value.string ⟨c.n.toArray⟩,.int .u8 c.k]++fB cs).take ((n+1)*2)
     rw [this,show (n+1)*2=n*2+1+1 by omega]
     rfl
theorem Rj (cs:List Col):(fB cs).length=cs.length*2:=pV (f:=Zn) (n:=2) (fun _=>rfl) cs
theorem Ri (cs:List Col):∀ u∈fB cs,u.oneCell'=true:=by
 intro u hu
 unfold fB at hu
 obtain ⟨c, -,hc⟩:=List.mem_flatMap.1 hu
 simp only [List.mem_cons,List.not_mem_nil,or_false] at hc
 rcases hc with rfl|rfl<;>rfl
theorem Rh {cs:List Col} {i:Nat} (hi:i<cs.length) (k:Int):(fB cs).set (i*2+1) (.int .u8 k)=fB (cs.set i ⟨(cs[i]).n,k⟩):=by
 induction cs generalizing i with
 | nil=>simp at hi
 | cons c cs ih =>
   cases i with
   | zero=>rfl
   | succ i =>
     have:=ih (i:=i) (by simpa using hi)
     have e:fB (c::cs)=Value.string ⟨c.n.toArray⟩::.int .u8 c.k::fB cs:=rfl
     rw [e,show (i+1)*2+1=(i*2+1)+1+1 by omega,List.set_cons_succ,List.set_cons_succ,this]
     rfl
def FewCs (i:Nat) (cs:List Col):Prop:=(∀ u∈cs,oI u)∧∀ j (h:j<cs.length),j<i→1≤(cs[j]).k∧(cs[j]).k≤3
theorem FewCs.next {i:Nat} {cs:List Col} (h:FewCs i cs) (hi:i<cs.length) {k:Int} (h1:1≤k) (h2:k≤3):FewCs (i+1) (cs.set i ⟨(cs[i]).n,k⟩):=by
 refine ⟨fun u hu => ?_,fun j hj hlt => ?_⟩
 ·rcases List.mem_or_eq_of_mem_set hu with hu|rfl
  ·exact h.1 u hu
  ·exact ⟨(h.1 _ (List.getElem_mem hi)).1,by show 0≤k;omega,by show k≤255;omega⟩
 ·rw [List.getElem_set]
  split
  ·exact ⟨h1,h2⟩
  ·exact h.2 j (by simpa using hj) (by omega)
theorem FewCs.all {cs:List Col} (h:FewCs cs.length cs):∀ u∈cs,oI u∧1≤u.k∧u.k≤3:=by
 intro u hu
 obtain ⟨j,hj,rfl⟩:=List.getElem_of_mem hu
 exact ⟨h.1 _ hu,h.2 j hj hj⟩
theorem World.ownsRow_setCell_lt {w:World} {base:Nat} {e:TypeId} {size:Nat} {v:Value} {n:Nat} {xs:List Value} (h:w.ownsRow base e size v n xs) {a:Addr} (ha:a.block<base) (u:Value):(w.setCell a u).ownsRow base e size v n xs:=ownsRow_setCell_below h ha u
theorem Ql {k g n c:Nat} (h:k<g):some k≠Value.ownBlock (.slice (some ⟨g,0,none⟩) n c):=by
 show some k≠some g
 intro e
 injection e with e
 omega
theorem Fg (s:ByteArray) (A:Option Addr) (c:Nat) (cs:List Col) (w:World) (h:Rds w A (fB cs)) (hc:cs.length≤c) (hok:∀ u∈cs,oI u) :
 Calls prog 24 #[.agg #[.string s,.slice A cs.length c]] w (Hi s w):=by
 obtain ⟨iC,hiC,hz0,hz1,hz2⟩:=info_parts Wa
 have hm:(min (cs.length:Int) 8).toNat=min cs.length 8:=by omega
 have h0:(0:Int)≤min (cs.length:Int) 8:=by omega
 have h1:min (cs.length:Int) 8≤(cs.length:Int):=by omega
 have h2:min (cs.length:Int) 8≤(c:Int):=by omega
 have h3:(min cs.length 8)≤8:=by omega
 have hb0:Below w.heap.size w ((w.alloc (.cells #[.string s,.slice A cs.length c] 52)).alloc (.cells #[.string ⟨#[]⟩,.slice none 0 0] 52)):=bal (bal (θ) _) _
 have hbl:Below w.heap.size w (((w.alloc (.cells #[.string s,.slice A cs.length c] 52)).alloc (.cells #[.string ⟨#[]⟩,.slice none 0 0] 52)).alloc (.cells #[] 116)):=bal hb0 _
 have hown:(((w.alloc (.cells #[.string s,.slice A cs.length c] 52)).alloc (.cells #[.string ⟨#[]⟩,.slice none 0 0] 52)).alloc (.cells #[] 116)).ownsRow (w.heap.size+1+1) 116 2 (.slice (some ⟨w.heap.size+1+1,0,none⟩) 0 0) 0 []:=by
  have:=World.ownsRow_lit (base:=w.heap.size+1+1) (e:=116) (size:=2) ((w.alloc (.cells #[.string s,.slice A cs.length c] 52)).alloc (.cells #[.string ⟨#[]⟩,.slice none 0 0] 52)) #[] 0 (by simp) (Nat.zero_le _) rfl
  simpa using this
 have hrd:Rds (((w.alloc (.cells #[.string s,.slice A cs.length c] 52)).alloc (.cells #[.string ⟨#[]⟩,.slice none 0 0] 52)).alloc (.cells #[] 116)) A (fB (cs.take (min cs.length 8))):=by
  rw [Kc]
  exact (h.below hbl).take _
 have hx:=aC (aC (heap_alloc_new w (.cells #[.string s,.slice A cs.length c] 52)) (.cells #[.string ⟨#[]⟩,.slice none 0 0] 52)) (.cells #[] 116)
 have hr:=aC (bN w (.cells #[.string s,.slice A cs.length c] 52) (.cells #[.string ⟨#[]⟩,.slice none 0 0] 52)) (.cells #[] 116)
 have hcl:(cs.take (min cs.length 8)).length=(min cs.length 8):=by rw [List.length_take];omega
 have hF0:FewCs 0 (cs.take (min cs.length 8)):=⟨fun u hu=>hok u (List.mem_of_mem_take hu),fun j _ hj=>by omega⟩
 have HX:=κ (ι hx (ι hr (ι hbl (ι hcl hF0))))
 have HO:=κ hown
 have HR:=κ hrd
 have hcl2:(fB (cs.take (min cs.length 8))).length=(min cs.length 8)*2:=by rw [Rj,hcl]
 have HC:=κ hcl2
 have HCO:=κ (Ri (cs.take (min cs.length 8)))
 have hcI:((min cs.length 8:Nat):Int)≤8:=by omega
 clear hx hr hbl hcl hF0 hown hrd hcl2 hb0 h hok
 go_enter func24,ntmps24
 go_wp2_with (at_builtin;go_loud (refine bH _ rfl (.tmp 4) (.tmp 11) _ rfl (w.heap.size+1+1) 116 iC _ 2 24 underlying33 hiC hz0 hz1 hz2 rfl (by omega) _ _ _ _ rfl HO.out _ (min cs.length 8) _ (fB (cs.take (min cs.length 8))) rfl HC.out HR.out HCO.out (by simp only [maxLen];omega) (by omega) (by simp) ?_;intro A4 c4 w4 hown4 hb4 _ hk4;rw [List.nil_append,Nat.zero_add] at hown4;rw [Nat.zero_add] at hk4 ⊢;obtain ⟨hx,hxn⟩:=hk4 _ _ HX.out.1 (Ql (by omega));obtain ⟨hr, -⟩:=hk4 _ _ HX.out.2.1 (Ql (by omega));have cx4:=β hx;have fx4:=fun j=>frozen_of_row _ _ j _ _ hx))
 have hb5:=HX.out.2.2.1.trans (hb4.mono (Nat.le_trans (Nat.le_succ _) (Nat.le_succ _)))
 have hown5:=World.ownsRow_setCell_lt hown4 (a:=⟨w.heap.size,1,none⟩) (by show w.heap.size<w.heap.size+1+1;omega) (.slice A4 (min cs.length 8) c4)
 have hx5:=heap_setCell_same w4 w.heap.size 1 _ _ (.slice A4 (min cs.length 8) c4) hx
 rw [show (#[Value.string s,.slice A cs.length c]:Array Value).setIfInBounds 1 (.slice A4 (min cs.length 8) c4)=#[.string s,.slice A4 (min cs.length 8) c4] by simp] at hx5
 have hr5:=(Below.heap_setCell w4 ⟨w.heap.size,1,none⟩ (.slice A4 (min cs.length 8) c4) (w.heap.size+1) (by show w.heap.size+1≠w.heap.size;omega)).trans hr
 have hb6:=hb5.setCell (p:=⟨w.heap.size,1,none⟩) (ν _) (.slice A4 (min cs.length 8) c4)
 have hF0:=HX.out.2.2.2.2
 have hcl:=HX.out.2.2.2.1
 generalize (w4.setCell ⟨w.heap.size,1,none⟩ (.slice A4 (min cs.length 8) c4))=W5 at *
 generalize cs.take (min cs.length 8)=ct at *
 have HI:=κ (ι hown5 (ι hx5 (ι hr5 (ι hb6 (ι hF0 hcl)))))
 clear hown5 hx5 hr5 hb6 hF0 hcl hb5 cx4 fx4 hx hxn hr hk4 hb4 hown4 HO HR HC HCO HX
 go_loopw [3,17] (fun _ s17 wr=>∃ (i:Nat) (ct:List Col),i≤min cs.length 8∧s17=.int .i64 i∧ct.length=min cs.length 8∧wr.ownsRow (w.heap.size+1+1) 116 2 (.slice A4 (min cs.length 8) c4) (min cs.length 8) (fB ct)∧FewCs i ct ∧
  wr.heap[w.heap.size]? = some (.cells #[.string s,.slice A4 (min cs.length 8) c4] 52 (0,0))∧wr.heap[w.heap.size+1]? = some (.cells #[.string ⟨#[]⟩,.slice none 0 0] 52 (0,0))∧Below w.heap.size w wr) (fun _ s17 _=>min cs.length 8-(intOf s17).toNat)
 case atStart=>exact ⟨0,ct,Nat.zero_le _,rfl,HI.out.2.2.2.2.2,HI.out.1,HI.out.2.2.2.2.1,HI.out.2.1,HI.out.2.2.1,HI.out.2.2.2.1⟩
 case round =>
  obtain ⟨i,ct,hi,rfl,hcl,hown,hF,hx,hr,hb⟩:=hrel
  generalize min cs.length 8=m at *
  by_cases hlt:i<m
  ·obtain ⟨g4,cap,hv, -⟩:=hown.form (by omega)
   injection hv with hA4 h7 h8
   clear h7 h8
   subst hA4
   obtain ⟨b,off,hA,q0,q1⟩:=iQ (Rds.own hown) (show i<ct.length by omega)
   simp only [Option.some.injEq,Addr.mk.injEq,and_true] at hA
   obtain ⟨rfl,rfl⟩:=hA
   have hk:=hF.1 _ (List.getElem_mem (show i<ct.length by omega))
   have hk0:=hk.2.1
   have hk1:=hk.2.2
   have cx:=β hx
   have fo:=hown.frozenAt
   simp only [Nat.zero_add] at q0 q1
   generalize (ct[i]'(by omega)).k=kd at *
   have HS:=κ (ι hcl (ι hown (ι hF (ι hx (ι hr hb)))))
   clear q0 hk hcl hown hF hx hr hb HI
   go_wp2_with fail
   go_region
   obtain ⟨hcl,hown,hF,hx,hr,hb⟩:=HS.out
   have hg4:=(hown.lt g4 rfl).1
   have ho2:=(hown.stored (i*2+1) (.int .u8 (1+kd % 3))).1
   rw [Rh (show i<ct.length by omega)] at ho2
   have hF2:=hF.next (show i<ct.length by omega) (k:=1+kd % 3) (by omega) (by omega)
   have hx2:=(Below.heap_setCell wr ⟨g4,i*2+1,none⟩ (.int .u8 (1+kd % 3)) w.heap.size (by show w.heap.size≠g4;omega)).trans hx
   have hr2:=(Below.heap_setCell wr ⟨g4,i*2+1,none⟩ (.int .u8 (1+kd % 3)) (w.heap.size+1) (by show w.heap.size+1≠g4;omega)).trans hr
   have hb2:=hb.setCell (p:=⟨g4,i*2+1,none⟩) (by show w.heap.size≤g4;omega) (.int .u8 (1+kd % 3))
   have hl2:(ct.set i ⟨(ct[i]'(by omega)).n,1+kd % 3⟩).length=m:=by rw [List.length_set];exact hcl
   have hN:=ι hl2 (ι ho2.drew (ι hF2 (ι hx2 (ι hr2 hb2.drew))))
   generalize ct.set i ⟨(ct[i]'(by omega)).n,1+kd % 3⟩=ct2 at hN
   have HN:=κ hN
   clear hcl hown hF hx hr hb hg4 ho2 hF2 hx2 hr2 hb2 hl2 hN HS cx fo q1
   go_wp2
   go_roundw
   case rel=>exact ⟨i+1,_,by omega,by go_num,HN.out.1,HN.out.2.1,HN.out.2.2.1,HN.out.2.2.2.1,HN.out.2.2.2.2.1,HN.out.2.2.2.2.2⟩
   case measure=>simp [intOf];omega
  ·have hi2:i=ct.length:=by omega
   have hok2:=(hi2▸hF).all
   have cx:=β hx
   have cr:=β hr
   have fr:=fun j=>frozen_of_row _ _ j _ _ hr
   have hm8:ct.length≤8:=by omega
   have hcap:ct.length≤c4:=by
    rcases hown.2 with ⟨hv,h0⟩|⟨g,cap,cur,hv, -, -,hnc, -⟩
    ·omega
    ·injection hv with _ _ hv
     omega
   have hm2:m=ct.length:=by omega
   subst hm2
   have hr3:=heap_setCell_same _ (w.heap.size+1) 1 _ _ (.slice A4 ct.length c4) (heap_setCell_same wr (w.heap.size+1) 0 _ _ (.string s) hr)
   have hb3:=(hb.setCell (p:=⟨w.heap.size+1,0,none⟩) (Nat.le_succ _) (.string s)).setCell (p:=⟨w.heap.size+1,1,none⟩) (Nat.le_succ _) (.slice A4 ct.length c4)
   have HCE:=κ (β hr3)
   have hrd2:=(World.ownsRow_setCell_lt (World.ownsRow_setCell_lt hown (a:=⟨w.heap.size+1,0,none⟩) (by show w.heap.size+1<_;omega) (.string s)) (a:=⟨w.heap.size+1,1,none⟩) (by show w.heap.size+1<_;omega) (.slice A4 ct.length c4)).mono (base':=w.heap.size) (by omega)
   have HE:=κ (show Hi s w (.returned (.agg #[.string s,.slice A4 ct.length c4])) ((wr.setCell ⟨w.heap.size+1,0,none⟩ (.string s)).setCell ⟨w.heap.size+1,1,none⟩ (.slice A4 ct.length c4)) from ⟨hb3,A4,c4,ct,rfl,hrd2,hm8,hcap,hok2⟩)
   clear hown hx hr hb hb3 hrd2 hok2 hF hr3 hi2
   go_wp2
   have hcE:=HCE.out
   simp only [List.setIfInBounds_toArray,List.set_cons_zero,List.set_cons_succ] at hcE
   exact bodyPost_ret (v:=.agg #[.string s,.slice A4 ct.length c4]) (by simp [results,results24,go_sem,hcE]) rfl HE.out
theorem kI {w w':World} {B1 B2 n1 n2 s1 s2:Nat} {e1 e2:TypeId} {v1 v2:Value} {x1 x2:List Value} (h1:w.ownsRow B1 e1 s1 v1 n1 x1) (h2:w.ownsRow B2 e2 s2 v2 n2 x2) (hne:e2≠e1) (hg:w.grownBy w' v2.ownBlock) :
 w'.ownsRow B1 e1 s1 v1 n1 x1:=by
 refine h1.kept hg ?_
 rcases h1.2 with ⟨rfl,_⟩|⟨g,cap,cur,rfl,_,hgg,_⟩
 ·exact .inl rfl
 ·exact .inr (cX h2 hgg hne)
def Sj (W:World) (B:Nat) (p:dL):Prop:=W.ownsRow B 116 2 (.slice p.2.1 p.1.cs.length p.2.2) p.1.cs.length (fB p.1.cs)∧p.1.n.length≤maxLen∧p.1.cs.length≤8∧p.1.cs.length≤p.2.2∧rF p.1.cs∧∀ u∈p.1.cs,oI u∧1≤u.k∧u.k≤3
def TabsIn (W:World) (B:Nat) (l:List dL):Prop:=∀ p∈l,Sj W B p
theorem TabsIn.below {W W':World} {B:Nat} {l:List dL} (h:TabsIn W B l) (hb:Below W.heap.size W W'):TabsIn W' B l:=fun p hp=>⟨aQ (h p hp).1 hb,(h p hp).2⟩
theorem TabsIn.two {W W':World} {B B2 n2 s2:Nat} {e2:TypeId} {v2:Value} {x2:List Value} {l:List dL} (h:TabsIn W B l) (h2:W.ownsRow B2 e2 s2 v2 n2 x2) (hne:e2≠116) (hg:W.grownBy W' v2.ownBlock):TabsIn W' B l :=
 fun p hp=>⟨kI (h p hp).1 h2 hne hg,(h p hp).2⟩
theorem TabsIn.snoc {W:World} {B:Nat} {l:List dL} {p:dL} (h:TabsIn W B l) (hp:Sj W B p):TabsIn W B (l++[p]):=fun q hq=>by
 rcases List.mem_append.1 hq with hq|hq
 ·exact h q hq
 ·rw [List.mem_singleton] at hq;rw [hq];exact hp
theorem Lu (l:List dL) (p:dL):tbv (l++[p])=tbv l++[.string ⟨p.1.n.toArray⟩,.slice p.2.1 p.1.cs.length p.2.2]:=by simp [tbv]
theorem iA {w:World} {A:Option Addr} {l:List dL} (h:Rds w A (tbv l)) {i:Nat} (hi:i<l.length):∃ b off,A=some ⟨b,off,none⟩∧w.cell? ⟨b,off+i*2,none⟩=some (.string ⟨(l[i]).1.n.toArray⟩)∧w.cell? ⟨b,off+i*2+1,none⟩=some (.slice (l[i]).2.1 (l[i]).1.cs.length (l[i]).2.2):=by
 obtain ⟨h0,h1⟩:=Dq hi
 rcases h with hn|⟨b,off,rfl,hc⟩
 ·rw [hn] at h0;simp at h0
 ·exact ⟨b,off,rfl,hc _ _ h0,by rw [Nat.add_assoc];exact hc _ _ h1⟩
theorem nQ {w:World} {g:Nat} {a b:Value} {t:TypeId} (h:w.heap[g]? = some (.cells #[a,b] t (0,0))):w.cell? ⟨g,0,none⟩=some a∧w.cell? ⟨g,1,none⟩=some b:=⟨β h 0,β h 1⟩
theorem Lx:(prog.info? 50).map (fun i=>(i.zero,i.size,i.bytes))=some (some (.agg #[.string ⟨#[]⟩,.slice none 0 0]),2,40):=by kernel_rfl
theorem Lw:(prog.info? 52).map (fun i=>(i.zero,i.size,i.bytes))=some (some (.agg #[.string ⟨#[]⟩,.slice none 0 0]),2,40):=by kernel_rfl
def ScPost (most:Nat) (w:World) (e:Ending) (w':World):Prop :=
 Below w.heap.size w w'∧((e=.returned (.tuple #[.slice none 0 0,.slice none 0 0,.bool false]))∨∃ (l:List dL) (A1:Option Addr) (c1:Nat) (A2:Option Addr) (c2:Nat),e=.returned (.tuple #[.slice A1 l.length c1,.slice A2 l.length c2,.bool true])∧ScA w' A1 l∧ScA w' A2 l∧l.length≤most ∧
  ∀ p∈l,p.1.cs.length≤8∧rF p.1.cs∧∀ u∈p.1.cs,1≤u.k∧u.k≤3)
theorem ScPost.no {most:Nat} {w w':World} (hb:Below w.heap.size w w'):ScPost most w (.returned (.tuple #[.slice none 0 0,.slice none 0 0,.bool false])) w':=⟨hb,.inl rfl⟩
theorem ScPost.yes {most:Nat} {w w':World} {B1 n:Nat} {l:List dL} {A1 A2:Option Addr} {c1 c2:Nat} (hn:n=l.length) (hm:l.length≤most) (hb:Below w.heap.size w w') (h1:w'.ownsRow B1 50 2 (.slice A1 n c1) n (tbv l)) (h2:w'.ownsRow B1 52 2 (.slice A2 n c2) n (tbv l)) (hT:TabsIn w' B1 l) :
 ScPost most w (.returned (.tuple #[.slice A1 n c1,.slice A2 n c2,.bool true])) w':=by
 subst hn
 have ok:∀ u∈l,TabOk w' u:=fun u hu=>⟨(hT u hu).2.1,Rds.own (hT u hu).1,(hT u hu).2.2.2.1,fun c hc=>((hT u hu).2.2.2.2.2 c hc).1⟩
 exact ⟨hb,.inr ⟨l,A1,c1,A2,c2,rfl,⟨Rds.own h1,ok⟩,⟨Rds.own h2,ok⟩,hm,fun p hp=>⟨(hT p hp).2.2.1,(hT p hp).2.2.2.2.1,fun u hu=>((hT p hp).2.2.2.2.2 u hu).2⟩⟩⟩
def aX (l:List dL):List Tb:=l.map (·.1)
