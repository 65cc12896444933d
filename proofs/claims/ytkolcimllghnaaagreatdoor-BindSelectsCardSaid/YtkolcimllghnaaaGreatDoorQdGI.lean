/-
 Contracts. Conditions: those of each.
-/
import Derived.Test.YtkolcimllghnaaaGreatDoorQdGH
import Derived.Recover
import Derived.Defers
import Derived.RegionTactic
import Derived.Test.YtkolcimllghnaaaGreatDoorQdGD
set_option maxRecDepth 100000
set_option maxHeartbeats 8000000
namespace Go.Proofs.YtkolcimllghnaaaGreatDoor
open Lp Go.Proofs.Tryz
open Go.RowKit
variable{P g:Nat}{c:UInt8}{v:Value}{w:World}{l:ZW}
theorem aAT (P d n:Nat) (hd:d≤100000) (HE:∀ m,m<n->LvOk 124 1 P (d+1) m):LvOk 207 8 P d n:=by
 intro w l hl h hs hR;cases l with
 | nil=>exact aAR P d w h
 | cons t r =>
   have ht:=hs.2 t aa;have hr:=HE r.length ot;have hk:t.k=1∨t.k=2∨t.k=3∨t.k=4:=by have:=ht.1;have:=ht.2.1;omega
   rcases hk with hk|hk|hk|hk
   ·by_cases h1:t.s=cE∨t.s=dU∨t.s=cX
    ·exact aAS P d t r w h hs hR hk h1
    ·by_cases h2:t.s=bF∨t.s=gG∨t.s=jA∨t.s=kL
     ·exact Mi P d t r w h hs hR hd hk h2 hr
     ·exact St P d t r w h hs hR hk ⟨λe=>h1 (.inl e),λe=>h1 (.inr (.inl e)),λe=>h1 (.inr (.inr e)),λe=>h2 (.inl e),λe=>h2 (.inr (.inl e)),λe=>h2 (.inr (.inr (.inl e))),λe=>h2 (.inr (.inr (.inr e)))⟩
   ·exact Jb P d t r w h (.inl hk)
   ·exact Jb P d t r w h (.inr hk)
   ·exact Ss P d t r w h hs hR hd hk hr
structure AllLv (P d n:Nat):Prop where
 e:LvOk 124 1 P d n
 nt:LvOk 170 3 P d n
 m:LvOk 206 7 P d n
theorem iQ (P:Nat):∀ (n d:Nat),d+n≤100000->AllLv P d n:=by
 intro n
 induction n using Nat.strongRecOn with
 | _ n ih =>
   intro d hd;have hm:=Qy P d n ac (aAT P d n ac (λm h=>(ih m h (d+1) ac).e)) (λm h=>(ih m h (d+1) ac).m);have hn:=aDQ P d n ac (Wv P d n (aBY P d n (Gn P d n hm))) (λm h=>(ih m h (d+1) ac).nt);exact ⟨Za P d n (aAN P d n hn),hn,hm⟩
def lB (l:ZW):Option (Option Lp.X×ZW):=if isF [119,104,101,114,101] l then (pX 1 0 l.tail).map λp=>(some p.1,p.2) else some (none,l)
def PXo (B:Nat) (w:World):Option Lp.X->Value->Prop
 | none,v=>v=.nilIface
 | some x,v=>(∃ T g,v=.iface T (.pointer (some ⟨g,0,none⟩)))∧PX B w x v
def nY (P:Nat) (w:World) (q:Option (Option Lp.X×ZW)) (e:Ending) (w':World):Prop :=
 But P w w'∧match q with
 | none=>∃ c,e=aT c∧c≠0
 | some (x,r)=>∃ v,e=.returned v∧PXo w w' x v∧PS w' P r 0
theorem tQ (P:Nat) (l:ZW) (w:World) (h:PS w P l 0) (hs:Lsane l) (hR:Resv w) :
 Calls prog 126 #[P] w (nY P w (lB l)):=by
 cases hf:isF [119,104,101,114,101] l
 ·have HI:=κ (bS P 0 l ⟨#[119,104,101,114,101]⟩ w h false hf);have HQ:=κ (show lB l=some (none,l) by rw [lB,hf];rfl);clear h hs hR hf;go_enter func126,ntmps126;go_wp2_with fail;refine μ HI ?_;rintro e w1 ⟨rfl,hb1,hp1⟩;go_wp2;go_ret;refine ⟨hb1, ?_⟩;rw [HQ.o];exact ⟨_,rfl,rfl,hp1⟩
 ·have HI:=κ (bS P 0 l ⟨#[119,104,101,114,101]⟩ w h true hf);have HQ:=κ (show lB l=(pX 1 0 l.tail).map λp=>(some p.1,p.2) by rw [lB,if_pos hf]);have HE:=κ (λw' (hb:But P w w') (hp:PS w' P l.tail 0)=>(iQ P l.tail.length 0 (by have:=hs.tl.1;omega)).e w' l.tail (ν _) hp hs.tl (hR.but h hb));clear h hs hR hf;go_enter func126,ntmps126;go_wp2_with fail;refine μ HI ?_;rintro e w1 ⟨rfl,hb1,hp1⟩;simp only [if_true] at hp1;have HC:=κ (HE.o w1 hb1 hp1);clear hp1 HE;go_wp2_with fail;refine μ HC ?_;rintro e w2 ⟨hb2,hq2⟩;rcases hq:pX 1 0 l.tail with _|⟨x,r⟩
  ·rw [hq] at hq2;obtain ⟨ce,rfl,hce⟩:=hq2;have HN:=κ (show lB l=none by rw [HQ.o,hq];rfl);clear hq;unfold aT;go_wp2;refine ⟨rfl,hb1.trans hb2, ?_⟩;rw [HN.o];exact dy
  ·rw [hq] at hq2;obtain ⟨T,g,rfl,hx,hp2⟩:=hq2;have HN:=κ (show lB l=some (some x,r) by rw [HQ.o,hq];rfl);clear hq;go_wp2;go_ret;refine ⟨hb1.trans hb2, ?_⟩;rw [HN.o];exact ⟨_,rfl,⟨⟨_,_,rfl⟩,hx.mono hb1.size⟩,hp2⟩
def rG:ZS:=[102,114,111,109]
def qH:ZS:=[100,101,108,101,116,101]
def oU (l:ZW):Option (ZS×Option Lp.X×ZW):=match aD rG l with
 | none=>none
 | some r1=>match bB r1 with
   | none=>none
   | some (n,r2)=>match lB r2 with
     | none=>none
     | some (x,r3)=>some (n,x,r3)
def wD (P:Nat) (w:World) (q:Option (ZS×Option Lp.X×ZW)) (e:Ending) (w':World):Prop :=
 But P w w'∧match q with
 | none=>∃ c,e=aT c∧c≠0
 | some (n,x,r)=>∃ g v,e=.returned (.iface 213 (.pointer (some ⟨g,0,none⟩)))∧w.heap.size≤g∧w'.heap[g]? = some (.cells #[n,v] 216 (0,0))∧PXo w w' x v∧PS w' P r 0
theorem tH {w':World} {q:Option (ZS×Option Lp.X×ZW)} {c:Int} (hb:But P w w') (hq:q=none) (hc:c≠0):wD P w q (aT c) w':=by
 subst hq;exact mu
theorem PXo.keepB {B:Nat} {w w':World} (hs:∀ g o,B≤g->w.heap[g]? = some o->w'.heap[g]? = some o) {x:Option Lp.X} {v:Value} (h:PXo B w x v):PXo B w' x v:=by
 cases x with
 | none=>exact h
 | some x=>exact ⟨h.1,PX.keepB hs h.2⟩
theorem PXo.mono {B B':Nat} {w:World} (hB:B'≤B) {x:Option Lp.X} {v:Value} (h:PXo B w x v):PXo B' w x v:=by
 cases x with
 | none=>exact h
 | some x=>exact ⟨h.1,PX.mono hB h.2⟩
theorem PXo.form {B:Nat} {x:Option Lp.X} (h:PXo B w x v):v=.nilIface∨∃ T g,v=.iface T (.pointer (some ⟨g,0,none⟩)):=by
 cases x with
 | none=>exact .inl h
 | some x=>exact .inr h.1
theorem xC (P:Nat) (l:ZW) (w:World) (h:PS w P l 0) (hs:Lsane l) (hR:Resv w) :
 Calls prog 68 #[P] w (wD P w (oU l)):=by
 have HNe:=κ (bQ P 0 rG l w h);have HP:=da;have HR:=κ hR;have HS:=κ hs;clear h hs hR;go_enter func68,ntmps68;go_wp2_with fail;refine μ HNe ?_;rintro e w1 hn;rcases hq1:aD rG l with _|r1
 ·obtain ⟨rfl,hb1⟩:=hn.no hq1;have HN:=κ (show oU l=none by rw [oU,hq1]);clear hq1 hn;unfold aT;go_wp2;exact ⟨rfl,tH hb1 HN.o am⟩
 ·obtain ⟨rfl,hb1,hp1⟩:=hn.yes hq1;have HR1:=κ (HR.o.but HP.o hb1);have HNm:=κ (eD P 0 r1 w1 hp1 HR1.o);have HS1:=κ (HS.o.sfx (aU hq1));have HP1:=κ hp1;have HQ1:=κ hq1;clear hn hq1 hp1;go_wp2_with fail;refine μ HNm ?_;rintro e w2 ⟨hb2,hq2⟩;have hB2:=hb1.trans hb2;rcases hq:bB r1 with _|⟨n,r2⟩
  ·rw [hq] at hq2;obtain ⟨ce,rfl,hce⟩:=hq2;have HN:=κ (show oU l=none by rw [oU,HQ1.o];simp only [hq]);clear hq;unfold aT;go_wp2;exact ⟨rfl,tH hB2 HN.o hce⟩
  ·rw [hq] at hq2;obtain ⟨rfl,hp2⟩:=hq2;have HR2:=HR1.o.but HP1.o hb2;have HS2:=HS1.o.sfx (bZ hq);have hb3:Below w2 w2 (w2.alloc (.cells #[n,.nilIface] 216)):=ρ;have hp3:=hp2.below hb3;have hx3:=heap_alloc_new w2 (.cells #[n,.nilIface] 216);have HW:=κ (tQ P r2 _ hp3 HS2 (cC HR2 hb3));have HX3:=κ hx3;have HB3:=κ (hB2.trans (But.of hb3));have hgP:P<w2:=hp2.lt;have hz2:=hB2.size;have HQ2:=mi;clear hq hp2 HR2 HS2 hb3 hp3 hx3 hb2 hB2 hb1;go_wp2_with fail;refine μ HW ?_;rintro e w4 ⟨hb4,hq4⟩;have hx4:=aL hb4 HX3.o (Nat.ne_of_gt hgP);have hB4:=HB3.o.trans hb4;rcases hq:lB r2 with _|⟨x,r3⟩
   ·rw [hq] at hq4;obtain ⟨ce,rfl,hce⟩:=hq4;have HN:=κ (show oU l=none by rw [oU,HQ1.o];simp only [HQ2.o,hq]);clear hq hx4;unfold aT;go_wp2;exact ⟨rfl,tH hB4 HN.o hce⟩
   ·rw [hq] at hq4;obtain ⟨v,rfl,hv,hp4⟩:=hq4;have HN:=κ (show oU l=some (n,x,r3) by rw [oU,HQ1.o];simp only [HQ2.o,hq]);have hx5:=heap_setCell_same w4 w2 1 _ _ v hx4;have hv5:PXo w (w4.setCell ⟨w2,1,none⟩ v) x v :=
     (hv.keepB (λk o hk ho=>(Below.heap_setCell w4 ⟨w2,1,none⟩ _ k (by intro e;simp at hk e;omega)).trans ho)).mono bl
    have hc4:=β hx4;have hfz:=na;have HE:=κ (ι (hB4.setNew (o:=1) hz2 v) (ι (show (w4.setCell ⟨w2,1,none⟩ v).heap[w2.heap.size]? = some (.cells #[n,v] 216 (0,0)) by simpa using hx5) (ι hv5 (hp4.setNew (o:=1) hgP v))));rcases hv.form with rfl|⟨T,g,rfl⟩
    all_goals
     clear hq hx5 hv5 hx4 hv hp4 hb4 hB4;go_wp2;go_ret;refine ⟨HE.o.1, ?_⟩;rw [HN.o];exact ⟨_,_,rfl,hz2,HE.o.2.1,HE.o.2.2.1,HE.o.2.2.2⟩
theorem cF {s u:ZS} (h:isF s l=true) (hne:(s==u)=false):isF u l=false:=Cb h (by simpa using hne)
theorem zR (P:Nat) (l:ZW) (w:World) (h:PS w P l 0) (hs:Lsane l) (hR:Resv w) (hf:isF qH l=true) :
 Calls prog 29 #[P] w (wD P w (oU l.tail)):=by
 have f1:=cF hf (u:=[99,114,101,97,116,101]) am;have f2:=cF hf (u:=[100,114,111,112]) am;have f3:=cF hf (u:=[105,110,115,101,114,116]) am;have f4:=cF hf (u:=[117,112,100,97,116,101]) am;have H1:=κ (λw' (hp:PS w' P l 0)=>bS P 0 l ⟨#[99,114,101,97,116,101]⟩ w' hp false f1);have H2:=κ (λw' (hp:PS w' P l 0)=>bS P 0 l ⟨#[100,114,111,112]⟩ w' hp false f2);have H3:=κ (λw' (hp:PS w' P l 0)=>bS P 0 l ⟨#[105,110,115,101,114,116]⟩ w' hp false f3);have H4:=κ (λw' (hp:PS w' P l 0)=>bS P 0 l ⟨#[117,112,100,97,116,101]⟩ w' hp false f4);have H5:=κ (λw' (hp:PS w' P l 0)=>bS P 0 l ⟨#[100,101,108,101,116,101]⟩ w' hp true hf);have HC:=κ (λw' (hb:But P w w') (hp:PS w' P l.tail 0)=>xC P l.tail w' hp hs.tl (hR.but h hb));have HP:=da;clear f1 f2 f3 f4 hf hs hR h;go_enter func29,ntmps29;go_wp2_with fail;refine (H1.o w HP.o).mono ?_;rintro e w1 ⟨rfl,hb1,hp1⟩;have HP1:=κ hp1;clear hp1;go_wp2_with fail;refine (H2.o w1 HP1.o).mono ?_;rintro e w2 ⟨rfl,hb2,hp2⟩;have HP2:=κ hp2;clear hp2;go_wp2_with fail;refine (H3.o w2 HP2.o).mono ?_;rintro e w3 ⟨rfl,hb3,hp3⟩;have HP3:=κ hp3;clear hp3;go_wp2_with fail;refine (H4.o w3 HP3.o).mono ?_;rintro e w4 ⟨rfl,hb4,hp4⟩;have HP4:=κ hp4;clear hp4;go_wp2_with fail;refine (H5.o w4 HP4.o).mono ?_;rintro e w5 ⟨rfl,hb5,hp5⟩;simp only [if_true] at hp5;have hB:=(((hb1.trans hb2).trans hb3).trans hb4).trans hb5;have HC5:=κ (HC.o w5 hB hp5);clear hb1 hb2 hb3 hb4 hb5 hp5;go_wp2_with fail;refine μ HC5 ?_
 rintro e w6 ⟨hb6,hq⟩;rcases hd:oU l.tail with _|⟨n,x,r⟩
 ·rw [hd] at hq;obtain ⟨ce,rfl,hce⟩:=hq;have HD:=κ hd;clear hd;unfold aT;go_wp2;exact ⟨rfl,tH (hB.trans hb6) (by first|exact HD.o|rfl) hce⟩
 ·rw [hd] at hq;obtain ⟨g,v,rfl,hg,hx,hv,hp⟩:=hq;have HE:=κ (ι hx (ι hv hp));have HD:=κ hd;clear hd hx hv hp;go_wp2;go_ret;refine ⟨hB.trans hb6, ?_⟩;rw [HD.o];exact ⟨_,_,rfl,Nat.le_trans hB.size hg,HE.o.1,HE.o.2.1.mono hB.size,HE.o.2.2⟩
theorem cH {p:Addr} {o:Obj} (h:w.heap[g]? = some o) (hne:g≠p.block):(w.setCell p v).heap[g]? = some o:=by
 simp [World.setCell,Array.getElem?_modify,Ne.symm hne,h]
theorem Pe (c:Int) (w:World):(Instr.field 97 (.agg #[.int .i64 c]) 0).run prog w=.ok (.int .i64 c) w:=aj
theorem Fm (c:Int) (w:World):(Instr.typeAssert (.iface 97 (.agg #[.int .i64 c])) 20 97 false).run prog w=.ok (.agg #[.int .i64 c]) w:=aj
attribute [local go_sem] Pe Fm
theorem oP (b0 b1:Nat) (c c1:Int) (v0:Value) (older:List PanicEntry) (w:World) (hne:b0≠b1) (h0:w.heap[b0]? = some (.cells #[v0] 28 (0,0))) (h1:w.heap[b1]? = some (.cells #[.int .i64 c1] 29 (0,0))) :
 CallsD prog 28 #[b0,b1] (.panicking ({ v:=.iface 97 (.agg #[.int .i64 c]),recovered:=false }::older)) w λe u' w' =>
  e=.returned (.tuple #[])∧u'=.panicking ({ v:=.iface 97 (.agg #[.int .i64 c]),recovered:=true }::older) ∧
  w'=((w.setCell ⟨b0,0,none⟩ .nilIface).setCell ⟨b1,0,none⟩ (.int .i64 c)).drew:=by
 have k0:=β h0 0;have k1:=cq;have z0:=frozen_of_row w b0 0 _ _ h0;have z1:=frozen_of_row w b1 0 _ _ h1;refine callsD_of_wpS func28 rfl λc₀ cs hu => ?_;apply wpS_seq;apply wpS_region;simp [wpOpsS,go_sem,recoverD,hu,ntmps28,Exit.thenS];refine wpS_of_wp ?_;have ht:(#[Value.pointer (some ⟨b0,0,none⟩),Value.pointer (some ⟨b1,0,none⟩)]++((Array.replicate 7 undef).setIfInBounds 1 (Value.iface 97 (Value.agg #[Value.int IntKind.i64 c]))).setIfInBounds 0 (Value.iface 97 (Value.agg #[Value.int IntKind.i64 c]))) =
  #[Value.pointer (some ⟨b0,0,none⟩),Value.pointer (some ⟨b1,0,none⟩),Value.iface 97 (Value.agg #[Value.int IntKind.i64 c]),Value.iface 97 (Value.agg #[Value.int IntKind.i64 c]),undef,undef,undef,undef,undef]:=rfl
 rw [ht];clear ht;go_wp2;have hne':b1≠b0:=λe=>hne e.symm;have hA:=cH (w:=w) (p:=⟨b0,0,none⟩) (v:=.nilIface) h1 hne';have hB:=cH (w:=w) (p:=⟨b1,0,none⟩) (v:=.int .i64 c) h0 hne;have kA:=β hA 0;have kB:=β hB 0;have zA:=frozen_of_row _ b1 0 _ _ hA;have zB:=frozen_of_row _ b0 0 _ _ hB;clear h0 h1 hA hB
 go_region
 all_goals
  go_wp2;simp [bodyPostS,results,results28]
theorem Ma (b0 b1:Nat) (w:World) :
 CallsD prog 28 #[b0,b1] .returning w λe u' w'=>e=.returned (.tuple #[])∧u'=.returning∧w'=w:=by
 refine callsD_of_wpS func28 rfl λc₀ cs hu => ?_;apply wpS_seq;apply wpS_region;simp [wpOpsS,go_sem,recoverD,hu,ntmps28,Exit.thenS];refine wpS_of_wp ?_;have ht:(#[Value.pointer (some ⟨b0,0,none⟩),Value.pointer (some ⟨b1,0,none⟩)]++((Array.replicate 7 undef).setIfInBounds 1 Value.nilIface).setIfInBounds 0 Value.nilIface) =
  #[Value.pointer (some ⟨b0,0,none⟩),Value.pointer (some ⟨b1,0,none⟩),Value.nilIface,Value.nilIface,undef,undef,undef,undef,undef]:=rfl
 rw [ht];clear ht;go_wp2;cases c₀
 simp_all [bodyPostS,results,results28]
theorem aEG (h:gP c=true):gP (jI c)=true:=by
 unfold jI
 split
 ·rename_i hc
  have e:(c+32).toNat=c.toNat+32:=by rw [UInt8.toNat_add];show (c.toNat+32) % 256=_;omega
  unfold gP;rw [e];have h1:decide (97≤c.toNat+32)=true:=bl
  have h2:decide (c.toNat+32≤122)=true:=bl
  rw [h1,h2];rfl
 ·exact h
theorem Pp {r:ZS} (h0:(bE (c::r)).2.2=0) (hl:r.length+1≤2000):vA (bE (c::r)).1:=by
 cases h1:gP c
 ·cases h2:aI c
  ·by_cases h3:c=39
   ·subst h3;rw [dE] at h0 |-;cases ht:txt r with
    | none=>rw [ht] at h0;cases h0
    | some p =>
      obtain ⟨s,n⟩:=p;rw [ht] at h0;unfold lD at h0 |-
      by_cases g1:aR s=true
      ·by_cases g2:s.length≤60
       ·simp only [g1,g2,if_true];exact ⟨by show (1:Int)≤3;decide,by show (3:Int)≤4;decide,(λh=>ar),(λh=>ar),by show s.length≤2000;omega⟩
       ·simp only [g1,g2,if_true,if_false] at h0;cases h0
      ·simp only [g1] at h0;cases h0
   ·rw [gD r h1 h2 h3] at h0 |-
    by_cases g:cK (c::r)=0
    ·rw [if_pos g] at h0;cases h0
    ·rw [if_neg g];have hn:=pD (c::r);obtain ⟨m,hm⟩:∃ m,cK (c::r)=m+1:=⟨cK (c::r)-1,ac⟩;refine ⟨by show (1:Int)≤4;decide,by show (4:Int)≤4;decide,(λh=>ar),(λ_=>⟨c,r.take m, ?_,h1⟩), ?_⟩
     ·show (c::r).take (cK (c::r))=_;rw [hm,List.take_succ_cons]
     ·show ((c::r).take (cK (c::r))).length≤2000;rw [List.length_take];simp only [List.length_cons] at hn |-;omega
  ·rw [iY r h1 h2];exact ⟨by show (1:Int)≤2;decide,by show (2:Int)≤4;decide,(λh=>ar),(λh=>ar),Nat.zero_le _⟩
 ·rw [gC r h1];have h2:=gH cB (c::r);have h3:cB c=true:=by simp [cB,h1]
  refine ⟨by show (1:Int)≤1;decide,by show (1:Int)≤4;decide,(λ_=>⟨jI c,(r.takeWhile cB).map jI, ?_,aEG h1⟩),(λh=>ar), ?_⟩
  ·show ((c::r).takeWhile cB).map jI=_;rw [List.takeWhile_cons,h3];rfl
  ·show (((c::r).takeWhile cB).map jI).length≤2000;rw [List.length_map];simp only [List.length_cons] at h2;omega
theorem uA:∀ (k:Nat) (acc:ZW) (l:ZS),l.length≤k->l.length≤2000->(∀ t∈acc,vA t)->∀ t∈(dN acc l).1,vA t
 | k,acc,[],_,_,h=>by rw [kN];exact h
 | 0,acc,c::r,hk,_,_=>bo
 | k+1,acc,c::r,hk,h2,h=>by
   simp only [List.length_cons] at hk h2;cases hb:eP c
   ·by_cases h0:(bE (c::r)).2.2=0
    ·rw [dM acc hb h0];have h1:=mV h0;refine uA k _ _ au au ?_;intro t ht;rcases List.mem_append.1 ht with ht|ht
     ·exact h t ht
     ·rw [List.mem_singleton] at ht;rw [ht];exact Pp h0 ac
    ·rw [eB acc hb h0];intro t ht;cases ht
   ·rw [eY acc r hb];exact uA k acc r ac ac h
theorem tZ (l:ZS):Lsane (eL l).1:=by
 by_cases h:2000<l.length
 ·rw [tU h];exact ⟨Nat.zero_le _,λt ht=>by cases ht⟩
 ·rw [lT ac];refine ⟨?_,uA l.length [] l (ν _) ac (λt ht=>by cases ht)⟩;have:=pB l.length [] l (ν _);simp at this;omega
def aDG (L:ZW):Option (ZS×Option Lp.X):=match oU L.tail with
 | none=>none
 | some (n,x,r)=>if (if isF [59] r then r.tail else r)=[] then some (n,x) else none
def Tc (w:World) (q:Option (ZS×Option Lp.X)) (e:Ending) (w':World):Prop :=
 Below w w w'∧match q with
 | none=>∃ c:Int,c≠0∧e=.returned (.tuple #[.nilIface,.int .i64 c])
 | some (n,x)=>∃ g v,e=.returned (.tuple #[.iface 213 (.pointer (some ⟨g,0,none⟩)),.int .i64 0])∧w.heap.size≤g∧w'.heap[g]? = some (.cells #[n,v] 216 (0,0))∧PXo w w' x v
theorem Bm (s:ByteArray) (w:World) (hT:eQ w) (hs:s.size≤9223372036854775807) (L:ZW) (E:Int) (hL:eL s.data.toList=(L,E)) (hE:E≠0) :
 Calls prog 7 #[s] w λe w'=>Below w w w'∧e=.returned (.tuple #[.nilIface,.int .i64 E]):=by
 have hb:=ow;have hl:=yA s _ (aQ hT hb) hs;unfold kK at hl;rw [hL] at hl;have HL:=κ hl;have b0:=ov;have b1:=ou;have HB:=dm;have e0:(E !=0)=true:=bne_iff_ne.2 hE;have e1:(E==0)=false:=η hE;clear hl hb hT hL hE;go_enter_defers func7,ntmps7;go_wp2_with fail;refine μ HL ?_;rintro e w1 ⟨hb1,A,c,rfl,hc,hown⟩;have B0:=aA b0 hb1;have B1:=aA b1 hb1;have k0:=β B0 0;have k1:=β B1 0;have z0:=frozen_of_row _ w 0 _ _ B0;have z1:=frozen_of_row _ (w+1) 0 _ _ B1;clear b0 b1;go_wp2;have B1':=heap_setCell_same w1 (w+1) 0 _ _ (.int .i64 E) B1;have B0':=cH (w:=w1) (p:=⟨w+1,0,none⟩) (v:=.int .i64 E) B0 aa;have hB1:=(HB.o.trans (hb1.mono HB.o.size)).setCell (p:=⟨w+1,0,none⟩) aa (.int .i64 E);generalize w1.setCell ⟨w+1,0,none⟩ (.int .i64 E)=w2 at *;have B1':w2.heap[w.heap.size+1]? = some (.cells #[.int .i64 E] 29 (0,0)):=by simpa using B1'
 clear k0 k1 z0 z1 B0 B1 hb1 hown hc;have k0:=β B0' 0;have k1:=β B1' 0;have z0:=frozen_of_row _ w 0 _ _ B0';have z1:=frozen_of_row _ (w+1) 0 _ _ B1';have C0:=heap_setCell_same w2 w 0 _ _ .nilIface B0';have C1:=cH (w:=w2) (p:=⟨w,0,none⟩) (v:=.nilIface) B1' aa;have D0:=β C0 0;have D1:=β C1 0;have y0:=frozen_of_row _ w 0 _ _ C0;have y1:=frozen_of_row _ (w+1) 0 _ _ C1;have F1:=β (heap_setCell_same _ (w+1) 0 _ _ (.int .i64 E) C1) 0;have F0:=β (cH (p:=⟨w+1,0,none⟩) (v:=.int .i64 E) C0 aa) 0;have F1:((w2.setCell ⟨w,0,none⟩ .nilIface).setCell ⟨w+1,0,none⟩ (.int .i64 E)).cell? ⟨w+1,0,none⟩=some (.int .i64 E):=by simpa using F1
 have hB2:=((hB1.setCell (p:=⟨w,0,none⟩) (ν _) .nilIface).setCell (p:=⟨w+1,0,none⟩) aa (.int .i64 E)).drew;clear B0' B1' C0 C1
 go_region
 all_goals
  go_wp2;simp [bodyPostD,Leaves,results,results7,go_sem,F0,F1];exact hB2
theorem PS.setBox {d:Nat} {a:World} {v0:Value} {t:TypeId} (h:PS a P l d) (h0:a.heap[g]? = some (.cells #[v0] t (0,0))) (hne:g≠P) (v:Value):PS (a.setCell ⟨g,0,none⟩ v) P l d:=by
 obtain ⟨A,c,h1,h2,h3⟩:=h;refine ⟨A,c,(Below.heap_setCell a ⟨g,0,none⟩ v P mt).trans h1,h2, ?_⟩;rcases h3 with h3|⟨b,off,hA,hlt,hc⟩
 ·exact .inl h3
 ·by_cases hb:b=g
  ·subst hb;cases l with
   | nil=>exact .inl rfl
   | cons t r =>
     have k:=hc 1 _ rfl;rw [β h0] at k;simp at k
  ·exact .inr ⟨b,off,hA,hlt,λj u hu=>(World.cell?_of_block (w:=a) (Below.heap_setCell a ⟨g,0,none⟩ v b mt)).trans (hc j u hu)⟩
def Kp (B:Nat) (w w':World):Prop:=∀ (k:Nat) (o:Obj),B≤k->w.heap[k]? = some o->w'.heap[k]? = some o
def aKY (P:Nat) (w:World) (K:Nat->World->TypeId->Nat->Prop) (q:Option ZW) (e:Ending) (w':World):Prop :=
 But P w w'∧match q with
 | none=>∃ c,e=aT c∧c≠0
 | some r=>∃ T g,e=.returned (.iface T (.pointer (some ⟨g,0,none⟩)))∧K w w' T g∧PS w' P r 0
def tE (r:ZW):ZW:=if isF [59] r then r.tail else r
def aLT (w:World) (K:Nat->World->TypeId->Nat->Prop) (q:Option ZW) (e:Ending) (w':World):Prop :=
 Below w w w'∧((∃ r T g,q=some r∧tE r=[]∧e=.returned (.tuple #[.iface T (.pointer (some ⟨g,0,none⟩)),.int .i64 0])∧K w w' T g)∨(∀ r,q=some r->tE r≠[])∧∃ c:Int,c≠0∧e=.returned (.tuple #[.nilIface,.int .i64 c]))
theorem Gt (s:ByteArray) (w:World) (hT:eQ w) (hR:Resv w) (hs:s.size≤9223372036854775807) (L:ZW) (hL:eL s.data.toList=(L,0)) (K:Nat->World->TypeId->Nat->Prop) (R:Option ZW->Prop)
 (hK:∀ B B' w w' T g,B'≤B->Kp B w w'->K B w T g->K B' w' T g)
 (hst:∀ P w',PS w' P L 0->Lsane L->Resv w'->Calls prog 29 #[.pointer (some ⟨P,0,none⟩)] w' λe w''=>∃ q,R q∧aKY P w' K q e w'') :
 Calls prog 7 #[s] w λe w'=>∃ q,R q∧aLT w K q e w':=by
 have hb:=ow;have hl:=yA s _ (aQ hT hb) hs;unfold kK at hl;rw [hL] at hl;have HL:=κ hl;have b0:=ov;have b1:=ou;have HB:=dm;have hS:=tZ s.data.toList;rw [hL] at hS;have HS:=lf;have HR:=κ hR;have HK:=κ (ι hK hst);have hmf:=ej;clear hl hb hT hL hS hR hK hst;go_enter_defers func7,ntmps7;go_wp2_with fail;refine μ HL ?_;rintro e w1 ⟨hb1,A,c,rfl,hc,hown⟩;have B0:=aA b0 hb1;have B1:=aA b1 hb1;have k0:=β B0 0;have k1:=β B1 0;have z0:=frozen_of_row _ w 0 _ _ B0;have z1:=frozen_of_row _ (w+1) 0 _ _ B1;have k1':=β (heap_setCell_same w1 (w+1) 0 _ _ (.int .i64 0) B1) 0;have k1':(w1.setCell ⟨w+1,0,none⟩ (.int .i64 0)).cell? ⟨w+1,0,none⟩=some (.int .i64 0):=by simpa using k1'
 clear b0 b1;go_wp2_with fail;have hWb:Below w w ((w1.setCell ⟨w+1,0,none⟩ (.int .i64 0)).alloc (.cells #[.slice A L.length c,.int .i64 0] 100)):=(((HB.o.trans (hb1.mono HB.o.size)).setCell (p:=⟨w+1,0,none⟩) aa (.int .i64 0))).alloc (by have:=HB.o.size;have:=hb1.size;simp at *;omega) _;have hPz:w+2≤w1.heap.size:=ox
 have hPS:PS ((w1.setCell ⟨w+1,0,none⟩ (.int .i64 0)).alloc (.cells #[.slice A L.length c,.int .i64 0] 100)) w1 L 0:=by
  refine ⟨A,c, ?_,hc, ?_⟩
  ·have:=heap_alloc_new (w1.setCell ⟨w+1,0,none⟩ (.int .i64 0)) (.cells #[.slice A L.length c,.int .i64 0] 100);rwa [World.size_setCell] at this
  ·rcases L with _|⟨t,r⟩
   ·exact ab
   ·obtain ⟨g,cap,hv, -⟩:=hown.form aa;injection hv with hA _ _;subst hA;have hlt:=hown.lt g rfl;refine .inr ⟨g,0,rfl,hlt.2,λj u hu => ?_⟩;have h1:=hown.cells (g:=g) rfl j u hu;have e:=ag
    rw [e] at h1;have hgb:=hlt.1;simp only [World.size_alloc] at hgb;rw [show ((w1.setCell ⟨w+1,0,none⟩ (.int .i64 0)).alloc (.cells #[.slice (some ⟨g,0,none⟩) (t::r).length c,.int .i64 0] 100)).cell? ⟨g,0+j,none⟩=w1.cell? ⟨g,0+j,none⟩ from World.cell?_of_block (w:=w1) ((Below.heap_alloc _ _ g (by simp;exact hlt.2)).trans (Below.heap_setCell w1 ⟨w+1,0,none⟩ _ g mt))];exact h1
 have X0:((w1.setCell ⟨w+1,0,none⟩ (.int .i64 0)).alloc (.cells #[.slice A L.length c,.int .i64 0] 100)).heap[w.heap.size]? = some (.cells #[.nilIface] 28 (0,0)):=aB (cH (p:=⟨w+1,0,none⟩) (v:=.int .i64 0) B0 aa) _;have X1:((w1.setCell ⟨w+1,0,none⟩ (.int .i64 0)).alloc (.cells #[.slice A L.length c,.int .i64 0] 100)).heap[w.heap.size+1]? = some (.cells #[.int .i64 0] 29 (0,0)):=aB (by simpa using heap_setCell_same w1 (w+1) 0 _ _ (.int .i64 0) B1) _;clear k0 k1 z0 z1 k1' B0 B1 hb1 hown hc;generalize (w1.setCell ⟨w+1,0,none⟩ (.int .i64 0)).alloc (.cells #[.slice A L.length c,.int .i64 0] 100)=w3 at *;generalize w1.heap.size=P at *;have HC:=κ (HK.o.2 P w3 hPS HS.o (cC HR.o hWb));have HPS:=κ hPS;have HWb:=κ hWb;have HX:=κ (ι X0 X1);have hP3:=hPS.lt;clear hPS hWb X0 X1;refine μ HC ?_;rintro e w4 ⟨q,hRq,hb4,hq4⟩;have Y0:=aL hb4 HX.o.1 ac;have Y1:=aL hb4 HX.o.2 ac;have hB4:=HWb.o.trans (hb4.below (B:=w) ac ac);have HRq:=κ hRq;clear hRq;rcases q with _|r
 ·obtain ⟨ce,rfl,hce⟩:=hq4;have Z0:=β (cH (p:=⟨w+1,0,none⟩) (v:=.int .i64 ce) (heap_setCell_same w4 w 0 _ _ .nilIface Y0) aa) 0;have Z1:=β (heap_setCell_same _ (w+1) 0 _ _ (.int .i64 ce) (cH (w:=w4) (p:=⟨w,0,none⟩) (v:=.nilIface) Y1 aa)) 0;have Z0:((w4.setCell ⟨w,0,none⟩ .nilIface).setCell ⟨w+1,0,none⟩ (.int .i64 ce)).cell? ⟨w,0,none⟩=some .nilIface:=by simpa using Z0
  have Z1:((w4.setCell ⟨w,0,none⟩ .nilIface).setCell ⟨w+1,0,none⟩ (.int .i64 ce)).cell? ⟨w+1,0,none⟩=some (.int .i64 ce):=by simpa using Z1
  have HE:=κ ((hB4.setCell (p:=⟨w,0,none⟩) (ν _) .nilIface).setCell (p:=⟨w+1,0,none⟩) aa (.int .i64 ce)).drew;have HY:=κ (ι Y0 Y1);clear Y0 Y1 hB4 hb4 k1';unfold aT;go_wp2;refine leaves_cons (f:=28) (args:=#[.pointer (some ⟨w,0,none⟩),.pointer (some ⟨w+1,0,none⟩)]) aa oy ?_;refine (oP w (w+1) ce 0 .nilIface [] _ ac HY.o.1 HY.o.2).mono ?_;rintro e u' w'' ⟨rfl,rfl,rfl⟩;simp [Leaves,settle,results,results7,go_sem,Z0,Z1];exact ⟨none,HRq.o,HE.o,.inr ⟨(λr h=>lq),ce,hce,rfl⟩⟩
 ·obtain ⟨T,g,rfl,hv,hp4⟩:=hq4;have c0:=β Y0 0;have z0:=frozen_of_row _ w 0 _ _ Y0;have V0:=heap_setCell_same w4 w 0 _ _ (.iface T g) Y0;have V0:(w4.setCell ⟨w,0,none⟩ (.iface T g)).heap[w.heap.size]? = some (.cells #[.iface T g] 28 (0,0)):=by simpa using V0
  have V1:=cH (w:=w4) (p:=⟨w,0,none⟩) (v:=.iface T g) Y1 aa;have Vp:=hp4.setBox Y0 ac (.iface T g);have VB:=hB4.setCell (p:=⟨w,0,none⟩) (ν _) (.iface T g);have Vv:=HK.o.1 _ _ _ (w4.setCell ⟨w,0,none⟩ (.iface T g)) _ _ (ν _) (λk o hk ho=>(Below.heap_setCell w4 ⟨w,0,none⟩ _ k mt).trans ho) hv;have hP5:P<(w4.setCell ⟨w,0,none⟩ (.iface T g)).heap.size:=by simp;have:=hb4.size;omega
  have hgw3:w+2≤w3.heap.size:=ac
  clear Y0 Y1 hb4 hv hp4 k1' hB4;obtain ⟨fb,hfb⟩:∃ fb,isF [59] r=fb:=cw;have HI:=κ (bS P 0 r ⟨#[59]⟩ _ Vp fb hfb);obtain ⟨r',hr'⟩:∃ r',r'=(if fb then r.tail else r):=cw;have HQ2:=κ (show tE r=r' by rw [tE,hfb,hr']);have HR':=κ hr';have HVp:=κ Vp;clear hfb hr' Vp;go_wp2_with fail;refine μ HI ?_;rintro e w6 ⟨rfl,hb6,hp6⟩;rw [<-HR'.o] at hp6;obtain ⟨A6,c6,h61, -, -⟩:=hp6;have p0:=β h61 0;have U0:=aL hb6 V0 ac;have U1:=aL hb6 V1 ac;have UB:=VB.trans (hb6.below (B:=w) ac ac);have hPw:P<w3:=hP3;have Uv:=HK.o.1 _ _ _ w6 _ _ (ν _) (λk o hk ho=>aL hb6 ho ac) Vv;clear V0 V1 VB Vv h61 hb6 c0 z0 HI HR' HVp;rcases r' with _|⟨t7,r7⟩
  ·have HN:=κ HQ2.o;have c0:=β U0 0;have z0:=frozen_of_row _ w 0 _ _ U0;have c1:=β U1 0;have z1:=frozen_of_row _ (w+1) 0 _ _ U1;have D0:=heap_setCell_same w6 w 0 _ _ (.iface T g) U0;have D1:=cH (w:=w6) (p:=⟨w,0,none⟩) (v:=.iface T g) U1 aa;have d1:=β D1 0;have y1:=frozen_of_row _ (w+1) 0 _ _ D1;have E0:=β (cH (p:=⟨w+1,0,none⟩) (v:=.int .i64 0) D0 aa) 0;have E1:=β (heap_setCell_same _ (w+1) 0 _ _ (.int .i64 0) D1) 0;have E0:((w6.setCell ⟨w,0,none⟩ (.iface T g)).setCell ⟨w+1,0,none⟩ (.int .i64 0)).cell? ⟨w,0,none⟩=some (.iface T g):=by simpa using E0
   have E1:((w6.setCell ⟨w,0,none⟩ (.iface T g)).setCell ⟨w+1,0,none⟩ (.int .i64 0)).cell? ⟨w+1,0,none⟩=some (.int .i64 0):=by simpa using E1
   have HE:=κ ((UB.setCell (p:=⟨w,0,none⟩) (ν _) (.iface T g)).setCell (p:=⟨w+1,0,none⟩) aa (.int .i64 0));have HV:=κ (HK.o.1 _ w _ ((w6.setCell ⟨w,0,none⟩ (.iface T g)).setCell ⟨w+1,0,none⟩ (.int .i64 0)) _ _ ac (λk o hk ho=>cH (p:=⟨w+1,0,none⟩) (cH (p:=⟨w,0,none⟩) ho bl) bl) Uv);clear U0 U1 UB Uv D0 D1;go_wp2_with fail;refine (dF _).mono ?_;rintro e w7 ⟨rfl,rfl⟩;go_wp2;refine leaves_cons (f:=28) (args:=#[.pointer (some ⟨w,0,none⟩),.pointer (some ⟨w+1,0,none⟩)]) aa oy ?_;refine (Ma w (w+1) _).mono ?_;rintro e u' w'' ⟨rfl,rfl,rfl⟩;simp [Leaves,settle,results,results7,go_sem,E0,E1];exact ⟨some r,HRq.o,HE.o,.inl ⟨r,T,g,rfl,HN.o,rfl,HV.o⟩⟩
  ·have HN:=κ (show tE r≠[] by rw [HQ2.o];simp);have hlen:((((t7::r7).length:Nat):Int)==0)=false:=by rw [beq_eq_false_iff_ne];simp;omega
   have Z0:=β (cH (p:=⟨w+1,0,none⟩) (v:=.int .i64 4) (heap_setCell_same w6 w 0 _ _ .nilIface U0) aa) 0;have Z1:=β (heap_setCell_same _ (w+1) 0 _ _ (.int .i64 4) (cH (w:=w6) (p:=⟨w,0,none⟩) (v:=.nilIface) U1 aa)) 0;have Z0:((w6.setCell ⟨w,0,none⟩ .nilIface).setCell ⟨w+1,0,none⟩ (.int .i64 4)).cell? ⟨w,0,none⟩=some .nilIface:=by simpa using Z0
   have Z1:((w6.setCell ⟨w,0,none⟩ .nilIface).setCell ⟨w+1,0,none⟩ (.int .i64 4)).cell? ⟨w+1,0,none⟩=some (.int .i64 4):=by simpa using Z1
   have HE:=κ ((UB.setCell (p:=⟨w,0,none⟩) (ν _) .nilIface).setCell (p:=⟨w+1,0,none⟩) aa (.int .i64 4)).drew;have HY:=κ (ι U0 U1);generalize (t7::r7).length=m7 at *;clear U0 U1 UB Uv;go_wp2_with fail;refine (lK _).mono ?_;rintro e w7 ⟨rfl,rfl⟩;unfold aT;go_wp2;refine leaves_cons (f:=28) (args:=#[.pointer (some ⟨w,0,none⟩),.pointer (some ⟨w+1,0,none⟩)]) aa oy ?_;refine (oP w (w+1) 4 0 _ [] _ ac HY.o.1 HY.o.2).mono ?_;rintro e u' w'' ⟨rfl,rfl,rfl⟩;simp [Leaves,settle,results,results7,go_sem,Z0,Z1];exact ⟨some r,HRq.o,HE.o,.inr ⟨(λr' h=>by injection h with h;rw [<-h];exact HN.o),4,am,rfl⟩⟩
def aLW (n:ZS) (x:Option Lp.X) (B:Nat) (w:World) (T:TypeId) (g:Nat):Prop:=T=213∧B≤g∧∃ v,w.heap[g]? = some (.cells #[n,v] 216 (0,0))∧PXo B w x v
theorem Qo (s:ByteArray) (w:World) (hT:eQ w) (hR:Resv w) (hs:s.size≤9223372036854775807) (L:ZW) (hL:eL s.data.toList=(L,0)) (hf:isF qH L=true) :
 Calls prog 7 #[s] w (Tc w (aDG L)):=by
 refine (Gt s w hT hR hs L hL (λB w T g=>match oU L.tail with|none=>False|some (n,x,_)=>aLW n x B w T g) (λq=>q=(oU L.tail).map λp=>p.2.2) ?_ ?_).mono ?_
 ·intro B B' w w' T g hB hk h;rcases hq:oU L.tail with _|⟨n,x,r⟩
  ·rw [hq] at h;exact h
  ·rw [hq] at h;obtain ⟨h1,h2,v,h3,h4⟩:=h;exact ⟨h1,Nat.le_trans hB h2,v,hk _ _ h2 h3,(h4.keepB hk).mono hB⟩
 ·intro P w' h hS hR;refine (zR P L w' h hS hR hf).mono ?_;rintro e w2 ⟨hb,h2⟩;refine ⟨_,rfl,hb, ?_⟩;rcases hq:oU L.tail with _|⟨n,x,r⟩
  ·rw [hq] at h2;exact h2
  ·rw [hq] at h2;obtain ⟨g,v,h3,h4,h5,h6,h7⟩:=h2;exact ⟨_,g,h3,⟨rfl,h4,v,h5,h6⟩,h7⟩
 ·rintro e w' ⟨q,rfl,hb,h⟩;refine ⟨hb, ?_⟩;unfold aDG;rcases hq:oU L.tail with _|⟨n,x,r⟩
  ·rw [hq] at h;rcases h with ⟨r,T,g,h1,_⟩|⟨_,h2⟩
   ·cases h1
   ·exact h2
  ·rw [hq] at h;rcases h with ⟨r',T,g,h1,h2,h3,rfl,h4,v,h5,h6⟩|⟨h1,h2⟩
   ·injection h1 with h1;subst h1
    dsimp only
    rw [show (if (if isF [59] r then r.tail else r)=[] then some (n,x) else none)=some (n,x) from if_pos h2];exact ⟨g,v,h3,h4,h5,h6⟩
   ·dsimp only
    rw [show (if (if isF [59] r then r.tail else r)=[] then some (n,x) else none)=none from if_neg (h1 r rfl)];exact h2
