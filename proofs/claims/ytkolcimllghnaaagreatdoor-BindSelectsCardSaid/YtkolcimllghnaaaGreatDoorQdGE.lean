/-
 Contracts. Conditions: those of each.
-/
import Derived.Test.YtkolcimllghnaaaGreatDoorQdGC
import Derived.Test.YtkolcimllghnaaaGreatDoorQdGD
set_option maxRecDepth 100000
set_option maxHeartbeats 8000000
namespace Go.Proofs.YtkolcimllghnaaaGreatDoor
open Lp Go.Proofs.Tryz
open Go.RowKit
variable{gr:Bool}{E a of:Int}{xs:List Lp.X}{gs:List Nat}{sc:List Tb}{x:Lp.X}{B c1 g i:Nat}{S S':Nat->Prop}{v:Value}{w w' w2:World}{op s t:ZS}{A1:ZT}
def jD (cs:List Col):ZU:=cs.flatMap λc=>[.string ⟨c.n.toArray⟩,.int .u8 c.k]
def tbv (l:List (Tb×ZT×Nat)):ZU:=l.flatMap λp=>[.string ⟨p.1.n.toArray⟩,.slice p.2.1 p.1.cs.length p.2.2]
def ScM (w:World) (A:ZT) (sc:List Tb):Prop :=
 ∃ l:List (Tb×ZT×Nat),l.map (·.1)=sc∧Rds w A (tbv l)∧∀ p∈l,Rds w p.2.1 (jD p.1.cs)
theorem ScM.below {w w':World} {A:ZT} {sc:List Tb} (h:ScM w A sc) (hb:Below w w w'):ScM w' A sc:=by
 obtain ⟨l,h1,h2,h3⟩:=h;exact ⟨l,h1,h2.below hb,λp hp=>(h3 p hp).below hb⟩
theorem tI:∀ {cs:List Col} {i:Nat} (h:i<cs.length),(jD cs)[i*2]? = some (.string ⟨(cs[i]).n.toArray⟩)∧(jD cs)[i*2+1]? = some (.int .u8 (cs[i]).k)
 | [],i,h=>ar
 | c::cs,0,_=>⟨rfl,rfl⟩
 | c::cs,i+1,h=>by
   have:=tI (cs:=cs) (i:=i) an;have e:jD (c::cs)=[.string ⟨c.n.toArray⟩,.int .u8 c.k]++jD cs:=rfl;rw [e,show (i+1)*2=[Value.string ⟨c.n.toArray⟩,.int .u8 c.k].length+i*2 by simp;omega]
   constructor
   ·rw [List.getElem?_append_right ac];simpa using this.1
   ·rw [Nat.add_assoc,List.getElem?_append_right ac];simpa using this.2
theorem Ct:∀ {l:List (Tb×ZT×Nat)} {i:Nat} (h:i<l.length),(tbv l)[i*2]? = some (.string ⟨(l[i]).1.n.toArray⟩)∧(tbv l)[i*2+1]? = some (.slice (l[i]).2.1 (l[i]).1.cs.length (l[i]).2.2)
 | [],i,h=>ar
 | c::cs,0,_=>⟨rfl,rfl⟩
 | c::cs,i+1,h=>by
   have:=Ct (l:=cs) (i:=i) an;have e:tbv (c::cs)=[.string ⟨c.1.n.toArray⟩,.slice c.2.1 c.1.cs.length c.2.2]++tbv cs:=rfl;rw [e,show (i+1)*2=[Value.string ⟨c.1.n.toArray⟩,.slice c.2.1 c.1.cs.length c.2.2].length+i*2 by simp;omega]
   constructor
   ·rw [List.getElem?_append_right ac];simpa using this.1
   ·rw [Nat.add_assoc,List.getElem?_append_right ac];simpa using this.2
def ndv (op:ZS) (k:Int) (v:Lp.V) (a:Int) (A:ZT) (n c:Nat):ZV :=
 #[op,.int .u8 k,.int .u8 v.k,.int .i64 v.i,v.s,v.b,.int .i64 a,.slice A n c]
def vF:ZS:=[108,105,116]
def lH:ZS:=[99,111,108]
def Pu:ZS:=[110,101,103]
def nul:Lp.V:=⟨0,0,⟨#[]⟩,false⟩
def unN (op:ZS):ZS:=if op=fG then op else Pu
def isN (n:Bool):ZS:=if n then lX else sIs
def Ej (op:ZS):Int:=if op∈jQ then 1 else 3
def ptr (g:Nat):Value:=.pointer (some ⟨g,0,none⟩)
def Prts (S:Nat->Prop) (w:World) (A:ZT) (gs:List Nat):Prop:=∃ b off,A=some ⟨b,off,none⟩∧S b∧∀ (j:Nat) u,(gs.map ptr)[j]? = some u->w.cell? ⟨b,off+j,none⟩=some u
def NT (S:Nat->Prop) (w:World) (sc:List Tb):Lp.X->Nat->Prop
 | .lit k i s b,g=>S g∧w.heap[g]? = some (.cells (ndv vF k ⟨k,i,⟨s.toArray⟩,b⟩ 0 none 0 0) 120 (0,0))
 | .col t s,g=>S g∧∃ p,dX sc t s=some p∧w.heap[g]? = some (.cells (ndv lH p.2 nul (p.1:Nat) none 0 0) 120 (0,0))
 | .un op x,g=>S g∧∃ A c g1,w.heap[g]? = some (.cells (ndv (unN op) (hY op 0).1 nul 0 A 1 c) 120 (0,0))∧Prts S w A [g1]∧NT S w sc x g1
 | .bin op a b,g=>S g∧∃ A c g1 g2,w.heap[g]? = some (.cells (ndv op (Ej op) nul 0 A 2 c) 120 (0,0))∧Prts S w A [g1,g2]∧NT S w sc a g1∧NT S w sc b g2
 | .isn n x,g=>S g∧∃ A c g1,w.heap[g]? = some (.cells (ndv (isN n) 3 nul 0 A 1 c) 120 (0,0))∧Prts S w A [g1]∧NT S w sc x g1
 | .agg op x,g=>S g∧∃ A c g1,w.heap[g]? = some (.cells (ndv op (kS op (aC sc x false).1).1 nul 0 A 1 c) 120 (0,0))∧Prts S w A [g1]∧NT S w sc x g1
 | .cnt,g=>S g∧w.heap[g]? = some (.cells (ndv rP 1 nul 0 none 0 0) 120 (0,0))
def Turn (S S':Nat->Prop) (w w':World):Prop:=∀ g,S g->g<w.heap.size->S' g∧w'.heap[g]? = w.heap[g]?
theorem Turn.below (hb:Below w w w'):Turn S S w w':=λg hg hl=>⟨hg,hb.block g hl⟩
theorem Turn.mono (h:∀ g,S g->g<w.heap.size->S' g):Turn S S' w w:=λg hg hl=>⟨h g hg hl,rfl⟩
theorem Prts.turn (ht:Turn S S' w w') {A:ZT} (hn:gs≠[]) (h:Prts S w A gs):Prts S' w' A gs:=by
 obtain ⟨b,off,h1,h2,h3⟩:=h;obtain ⟨g0,gs',rfl⟩:=List.exists_cons_of_ne_nil hn;have hl:=World.block_lt_of_cell? w _ (h3 0 _ rfl);obtain ⟨k1,k2⟩:=ht b h2 hl;exact ⟨b,off,h1,k1,λj u hu=>(World.cell?_of_block (w:=w) k2).trans (h3 j u hu)⟩
theorem NT.turn {S S':Nat->Prop} {w w':World} {sc:List Tb} (ht:Turn S S' w w'):∀ {x:Lp.X} {g:Nat},NT S w sc x g->NT S' w' sc x g:=by
 have one:∀ {g:Nat} {o:Obj},S g->w.heap[g]? = some o->S' g∧w'.heap[g]? = some o:=λ{g o} hg ho=>by
  obtain ⟨k1,k2⟩:=ht g hg (aG ho);exact ⟨k1,k2.trans ho⟩
 intro x
 induction x with
 | lit k i s b=>intro g h;exact one h.1 h.2
 | col t s =>
   intro g h;obtain ⟨h0,p,h1,h2⟩:=h;exact ⟨(one h0 h2).1,p,h1,(one h0 h2).2⟩
 | un op x ih =>
   intro g h;obtain ⟨h0,A,c,g1,h1,h2,h3⟩:=h;exact jn
 | bin op a b iha ihb =>
   intro g h;obtain ⟨h0,A,c,g1,g2,h1,h2,h3,h4⟩:=h;exact ⟨(one h0 h1).1,A,c,g1,g2,(one h0 h1).2,h2.turn ht aa,iha h3,ihb h4⟩
 | isn n x ih =>
   intro g h;obtain ⟨h0,A,c,g1,h1,h2,h3⟩:=h;exact jn
 | agg op x ih =>
   intro g h;obtain ⟨h0,A,c,g1,h1,h2,h3⟩:=h;exact jn
 | cnt=>intro g h;exact one h.1 h.2
def Any:Nat->Prop:=λ_=>True
theorem NT.below {S:Nat->Prop} {w w':World} {sc:List Tb} {x:Lp.X} {g:Nat} (h:NT S w sc x g) (hb:Below w w w'):NT S w' sc x g:=NT.turn (Turn.below hb) h
theorem yL (g:Nat) (op:ZS) (kd:Int) (v:Lp.V) (a:Int) (A:ZT) (n c:Nat) (k:Int) (w:World) (h:w.heap[g]? = some (.cells (ndv op kd v a A n c) 120 (0,0))) :
 Calls prog 37 #[ptr g,.int .u8 k] w λe w'=>e=.returned (.bool (fitK kd k))∧w=w':=by
 have hc:=β h 1;simp only [ndv] at hc;have hq:fitK kd k=(kd==k||kd==0):=rfl;rw [hq];clear h hq;unfold ptr;cases e1:(kd==k)
 ·go_enter func37,ntmps37;go_wp2;go_ret;exact ⟨aa,rfl⟩
 ·go_enter func37,ntmps37;go_wp2;go_ret;exact ⟨aa,rfl⟩
def Got (B:Nat) (w:World) (l:List (Nat×Int)) (v:Value):Prop :=
 match l.getLast? with
 | none=>v=.pointer none
 | some p=>∃ g,v=.pointer (some ⟨g,0,none⟩)∧B≤g∧w.heap[g]? = some (.cells (ndv lH p.2 nul (p.1:Nat) none 0 0) 120 (0,0))
theorem Got.below {l:List (Nat×Int)} (h:Got B w l v) (hb:Below w w w'):Got B w' l v:=by
 unfold Got at *;cases hl:l.getLast? with
 | none=>rw [hl] at h;exact h
 | some p =>
   rw [hl] at h;obtain ⟨g,h1,h2,h3⟩:=h;exact ⟨g,h1,h2,aA h3 hb⟩
theorem Got.new {l:List (Nat×Int)} {a:Nat} {k:Int} (hB:B≤w):Got B (w.alloc (.cells (ndv lH k nul (a:Nat) none 0 0) 120)) (l++[(a,k)]) (.pointer (some ⟨w,0,none⟩)):=by
 unfold Got;rw [List.getLast?_concat];exact ⟨_,rfl,hB,heap_alloc_new w _⟩
theorem Got.drewN {B m:Nat} {w:World} {l:List (Nat×Int)} {v:Value} (h:Got B w l v):Got B (w.drewN m) l v:=h
theorem qV (s:ZS):∀ (a:Nat) (l:List Col),(cJ s a l).length≤l.length
 | a,[]=>ν _
 | a,c::r=>by
   have:=qV s (a+1) r;show ((if c.n==s then [(a,c.k)] else [])++cJ s (a+1) r).length≤_;rw [List.length_append,List.length_cons]
   split<;>simp<;>omega
theorem yJ (t s:ZS):∀ (a:Nat) (l:List Tb),(gT t s a l).length≤bY l
 | a,[]=>ν _
 | a,c::r=>by
   have h1:=yJ t s (a+c.cs.length) r;have h2:=qV s a c.cs;show ((if jJ t c then cJ s a c.cs else [])++gT t s (a+c.cs.length) r).length≤_;rw [List.length_append];have h3:bY (c::r)=c.cs.length+bY r:=by simp [bY]
   rw [h3]
   split<;>simp<;>omega
theorem Is (s:ZS) (a:Nat) (cs:List Col) {j:Nat} (h:j<cs.length):cJ s a (cs.take (j+1))=cJ s a (cs.take j)++(if (cs[j]).n==s then [(a+j,(cs[j]).k)] else []):=by
 rw [List.take_succ_eq_append_getElem h,yK,List.length_take,Nat.min_eq_left ac]
theorem Fk (l:List (Tb×ZT×Nat)) (h:i<l.length):(l.take (i+1)).map (·.1)=(l.take i).map (·.1)++[(l[i]).1]:=by
 rw [List.take_succ_eq_append_getElem h,List.map_append];rfl
theorem nJ (l:List Tb) (i:Nat):bY (l.take i)≤bY l:=by
 conv=>rhs;rw [<-List.take_append_drop i l]
 unfold bY;rw [List.map_append,List.sum_append];omega
theorem dH {a:World} (m:Nat) (h:Below B a w):Below B a (w.drewN m):=⟨h.os,h.tape,h.output,h.size,h.block⟩
def zH (sc:List Tb) (t s:ZS) (w:World) (e:Ending) (w':World):Prop :=
 Below w w w'∧match dX sc t s with
 | none=>e=.returned (.tuple #[.pointer none,.int .i64 6])
 | some p=>∃ g,e=.returned (.tuple #[.pointer (some ⟨g,0,none⟩),.int .i64 0])∧w.heap.size≤g∧w'.heap[g]? = some (.cells (ndv lH p.2 nul (p.1:Nat) none 0 0) 120 (0,0))
theorem Ig (hq:dX sc t s=none) (hb:Below w w w'):zH sc t s w (.returned (.tuple #[.pointer none,.int .i64 6])) w':=by
 refine ⟨hb, ?_⟩;rw [hq]
theorem Yx {HL:List (Nat×Int)} (hq:dX sc t s=HL.getLast?) (hn:HL.length=1) (hg:Got w w' HL v) (hb:Below w w w'):zH sc t s w (.returned (.tuple #[v,.int .i64 0])) w':=by
 refine ⟨hb, ?_⟩;rw [hq];unfold Got at hg;cases hl:HL.getLast? with
 | none=>rw [List.getLast?_eq_none_iff] at hl;subst hl;simp at hn
 | some p =>
   rw [hl] at hg;obtain ⟨g,rfl,h2,h3⟩:=hg;exact ⟨g,rfl,h2,h3⟩
theorem Yw (A:ZT) (c:Nat) (sc:List Tb) (gx:Nat) (t s:ZS) (w:World) (hS:ScM w A sc) (hx:w.heap[gx]? = some (.cells #[t,s] 206 (0,0))) (hn:sc.length≤100) (hw:bY sc≤10000) :
 Calls prog 95 #[.slice A sc.length c,gx] w (zH sc t s w):=by
 obtain ⟨l,rfl,hl,hcs⟩:=hS;have H:=κ (ι hl (ι hcs hx));rw [List.length_map] at hn |-;have hnI:=jo
 have HW:=κ hw;clear hl hcs hx hw;go_enter func95,ntmps95;go_wp2_with fail
 go_loopw [6,7,8,9,16] (λs6 s7 s8 s9 s16 wr=>∃ i:Nat,i≤l.length∧s16=.int .i64 i∧s7=.int .i64 (bY ((l.take i).map (·.1)):Nat)∧s8=.int .i64 (fV t ((l.take i).map (·.1)):Nat)∧s9=.int .i64 ((gT t s 0 ((l.take i).map (·.1))).length:Nat)∧Got w wr (gT t s 0 ((l.take i).map (·.1))) s6∧Below w w wr) (λ_ _ _ _ s16 _=>l.length-(intOf s16).toNat)
 case atStart=>exact ⟨0,Nat.zero_le _,rfl,rfl,rfl,rfl,rfl,θ⟩
 case round =>
  obtain ⟨i,hi,rfl,rfl,rfl,rfl,hg,hb⟩:=dd
  by_cases hlt:i<l.length
  ·have hT1:=Fk l hlt;have hwd:bY ((l.take (i+1)).map (·.1))≤10000:=by
    have:=nJ (l.map (·.1)) (i+1);rw [<-List.map_take] at this;have:=HW.o;omega
   have hwd0:bY ((l.take (i+1)).map (·.1))=bY ((l.take i).map (·.1))+(l[i]).1.cs.length:=by rw [hT1,tP]
   have htn:fV t ((l.take i).map (·.1))≤100:=by
    have:=List.length_filter_le (jJ t) ((l.take i).map (·.1));rw [List.length_map,List.length_take] at this;unfold fV;omega
   have HT:=κ (ι (show gT t s 0 ((l.take (i+1)).map (·.1))=gT t s 0 ((l.take i).map (·.1))++(if jJ t (l[i]).1 then cJ s (bY ((l.take i).map (·.1))) (l[i]).1.cs else []) by rw [hT1,uJ,Nat.zero_add]) (show fV t ((l.take (i+1)).map (·.1))=fV t ((l.take i).map (·.1))+(if jJ t (l[i]).1 then 1 else 0) by rw [hT1,wW]));have hcR:=(H.o.2.1 (l[i]) (List.getElem_mem hlt)).below hb;have hat:=Ct hlt;have hlr:=H.o.1.below hb;obtain ⟨b,off,hA,hcell⟩:=hlr.at_ hat.1;subst hA;obtain ⟨b2,off2,hA2,hcell2⟩:=hlr.at_ hat.2;simp only [Option.some.injEq,Addr.mk.injEq,and_true] at hA2;obtain ⟨rfl,rfl⟩:=hA2;have hxr:=aA H.o.2.2 hb;clear hT1 hat hlr;generalize (l[i])=tb at *;obtain ⟨⟨tn,cs⟩,A2,c2⟩:=tb;simp only at hcell hcell2 hcR hwd0 HT;rw [<-Nat.add_assoc] at hcell2;have hbT:=jq;have hgT:=hg.below hbT;have hbwT:=hb.trans (hbT.mono hb.size);have x1:=β (aA hxr hbT);have x2:=jp;have hcT:=hcR.below hbT;have hxT:=aA hxr hbT;have hcsl:cs.length≤10000:=ac
   have hcsI:=jr
   obtain ⟨ND,hND⟩:∃ ND,bY ((l.take i).map (·.1))=ND:=cw;obtain ⟨TN,hTN⟩:∃ TN,fV t ((l.take i).map (·.1))=TN:=cw;obtain ⟨HL,hHL⟩:∃ HL,gT t s 0 ((l.take i).map (·.1))=HL:=cw;rw [hND,hTN,hHL] at HT;rw [hND] at hwd0;rw [hHL] at hgT;have hNI:(ND:Int)+(cs.length:Int)≤10000:=ac
   have hTI:(TN:Int)≤100:=ac
   have hHN:HL.length≤ND:=by rw [<-hHL, <-hND];exact yJ t s 0 _
   have HXT:=κ (ι hxT (ι hcT (ι hbwT hgT)));have HWD:=κ hwd0;cases hh:jJ t ⟨tn,cs⟩
   ·have e1:=js
    have e2:=jt
    rw [hh] at HT;simp only [φ,if_false,List.append_nil,Nat.add_zero] at HT;rw [hND,hTN,hHL];clear hh hcR hxr hbT hcT hxT hg hgT hb hbwT hwd hwd0 htn hND hTN hHL hcsl;go_wp2_with fail;go_quiet (fail);go_wp2
    go_roundw
    case rel=>exact ⟨i+1,ac,de,by rw [HWD.o];go_num,by rw [HT.o.2],by rw [HT.o.1],by rw [HT.o.1];exact HXT.o.2.2.2.drewN,dH nq HXT.o.2.2.1⟩
    case measure=>simp [intOf];omega
   ·have hee:((t==[])=true)∨((t==[])=false∧(tn==t)=true):=by
     unfold jJ at hh;rcases Bool.eq_false_or_eq_true (t==[]) with h|h
     ·exact .inl h
     ·rw [h] at hh;exact .inr ⟨h,by simpa using hh⟩
    rw [hh] at HT;simp only [if_true] at HT;rw [hND,hTN,hHL];have htb:=heap_alloc_new wr (.cells #[tn,.slice A2 cs.length c2] 50);have HTB:=κ htb;have HHN:=κ hHN;clear hh hcR hxr hbT hcT hxT hg hgT hb hbwT hwd hwd0 htn hND hTN hHL htb hHN;rcases hee with e1|⟨e1,e2⟩
    all_goals
     go_wp2_with fail;go_quiet (fail);have hx1:((wr.alloc (.cells #[tn,.slice A2 cs.length c2] 50)).drewN nq).heap[gx]? = _:=HXT.o.1;have ht1:((wr.alloc (.cells #[tn,.slice A2 cs.length c2] 50)).drewN nq).heap[wr.heap.size]? = _:=HTB.o;have hr1:Rds ((wr.alloc (.cells #[tn,.slice A2 cs.length c2] 50)).drewN nq) A2 (jD cs):=HXT.o.2.1;have hg1:Got w ((wr.alloc (.cells #[tn,.slice A2 cs.length c2] 50)).drewN nq) HL _:=HXT.o.2.2.2.drewN;have hb1:Below w w ((wr.alloc (.cells #[tn,.slice A2 cs.length c2] 50)).drewN nq):=dH nq HXT.o.2.2.1;have y2:=β ht1;go_wp2_with fail;generalize ((wr.alloc (.cells #[tn,.slice A2 cs.length c2] 50)).drewN nq)=W1 at *;have HM:=κ (ι hx1 (ι ht1 (ι hr1 (ι hg1 hb1))));clear hx1 ht1 hr1 hg1 hb1 HXT HTB x1 x2 y2 hcell hcell2 e1
     go_loopw [6,9,12,39] (λs6 s9 _ s39 wq=>∃ j:Nat,j≤cs.length∧s39=.int .i64 j∧s9=.int .i64 ((HL++cJ s ND (cs.take j)).length:Nat)∧Got w wq (HL++cJ s ND (cs.take j)) s6∧Below W1 W1 wq) (λ_ _ _ s39 _=>cs.length-(intOf s39).toNat)
     case atStart=>exact ⟨0,Nat.zero_le _,rfl,bt,by simpa [cJ] using HM.o.2.2.2.1,θ⟩
     case round =>
      obtain ⟨j,hj,rfl,rfl,hgq,hbq⟩:=dd
      by_cases hjl:j<cs.length
      ·have hcat:=tI hjl;have hrq:=HM.o.2.2.1.below hbq;obtain ⟨bc,oc,hA3,hn1⟩:=hrq.at_ hcat.1;obtain ⟨bc2,oc2,hA4,hn2⟩:=hrq.at_ hcat.2;have hA5:=jx;simp only [Addr.mk.injEq,and_true] at hA5;obtain ⟨rfl,rfl⟩:=hA5;rw [<-Nat.add_assoc] at hn2;have hstep:=Is s ND cs hjl;generalize (cs[j])=cj at *;obtain ⟨cn,ck⟩:=cj;simp only at hn1 hn2 hstep;have hbC:=jw;have q1:=β (aA (aA HM.o.1 hbq) hbC);have q2:=jv;have hbw2:Below w w wr:=HM.o.2.2.2.2.trans (hbq.mono HM.o.2.2.2.2.size);have HQ:=κ (ι (hgq.below hbC) (ι (hbq.trans (hbC.mono hbq.size)) (hbw2.trans (hbC.mono hbw2.size))));have HC:=κ (heap_alloc_new wr (.cells #[cn,.int .u8 ck] 116));have hjI:=ju
       have hNJ:(ND:Int)+(j:Int)≤10000:=ac
       have hlen:(HL++cJ s ND (cs.take j)).length≤20000:=by
        have h1:=qV s ND (cs.take j);have h2:=HHN.o;rw [List.length_take] at h1;rw [List.length_append];omega
       obtain ⟨HJ,hHJ⟩:∃ HJ,HL++cJ s ND (cs.take j)=HJ:=cw;have hlen2:(HJ.length:Int)≤20000:=by rw [<-hHJ];omega
       have HSt:=jy;rw [hHJ] at HQ |-;clear hstep hlen hHJ hgq hbq hbw2 hbC hrq hcat hA4;subst hA3;cases e3:(cn==s)
       ·rw [e3] at HSt;simp only [φ,if_false,List.append_nil] at HSt;go_wp2_with fail;go_quiet (fail);go_wp2
        go_roundw
        case rel=>exact ⟨j+1,ac,de,by rw [HSt.o],by rw [HSt.o];exact HQ.o.1.drewN,dH _ HQ.o.2.1⟩
        case measure=>simp [intOf];omega
       ·rw [e3] at HSt;simp only [if_true] at HSt;go_wp2_with fail;go_quiet (fail);go_wp2;have hG:=Got.new (B:=w) (w:=(wr.alloc (.cells #[cn,.int .u8 ck] 116)).drewN nq) (l:=HJ) (a:=ND+j) (k:=ck) (show _≤(wr.alloc (.cells #[cn,.int .u8 ck] 116)).heap.size from HQ.o.2.2.size);rw [show ((wr.alloc (.cells #[cn,.int .u8 ck] 116)).drewN nq).heap.size=wr.heap.size+1 from World.size_alloc _ _] at hG;have hBN:=(dH nq HQ.o.2.1).alloc (o:=.cells (ndv lH ck nul ((ND+j:Nat):Int) none 0 0) 120) (dH nq HQ.o.2.1).size;have HGN:=κ (ι hG hBN);clear hG hBN
        go_roundw
        case rel=>exact ⟨j+1,ac,de,by rw [HSt.o];simp,by rw [HSt.o];exact HGN.o.1,HGN.o.2⟩
        case measure=>simp [intOf];omega
      ·have hj2:=jz
       rw [hj2,List.take_length] at hgq |-;have y1:=β (aA HM.o.2.1 hbq);have HQ:=κ (ι hgq (HM.o.2.2.2.2.trans (hbq.mono HM.o.2.2.2.2.size)));have HT1:=κ HT.o;clear hj2 hgq hbq;go_wp2
       go_roundw
       case rel=>exact ⟨i+1,ac,de,by rw [HWD.o];go_num,by rw [HT1.o.2];go_num,by rw [HT1.o.1],by rw [HT1.o.1];exact HQ.o.1,HQ.o.2⟩
       case measure=>simp [intOf];omega
  ·have hi2:=ka
   rw [hi2,List.take_length] at hg |-;have hx1:=β (aA H.o.2.2 hb);have HB:=dm;have hF:dX (l.map (·.1)) t s=if (gT t s 0 (l.map (·.1))).length=1∧(t=[]∨fV t (l.map (·.1))=1) then (gT t s 0 (l.map (·.1))).getLast? else none:=rfl;obtain ⟨HL,hHL⟩:∃ HL,gT t s 0 (l.map (·.1))=HL:=cw;obtain ⟨TN,hTN⟩:∃ TN,fV t (l.map (·.1))=TN:=cw;rw [hHL,hTN] at hF;rw [hHL] at hg |-;rw [hTN];have HF:=κ hF;have HG:=κ hg;clear hi2 hg hb hF hHL hTN H HW
   by_cases hN:HL.length=1
   ·have n1:((HL.length:Int)==1)=true:=by rw [hN];rfl
    have n2:((HL.length:Int) !=1)=false:=kb
    by_cases hOk:t=[]∨TN=1
    ·have HR:=κ (Yx (HF.o.trans (if_pos ⟨hN,hOk⟩)) hN HG.o HB.o);have hee:((t==[])=true∧(t != [])=false)∨((t==[])=false∧(t != [])=true∧((TN:Int)==1)=true∧((TN:Int) !=1)=false):=by
      by_cases ht:t=[]
      ·subst ht;exact .inl ⟨rfl,rfl⟩
      ·have e1:(t==[])=false:=η ht;have e4:TN=1:=by rcases hOk with h|h;exact absurd h ht;exact h
       subst e4;exact .inr ⟨e1,kf,rfl,rfl⟩
     clear hOk hN;rcases hee with ⟨e1,e2⟩|⟨e1,e2,e3,e4⟩
     all_goals
      go_wp2;exact bodyPost_ret (v:=.tuple #[u6,.int .i64 0]) kg rfl HR.o
    ·have HR:=κ (Ig (w:=w) (w':=wr) (HF.o.trans (if_neg (λh=>hOk h.2))) HB.o);have ht:t≠[]:=λh=>hOk (.inl h);have hT:TN≠1:=λh=>hOk (.inr h);have e1:(t==[])=false:=η ht;have e2:(t != [])=true:=kf
     have e3:((TN:Int)==1)=false:=gf
     have e4:((TN:Int) !=1)=true:=kh
     clear hOk hN ht hT;go_wp2;exact kj
   ·have HR:=κ (Ig (w:=w) (w':=wr) (HF.o.trans (if_neg (λh=>hN h.1))) HB.o);have n1:=kl
    have n2:((HL.length:Int) !=1)=true:=kb
    clear hN;go_wp2;exact kj
def BPost (sc:List Tb) (gr:Bool) (x:Lp.X) (w:World) (e:Ending) (w':World):Prop :=
 Below w w w'∧if (aC sc x gr).2=0 then ∃ g,e=.returned (.tuple #[ptr g,.int .i64 0])∧NT (λk=>w.heap.size≤k) w' sc x g
  else e=.returned (.tuple #[.pointer none,.int .i64 (aC sc x gr).2])
def bdr (A:ZT) (sc:List Tb) (c:Nat) (gr:Bool):Value:=.agg #[.slice A sc.length c,gr]
def dB (A:ZT) (c:Nat) (sc:List Tb) (gr:Bool) (x:Lp.X):Prop :=
 ∀ (W:World) (v:Value),PX 0 W x v->ScM W A sc->Calls prog 48 #[bdr A sc c gr,v] W (BPost sc gr x W)
def aF (sc:List Tb) (gr:Bool):List Lp.X->Int
 | []=>0
 | x::r=>if (aC sc x gr).2=0 then aF sc gr r else (aC sc x gr).2
theorem kV (sc:List Tb) (gr:Bool) (x:Lp.X):∀ l,aF sc gr l=0->aF sc gr (l++[x])=(aC sc x gr).2
 | [],_=>by
   show (if (aC sc x gr).2=0 then (0:Int) else _)=_
   split
   ·rename_i h;exact h.symm
   ·rfl
 | y::l,h=>by
   have h0:(aC sc y gr).2=0:=by
    unfold aF at h
    split at h
    ·assumption
    ·rename_i h1;exact absurd h h1
   have h1:aF sc gr l=0:=by
    unfold aF at h;rwa [if_pos h0] at h
   show (if (aC sc y gr).2=0 then aF sc gr (l++[x]) else _)=_;rw [if_pos h0,kV sc gr x l h1]
theorem mC (sc:List Tb) (gr:Bool):∀ l r,aF sc gr l≠0->aF sc gr (l++r)=aF sc gr l
 | [],_,h=>absurd rfl h
 | y::l,r,h=>by
   show (if (aC sc y gr).2=0 then aF sc gr (l++r) else _)=(if (aC sc y gr).2=0 then aF sc gr l else _);unfold aF at h
   split
   ·rename_i h0
    rw [if_pos h0] at h;exact mC sc gr l r h
   ·rfl
def NTs (S:Nat->Prop) (w:World) (sc:List Tb):List Lp.X->List Nat->Prop
 | [],[]=>True
 | x::xs,g::gs=>NT S w sc x g∧NTs S w sc xs gs
 | _,_=>False
theorem NTs.turn {S S':Nat->Prop} {w w':World} {sc:List Tb} (ht:Turn S S' w w'):∀ {xs:List Lp.X} {gs:List Nat},NTs S w sc xs gs->NTs S' w' sc xs gs
 | [],[],_=>trivial
 | _::_,_::_,h=>⟨h.1.turn ht,NTs.turn ht h.2⟩
 | [],_::_,h=>h.elim
 | _::_,[],h=>h.elim
theorem NTs.snoc {S:Nat->Prop} {w:World} {sc:List Tb} {x:Lp.X} {g:Nat} (hx:NT S w sc x g):∀ {xs:List Lp.X} {gs:List Nat},NTs S w sc xs gs->NTs S w sc (xs++[x]) (gs++[g])
 | [],[],_=>⟨hx,trivial⟩
 | _::_,_::_,h=>⟨h.1,NTs.snoc hx h.2⟩
 | [],_::_,h=>h.elim
 | _::_,[],h=>h.elim
def SO (B:Nat) (v:Value):Nat->Prop:=λk=>B≤k∧some k≠v.ownBlock
theorem wN {v':Value} (h:fL w w' v.ownBlock v'.ownBlock):Turn (SO B v) (SO B v') w w':=by
 intro g hg hl;obtain ⟨o,ho⟩:∃ o,w.heap[g]? = some o:=⟨w.heap[g],by simp [hl]⟩;obtain ⟨k1,k2⟩:=h g o ho hg.2;exact ⟨⟨hg.1,k2⟩,k1.trans ho.symm⟩
theorem nS:(prog.info? 53).map (λi=>(i.zero,i.size,i.bytes))=some (some (.pointer none),1,8):=aj
def qY (sc:List Tb) (gr:Bool) (xs:List Lp.X) (w:World) (e:Ending) (w':World):Prop :=
 Below w w w'∧if aF sc gr xs=0 then ∃ Ao co gs,e=.returned (.tuple #[.slice Ao xs.length co,.int .i64 0])∧(xs≠[]->Prts (λk=>w.heap.size≤k) w' Ao gs)∧NTs (λk=>w.heap.size≤k) w' sc xs gs
  else e=.returned (.tuple #[.slice none 0 0,.int .i64 (aF sc gr xs)])
theorem Qm {n:Nat} (hn:n=xs.length) (hB:w≤B) (hq:aF sc gr xs=0) (hb:Below w w w') (hown:w'.ownsRow B 53 1 (.slice A1 n c1) n (gs.map ptr)) (hnt:NTs (SO B (.slice A1 n c1)) w' sc xs gs) :
 qY sc gr xs w (.returned (.tuple #[.slice A1 n c1,.int .i64 0])) w':=by
 subst hn;refine ⟨hb, ?_⟩;rw [if_pos hq];refine ⟨A1,c1,gs,rfl,λhne => ?_,NTs.turn (Turn.mono λg hg _=>Nat.le_trans hB hg.1) hnt⟩;obtain ⟨b,cap,hv, -⟩:=hown.form (List.length_pos_iff.2 hne);injection hv with hA _ _;subst hA;refine ⟨b,0,rfl,Nat.le_trans hB (hown.lt b rfl).1,λj u hu => ?_⟩;have h1:=kn;have e:=km
 rwa [e] at h1
theorem Lb {c2:Nat} {A2:ZT} {wr w4:World} {o:Obj} (hown:wr.ownsRow B 53 1 (.slice A1 i c1) i (gs.map ptr)) (hnt:NTs (SO B (.slice A1 i c1)) wr sc xs gs) (hb2:Below wr wr w2) (hBw:B≤wr)
 (hnx:NT (λk=>wr.heap.size≤k) w2 sc x g) (hk:fL (w2.alloc o) w4 (Value.ownBlock (.slice A1 i c1)) (Value.ownBlock (.slice A2 (i+1) c2))):NTs (SO B (.slice A2 (i+1) c2)) w4 sc (xs++[x]) (gs++[g]):=by
 have hb3:Below w2 w2 (w2.alloc o):=ρ;have h1:=NTs.turn (wN hk) (NTs.turn (Turn.below hb3) (NTs.turn (Turn.below hb2) hnt));have h2:NT (SO B (.slice A1 i c1)) w2 sc x g:=hnx.turn (Turn.mono λk hk' _=>⟨Nat.le_trans hBw hk',λe=>by
  have:=(hown.lt k e.symm).2;have h3:wr.heap.size≤k:=hk';omega⟩)
 exact NTs.snoc (NT.turn (wN hk) (NT.turn (Turn.below hb3) h2)) h1
theorem Ww (hE:E≠0) (hq:aF sc gr xs=E) (hb:Below w w w'):qY sc gr xs w (.returned (.tuple #[.slice none 0 0,.int .i64 E])) w':=by
 subst hq;refine ⟨hb, ?_⟩;rw [if_neg hE]
theorem Bl (A:ZT) (c:Nat) (sc:List Tb) (gr:Bool) (xs:List (Lp.X×Value)) (Al:ZT) (cl:Nat) (w:World) (hS:ScM w A sc) (hl:Rds w Al (xs.map (·.2))) (hn:xs.length≤10)
 (hp:∀ p∈xs,PX 0 w p.1 p.2) (hB:∀ p∈xs,dB A c sc gr p.1) :
 Calls prog 47 #[bdr A sc c gr,.slice Al xs.length cl] w (qY sc gr (xs.map (·.1)) w):=by
 obtain ⟨iT,hiT,hz0,hz1,hz2⟩:=kr;have hb0:=kp;have H0:=κ (ι (hS.below hb0) (ι (hl.below hb0) (ι hb0 (heap_alloc_new w (.cells #[.slice A sc.length c,gr] 139)))));have HP:=κ (λp hq=>PX.keep (aP hb0) (hp p hq));have HB:=κ hB;have hnI:(xs.length:Int)≤10:=ac
 clear hS hl hb0 hp hB;unfold bdr;go_enter func47,ntmps47;go_wp2_with fail;generalize (w.alloc (.cells #[.slice A sc.length c,gr] 139))=W0 at *
 go_loopw [6,8,9,10,13] (λs6 _ _ _ s13 wr=>∃ (i:Nat) (A1:ZT) (c1:Nat) (gs:List Nat),i≤xs.length∧s13=.int .i64 i∧s6=.slice A1 i c1∧wr.ownsRow W0 53 1 (.slice A1 i c1) i (gs.map ptr)∧NTs (SO W0 (.slice A1 i c1)) wr sc ((xs.take i).map (·.1)) gs∧aF sc gr ((xs.take i).map (·.1))=0∧Below W0 W0 wr) (λ_ _ _ _ s13 _=>xs.length-(intOf s13).toNat)
 case atStart=>exact ⟨0,none,0,[],Nat.zero_le _,rfl,rfl,World.ownsRow_nil _ _ _ _,trivial,rfl,θ⟩
 case round =>
  obtain ⟨i,A1,c1,gs,hi,rfl,rfl,hown,hnt,hfe,hb⟩:=dd
  by_cases hlt:i<xs.length
  ·have hT1:(xs.take (i+1)).map (·.1)=(xs.take i).map (·.1)++[(xs[i]).1]:=by rw [List.take_succ_eq_append_getElem hlt,List.map_append];rfl
   have hat:(xs.map (·.2))[i]? = some (xs[i]).2:=by rw [List.getElem?_map,List.getElem?_eq_getElem hlt];rfl
   obtain ⟨b,off,hA,hcell⟩:=(H0.o.2.1.below hb).at_ hat;have hpx:=PX.keep (aP hb) (HP.o _ (List.getElem_mem hlt));have hC:=HB.o _ (List.getElem_mem hlt) wr _ hpx (H0.o.1.below hb);have HPre:=κ (λ(h:aF sc gr ((xs.take (i+1)).map (·.1))≠0)=>(show aF sc gr (xs.map (·.1))=aF sc gr ((xs.take (i+1)).map (·.1)) by
    have:=mC sc gr ((xs.take (i+1)).map (·.1)) ((xs.drop (i+1)).map (·.1)) h;rwa [<-List.map_append,List.take_append_drop] at this))
   have hFE:=kV sc gr (xs[i]).1 _ hfe;rw [<-hT1] at hFE;have HT1:=κ hT1;have hbx:=β (aA H0.o.2.2.2 hb);generalize (xs[i])=p at *;obtain ⟨x,v⟩:=p;simp only at hcell hC HT1 hFE;subst hA;unfold bdr at hC;have HC:=κ hC;have HFE:=κ hFE;have HW:=κ (ι hown (ι hnt hb));clear hT1 hat hpx hC hfe hFE hown hnt hb;go_wp2_with fail;refine μ HC ?_;rintro e w2 ⟨hb2,hq⟩
   by_cases hk:(aC sc x gr).2=0
   ·rw [if_pos hk] at hq;obtain ⟨g,rfl,hnx⟩:=hq;have hown2:=aN HW.o.1 hb2;have hzw:W0≤w2.heap.size:=Nat.le_trans HW.o.2.2.size hb2.size;simp only [ptr];have HN:=κ (ι hb2 (ι hnx hk));clear hb2 hnx hk;go_wp2_with (at_builtin;refine bJ _ rfl (.tmp 26) (.tmp 28) _ rfl W0 53 iT _ 1 8 underlying46 hiT hz0 hz1 hz2 rfl ac _ _ _ _ rfl (hown2.alloc _) _ 1 1 [ptr g] rfl rfl (aS [ptr g] (heap_alloc_new w2 _)) (by simp [Value.oneCell',ptr]) kt ac bl ?_;intro A2 c2 w4 hown4 hb4 _ hk4);have hst:=Lb HW.o.1 HW.o.2.1 HN.o.1 HW.o.2.2.size HN.o.2.1 hk4;rw [<-HT1.o] at hst;have hbn:=((HW.o.2.2.trans (HN.o.1.mono HW.o.2.2.size)).alloc ac (.cells #[g] 53)).trans hb4;have HNX:=κ (ι hown4 (ι hst hbn));clear hown2 hown4 hb4 hk4 hst hbn;go_wp2
    go_roundw
    case rel=>exact ⟨i+1,A2,c2,gs++[g],ac,de,rfl,by rw [List.map_append];exact HNX.o.1,HNX.o.2.1,HFE.o.trans HN.o.2.2,HNX.o.2.2⟩
    case measure=>simp [intOf];omega
   ·rw [if_neg hk] at hq;subst hq;have HR:=κ (Ww (w:=w) (w':=w2) hk ((HPre.o (by rw [HFE.o];exact hk)).trans HFE.o) ((H0.o.2.2.1.trans (HW.o.2.2.mono H0.o.2.2.1.size)).trans (hb2.mono (Nat.le_trans H0.o.2.2.1.size HW.o.2.2.size))));generalize (aC sc x gr).2=E at *;have e1:=kw;have e2:=ku
    clear hk hb2;go_wp2;go_ret2;exact lc
  ·have hi2:=ld
   rw [hi2,List.take_length] at hnt hfe;have HR:=κ (Qm (w:=w) (by rw [List.length_map];exact hi2) H0.o.2.2.1.size hfe (H0.o.2.2.1.trans (hb.mono H0.o.2.2.1.size)) hown (by rw [hi2] at *;exact hnt));clear hi2 hnt hfe hown hb;go_wp2;go_ret2;exact lc
def aJO (fi:FuncId) (cv:Value) (w:World) (gs:List Nat) (bs:List Bool):Prop :=
 ∀ (j:Nat) (g:Nat) (b:Bool),gs[j]? = some g->bs[j]? = some b->∀ wr,Below w w wr->Calls prog fi #[ptr g,cv] wr λe w'=>e=.returned (.bool b)∧Below wr.heap.size wr w'
theorem aAV (bs:List Bool) {k:Nat} (h:k<bs.length) (h1:(bs.take k).any id=false):(bs.take (k+1)).any id=bs[k]:=by
 rw [List.take_succ_eq_append_getElem h,List.any_append,h1];simp
theorem Ht (fi:FuncId) (hfi:∀ args w,Sem.run prog (callFunc fi args) w=.ok (.enter fi args) w) (cv:Value) (A:ZT) (c:Nat) (gs:List Nat) (bs:List Bool) (w:World) (hA:Rds w A (gs.map ptr)) (hl:bs.length=gs.length) (hn:gs.length≤10) (hS:aJO fi cv w gs bs) :
 Calls prog 100 #[.slice A gs.length c,.func (.func fi) #[] #[cv]] w λe w'=>(∃ i:Int,e=.returned (.int .i64 i)∧decide (0≤i)=bs.any id)∧Below w w w':=by
 have HA:=κ hA;have HS:=lf;have hn':(gs.length:Int)≤10:=ac
 clear hA hS;go_enter func100,ntmps100;go_wp2_with fail
 go_loopw [5,8] (λ_ s8 wr=>∃ k:Nat,k≤gs.length∧s8=.int .i64 k∧Below w w wr∧(bs.take k).any id=false) (λ_ s8 _=>gs.length-(intOf s8).toNat)
 case atStart=>exact ⟨0,Nat.zero_le _,rfl,θ,rfl⟩
 case round =>
  obtain ⟨k,hk,rfl,hb,hq⟩:=dd
  by_cases hlt:k<gs.length
  ·have hltb:k<bs.length:=ac
   obtain ⟨b,off,hA2,hcell⟩:=(HA.o.below hb).at_ (show (gs.map ptr)[k]? = some (ptr gs[k]) by rw [List.getElem?_map,List.getElem?_eq_getElem hlt];rfl);have hC:=HS.o k gs[k] bs[k] (List.getElem?_eq_getElem hlt) (List.getElem?_eq_getElem hltb) wr hb;have hany:=aAV bs hltb hq;have HY:=lh;generalize gs[k]=g at *;generalize bs[k]=bb at *;subst hA2;unfold ptr at hcell hC;have HC:=κ hC;have HQ:=κ hany;have HB:=dm;clear hC hany hq hb hltb;go_wp2_with fail;refine μ HC ?_;rintro e w1 ⟨rfl,hb1⟩;have hb2:=HB.o.trans (hb1.mono HB.o.size);cases bb
   ·go_wp2
    go_roundw
    case rel=>exact ⟨k+1,ac,de,hb2,HQ.o⟩
    case measure=>simp [intOf];omega
   ·have HZ:=κ (HY.o rfl);go_wp2;go_ret;exact ⟨⟨_,rfl,by rw [HZ.o];simp⟩,hb2⟩
  ·have hk2:k=bs.length:=ac
   have HQ:=lj;clear hq hk2;go_wp2;go_ret;exact ⟨⟨-1,rfl,dk⟩,hb⟩
theorem yZ (fi:FuncId) (hfi:∀ args w,Sem.run prog (callFunc fi args) w=.ok (.enter fi args) w) (cv:Value) (A:ZT) (c:Nat) (gs:List Nat) (bs:List Bool) (w:World) (hA:Rds w A (gs.map ptr)) (hl:bs.length=gs.length) (hn:gs.length≤10) (hS:aJO fi cv w gs bs) :
 Calls prog 52 #[.slice A gs.length c,.func (.func fi) #[] #[cv]] w λe w'=>e=.returned (.bool (bs.any id))∧Below w w w':=by
 have HI:=κ (Ht fi hfi cv A c gs bs w hA hl hn hS);generalize bs.any id=bb at *;clear hA hl hn hS hfi;go_enter func52,ntmps52;go_wp2_with fail;refine μ HI ?_;rintro e w' ⟨⟨i,rfl,hi⟩,hb⟩;go_wp2;go_ret;exact ⟨by first|exact Bg hi|rfl,hb⟩
theorem Rc (g bx:Nat) (op:ZS) (kd:Int) (v:Lp.V) (a:Int) (A:ZT) (n c:Nat) (k:Int) (w:World) (h:w.heap[g]? = some (.cells (ndv op kd v a A n c) 120 (0,0))) (hb:w.heap[bx]? = some (.cells #[.int .u8 k] 56 (0,0))) :
 Calls prog 140 #[ptr g,bx] w λe w'=>e=.returned (.bool (!fitK kd k))∧Below w w w':=by
 have HF:=κ (yL g op kd v a A n c k w h);have hc:=β hb 0;generalize fitK kd k=bb at *;clear h hb;unfold ptr at *;go_enter func140,ntmps140;go_wp2_with fail;refine μ HF ?_;rintro e w' ⟨rfl,rfl⟩;go_wp2;go_ret;exact ⟨rfl,θ⟩
theorem Yb (h:(hY op a).2=0):(hY op a).1=(hY op 0).1:=by
 unfold hY at *
 by_cases h1:op=fG
 ·simp only [if_pos h1] at *
  split at h
  ·rename_i h2;rw [if_pos h2];rfl
  ·cases h
 ·simp only [if_neg h1] at *
  split at h
  ·rename_i h2;rw [if_pos h2];rfl
  ·cases h
theorem Yc {b:Int} (h:(iZ op a b).2=0):(iZ op a b).1=Ej op:=by
 unfold iZ at *;unfold Ej
 by_cases h1:op=lE∨op=uOr
 ·simp only [if_pos h1] at *;have h3:op ∉ jQ:=by rcases h1 with rfl|rfl<;>decide
  rw [if_neg h3]
  split at h
  ·rename_i h2;rw [if_pos h2]
  ·cases h
 ·simp only [if_neg h1] at *
  by_cases h3:op∈jQ
  ·simp only [if_pos h3] at *
   split at h
   ·rename_i h2;rw [if_pos h2]
   ·cases h
  ·simp only [if_neg h3] at *
   split at h
   ·rename_i h2;rw [if_pos h2]
   ·cases h
theorem gV {p:Int×Int} {f:Int->Int×Int} (h:(cY p f).2=0):p.2=0∧(f p.1).2=0∧cY p f=f p.1:=by
 unfold cY at *
 split at h
 ·rename_i h1;exact ⟨h1,h,if_pos h1⟩
 ·rename_i h1;exact absurd h h1
theorem NT.kind (h:NT S w sc x g) (hk:(aC sc x gr).2=0):∃ op v a A n c,w.heap[g]? = some (.cells (ndv op (aC sc x gr).1 v a A n c) 120 (0,0)):=by
 cases x with
 | lit k i s b=>exact ⟨_,_,_,_,_,_,h.2⟩
 | col t s =>
   obtain ⟨-,p,h1,h2⟩:=h;have e:(aC sc (.col t s) gr).1=p.2:=by simp [aC,h1]
   rw [e];exact ⟨_,_,_,_,_,_,h2⟩
 | un op x =>
   obtain ⟨-,A,c,g1,h1, -⟩:=h;obtain ⟨-,k2,k3⟩:=gV (show (cY (aC sc x gr) (hY op)).2=0 from hk);have e:(aC sc (.un op x) gr).1=(hY op 0).1:=by
    show (cY (aC sc x gr) (hY op)).1=_;rw [k3,Yb k2]
   rw [e];exact lk
 | bin op a b =>
   obtain ⟨-,A,c,g1,g2,h1, -⟩:=h;obtain ⟨-,k2,k3⟩:=gV (show (cY (aC sc a gr) λk=>cY (aC sc b gr) (iZ op k)).2=0 from hk);obtain ⟨-,k5,k6⟩:=gV k2;have e:(aC sc (.bin op a b) gr).1=Ej op:=by
    show (cY (aC sc a gr) λk=>cY (aC sc b gr) (iZ op k)).1=_;rw [k3,k6,Yc k5]
   rw [e];exact lk
 | isn n x =>
   obtain ⟨-,A,c,g1,h1, -⟩:=h;obtain ⟨-, -,k3⟩:=gV (show (cY (aC sc x gr) λ_=>((3,0):Int×Int)).2=0 from hk);have e:(aC sc (.isn n x) gr).1=3:=by
    show (cY (aC sc x gr) λ_=>((3,0):Int×Int)).1=_;rw [k3]
   rw [e];exact lk
 | agg op x =>
   obtain ⟨-,A,c,g1,h1, -⟩:=h;cases gr with
   | false=>cases hk
   | true =>
     obtain ⟨-, -,k3⟩:=gV (show (cY (aC sc x false) (kS op)).2=0 from hk);have e:(aC sc (.agg op x) true).1=(kS op (aC sc x false).1).1:=by
      show (cY (aC sc x false) (kS op)).1=_;rw [k3]
     rw [e];exact lk
 | cnt =>
   cases gr with
   | false=>cases hk
   | true=>exact ⟨_,_,_,_,_,_,h.2⟩
theorem NTs.length {S:Nat->Prop} {w:World} {sc:List Tb}:∀ {xs:List Lp.X} {gs:List Nat},NTs S w sc xs gs->gs.length=xs.length
 | [],[],_=>rfl
 | _::_,_::_,h=>by simp [NTs.length h.2]
 | [],_::_,h=>h.elim
 | _::_,[],h=>h.elim
theorem NTs.at_ {S:Nat->Prop} {w:World} {sc:List Tb}:∀ {xs:List Lp.X} {gs:List Nat} {j g:Nat},NTs S w sc xs gs->gs[j]? = some g->∃ x,xs[j]? = some x∧NT S w sc x g
 | [],[],j,g,_,h=>ar
 | x::_,g0::_,0,g,hn,h=>by simp at h;subst h;exact ⟨x,rfl,hn.1⟩
 | _::xs,_::gs,j+1,g,hn,h=>by simpa using NTs.at_ hn.2 an
 | [],_::_,_,_,h,_=>h.elim
 | _::_,[],_,_,h,_=>h.elim
theorem Cf (sc:List Tb) (gr:Bool):∀ {xs:List Lp.X} {j:Nat} {x:Lp.X},aF sc gr xs=0->xs[j]? = some x->(aC sc x gr).2=0
 | [],j,x,_,h=>ar
 | y::l,0,x,h,hj=>by
   simp at hj;subst hj;unfold aF at h
   split at h
   ·assumption
   ·rename_i h1;exact absurd h h1
 | y::l,j+1,x,h,hj=>by
   unfold aF at h
   split at h
   ·exact Cf sc gr h ll
   ·rename_i h1;exact absurd h h1
def mO (sc:List Tb) (gr:Bool) (of:Int) (xs:List Lp.X):List Bool:=xs.map λx => !fitK (aC sc x gr).1 of
theorem Po {bx:Nat} (h:NTs S w sc xs gs) (he:aF sc gr xs=0) (hb:w.heap[bx]? = some (.cells #[.int .u8 of] 56 (0,0))) :
 aJO 140 (.pointer (some ⟨bx,0,none⟩)) w gs (mO sc gr of xs):=by
 intro j g b hg hbj wr hwr;obtain ⟨x,hx,hn⟩:=h.at_ hg;obtain ⟨op,v,a,A,n,c,hc⟩:=(hn.below hwr).kind (Cf sc gr he hx);have hb2:b = !fitK (aC sc x gr).1 of:=by
  unfold mO at hbj;rw [List.getElem?_map,hx] at hbj
  simpa using hbj.symm
 subst hb2;exact Rc g bx op _ v a A n c of wr hc (aA hb hwr)
def fJ (sc:List Tb) (gr:Bool) (op:ZS) (of kind:Int) (xs:List Lp.X) (w:World) (e:Ending) (w':World):Prop :=
 Below w w w'∧if aF sc gr xs=0 then (if of≠0∧(mO sc gr of xs).any id=true then e=.returned (.tuple #[.pointer none,.int .i64 8])
  else ∃ g Ao co gs,e=.returned (.tuple #[ptr g,.int .i64 0])∧w.heap.size≤g∧w'.heap[g]? = some (.cells (ndv op kind nul 0 Ao xs.length co) 120 (0,0))∧Prts (λk=>w.heap.size≤k∧k≠g) w' Ao gs∧NTs (λk=>w.heap.size≤k∧k≠g) w' sc xs gs)
  else e=.returned (.tuple #[.pointer none,.int .i64 (aF sc gr xs)])
theorem Yi {kind:Int} (hE:E≠0) (hq:aF sc gr xs=E) (hb:Below w w w'):fJ sc gr op of kind xs w (.returned (.tuple #[.pointer none,.int .i64 E])) w':=by
 subst hq;refine ⟨hb, ?_⟩;rw [if_neg hE]
theorem Sj {kind:Int} (hq:aF sc gr xs=0) (ho:of≠0) (ha:(mO sc gr of xs).any id=true) (hb:Below w w w'):fJ sc gr op of kind xs w (.returned (.tuple #[.pointer none,.int .i64 8])) w':=by
 refine ⟨hb, ?_⟩;rw [if_pos hq,if_pos ⟨ho,ha⟩]
theorem Hr {op:ZS} {kind:Int} {w1:World} {Ao:ZT} {co:Nat} (hne:xs≠[]) (hq:aF sc gr xs=0) (ho:¬(of≠0∧(mO sc gr of xs).any id=true)) (hB:w≤B) (hb1:Below w w w1) (hb2:Below w1 w1 w2)
 (hp:Prts (λk=>B≤k) w1 Ao gs) (hn:NTs (λk=>B≤k) w1 sc xs gs) :
 fJ sc gr op of kind xs w (.returned (.tuple #[ptr w2,.int .i64 0])) (w2.alloc (.cells (ndv op kind nul 0 Ao xs.length co) 120)):=by
 have hb3:Below w2 w2 (w2.alloc (.cells (ndv op kind nul 0 Ao xs.length co) 120)):=ρ;have ht:Turn (λk=>B≤k) (λk=>w.heap.size≤k∧k≠w2.heap.size) w1 (w2.alloc (.cells (ndv op kind nul 0 Ao xs.length co) 120)):=by
  intro g hg hl;have:=hb2.size;have h1:B≤g:=hg;exact ⟨⟨ac,ac⟩,(hb3.block g ac).trans (hb2.block g hl)⟩
 have hgs:gs≠[]:=by
  intro h;subst h;have:=hn.length;exact hne (List.eq_nil_of_length_eq_zero this.symm)
 refine ⟨(hb1.trans (hb2.mono hb1.size)).trans (hb3.mono (Nat.le_trans hb1.size hb2.size)), ?_⟩;rw [if_pos hq,if_neg ho];exact ⟨_,Ao,co,gs,rfl,Nat.le_trans hb1.size hb2.size,heap_alloc_new w2 _,hp.turn ht hgs,NTs.turn ht hn⟩
theorem kT (A:ZT) (c:Nat) (sc:List Tb) (gr:Bool) (op:ZS) (of kind:Int) (xs:List (Lp.X×Value)) (Al:ZT) (cl:Nat) (w:World) (hS:ScM w A sc) (hl:Rds w Al (xs.map (·.2))) (hn:xs.length≤10) (hne:xs≠[])
 (hp:∀ p∈xs,PX 0 w p.1 p.2) (hB:∀ p∈xs,dB A c sc gr p.1) :
 Calls prog 96 #[bdr A sc c gr,op,.int .u8 of,.int .u8 kind,.slice Al xs.length cl] w (fJ sc gr op of kind (xs.map (·.1)) w):=by
 have hb0:Below w w ((w.alloc (.cells #[.slice A sc.length c,gr] 139)).alloc (.cells #[.int .u8 of] 56)):=(ρ).alloc aa _;have HP:=κ (Bl A c sc gr xs Al cl _ (hS.below hb0) (hl.below hb0) hn (λp hq=>PX.keep (aP hb0) (hp p hq)) hB);have hx1:=aB (heap_alloc_new w (.cells #[.slice A sc.length c,gr] 139)) (.cells #[.int .u8 of] 56);have hx2:=bG w (.cells #[.slice A sc.length c,gr] 139) (.cells #[.int .u8 of] 56);have c1:=β hx1;have H0:=κ (ι hb0 (ι hx1 hx2));have hlm:(xs.map (·.1)).length=xs.length:=List.length_map _;have HN:=κ (show xs.map (·.1)≠[] from λh=>hne an);obtain ⟨X,hX⟩:∃ X,xs.map (·.1)=X:=cw;rw [hX] at HP hlm HN |-;have hXl:X.length≤10:=ac
 rw [<-hlm] at HP |-;have hmf:=ej;clear hS hl hb0 hx1 hx2 hp hB hne hX hlm;unfold bdr at *;go_enter func96,ntmps96;go_wp2_with fail;refine μ HP ?_;rintro e w1 ⟨hb1,hq⟩;have hbw:=ln
 by_cases hfe:aF sc gr X=0
 ·rw [if_pos hfe] at hq;obtain ⟨Ao,co,gs,rfl,hpr,hnt⟩:=hq;have hpr:=hpr HN.o;have hlen:=hnt.length;have hbx:=aA H0.o.2.2 hb1;have c2:=β hbx;have HZ:=κ (ι hpr (ι hnt (ι hfe (ι hbw H0.o.1.size))))
  by_cases ho:of=0
  ·subst ho;have HR:=κ (λw2 (h:Below w1 w1 w2)=>Hr (op:=op) (of:=0) (kind:=kind) (co:=co) HN.o hfe (λh=>h.1 rfl) H0.o.1.size hbw h hpr hnt);clear hb1 hpr hnt hfe hbw hbx;go_wp2;go_ret2;exact HR.o w1 (θ)
  ·have e1:(of==0)=false:=η ho;have e2:(of !=0)=true:=kf
   have hrd:Rds w1 Ao (gs.map ptr):=by
    obtain ⟨b,off,h1, -,h3⟩:=hpr;exact .inr ⟨b,off,h1,h3⟩
   have HC:=κ (yZ 140 (λ_ _=>rfl) (.pointer (some ⟨w+1,0,none⟩)) Ao co gs (mO sc gr of X) w1 hrd (by unfold mO;rw [List.length_map,hlen]) ac (Po hnt hfe hbx));rw [hlen] at HC;obtain ⟨bb,hbb⟩:∃ bb,(mO sc gr of X).any id=bb:=cw;rw [hbb] at HC;cases bb
   ·have HR:=κ (λw2 (h:Below w1 w1 w2)=>Hr (op:=op) (of:=of) (kind:=kind) (co:=co) HN.o hfe (λh=>by rw [hbb] at h;cases h.2) H0.o.1.size hbw h hpr hnt);clear hb1 hpr hnt hfe hbw hbx hbb ho hrd;go_wp2_with fail;refine μ HC ?_;rintro e w2 ⟨rfl,hb2⟩;have HR2:=κ (HR.o w2 hb2);clear hb2;go_wp2;go_ret2;exact HR2.o
   ·have HR:=κ (λw2 (h:Below w1 w1 w2)=>Sj (op:=op) (kind:=kind) (w:=w) (w':=w2) hfe ho hbb (hbw.trans (h.mono hbw.size)));clear hb1 hpr hnt hfe hbw hbx hbb ho hrd;go_wp2_with fail;refine μ HC ?_;rintro e w2 ⟨rfl,hb2⟩;have HR2:=κ (HR.o w2 hb2);clear hb2;go_wp2;go_ret2;exact HR2.o
 ·rw [if_neg hfe] at hq;subst hq;have HR:=κ (Yi (op:=op) (of:=of) (kind:=kind) (w:=w) (w':=w1) hfe rfl hbw);generalize aF sc gr X=E at *;have e1:(E==0)=false:=η hfe;have e2:=ku
  clear hfe hb1 hbw;go_wp2;go_ret2;exact lc
