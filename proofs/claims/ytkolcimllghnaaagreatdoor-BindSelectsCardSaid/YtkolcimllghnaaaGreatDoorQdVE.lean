/-
 Contracts. Conditions: those of each.
-/
import Derived.Test.YtkolcimllghnaaaGreatDoorQdGF
import Derived.Test.YtkolcimllghnaaaGreatDoorQdVD
set_option maxRecDepth 100000
set_option maxHeartbeats 8000000
namespace Go.Proofs.YtkolcimllghnaaaGreatDoor
open Lp Go.Proofs.Tryz
open Go.RowKit
variable{i j:Nat}
theorem aJU (T:TypeId) (g:Nat) (w:World) (h:(T==121||T==194||T==198||T==201)=true):(Instr.typeAssert (.iface T g) 66 192 true).run prog w=.ok (.tuple #[.pointer none,false]) w∧(Instr.typeAssert (.iface T g) 66 204 true).run prog w=.ok (.tuple #[.pointer none,false]) w:=by
 simp only [Bool.or_eq_true,beq_iff_eq] at h;rcases h with ((rfl|rfl)|rfl)|rfl<;>exact ⟨aj,aj⟩
theorem Jr (g:Nat) (w:World):(Instr.typeAssert (.iface 192 g) 66 192 true).run prog w=.ok (.tuple #[g,true]) w:=aj
theorem Js (g:Nat) (w:World):(Instr.typeAssert (.iface 204 g) 66 192 true).run prog w=.ok (.tuple #[.pointer none,false]) w:=aj
theorem Jt (g:Nat) (w:World):(Instr.typeAssert (.iface 204 g) 66 204 true).run prog w=.ok (.tuple #[g,true]) w:=aj
theorem aED:∀ op∈kG,Lib.toLowerA op=aEE op∧op.length≤100∧∀ b∈op,b.toNat<128:=am
theorem aKA {a b:ZS} (h:a=b):Ending.returned (.string a)=.returned (.string b):=ch
section
attribute [local go_sem] Jr Js Jt
theorem Bu (g:Nat) (op:ZS) (u:Value) (w:World) (hop:op∈kG) (h:w.heap[g]? = some (.cells #[op,u] 208 (0,0))) :
 Calls prog 49 #[.agg #[.iface 204 g,()]] w λe w'=>e=.returned (.string ⟨(aEE op).toArray⟩)∧Below w w w':=by
 obtain ⟨h1,h2,h3⟩:=aED op hop;have hb0:Below w w (w.alloc (.cells #[.iface 204 g,()] 142)):=ρ;have HL:=κ (λW=>Tryz.strings_ToLower_ascii op W (by show op.toArray.size≤_;rw [List.size_toArray];omega) (λj b hb=>h3 b (List.mem_of_getElem? hb)));have hc:=β (aA h hb0);have hz:=β (heap_alloc_new w (.cells #[.iface 204 g,()] 142));have HB:=sv;have HE:=κ h1;clear h h2 h3 hop hb0 h1;go_enter func49,ntmps49;go_wp2_with fail;refine (HL.o _).mono ?_;rintro e w' ⟨rfl,hb⟩;have HX:=ua;clear hb;go_wp2;go_ret;exact ⟨aKA HE.o,HX.o⟩
theorem Qu (g:Nat) (t s:ByteArray) (w:World) (h:w.heap[g]? = some (.cells #[t,s] 206 (0,0))) :
 Calls prog 49 #[.agg #[.iface 192 g,()]] w λe w'=>e=.returned (.string s)∧Below w w w':=by
 have hb0:Below w w (w.alloc (.cells #[.iface 192 g,()] 142)):=ρ;have hc:=β (aA h hb0);have hz:=β (heap_alloc_new w (.cells #[.iface 192 g,()] 142));have HB:=sv;clear h hb0;go_enter func49,ntmps49;go_wp2;go_ret;exact sm
end
theorem qT (T:TypeId) (g:Nat) (w:World) (h:(T==121||T==194||T==198||T==201)=true) :
 Calls prog 49 #[.agg #[.iface T g,()]] w λe w'=>e=.returned (.string Mm)∧Below w w w':=by
 have hb0:Below w w (w.alloc (.cells #[.iface T g,()] 142)):=ρ;have hz:=β (heap_alloc_new w (.cells #[.iface T g,()] 142));obtain ⟨t1,t2⟩:=aJU T g (w.alloc (.cells #[.iface T g,()] 142)) h;have HB:=sv;clear h hb0;go_enter func49,ntmps49;go_wp2;go_ret;exact sm
theorem Xg (v:Value) (s:ByteArray) (w:World) (h:s.toList.isEmpty=false) (hv:∃ T g,v=.iface T (.pointer (some ⟨g,0,none⟩))) :
 Calls prog 49 #[.agg #[v,s]] w λe w'=>e=.returned (.string s)∧Below w w w':=by
 obtain ⟨T,g,rfl⟩:=hv;have hb0:Below w w (w.alloc (.cells #[.iface T g,s] 142)):=ρ;have hz:=β (heap_alloc_new w (.cells #[.iface T g,s] 142));have HB:=sv;clear hb0;go_enter func49,ntmps49;go_wp2;go_ret;exact sm
theorem Qv (x:Lp.X) (nm:ZS) (v:Value) (w:World) (hw:x.wf) (hp:PX 0 w x v):Calls prog 49 #[.agg #[v,nm]] w λe w'=>e=.returned (.string ⟨(Bv (x,nm)).toArray⟩)∧Below w w w':=by
 by_cases hn:nm=[]
 ·subst hn;cases x with
  | lit=>obtain ⟨g, -,rfl, -⟩:=hp;exact ub
  | col t s=>obtain ⟨g, -,rfl,h⟩:=hp;exact Qu g _ _ w h
  | un op x=>obtain ⟨g,u, -,rfl, -⟩:=hp;exact ub
  | bin op a b=>obtain ⟨g,u1,u2, -,rfl, -⟩:=hp;exact ub
  | isn n x=>obtain ⟨g,u, -,rfl, -⟩:=hp;exact ub
  | agg op x=>obtain ⟨g,u, -,rfl,h, -⟩:=hp;exact Bu g op u w hw.1 h
  | cnt=>obtain ⟨g, -,rfl,h⟩:=hp;exact Bu g aJ .nilIface w am h
 ·rw [show Bv (x,nm)=nm from if_neg hn];refine Xg v _ w ?_ hp.form;rw [ByteArray.toList_eq];cases nm with
  | nil=>exact absurd rfl hn
  | cons=>rfl
theorem wX:(prog.info? 9).map (λi=>(i.zero,i.size,i.bytes))=some (some (.string ⟨#[]⟩),1,16):=aj
theorem But.then {P:Nat} {a b c:World} (h:But P a b) (k:Below a b c):But P a c :=
 ⟨k.os.trans h.os,k.tape.trans h.tape,k.output.trans h.output,Nat.le_trans h.size k.size,λi hi hn=>(k.block i hi).trans (h.block i hi hn)⟩
def nmV (p:Lp.X×ZS):Value:=.string ⟨(Bv p).toArray⟩
def QI (sc:List Tb) (q B:Nat) (P:(Nat->Prop)->World->Prop) (on wh gr od ds lm gd:Value) (w:World) (xs:List (Lp.X×ZS)) (wr:World):Prop :=
 But q w wr∧∃ A1 c1 A2 c2 gs,gs.length=xs.length∧wr.heap[q]? = some (.cells (eO (.slice A1 xs.length c1) (.slice A2 xs.length c2) on wh gr od ds lm gd) 84 (0,0))∧Pair sc B P 9 (.slice A1 xs.length c1) (.slice A2 xs.length c2) (xs.map nmV) gs (xs.map (·.1)) gs wr
theorem QI.below {sc:List Tb} {q B:Nat} {P:(Nat->Prop)->World->Prop} {on wh gr od ds lm gd:Value} {w wr wr2:World} {xs:List (Lp.X×ZS)} (h:QI sc q B P on wh gr od ds lm gd w xs wr) (hb:Below wr wr wr2):QI sc q B P on wh gr od ds lm gd w xs wr2:=by
 obtain ⟨h1,A1,c1,A2,c2,gs,h2,h3,h4⟩:=h;exact ⟨h1.trans (But.of hb),A1,c1,A2,c2,gs,h2,aA h3 hb,h4.below hb⟩
theorem gJ {w:World} {q o:Nat} {cs:ZV} {t:TypeId} {u:Value} (h:w.heap[q]? = some (.cells cs t (0,0))):(w.setCell ⟨q,o,none⟩ u).heap[q]? = some (.cells (cs.setIfInBounds o u) t (0,0)):=by
 have:=heap_setCell_same w q o _ _ u h
 simpa using this
variable {sc:List Tb} {q g B:Nat} {P:(Nat->Prop)->World->Prop} {v1 v2 v' on wh gr od ds lm gd u:Value} {us:ZU} {gs hs:List Nat} {xs:List Lp.X} {w wr W w5:World}
theorem aKX (hbut:But q w wr) (hlt:q<B) (hB:w≤B) (hq:wr.heap[q]? = some (.cells (eO v1 v2 on wh gr od ds lm gd) 84 (0,0))) (hp:Pair sc B P 9 v1 v2 us gs xs hs wr) (hW:Below wr wr W)
 (ho:w5.ownsRow B 9 1 v' (us.length+1) (us++[u])) (hb:Below B W w5) (hk:fL W w5 v1.ownBlock v'.ownBlock) :
 But q w (w5.setCell ⟨q,0,none⟩ v')∧(w5.setCell ⟨q,0,none⟩ v').heap[q]? = some (.cells (eO v' v2 on wh gr od ds lm gd) 84 (0,0))∧Pair sc B P 9 v' v2 (us++[u]) gs xs hs (w5.setCell ⟨q,0,none⟩ v'):=by
 have hpW:=hp.below hW;have hq5:=(hk _ _ (aA hq hW) (cU hpW.o1 (aA hq hW) am)).1;have hp5:=hpW.one ho hb.size hk;exact FH
theorem aKW (hbut:But q w wr) (hlt:q<B) (hB:w≤B) (hq:wr.heap[q]? = some (.cells (eO v1 v2 on wh gr od ds lm gd) 84 (0,0))) (hp:Pair sc B P 9 v1 v2 us gs xs hs wr) (hW:Below wr wr W)
 (ho:w5.ownsRow B 53 1 v' (gs.length+1) (gs.map ptr++[ptr g])) (hb:Below B W w5) (hk:fL W w5 v2.ownBlock v'.ownBlock) {x:Lp.X} (hx:NT (λk=>wr.heap.size≤k) W sc x g) :
 But q w (w5.setCell ⟨q,1,none⟩ v')∧(w5.setCell ⟨q,1,none⟩ v').heap[q]? = some (.cells (eO v1 v' on wh gr od ds lm gd) 84 (0,0))∧Pair sc B P 9 v1 v' us (gs++[g]) (xs++[x]) (hs++[g]) (w5.setCell ⟨q,1,none⟩ v'):=by
 have hpW:=hp.new hW hx;have hq5:=(hk _ _ (aA hq hW) (cU hpW.o2 (aA hq hW) am)).1;have hp5:=hpW.two ho hb.size hk;exact FH
def stc (tb:Tb) (cs:List Col):List (Lp.X×ZS):=cs.map λc=>(.col tb.n c.n,[])
theorem Up (l m:List Tb):jE (l++m)=jE l++jE m:=by simp [jE]
theorem gI:∀ l:List Tb,(jE l).length=bY l
 | []=>rfl
 | a::l=>by
   have:=gI l;have e:jE (a::l)=(a.cs.map λc=>(.col a.n c.n,[]))++jE l:=by simp [jE]
   rw [e,List.length_append,this];simp [bY]
theorem Av (l:List (Tb×ZT×Nat)) (h:i<l.length):jE ((l.take (i+1)).map (·.1))=jE ((l.take i).map (·.1))++stc (l[i]).1 (l[i]).1.cs:=by
 rw [Fk l h,Up];simp [jE,stc]
theorem aCB (l:List (Tb×ZT×Nat)) (h:i<l.length) (hj:j<(l[i]).1.cs.length) (hok:nA (l.map (·.1))) (hd:oJ (l.map (·.1))=false) :
 dX (l.map (·.1)) (l[i]).1.n ((l[i]).1.cs[j]).n=some ((jE ((l.take i).map (·.1))++stc (l[i]).1 ((l[i]).1.cs.take j)).length,((l[i]).1.cs[j]).k):=by
 have e:l.map (·.1)=(l.take i).map (·.1)++(l[i]).1::(l.drop (i+1)).map (·.1):=by
  conv=>lhs;rw [<-List.take_append_drop i l,List.drop_eq_getElem_cons h]
  rw [List.map_append,List.map_cons]
 have h1:=Ax hok hd _ _ _ ((l[i]).1.cs.take j) ((l[i]).1.cs.drop (j+1)) ((l[i]).1.cs[j]) e (by rw [<-List.drop_eq_getElem_cons hj,List.take_append_drop]);rw [h1,List.length_append,gI];simp [stc]
theorem Fp {tb:Tb} {cs:List Col} (h:j<cs.length):stc tb (cs.take (j+1))=stc tb (cs.take j)++[(.col tb.n (cs[j]).n,[])]:=by
 rw [List.take_succ_eq_append_getElem h,stc,List.map_append];rfl
theorem Ni {p:Lp.X×ZS} {l:List (Lp.X×ZS)} {A1 A2:ZT} {n c1 c2:Nat} (hl:n=l.length+1) (hg:gs.length=n) (h1:But q w wr) (h2:wr.heap[q]? = some (.cells (eO (.slice A1 n c1) (.slice A2 n c2) on wh gr od ds lm gd) 84 (0,0)))
 (h3:Pair sc B P 9 (.slice A1 n c1) (.slice A2 n c2) (l.map nmV++[nmV p]) gs (l.map (·.1)++[p.1]) gs wr):QI sc q B P on wh gr od ds lm gd w (l++[p]) wr:=by
 subst hl;refine ⟨h1,A1,c1,A2,c2,gs,by rw [hg];simp, ?_, ?_⟩
 ·rw [List.length_append];exact h2
 ·rw [List.length_append,List.map_append,List.map_append];exact h3
theorem aFX (Wo:World) (A:ZT) (c:Nat) (sc:List Tb) (q B:Nat) (P:(Nat->Prop)->World->Prop) (on wh gr od ds lm gd:Value) (w w1:World) (hS:ScM Wo A sc) (hWo:Below Wo Wo w) (hqo:Wo.heap.size≤q) (hok:nA sc) (hd:oJ sc=false) (hlt:q<w.heap.size) (hqB:q<B) (hBw:w≤B)
 (hQ0:QI sc q B P on wh gr od ds lm gd w [] w1) :
 Calls prog 50 #[ptr q,.slice A sc.length c] w1 λe w'=>e=.returned (.tuple #[])∧QI sc q B P on wh gr od ds lm gd w (jE sc) w':=by
 obtain ⟨l,hls,hl,hcs⟩:=hS;obtain ⟨iS,hiS,hy0,hy1,hy2⟩:=info_parts wX;obtain ⟨iT,hiT,hz0,hz1,hz2⟩:=kr;have hsl:sc.length=l.length:=by rw [<-hls,List.length_map]
 have hnl:=hok.1;have hstar:=lW hok;have HO:=κ (ι hls (ι hok (ι hd (ι hcs (ι hl (ι hWo hqo))))));have H0:=κ hQ0;have HST:=κ hstar;rw [hsl] at hnl |-;have hnI:(l.length:Int)≤2:=ac
 clear hls hok hd hcs hl hWo hqo hQ0 hsl hstar;unfold ptr;go_enter func50,ntmps50;go_wp2_with fail
 go_loopw [5,7,10] (λ_ _ s10 wr=>∃ i:Nat,i≤l.length∧s10=.int .i64 i∧QI sc q B P on wh gr od ds lm gd w (jE ((l.take i).map (·.1))) wr) (λ_ _ s10 _=>l.length-(intOf s10).toNat)
 case atStart=>exact ⟨0,Nat.zero_le _,rfl,H0.o⟩
 case round =>
  obtain ⟨i,hi,rfl,hQ⟩:=dd
  by_cases hltl:i<l.length
  ·have HT1:=κ (Av l hltl);have hbo:=FI;have hcR:=HO.o.2.2.2.1 (l[i]) (List.getElem_mem hltl);have hat:=Ct hltl;have hlr:=HO.o.2.2.2.2.1.below hbo;obtain ⟨b,off,hA,hcell⟩:=hlr.at_ hat.1;subst hA;obtain ⟨b2,off2,hA2,hcell2⟩:=hlr.at_ hat.2;simp only [Option.some.injEq,Addr.mk.injEq,and_true] at hA2;obtain ⟨rfl,rfl⟩:=hA2;have hF:=λj hj=>aCB l hltl (j:=j) hj (HO.o.1.symm▸HO.o.2.1) (HO.o.1.symm▸HO.o.2.2.1);rw [HO.o.1] at hF;have hln:(jE ((l.take i).map (·.1))++stc (l[i]).1 (l[i]).1.cs).length≤16:=by
    rw [<-HT1.o];refine Nat.le_trans ?_ HST.o;rw [<-HO.o.1,gI,gI,List.map_take];exact nJ _ _
   clear hat hlr;generalize (l[i])=tb at *;generalize hSt:jE ((l.take i).map (·.1))=ST at *;obtain ⟨⟨tn,cs⟩,A2,c2⟩:=tb;simp only at hcell hcell2 hcR hF hln;rw [<-Nat.add_assoc] at hcell2;have hbT:=jq;have x2:=jp;have hcsl:=FJ
   have hcsI:(cs.length:Int)≤16:=ac
   have HM:=κ (ι (show QI sc q B P on wh gr od ds lm gd w (ST++stc ⟨tn,cs⟩ (cs.take 0)) _ from by rw [List.take_zero];simpa [stc] using hQ.below hbT) (ι hcR (ι hF hln)));clear hbo hcR hQ hF hln hbT hSt;go_wp2_with fail;generalize wr.alloc (.cells #[tn,.slice A2 cs.length c2] 50)=W1 at *;clear x2 hcell hcell2
   go_loopw [7,17] (λ_ s17 wq=>∃ j:Nat,j≤cs.length∧s17=.int .i64 j∧QI sc q B P on wh gr od ds lm gd w (ST++stc ⟨tn,cs⟩ (cs.take j)) wq) (λ_ s17 _=>cs.length-(intOf s17).toNat)
   case atStart=>exact ⟨0,Nat.zero_le _,rfl,HM.o.1⟩
   case round =>
    obtain ⟨j,hj,rfl,hQ⟩:=dd
    by_cases hjl:j<cs.length
    ·have hbq:=FI;have hcat:=tI hjl;have hrq:=HM.o.2.1.below hbq;obtain ⟨bc,oc,hA3,hn1⟩:=hrq.at_ hcat.1;obtain ⟨bc2,oc2,hA4,hn2⟩:=hrq.at_ hcat.2;have hA5:=jx;simp only [Addr.mk.injEq,and_true] at hA5;obtain ⟨rfl,rfl⟩:=hA5;rw [<-Nat.add_assoc] at hn2;have hstep:=Fp (tb:=⟨tn,cs⟩) hjl;have hfx:=HM.o.2.2.1 j hjl;have hxl:(ST++stc ⟨tn,cs⟩ (cs.take j)).length≤16:=by
      refine Nat.le_trans ?_ HM.o.2.2.2;simp only [List.length_append,stc,List.length_map,List.length_take];omega
     generalize (cs[j])=cj at *;obtain ⟨cn,ck⟩:=cj;simp only at hn1 hn2 hstep hfx;obtain ⟨L,hL⟩:∃ L,ST++stc ⟨tn,cs⟩ (cs.take j)=L:=cw;have HSt:=FK;rw [hL] at hQ hfx hxl;obtain ⟨hbut,B1,d1,B2,d2,gs,hg,hqw,hp⟩:=hQ;have hbC:=jw;have q0:=β (aA hqw hbC);have q2:=jv;have hqx:=aA hqw hbC;have HC:=κ (ι (hbut.trans (But.of hbC)) (ι hqx (ι (hp.below hbC) (ι hfx (heap_alloc_new wr (.cells #[cn,.int .u8 ck] 116))))));have hjI:=ju
     have HG:=κ hg;clear hg hbut hqw hp hstep hfx hbC hrq hcat hA4 hqx hbq hL;subst hA3;go_wp2_with fail;generalize wr.alloc (.cells #[cn,.int .u8 ck] 116)=W2 at *;generalize wr.heap.size=bx at *;have hbq:bx≠q:=by
      intro e;have h1:=HC.o.2.1;rw [<-e,HC.o.2.2.2.2] at h1;injection h1 with h1;injection h1 with _ h1 _;revert h1;decide
     have e0:=q0 0;have e1:=q0 1;have c0:=q2 0;have c1:=q2 1;simp only [eO] at e0 e1;clear q0 q2;have a0:∀ o,(W2.alloc o).cell? ⟨q,0,none⟩=some (.slice B1 L.length d1):=λo=>β (aB HC.o.2.1 o) 0
     go_region_law (first
      | (refine bL _ rfl (.tmp 25) (.tmp 28) _ rfl B 9 iS _ 1 16 underlying81 hiS hy0 hy1 hy2 rfl (by omega) B1 L.length d1 (L.map nmV) rfl ?_ _ 1 1 [.string ⟨cn.toArray⟩] rfl rfl ?_ ?_ ?_ ?_ ?_ ?_
         ·have:=HC.o.2.2.1.o1;rw [List.length_map] at this;exact (this.alloc _).drew
         ·exact aS [.string ⟨cn.toArray⟩] (bX (heap_alloc_new _ _))
         ·simp [Value.oneCell']
         ·simp only [maxLen];omega
         ·omega
         ·show _≤(W2.alloc _).heap.size;rw [World.size_alloc];exact Nat.le_trans HC.o.2.2.1.hB (Nat.le_succ _)
         intro A5 c5 w5 ho5 hb5 hg5 hk5;have hx5:=(hk5 _ _ (bX (aB HC.o.2.1 _)) (cU HC.o.2.2.1.o1 HC.o.2.1 am)).1;have d5:w5.cell? ⟨q,0,none⟩=some (.slice B1 L.length d1):=β hx5 0;have f5:=λj=>frozen_of_row w5 q j _ _ hx5)
      | fail)
     all_goals
      have ho6:w5.ownsRow B 9 1 (.slice A5 (L.length+1) c5) ((L.map nmV).length+1) (L.map nmV++[nmV (.col tn cn,[])]):=by rw [List.length_map];exact ho5
      have hbW:Below W2 W2 ((W2.alloc (.cells #[cn] 9)).drew):=(ρ).drew;have hS6:=aKX HC.o.1 hqB hBw HC.o.2.1 HC.o.2.2.1 hbW ho6 hb5 hk5;have hc6:=(hk5 _ _ (bX (aB HC.o.2.2.2.2 _)) (cU HC.o.2.2.1.o1 HC.o.2.2.2.2 am)).1;have hc7:=cA (o2:=0) hc6 hbq (.slice A5 (L.length+1) c5);clear ho6 hbW hx5 ho5 hb5 hg5 hk5 d5 f5 e0 e1 a0 hc6 c0 c1 hn1 hn2;go_wp2_with fail;generalize w5.setCell ⟨q,0,none⟩ (.slice A5 (L.length+1) c5)=W3 at *;have HC3:=κ (ι hS6.1 (ι hS6.2.1 (ι hS6.2.2 (ι hc7 HC.o.2.2.2.1))));have e1:W3.cell? ⟨q,1,none⟩=some (.slice B2 L.length d2):=β hS6.2.1 1;have c0:=β hc7 0;have c1:=β hc7 1;have a1:∀ o,(W3.alloc o).cell? ⟨q,1,none⟩=some (.slice B2 L.length d2):=λo=>β (aB hS6.2.1 o) 1;have a2:∀ o o2,((W3.alloc o).alloc o2).cell? ⟨q,1,none⟩=some (.slice B2 L.length d2):=λo o2=>β (aB (aB hS6.2.1 o) o2) 1;clear hS6 hc7 HC
      go_region_law (first
       | (refine bL _ rfl (.tmp 36) (.tmp 46) _ rfl B 53 iT _ 1 8 underlying46 hiT hz0 hz1 hz2 rfl (by omega) B2 L.length d2 (gs.map ptr) rfl ?_ _ 1 1 [ptr W3.heap.size] rfl rfl ?_ ?_ ?_ ?_ ?_ ?_
          ·have:=HC3.o.2.2.1.o2;rw [HG.o] at this;exact ((this.alloc _).alloc _).drew
          ·exact aS [ptr W3] (bX (bG _ _ _))
          ·simp [Value.oneCell',ptr]
          ·simp only [maxLen];omega
          ·omega
          ·show _≤((W3.alloc _).alloc _).heap.size;rw [World.size_alloc,World.size_alloc];exact Nat.le_trans HC3.o.2.2.1.hB ac
          intro A7 c7 w7 ho7 hb7 hg7 hk7;have hx7:=(hk7 _ _ (bX (aB (aB HC3.o.2.1 _) _)) (cU HC3.o.2.2.1.o2 HC3.o.2.1 am)).1;have d7:w7.cell? ⟨q,1,none⟩=some (.slice B2 L.length d2):=β hx7 1;have f7:=λj=>frozen_of_row w7 q j _ _ hx7)
       | fail)
      all_goals
       have hW7:Below W3 W3 (((W3.alloc (.cells (ndv lH ck nul ((L.length:Nat):Int) none 0 0) 120)).alloc (.cells #[ptr W3] 53)).drew):=((ρ).alloc aa _).drew;have hS8:=aKW HC3.o.1 hqB hBw HC3.o.2.1 HC3.o.2.2.1 hW7 (by rw [HG.o];exact ho7) hb7 hk7 (x:=.col tn cn) ⟨ν _,_,HC3.o.2.2.2.2,bX (aB (heap_alloc_new W3 _) _)⟩;have hQ8:=Ni (p:=(.col tn cn,[])) (l:=L) rfl (by rw [List.length_append,HG.o];rfl) hS8.1 hS8.2.1 hS8.2.2;rw [<-HSt.o] at hQ8;have HQ8:=κ hQ8;clear hQ8 hS8 hW7 ho7 hb7 hg7 hk7 hx7 d7 f7 a1 a2 e1 c0 c1 HC3;go_wp2
       go_roundw
       case rel=>exact ⟨j+1,ac,de,HQ8.o⟩
       case measure=>simp [intOf];omega
    ·have hj2:=jz
     rw [hj2,List.take_length] at hQ;rw [<-HT1.o] at hQ;have HQ:=κ hQ;clear hj2 hQ;go_wp2
     go_roundw
     case rel=>exact ⟨i+1,ac,de,HQ.o⟩
     case measure=>simp [intOf];omega
  ·have hi2:=ka
   rw [hi2,List.take_length,HO.o.1] at hQ;have HQ:=κ hQ;clear hi2 hQ;go_wp2;go_end0;exact ⟨rfl,HQ.o⟩
