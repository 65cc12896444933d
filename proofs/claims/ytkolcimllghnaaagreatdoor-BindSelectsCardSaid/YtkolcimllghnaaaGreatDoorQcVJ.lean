/-
 Contracts. Conditions: those of each.
-/
import Derived.Test.YtkolcimllghnaaaGreatDoorQcVI
import Derived.OrdersHeld
import Derived.Deep.RegionHeld
set_option maxRecDepth 100000
set_option maxHeartbeats 8000000
namespace Go.Proofs.YtkolcimllghnaaaGreatDoor
open Lp Go.Proofs.Tryz
open Go.RowKit
variable{i j:Nat}{w:World}
theorem wX:(prog.info? 9).map (λi=>(i.zero,i.size,i.bytes))=some (some (.string ⟨#[]⟩),1,16):=aj
theorem But.then {P:Nat} {a b c:World} (h:But P a b) (k:Below a b c):But P a c :=
 ⟨k.os.trans h.os,k.tape.trans h.tape,k.output.trans h.output,Nat.le_trans h.size k.size,λi hi hn=>(k.block i hi).trans (h.block i hi hn)⟩
def nmV (p:Lp.X×ZS):Value:=.string ⟨(Bv p).toArray⟩
def QI (sc:List Tb) (q B:Nat) (P:(Nat->Prop)->World->Prop) (on wh gr od ds lm gd:Value) (w:World) (xs:List (Lp.X×ZS)) (wr:World):Prop :=
 But q w wr/\∃ A1 c1 A2 c2 gs,gs.length=xs.length/\wr.heap[q]? = some (.cells (eO (.slice A1 xs.length c1) (.slice A2 xs.length c2) on wh gr od ds lm gd) 84 (0,0))/\Pair sc B P 9 (.slice A1 xs.length c1) (.slice A2 xs.length c2) (xs.map nmV) gs (xs.map (·.1)) gs wr
theorem QI.below {sc:List Tb} {q B:Nat} {P:(Nat->Prop)->World->Prop} {on wh gr od ds lm gd:Value} {w wr wr2:World} {xs:List (Lp.X×ZS)} (h:QI sc q B P on wh gr od ds lm gd w xs wr) (hb:Below wr wr wr2):QI sc q B P on wh gr od ds lm gd w xs wr2:=by
 obtain ⟨h1,A1,c1,A2,c2,gs,h2,h3,h4⟩:=h;exact ⟨h1.trans (But.of hb),A1,c1,A2,c2,gs,h2,aA h3 hb,h4.below hb⟩
theorem gJ {q o:Nat} {cs:ZV} {t:TypeId} {u:Value} (h:w.heap[q]? = some (.cells cs t (0,0))):(w.setCell ⟨q,o,none⟩ u).heap[q]? = some (.cells (cs.setIfInBounds o u) t (0,0)):=by
 have:=heap_setCell_same w q o _ _ u h
 simpa using this
variable {sc:List Tb} {q g B:Nat} {P:(Nat->Prop)->World->Prop} {v1 v2 v' on wh gr od ds lm gd u:Value} {us:ZU} {gs hs:List Nat} {xs:List Lp.X} {w wr W w5:World}
theorem aKX (hbut:But q w wr) (hlt:q<B) (hB:w<=B) (hq:wr.heap[q]? = some (.cells (eO v1 v2 on wh gr od ds lm gd) 84 (0,0))) (hp:Pair sc B P 9 v1 v2 us gs xs hs wr) (hW:Below wr wr W)
 (ho:w5.ownsRow B 9 1 v' (us.length+1) (us++[u])) (hb:Below B W w5) (hk:fL W w5 v1.ownBlock v'.ownBlock) :
 But q w (w5.setCell ⟨q,0,none⟩ v')/\(w5.setCell ⟨q,0,none⟩ v').heap[q]? = some (.cells (eO v' v2 on wh gr od ds lm gd) 84 (0,0))/\Pair sc B P 9 v' v2 (us++[u]) gs xs hs (w5.setCell ⟨q,0,none⟩ v'):=by
 have hpW:=hp.below hW;have hq5:=(hk _ _ (aA hq hW) (cU hpW.o1 (aA hq hW) am)).1;have hp5:=hpW.one ho hb.size hk;exact uv
theorem aKW (hbut:But q w wr) (hlt:q<B) (hB:w<=B) (hq:wr.heap[q]? = some (.cells (eO v1 v2 on wh gr od ds lm gd) 84 (0,0))) (hp:Pair sc B P 9 v1 v2 us gs xs hs wr) (hW:Below wr wr W)
 (ho:w5.ownsRow B 53 1 v' (gs.length+1) (gs.map ptr++[ptr g])) (hb:Below B W w5) (hk:fL W w5 v2.ownBlock v'.ownBlock) {x:Lp.X} (hx:NT (λk=>wr.heap.size<=k) W sc x g) :
 But q w (w5.setCell ⟨q,1,none⟩ v')/\(w5.setCell ⟨q,1,none⟩ v').heap[q]? = some (.cells (eO v1 v' on wh gr od ds lm gd) 84 (0,0))/\Pair sc B P 9 v1 v' us (gs++[g]) (xs++[x]) (hs++[g]) (w5.setCell ⟨q,1,none⟩ v'):=by
 have hpW:=hp.new hW hx;have hq5:=(hk _ _ (aA hq hW) (cU hpW.o2 (aA hq hW) am)).1;have hp5:=hpW.two ho hb.size hk;exact uv
def stc (tb:Tb) (cs:List Col):List (Lp.X×ZS):=cs.map λc=>(.col tb.n c.n,[])
theorem Up (l m:List Tb):jE (l++m)=jE l++jE m:=by simp [jE]
theorem gI:∀ l:List Tb,(jE l).length=bY l
 | []=>rfl
 | a::l=>by
   have:=gI l;have e:jE (a::l)=(a.cs.map λc=>(.col a.n c.n,[]))++jE l:=by simp [jE]
   rw [e,List.length_append,this];simp [bY]
theorem Av (l:List (Tb×ZT×Nat)) (h:i<l.length):jE ((l.take (i+1)).map (·.1))=jE ((l.take i).map (·.1))++stc (l[i]).1 (l[i]).1.cs:=by
 rw [Fk l h,Up];simp [jE,stc]
theorem aCB (l:List (Tb×ZT×Nat)) (h:i<l.length) (hj:j<(l[i]).1.cs.length) (hok:nA (l.map (·.1))) (hd:oJ (l.map (·.1))=false) :
 dX (l.map (·.1)) (l[i]).1.n ((l[i]).1.cs[j]).n=some ((jE ((l.take i).map (·.1))++stc (l[i]).1 ((l[i]).1.cs.take j)).length,((l[i]).1.cs[j]).k):=by
 have e:l.map (·.1)=(l.take i).map (·.1)++(l[i]).1::(l.drop (i+1)).map (·.1):=by
  conv=>lhs;rw [<-List.take_append_drop i l,List.drop_eq_getElem_cons h]
  rw [List.map_append,List.map_cons]
 have h1:=Ax hok hd _ _ _ ((l[i]).1.cs.take j) ((l[i]).1.cs.drop (j+1)) ((l[i]).1.cs[j]) e (by rw [<-List.drop_eq_getElem_cons hj,List.take_append_drop]);rw [h1,List.length_append,gI];simp [stc]
theorem Fp {tb:Tb} {cs:List Col} (h:j<cs.length):stc tb (cs.take (j+1))=stc tb (cs.take j)++[(.col tb.n (cs[j]).n,[])]:=by
 rw [List.take_succ_eq_append_getElem h,stc,List.map_append];rfl
theorem Ni {p:Lp.X×ZS} {l:List (Lp.X×ZS)} {A1 A2:ZT} {n c1 c2:Nat} (hl:n=l.length+1) (hg:gs.length=n) (h1:But q w wr) (h2:wr.heap[q]? = some (.cells (eO (.slice A1 n c1) (.slice A2 n c2) on wh gr od ds lm gd) 84 (0,0)))
 (h3:Pair sc B P 9 (.slice A1 n c1) (.slice A2 n c2) (l.map nmV++[nmV p]) gs (l.map (·.1)++[p.1]) gs wr):QI sc q B P on wh gr od ds lm gd w (l++[p]) wr:=by
 subst hl;refine ⟨h1,A1,c1,A2,c2,gs,by rw [hg];simp, ?_, ?_⟩
 ·rw [List.length_append];exact h2
 ·rw [List.length_append,List.map_append,List.map_append];exact h3
theorem aFX (Wo:World) (A:ZT) (c:Nat) (sc:List Tb) (q B:Nat) (P:(Nat->Prop)->World->Prop) (on wh gr od ds lm gd:Value) (w w1:World) (hS:ScM Wo A sc) (hWo:Below Wo Wo w) (hqo:Wo.heap.size<=q) (hok:nA sc) (hd:oJ sc=false) (hlt:q<w.heap.size) (hqB:q<B) (hBw:w<=B)
 (hQ0:QI sc q B P on wh gr od ds lm gd w [] w1) :
 Calls prog 50 #[ptr q,.slice A sc.length c] w1 λe w'=>e=.returned (.tuple #[])/\QI sc q B P on wh gr od ds lm gd w (jE sc) w':=by
 obtain ⟨l,hls,hl,hcs⟩:=hS;obtain ⟨iS,hiS,hy0,hy1,hy2⟩:=info_parts wX;obtain ⟨iT,hiT,hz0,hz1,hz2⟩:=re;have hsl:sc.length=l.length:=by rw [<-hls,List.length_map]
 have hnl:=hok.1;have hstar:=lW hok;have HO:=κ (ι hls (ι hok (ι hd (ι hcs (ι hl (ι hWo hqo))))));have H0:=κ hQ0;have HST:=κ hstar;rw [hsl] at hnl |-;have hnI:(l.length:Int)<=2:=ac
 clear hls hok hd hcs hl hWo hqo hQ0 hsl hstar;unfold ptr;go_enter func50,ntmps50;go_wp2_with fail
 go_loopw [5,7,10] (λ_ _ s10 wr=>∃ i:Nat,i<=l.length/\s10=.int .i64 i/\QI sc q B P on wh gr od ds lm gd w (jE ((l.take i).map (·.1))) wr) (λ_ _ s10 _=>l.length-(intOf s10).toNat)
 case atStart=>exact ⟨0,Nat.zero_le _,rfl,H0.o⟩
 case round =>
  obtain ⟨i,hi,rfl,hQ⟩:=de
  by_cases hltl:i<l.length
  ·have HT1:=κ (Av l hltl);have hbo:=uw;have hcR:=HO.o.2.2.2.1 (l[i]) (List.getElem_mem hltl);have hat:=Ct hltl;have hlr:=HO.o.2.2.2.2.1.below hbo;obtain ⟨b,off,hA,hcell⟩:=hlr.at_ hat.1;subst hA;obtain ⟨b2,off2,hA2,hcell2⟩:=hlr.at_ hat.2;simp only [Option.some.injEq,Addr.mk.injEq,and_true] at hA2;obtain ⟨rfl,rfl⟩:=hA2;have hF:=λj hj=>aCB l hltl (j:=j) hj (HO.o.1.symm▸HO.o.2.1) (HO.o.1.symm▸HO.o.2.2.1);rw [HO.o.1] at hF;have hln:(jE ((l.take i).map (·.1))++stc (l[i]).1 (l[i]).1.cs).length<=16:=by
    rw [<-HT1.o];refine Nat.le_trans ?_ HST.o;rw [<-HO.o.1,gI,gI,List.map_take];exact nJ _ _
   clear hat hlr;generalize (l[i])=tb at *;generalize hSt:jE ((l.take i).map (·.1))=ST at *;obtain ⟨⟨tn,cs⟩,A2,c2⟩:=tb;simp only at hcell hcell2 hcR hF hln;rw [<-Nat.add_assoc] at hcell2;have hbT:=qd;have x2:=qb;have hcsl:=ux
   have hcsI:(cs.length:Int)<=16:=ac
   have HM:=κ (ι (show QI sc q B P on wh gr od ds lm gd w (ST++stc ⟨tn,cs⟩ (cs.take 0)) _ from by rw [List.take_zero];simpa [stc] using hQ.below hbT) (ι hcR (ι hF hln)));clear hbo hcR hQ hF hln hbT hSt;go_wp2_with fail;generalize wr.alloc (.cells #[tn,.slice A2 cs.length c2] 50)=W1 at *;clear x2 hcell hcell2
   go_loopw [7,17] (λ_ s17 wq=>∃ j:Nat,j<=cs.length/\s17=.int .i64 j/\QI sc q B P on wh gr od ds lm gd w (ST++stc ⟨tn,cs⟩ (cs.take j)) wq) (λ_ s17 _=>cs.length-(intOf s17).toNat)
   case atStart=>exact ⟨0,Nat.zero_le _,rfl,HM.o.1⟩
   case round =>
    obtain ⟨j,hj,rfl,hQ⟩:=de
    by_cases hjl:j<cs.length
    ·have hbq:=uw;have hcat:=tI hjl;have hrq:=HM.o.2.1.below hbq;obtain ⟨bc,oc,hA3,hn1⟩:=hrq.at_ hcat.1;obtain ⟨bc2,oc2,hA4,hn2⟩:=hrq.at_ hcat.2;have hA5:=qm;simp only [Addr.mk.injEq,and_true] at hA5;obtain ⟨rfl,rfl⟩:=hA5;rw [<-Nat.add_assoc] at hn2;have hstep:=Fp (tb:=⟨tn,cs⟩) hjl;have hfx:=HM.o.2.2.1 j hjl;have hxl:(ST++stc ⟨tn,cs⟩ (cs.take j)).length<=16:=by
      refine Nat.le_trans ?_ HM.o.2.2.2;simp only [List.length_append,stc,List.length_map,List.length_take];omega
     generalize (cs[j])=cj at *;obtain ⟨cn,ck⟩:=cj;simp only at hn1 hn2 hstep hfx;obtain ⟨L,hL⟩:∃ L,ST++stc ⟨tn,cs⟩ (cs.take j)=L:=da;have HSt:=uy;rw [hL] at hQ hfx hxl;obtain ⟨hbut,B1,d1,B2,d2,gs,hg,hqw,hp⟩:=hQ;have hbC:=ql;have q0:=β (aA hqw hbC);have q2:=qk;have hqx:=aA hqw hbC;have HC:=κ (ι (hbut.trans (But.of hbC)) (ι hqx (ι (hp.below hbC) (ι hfx (heap_alloc_new wr (.cells #[cn,.int .u8 ck] 116))))));have hjI:=qj
     have HG:=κ hg;clear hg hbut hqw hp hstep hfx hbC hrq hcat hA4 hqx hbq hL;subst hA3;go_wp2_with fail;generalize wr.alloc (.cells #[cn,.int .u8 ck] 116)=W2 at *;generalize wr.heap.size=bx at *;have hbq:bx≠q:=by
      intro e;have h1:=HC.o.2.1;rw [<-e,HC.o.2.2.2.2] at h1;injection h1 with h1;injection h1 with _ h1 _;revert h1;decide
     have e0:=q0 0;have e1:=q0 1;have c0:=q2 0;have c1:=q2 1;simp only [eO] at e0 e1;clear q0 q2;have a0:∀ o,(W2.alloc o).cell? ⟨q,0,none⟩=some (.slice B1 L.length d1):=λo=>β (aB HC.o.2.1 o) 0
     go_region_law (first
      | (refine bL _ rfl (.tmp 25) (.tmp 28) _ rfl B 9 iS _ 1 16 underlying81 hiS hy0 hy1 hy2 rfl (by omega) B1 L.length d1 (L.map nmV) rfl ?_ _ 1 1 [.string ⟨cn.toArray⟩] rfl rfl ?_ ?_ ?_ ?_ ?_ ?_
         ·have:=HC.o.2.2.1.o1;rw [List.length_map] at this;exact (this.alloc _).drew
         ·exact aS [.string ⟨cn.toArray⟩] (bX (heap_alloc_new _ _))
         ·simp [Value.oneCell']
         ·simp only [maxLen];omega
         ·omega
         ·show _<=(W2.alloc _).heap.size;rw [World.size_alloc];exact Nat.le_trans HC.o.2.2.1.hB (Nat.le_succ _)
         intro A5 c5 w5 ho5 hb5 hg5 hk5;have hx5:=(hk5 _ _ (bX (aB HC.o.2.1 _)) (cU HC.o.2.2.1.o1 HC.o.2.1 am)).1;have d5:w5.cell? ⟨q,0,none⟩=some (.slice B1 L.length d1):=β hx5 0;have f5:=λj=>frozen_of_row w5 q j _ _ hx5)
      | fail)
     all_goals
      have ho6:w5.ownsRow B 9 1 (.slice A5 (L.length+1) c5) ((L.map nmV).length+1) (L.map nmV++[nmV (.col tn cn,[])]):=by rw [List.length_map];exact ho5
      have hbW:Below W2 W2 ((W2.alloc (.cells #[cn] 9)).drew):=(ρ).drew;have hS6:=aKX HC.o.1 hqB hBw HC.o.2.1 HC.o.2.2.1 hbW ho6 hb5 hk5;have hc6:=(hk5 _ _ (bX (aB HC.o.2.2.2.2 _)) (cU HC.o.2.2.1.o1 HC.o.2.2.2.2 am)).1;have hc7:=cA (o2:=0) hc6 hbq (.slice A5 (L.length+1) c5);clear ho6 hbW hx5 ho5 hb5 hg5 hk5 d5 f5 e0 e1 a0 hc6 c0 c1 hn1 hn2;go_wp2_with fail;generalize w5.setCell ⟨q,0,none⟩ (.slice A5 (L.length+1) c5)=W3 at *;have HC3:=κ (ι hS6.1 (ι hS6.2.1 (ι hS6.2.2 (ι hc7 HC.o.2.2.2.1))));have e1:W3.cell? ⟨q,1,none⟩=some (.slice B2 L.length d2):=β hS6.2.1 1;have c0:=β hc7 0;have c1:=β hc7 1;have a1:∀ o,(W3.alloc o).cell? ⟨q,1,none⟩=some (.slice B2 L.length d2):=λo=>β (aB hS6.2.1 o) 1;have a2:∀ o o2,((W3.alloc o).alloc o2).cell? ⟨q,1,none⟩=some (.slice B2 L.length d2):=λo o2=>β (aB (aB hS6.2.1 o) o2) 1;clear hS6 hc7 HC
      go_region_law (first
       | (refine bL _ rfl (.tmp 36) (.tmp 46) _ rfl B 53 iT _ 1 8 underlying46 hiT hz0 hz1 hz2 rfl (by omega) B2 L.length d2 (gs.map ptr) rfl ?_ _ 1 1 [ptr W3.heap.size] rfl rfl ?_ ?_ ?_ ?_ ?_ ?_
          ·have:=HC3.o.2.2.1.o2;rw [HG.o] at this;exact ((this.alloc _).alloc _).drew
          ·exact aS [ptr W3] (bX (bG _ _ _))
          ·simp [Value.oneCell',ptr]
          ·simp only [maxLen];omega
          ·omega
          ·show _<=((W3.alloc _).alloc _).heap.size;rw [World.size_alloc,World.size_alloc];exact Nat.le_trans HC3.o.2.2.1.hB ac
          intro A7 c7 w7 ho7 hb7 hg7 hk7;have hx7:=(hk7 _ _ (bX (aB (aB HC3.o.2.1 _) _)) (cU HC3.o.2.2.1.o2 HC3.o.2.1 am)).1;have d7:w7.cell? ⟨q,1,none⟩=some (.slice B2 L.length d2):=β hx7 1;have f7:=λj=>frozen_of_row w7 q j _ _ hx7)
       | fail)
      all_goals
       have hW7:Below W3 W3 (((W3.alloc (.cells (ndv lH ck nul ((L.length:Nat):Int) none 0 0) 120)).alloc (.cells #[ptr W3] 53)).drew):=((ρ).alloc aa _).drew;have hS8:=aKW HC3.o.1 hqB hBw HC3.o.2.1 HC3.o.2.2.1 hW7 (by rw [HG.o];exact ho7) hb7 hk7 (x:=.col tn cn) ⟨ν _,_,HC3.o.2.2.2.2,bX (aB (heap_alloc_new W3 _) _)⟩;have hQ8:=Ni (p:=(.col tn cn,[])) (l:=L) rfl (by rw [List.length_append,HG.o];rfl) hS8.1 hS8.2.1 hS8.2.2;rw [<-HSt.o] at hQ8;have HQ8:=κ hQ8;clear hQ8 hS8 hW7 ho7 hb7 hg7 hk7 hx7 d7 f7 a1 a2 e1 c0 c1 HC3;go_wp2
       go_roundw
       case rel=>exact ⟨j+1,ac,dg,HQ8.o⟩
       case measure=>simp [intOf];omega
    ·have hj2:=qo
     rw [hj2,List.take_length] at hQ;rw [<-HT1.o] at hQ;have HQ:=κ hQ;clear hj2 hQ;go_wp2
     go_roundw
     case rel=>exact ⟨i+1,ac,dg,HQ.o⟩
     case measure=>simp [intOf];omega
  ·have hi2:=qs
   rw [hi2,List.take_length,HO.o.1] at hQ;have HQ:=κ hQ;clear hi2 hQ;go_wp2;go_end0;exact ⟨rfl,HQ.o⟩
def jB (sc:List Tb):Option Lp.X->Int
 | none=>0
 | some x=>tS sc x
def fO (sc:List Tb) (s:Sel):Int :=
 if oJ sc then 6 else if jB sc s.on≠0 then jB sc s.on else if jB sc s.wh≠0 then jB sc s.wh else if aF sc false s.group≠0 then aF sc false s.group
 else if aF sc true (dJ sc s)≠0 then aF sc true (dJ sc s) else if mL sc s && !(dJ sc s).all (setX sc s.group) then 3 else 0
theorem oF (sc:List Tb) (gr:Bool):∀ l r,aF sc gr (l++r)=if aF sc gr l=0 then aF sc gr r else aF sc gr l
 | [],_=>rfl
 | y::l,r=>by
   have ih:=oF sc gr l r;show (if (aC sc y gr).2=0 then aF sc gr (l++r) else (aC sc y gr).2)=_;show _=if (if (aC sc y gr).2=0 then aF sc gr l else (aC sc y gr).2)=0 then aF sc gr r else if (aC sc y gr).2=0 then aF sc gr l else (aC sc y gr).2
   split
   ·exact ih
   ·rfl
theorem yP {sc:List Tb} {gr:Bool}:∀ {l:List Lp.X},(∀ x∈l,(aC sc x gr).2=0)->aF sc gr l=0
 | [],_=>rfl
 | y::l,h=>by
   show (if (aC sc y gr).2=0 then aF sc gr l else _)=0;rw [if_pos (h y aa)];exact yP λx hx=>h x (by simp [hx])
def OnS (S:Nat->Prop) (w:World) (sc:List Tb):Option Lp.X->Value->Prop
 | none,u=>u=.pointer none
 | some x,u=>∃ g,u=ptr g/\NT S w sc x g
theorem OnS.turn {S S':Nat->Prop} {w w':World} {sc:List Tb} (ht:Turn S S' w w'):∀ {o:Option Lp.X} {u:Value},OnS S w sc o u->OnS S' w' sc o u
 | none,_,h=>h
 | some _,_,⟨g,h1,h2⟩=>⟨g,h1,h2.turn ht⟩
def GrS (S:Nat->Prop) (w:World) (sc:List Tb) (xs:List Lp.X) (u:Value):Prop:=∃ A c gs,u=.slice A xs.length c/\gs.length=xs.length/\RowS S w A (gs.map ptr)/\NTs S w sc xs gs
theorem GrS.turn {S S':Nat->Prop} {w w':World} {sc:List Tb} (ht:Turn S S' w w') {xs:List Lp.X} {u:Value} (h:GrS S w sc xs u):GrS S' w' sc xs u:=by
 obtain ⟨A,c,gs,h1,h2,h3,h4⟩:=h;exact ⟨A,c,gs,h1,h2,h3.turn ht,NTs.turn ht h4⟩
theorem NTs.len {S:Nat->Prop} {w:World} {sc:List Tb}:∀ {xs:List Lp.X} {gs:List Nat},NTs S w sc xs gs->gs.length=xs.length
 | [],[],_=>rfl
 | _::_,_::_,h=>by simp [NTs.len h.2]
 | [],_::_,h=>h.elim
 | _::_,[],h=>h.elim
def aGF (sc:List Tb) (s:Sel) (on wh gr:Value) (S:Nat->Prop) (w:World):Prop:=OnS S w sc s.on on/\OnS S w sc s.wh wh/\GrS S w sc s.group gr
theorem sN (sc:List Tb) (s:Sel) (on wh gr:Value):Stb (aGF sc s on wh gr):=λ_ _ _ _ ht h=>⟨h.1.turn ht,h.2.1.turn ht,h.2.2.turn ht⟩
def Td (sc:List Tb) (s:Sel) (on wh gr nm it:Value) (S:Nat->Prop) (w:World):Prop :=
 aGF sc s on wh gr S w/\(∃ A c,nm=.slice A (aY sc s).length c/\RowS S w A ((aY sc s).map nmV))/\GrS S w sc ((aY sc s).map (·.1)) it
theorem pR (sc:List Tb) (s:Sel) (on wh gr nm it:Value):Stb (Td sc s on wh gr nm it):=λ_ _ _ _ ht h=>by
 obtain ⟨h1,⟨A,c,h2,h3⟩,h4⟩:=h;exact ⟨sN sc s on wh gr _ _ _ _ ht h1,⟨A,c,h2,h3.turn ht⟩,h4.turn ht⟩
def aLR (sc:List Tb) (o:Option Lp.X) (w:World) (e:Ending) (w':World):Prop :=
 Below w w w'/\∃ p,e=.returned (.tuple #[.pointer p,.int .i64 (jB sc o)])/\(jB sc o=0->OnS (λk=>w.heap.size<=k) w' sc o (.pointer p))
theorem Tl (A:ZT) (c:Nat) (sc:List Tb) (o:Option Lp.X) (u:Value) (w:World) (hn:sc.length<=100) (hw:bY sc<=10000) (hx:∀ x,o=some x->x.wf) (hp:PXo 0 w o u) (hS:ScM w A sc) :
 Calls prog 46 #[.slice A sc.length c,u] w (aLR sc o w):=by
 cases o with
 | none =>
   rw [show u=.nilIface from hp];refine (Af A sc.length c w).mono ?_;rintro e w' ⟨rfl,rfl⟩;exact ⟨θ,none,rfl,λ_=>rfl⟩
 | some x =>
   obtain ⟨⟨T,g,rfl⟩,h2⟩:=hp;refine (Ah A c sc x T g w hn hw (hx x rfl) h2 hS).mono ?_;rintro e w' ⟨hb,h⟩;refine ⟨hb, ?_⟩
   split at h
   ·rename_i h0
    obtain ⟨g',rfl,h3⟩:=h;exact ⟨some ⟨g',0,none⟩,by show _=Ending.returned (.tuple #[_,.int .i64 (tS sc x)]);rw [h0];rfl,λ_=>⟨g',rfl,h3⟩⟩
   ·rename_i h0
    exact ⟨none,h,λh1=>absurd h1 h0⟩
theorem Qn {sc:List Tb} {gr:Bool} {xs:List Lp.X} {w':World} {e:Ending} (h:qY sc gr xs w e w'):Below w w w'/\∃ A n c,e=.returned (.tuple #[.slice A n c,.int .i64 (aF sc gr xs)])/\(aF sc gr xs=0->GrS (λk=>w.heap.size<=k) w' sc xs (.slice A n c)):=by
 obtain ⟨hb,h⟩:=h;refine ⟨hb, ?_⟩
 split at h
 ·rename_i h0
  obtain ⟨A,c,gs,rfl,h1,h2⟩:=h;exact ⟨A,xs.length,c,by rw [h0],λ_=>⟨A,c,gs,rfl,NTs.len h2,λhn=>h1 (by rintro rfl;have:=NTs.len h2;simp at this;subst this;exact hn rfl),h2⟩⟩
 ·rename_i h0
  exact ⟨none,0,0,h,λh1=>absurd h1 h0⟩
section
variable {P:Program} {md:Region.Mode} {ops:Array Oper} {Q:Exit->Act->World->Prop} {S T:World->Prop} {k:Nat}
def wpE (P:Program) (md:Region.Mode) (ops:Array Oper) (Q:Exit->Act->World->Prop) (S T:World->Prop) (k:Nat):Nat->Array Bool->Act->World->Prop
 | 0,l,a,w=>Region.ready md ops l=[]/\Q .normal a w
 | n+1,l,a,w=>(Region.ready md ops l=[]->Q .normal a w)/\∀ i∈Region.ready md ops l,wpOp P ops Q i (λa' w'=>(S w'/\((l.setIfInBounds i true).getD k true=false->T w'))/\wpE P md ops Q S T k n (l.setIfInBounds i true) a' w') a w
theorem Mk:∀ (n:Nat) (l:Array Bool) (a:Act) (w:World),wpE P md ops Q S T k n l a w->wpAny P md ops Q n l a w
 | 0,_,_,_,h=>h
 | n+1,_,_,_,h=>⟨h.1,λi hi=>wpOp_mono (λa' w' h'=>Mk n _ a' w' h'.2) (h.2 i hi)⟩
theorem aEQ {l:Array Bool} {i:Nat} (h:l.getD i true=false) (h2:l.getD i false=true):False:=by
 unfold Array.getD at *
 split at h<;>simp_all
theorem Ot {i:Nat} {oi:Oper} {v:Value} {b:Bool} (hi:ops[i]? = some oi) (hsel:∀ (j:Nat) (o:Oper) cs b,ops[j]? = some o->o.op≠.select cs b)
 (hQ:∀ c a w,Q (.panic c) (a.put oi.dst v) w->Q (.panic c) a w) (hki:i≠k) (hb:b=true->∃ ok,ops[k]? = some ok/\∃ e∈ok.after,Region.binds md e=true/\e.on=i) :
 ∀ (n:Nat) (l:Array Bool) (a:Act) (w:World),
  (∀ j oj,ops[j]? = some oj->j≠i->l.getD j true=false->(∀ e∈oj.after,Region.binds md e=true->e.on≠i)->oi.apart ops oj=true) ->
  i∈Region.ready md ops l->(b=true->l.getD k true=false)->YieldsIf P ops (λw=>S w/\(b=true->T w)) oi v a->S w->(l.getD k true=false->T w) ->
  wpE P md ops Q S T k n (l.setIfInBounds i true) (a.put oi.dst v) w->wpE P md ops Q S T k (n+1) l a w:=by
 intro n
 induction n with
 | zero =>
   intro l a w _ hr hk hy hS hT H;refine ⟨λh=>(by rw [h] at hr;cases hr),λj hj => ?_⟩
   by_cases hji:j=i
   ·subst hji;exact uz
   ·have:=ready_mono hj hji;rw [H.1] at this;cases this
 | succ n ih =>
   intro l a w hf hr hk hy hS hT H;refine ⟨λh=>(by rw [h] at hr;cases hr),λj hj => ?_⟩
   by_cases hji:j=i
   ·subst hji;exact uz
   ·have h1:=H.2 j (ready_mono hj hji);obtain ⟨hjun,oj,hoj,hall⟩:=mem_ready.1 hj;have hno:∀ e∈oj.after,Region.binds md e=true->e.on≠i:=λe he hbd heq=>aEQ (mem_ready.1 hr).1 (heq▸hall e he hbd);have h2:=wpOp_putIf hoj (hf j oj hoj hji hjun hno) (λcs b=>hsel i oi cs b hi) (λcs b=>hsel j oj cs b hoj) hQ hy h1;have hk2:b=true->(l.setIfInBounds j true).getD k true=false:=λh=>by
     obtain ⟨ok,hok,e,he,heb,hon⟩:=hb h;have hkj:j≠k:=by
      rintro rfl;rw [hok] at hoj;cases hoj;exact hno e he heb hon
     rw [getD_set_ne true hkj];exact hk h
    have hc:=Array.setIfInBounds_comm (xs:=l) true true (Ne.symm hji);refine wpOp_mono (λa' w' h3 => ?_) h2;rw [hc,getD_set_ne true hki] at h3;refine ⟨h3.2.1,ih (l.setIfInBounds j true) a' w' (λm om hm hmi hun hn=>hf m om hm hmi ?_ hn) (ready_mono hr (Ne.symm hji)) hk2 h3.1 h3.2.1.1 h3.2.1.2 h3.2.2⟩
    by_cases hjm:j=m
    ·subst hjm;exact hjun
    ·rw [getD_set_ne true hjm] at hun;exact hun
theorem eR (T:World->Prop) (k:Nat) {id:Nat} {a:Act} {w:World} (hm:P.follows .mixedOrders=true) (hS:S w.drew) (hT:T w.drew) (h:S w.drew->T w.drew->wpE P .any ops Q S T k ops.size (Array.replicate ops.size false) a w.drew):(Code.region id ops true).wp P Q a w :=
 wp_region_any hm (Mk _ _ _ _ (h hS hT))
def okE (md:Region.Mode) (ops:Array Oper) (l:Array Bool) (i k:Nat) (b:Bool):Bool :=
 Region.noSelect ops&&(Region.free md ops l i&&((Region.ready md ops l).contains i&&(i !=k&&(!b||(!l.getD k true&&(ops[k]?.map (·.after.any λe=>Region.binds md e&&e.on==i)).getD false)))))
theorem tk_ {i d:Nat} {b:Bool} {oi:Oper} {v:Value} {n:Nat} {l:Array Bool} {a:Act} {w:World} (h:wpE P md ops Q S T k n (l.setIfInBounds i true) (a.put (some d) v) w) (hi:ops[i]? = some oi) (hd:oi.dst=some d) (ho:okE md ops l i k b=true) (hQ:∀ c a w,Q (.panic c) (a.put (some d) v) w->Q (.panic c) a w) (hy:YieldsIf P ops (λw=>S w/\(b=true->T w)) oi v a) (hS:S w) (hT:l.getD k true=false->T w):wpE P md ops Q S T k (n+1) l a w:=by
 simp only [okE,Bool.and_eq_true,bne_iff_ne] at ho;obtain ⟨hs,hf,hr,hk⟩:=ho;refine Ot hi (Region.noSelect_spec hs) (by rw [hd];exact hQ) hk.1 (λh => ?_) n l a w (Region.free_spec hi hf) (by simpa using hr) (λh => ?_) hy hS hT (by rw [hd];exact h)
 ·subst h;have:=hk.2;cases hko:ops[k]? with
  | none=>simp [hko] at this
  | some ok =>
    simp only [hko,Bool.not_true,Bool.false_or,Bool.and_eq_true,Option.map_some,Option.getD_some] at this;obtain ⟨e,he,hb⟩:=Array.any_eq_true'.1 this.2;simp only [Bool.and_eq_true,beq_iff_eq] at hb;exact ⟨ok,rfl,e,he,hb⟩
 ·subst h;have:=hk.2;simp only [Bool.not_true,Bool.false_or,Bool.and_eq_true,Bool.not_eq_true'] at this;exact this.1
theorem tkE (b:Bool) (i d:Nat) {oi:Oper} {v:Value} {n:Nat} {l:Array Bool} {a:Act} {w:World} (h:wpE P md ops Q S T k n (l.setIfInBounds i true) (a.put (some d) v) w) (hi:ops[i]? = some oi:=by rfl) (hd:oi.dst=some d:=by rfl) (ho:okE md ops l i k b=true:=by as_aux_lemma=>kernel_rfl) (hQ:∀ c a w,Q (.panic c) (a.put (some d) v) w->Q (.panic c) a w:=by exact λ_ _ _ h=>h) (hw:Region.wanted oi (yielded ops a.tmps)=true:=by rfl)
 (hy:∀ w,S w/\(b=true->T w)->(execOp a.eval oi).run P w=.ok (.value v) w:=by (rintro w ⟨hSw,hTw⟩;(try dsimp only at hSw);(try replace hTw:=hTw rfl);(try dsimp only at hTw);go_simp;try with_reducible rfl)) (hS:S w:=by assumption) (hT:l.getD k true=false->T w:=by first|exact λ_=>by assumption|exact λh=>absurd (h.symm.trans aj) Bool.false_ne_true):wpE P md ops Q S T k (n+1) l a w :=
 tk_ h hi hd ho hQ (.inl ⟨hw,hy⟩) hS hT
theorem tkN (i d:Nat) {oi:Oper} {n:Nat} {l:Array Bool} {a:Act} {w:World} (h:wpE P md ops Q S T k n (l.setIfInBounds i true) (a.put (some d) undef) w) (hi:ops[i]? = some oi:=by rfl) (hd:oi.dst=some d:=by rfl) (ho:okE md ops l i k false=true:=by as_aux_lemma=>kernel_rfl) (hQ:∀ c a w,Q (.panic c) (a.put (some d) undef) w->Q (.panic c) a w:=by exact λ_ _ _ h=>h) (hw:Region.wanted oi (yielded ops a.tmps)=false:=by rfl) (hS:S w:=by assumption) (hT:l.getD k true=false->T w:=by first|exact λ_=>by assumption|exact λh=>absurd (h.symm.trans aj) Bool.false_ne_true):wpE P md ops Q S T k (n+1) l a w :=
 tk_ h hi hd ho hQ (.inr ⟨hw,rfl⟩) hS hT
theorem stE (i:Nat) {oi:Oper} {n:Nat} {l:Array Bool} {a:Act} {w:World} (h:∀ K':Act->World->Prop,Shut (∀ a w,S w->T w->(S w->T w->wpE P md ops Q S T k n (l.setIfInBounds i true) a w)->K' a w)->if Region.wanted oi (yielded ops a.tmps)=true then Oper.wp P oi a w K' Q else K' (a.put oi.dst undef) w) (hi:ops[i]? = some oi:=by rfl) (hr:Region.ready md ops l=[i]:=by as_aux_lemma=>kernel_rfl):wpE P md ops Q S T k (n+1) l a w :=
 ⟨λh0=>vf,λj hj=>by
  rw [hr] at hj;rw [List.mem_singleton.1 hj];exact wpOp_step hi λK' hK=>h K' λa w h1 h2 h3=>hK a w ⟨⟨h1,λ_=>h2⟩,h3 h1 h2⟩⟩
theorem aCE (i j:Nat) {oi oj:Oper} {n:Nat} {l:Array Bool} {a:Act} {w:World} (h:∀ K':Act->World->Prop,Shut (∀ a w,S w->T w->(S w->T w->wpE P md ops Q S T k n (l.setIfInBounds i true) a w)->K' a w)->if Region.wanted oi (yielded ops a.tmps)=true then Oper.wp P oi a w K' Q else K' (a.put oi.dst undef) w) (h2:∀ K':Act->World->Prop,Shut (∀ a w,S w->T w->(S w->T w->wpE P md ops Q S T k n (l.setIfInBounds j true) a w)->K' a w)->if Region.wanted oj (yielded ops a.tmps)=true then Oper.wp P oj a w K' Q else K' (a.put oj.dst undef) w)
 (hi:ops[i]? = some oi:=by rfl) (hj:ops[j]? = some oj:=by rfl) (hr:Region.ready md ops l=[i,j]:=by as_aux_lemma=>kernel_rfl):wpE P md ops Q S T k (n+1) l a w :=
 ⟨λh0=>vf,λm hm=>by
  rw [hr] at hm;rcases List.mem_cons.1 hm with rfl|hm
  ·exact wpOp_step hi λK' hK=>h K' λa w h1 h2 h3=>hK a w ⟨⟨h1,λ_=>h2⟩,h3 h1 h2⟩
  ·rw [List.mem_singleton.1 hm];exact wpOp_step hj λK' hK=>h2 K' λa w h1 h2 h3=>hK a w ⟨⟨h1,λ_=>h2⟩,h3 h1 h2⟩⟩
theorem stL (i:Nat) {oi:Oper} {n:Nat} {l:Array Bool} {a:Act} {w:World} (h:∀ K':Act->World->Prop,Shut (∀ a w,S w->(S w->wpE P md ops Q S T k n (l.setIfInBounds i true) a w)->K' a w)->if Region.wanted oi (yielded ops a.tmps)=true then Oper.wp P oi a w K' Q else K' (a.put oi.dst undef) w) (hi:ops[i]? = some oi:=by rfl) (hr:Region.ready md ops l=[i]:=by as_aux_lemma=>kernel_rfl) (hk:(l.setIfInBounds i true).getD k true=true:=by as_aux_lemma=>kernel_rfl):wpE P md ops Q S T k (n+1) l a w :=
 ⟨λh0=>vf,λj hj=>by
  rw [hr] at hj;rw [List.mem_singleton.1 hj];exact wpOp_step hi λK' hK=>h K' λa w h1 h3=>hK a w ⟨⟨h1,λh=>absurd (h.symm.trans hk) Bool.false_ne_true⟩,h3 h1⟩⟩
theorem dY {l:Array Bool} {a:Act} {w:World} (h:Q .normal a w) (hr:Region.ready md ops l=[]:=by kernel_rfl):∀ n,wpE P md ops Q S T k n l a w
 | 0=>⟨hr,h⟩
 | _+1=>⟨λ_=>h,(by rw [hr];simp)⟩
end
def QQ (K:Act->World->Prop):Exit->Act->World->Prop
 | .normal,a,w=>K a w
 | _,_,_=>False
theorem xP {P:Program} {c:Code} {Q:Exit->Act->World->Prop} {a:Act} (h:Code.wp P c (QQ λa w=>Q .normal a w) a w):Code.wp P c Q a w :=
 Code.wp_mono (λe _ _ h=>by cases e<;>first|exact h|exact h.elim) h
