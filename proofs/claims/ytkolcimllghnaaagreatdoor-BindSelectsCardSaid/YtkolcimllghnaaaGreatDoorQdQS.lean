/-
 Contracts. Conditions: those of each.
-/
import Derived.Test.YtkolcimllghnaaaGreatDoorQdVF
set_option maxRecDepth 100000
set_option maxHeartbeats 16000000
namespace Go.Proofs.YtkolcimllghnaaaGreatDoor
open Lp Go.Proofs.Tryz
open Go.RowKit
variable{sc:List Tb}{q:Nat}{s:Sel}{w w' w1 wx:World}
theorem Ky {E:Int} (hE:fO sc s=E) (h0:E≠0) (hb:Below w w w'):Jk sc s w (.returned (.tuple #[.pointer none,.int .i64 E])) w':=by
 subst hE;exact ⟨hb,by rw [if_neg h0]⟩
theorem aGR {n c:Nat} {nm it on wh gr od:Value} {A:ZT} (h0:fO sc s=0) (hb:Below w w w') (hn:n=s.order.length) (hq:w'.heap[q]? = some (.cells (eO nm it on wh gr od (.slice A n c) (.int .i64 s.limit) (.bool (mL sc s))) 84 (0,0)))
 (hI:Td sc s on wh gr nm it (λk=>k≠q) w') (hG:GrS (λk=>k≠q) w' sc (s.order.map (·.1)) od) (hD:RowS (λk=>k≠q) w' A (s.order.map λp=>.bool p.2)):Jk sc s w (.returned (.tuple #[ptr q,.int .i64 0])) w':=by
 subst hn;have ht:Turn (λk=>k≠q) Any w' w':=Turn.mono λ_ _ _=>trivial;refine ⟨hb, ?_⟩;rw [if_pos h0];exact ⟨q,nm,it,on,wh,gr,od,_,rfl,hq,pR _ _ _ _ _ _ _ _ _ _ _ ht hI,hG.turn ht,A,c,rfl,hD.turn ht⟩
theorem aJD (cs:ZV) (h:cs.size=8):∃ a b c d e f g h',cs=#[a,b,c,d,e,f,g,h']:=by
 rcases cs with ⟨l⟩
 match l,h with
 | [a,b,c,d,e,f,g,h'],_=>exact ⟨a,b,c,d,e,f,g,h',rfl⟩
theorem Nj {B:Nat} {w:World}:∀ {xs:List Lp.X} {vs:ZU},PXs B w xs vs->∃ l:List (Lp.X×Value),l.map (·.1)=xs∧l.map (·.2)=vs∧∀ p∈l,PX B w p.1 p.2
 | [],[],_=>⟨[],rfl,rfl,aa⟩
 | x::xs,v::vs,h=>by
   obtain ⟨l,rfl,rfl,h3⟩:=Nj h.2.2;exact ⟨(x,v)::l,rfl,rfl,λp hp=>by rcases List.mem_cons.1 hp with rfl|hp;exact h.2.1;exact h3 p hp⟩
 | [],_::_,h=>h.elim
 | _::_,[],h=>h.elim
def QZ (q:Nat) (w1:World) (cs:ZV) (P:(Nat->Prop)->World->Prop) (wx:World):Prop:=But q w1 wx∧wx.heap[q]? = some (.cells cs 84 (0,0))∧P (λk=>w1.heap.size≤k) wx
theorem Kw {j:Nat} {w2:World} {cs:ZV} {v:Value} {P P':(Nat->Prop)->World->Prop} (h:QZ q w1 cs P wx) (hq:q<w1.heap.size) (hP:Stb P) (hP':Stb P') (hb:Below wx wx w2) (hn:P (λk=>w1.heap.size≤k) w2->P' (λk=>w1.heap.size≤k) w2):QZ q w1 (cs.setIfInBounds j v) P' (w2.setCell ⟨q,j,none⟩ v):=by
 obtain ⟨h1,h2,h3⟩:=h;refine ⟨(h1.trans (But.of hb)).trans (But.set _ _ _ _),gJ (aA h2 hb),hP' _ _ _ _ (λg hg _=>⟨hg,Below.heap_setCell w2 ⟨q,j,none⟩ v g (by have:w1.heap.size≤g:=hg;show g≠q;omega)⟩) (hn (hP _ _ _ _ (Turn.below hb) h3))⟩
theorem Mv {o:Option Lp.X} {u:Value} {b:Prop}:Stb (λS w=>b->OnS S w sc o u):=λ_ _ _ _ ht h hb=>(h hb).turn ht
theorem uE (h:But q w1 wx) (hb:Below w w w1) (h1:w.heap.size≤q) (h2:q<w1.heap.size):Below w w wx:=hb.trans (But.below h h1 (Nat.le_of_lt h2))
theorem aAJ (A:ZT) (c:Nat) (sc:List Tb) (gx:Nat) (cs:ZV) (s:Sel) (w:World) (hS:ScM w A sc) (hok:nA sc) (hx:w.heap[gx]? = some (.cells cs 136 (0,0))) (hC:SelC 0 w s 9 cs) (hs:SelWf s) :
 Calls prog 17 #[.slice A sc.length c,gx] w (Jk sc s w):=by
 obtain ⟨u0,u1,u2,u3,u4,u5,u6,u7,rfl⟩:=aJD cs hC.1;obtain ⟨A0,c0,vs0,rfl,o0,L0⟩:=hC.2 0 u0 am rfl;have F3:=hC.2 3 u3 am rfl;have F4:=hC.2 4 u4 am rfl;obtain ⟨A5,c5,vs5,rfl,o5,L5⟩:=hC.2 5 u5 am rfl;obtain ⟨A6,c6,vs6,rfl,o6,L6⟩:=hC.2 6 u6 am rfl;have F7:u7=.int .i64 s.limit:=hC.2 7 u7 am rfl;subst F7;have hwd:bY sc≤10000:=JU
 have hn2:=hok.1;have hnI:(sc.length:Int)≤2:=ac
 obtain ⟨l5,hl5,hv5,hp5⟩:=Nj L5;have HI:=κ (ι hS (ι hok (ι hwd (ι hx (ι hs (ι F3 F4))))));have HG:=κ (ι hl5 (ι (show Rds w A5 (l5.map (·.2)) from hv5▸Rds.own o5) hp5));have HIt:=κ (ι (Rds.own o0) L0);have HOr:=κ (ι (Rds.own o6) L6);have hcx:=β hx;clear hC hS hok hwd hx hs F3 F4 o0 L0 o5 L5 o6 L6 hl5 hv5 hp5;go_enter func17,ntmps17;go_upto_region 1 with fail
 go_cut [31] (λs31 wx=>s31=.bool (oJ sc)∧Below w w wx)
 case first =>
  as_aux_lemma =>
   by_cases h2:sc.length=2
   ·have e2:((sc.length:Int)==2)=true:=by rw [h2];rfl
    obtain ⟨l,hls,hl1, -⟩:=HI.o.1;obtain ⟨p0,p1,rfl⟩:∃ p0 p1,l=[p0,p1]:=by
     have:l.length=2:=by rw [<-h2, <-hls,List.length_map]
     match l,this with
     | [a,b],_=>exact ⟨a,b,rfl⟩
    obtain ⟨⟨n0,k0⟩,B0,d0⟩:=p0;obtain ⟨⟨n1,k1⟩,B1,d1⟩:=p1;obtain ⟨b,off,hA,z0⟩:=hl1.at_ (k:=0) (u:=.string n0) rfl;obtain ⟨b',off',hA',z1⟩:=hl1.at_ (k:=2) (u:=.string n1) rfl;subst hA;simp only [Option.some.injEq,Addr.mk.injEq,and_true] at hA';obtain ⟨rfl,rfl⟩:=hA';have HDB:=κ (show oJ sc=(n0==n1) by rw [<-hls];rfl);have hI1:(1:Int)<(sc.length:Int):=ac
    have hI0:(0:Int)<(sc.length:Int):=ac
    rw [Nat.add_zero] at z0;clear hl1 hls h2;go_quiet (fail);go_wp2
    go_meet
    exact JV
   ·have e2:((sc.length:Int)==2)=false:=gf
    have HDB:=κ (show oJ sc=false by
     unfold oJ
     split
     ·exact absurd rfl h2
     ·rfl)
    clear h2;go_quiet (fail);go_wp2
    go_meet
    exact JV
 case rest =>
  obtain ⟨rfl,hb0⟩:=sn;cases hdb:oJ sc
  ·have HD:=κ hdb;generalize wc=w0 at *;obtain ⟨W1,hW1⟩:∃ W,(w0.alloc (.cells #[.slice none 0 0,.slice none 0 0,.pointer none,.pointer none,.slice none 0 0,.slice none 0 0,.slice none 0 0,.int .i64 s.limit,false] 84)).alloc (.cells #[ptr w0] 76)=W:=cw;have hq1:W1.heap[w0.heap.size]? = some (.cells (eO (.slice none 0 0) (.slice none 0 0) (.pointer none) (.pointer none) (.slice none 0 0) (.slice none 0 0) (.slice none 0 0) (.int .i64 s.limit) (.bool false)) 84 (0,0)):=by rw [<-hW1];exact aB (heap_alloc_new w0 _) _
   have hb6:W1.heap[w0.heap.size+1]? = some (.cells #[ptr w0] 76 (0,0)):=by rw [<-hW1];exact bG _ _ _
   have hsz:W1.heap.size=w0.heap.size+2:=by rw [<-hW1,World.size_alloc,World.size_alloc]
   have hbw:Below w w W1:=by rw [<-hW1];exact (hb0.alloc hb0.size _).alloc (by rw [World.size_alloc];exact Nat.le_trans hb0.size (Nat.le_succ _)) _
   have hqw:=hb0.size;have hcx0:=β (aA HI.o.2.2.2.1 hb0);have HW:=κ hW1;unfold ptr at HW;clear hW1 hdb;go_wp2_with fail;go_upto_region 5 with fail;rw [HW.o];clear HW hcx0 hcx;have H1:=κ (ι hbw (ι hb6 hsz));have HZ:=κ (show QZ w0 W1 _ (λ_ _=>True) W1 from ⟨But.refl _ _,hq1,trivial⟩);generalize w0.heap.size=q at *;clear hq1 hb6 hbw
   go_cut [7] (λs7 wx=>∃ p,s7=.int .i64 (jB sc s.on)∧QZ q W1 (eO (.slice none 0 0) (.slice none 0 0) (.pointer p) (.pointer none) (.slice none 0 0) (.slice none 0 0) (.slice none 0 0) (.int .i64 s.limit) (.bool false)) (λS w=>jB sc s.on=0->OnS S w sc s.on (.pointer p)) wx)
   case first =>
    as_aux_lemma =>
     have c6:W1.cell? ⟨q+1,0,none⟩=some (.pointer (some ⟨q,0,none⟩)):=β H1.o.2.1 0;have c3:W1.cell? ⟨gx,3,none⟩=some u3:=β (aA HI.o.2.2.2.1 H1.o.1) 3;have HT:=κ (Tl A c sc s.on u3 W1.drew ac HI.o.2.2.1 HI.o.2.2.2.2.1.on (PXo.keepN (StaysT.below H1.o.1.drew) HI.o.2.2.2.2.2.1) (HI.o.1.below H1.o.1.drew))
     go_region_law (first
      | (go_simp;go_at_call 46;refine μ HT ?_;rintro e w2 ⟨hb2,p,rfl,hon⟩;have kq:=aA (w:=W1.drew) HZ.o.2.1 hb2;have d6:w2.cell? ⟨q+1,0,none⟩=some (.pointer (some ⟨q,0,none⟩)):=β (aA (w:=W1.drew) H1.o.2.1 hb2) 0;have d2:w2.cell? ⟨q,2,none⟩=some (.pointer none):=β kq 2;have f2:=λj=>frozen_of_row w2 q j _ _ kq)
      | fail)
     all_goals
      have hz:=Kw (j:=2) (v:=.pointer p) HZ.o JW (λ_ _ _ _ _ h=>h) Mv ((θ).drew.trans (show Below W1 W1.drew w2 from hb2)) (λ_=>hon);have HQ:=κ hz;clear kq d6 d2 f2 hb2 hon HT hz;go_wp2
      go_meet
      exact ⟨p,rfl,HQ.o⟩
   case rest =>
    obtain ⟨p3,rfl,hz⟩:=sn;generalize wc=W3 at *;replace HZ:=κ hz;have HB3:=JX;clear hz
    by_cases ht:jB sc s.on=0
    ·have HE3:=κ ht;rw [ht];clear ht;have H6:=κ (aL HZ.o.1 H1.o.2.1 ac);have c6:W3.cell? ⟨q+1,0,none⟩=some (.pointer (some ⟨q,0,none⟩)):=β H6.o 0;have c4:W3.cell? ⟨gx,4,none⟩=some u4:=β (aA HI.o.2.2.2.1 HB3.o) 4;go_wp2_with fail;go_upto_region 8 with fail
     go_cut [7] (λs7 wx=>∃ p,s7=.int .i64 (jB sc s.wh)∧QZ q W1 (eO (.slice none 0 0) (.slice none 0 0) (.pointer p3) (.pointer p) (.slice none 0 0) (.slice none 0 0) (.slice none 0 0) (.int .i64 s.limit) (.bool false)) (λS w=>OnS S w sc s.on (.pointer p3)∧(jB sc s.wh=0->OnS S w sc s.wh (.pointer p))) wx)
     case first =>
      as_aux_lemma =>
       have HT:=κ (Tl A c sc s.wh u4 W3.drew ac HI.o.2.2.1 HI.o.2.2.2.2.1.wh (PXo.keepN (StaysT.below HB3.o.drew) HI.o.2.2.2.2.2.2) (HI.o.1.below HB3.o.drew))
       go_region_law (first
        | (go_simp;go_at_call 46;refine μ HT ?_;rintro e w2 ⟨hb2,p,rfl,hon⟩;have kq:=aA (w:=W3.drew) HZ.o.2.1 hb2;have d6:w2.cell? ⟨q+1,0,none⟩=some (.pointer (some ⟨q,0,none⟩)):=β (aA (w:=W3.drew) H6.o hb2) 0;have d2:w2.cell? ⟨q,3,none⟩=some (.pointer none):=β kq 3;have f2:=λj=>frozen_of_row w2 q j _ _ kq)
        | fail)
       all_goals
        have hz:=Kw (j:=3) (v:=.pointer p) (P':=λS w=>OnS S w sc s.on (.pointer p3)∧(jB sc s.wh=0->OnS S w sc s.wh (.pointer p))) HZ.o JW Mv (λ_ _ _ _ ht h=>⟨h.1.turn ht,λh0=>(h.2 h0).turn ht⟩) ((θ).drew.trans (show Below W3 W3.drew w2 from hb2)) (λh=>⟨h HE3.o,λh0=>(hon h0).turn (Turn.mono λk hk _=>Nat.le_trans HZ.o.1.size hk)⟩);have HQ:=κ hz;clear kq d6 d2 f2 hb2 hon HT hz;go_wp2
        go_meet
        exact ⟨p,rfl,HQ.o⟩
     case rest =>
      obtain ⟨p4,rfl,hz⟩:=sn;generalize wc=W4 at *;replace HZ:=κ hz;have HB4:=JX;clear hz c6 c4
      by_cases ht:jB sc s.wh=0
      ·have HE4:=κ ht;rw [ht];clear ht;replace H6:=κ (aL HZ.o.1 H1.o.2.1 ac);have c6:W4.cell? ⟨q+1,0,none⟩=some (.pointer (some ⟨q,0,none⟩)):=β H6.o 0;have c5x:W4.cell? ⟨gx,5,none⟩=some (.slice A5 s.group.length c5):=β (aA HI.o.2.2.2.1 HB4.o) 5;go_wp2_with fail;go_upto_region 11 with fail
       go_cut [7] (λs7 wx=>∃ gr,s7=.int .i64 (aF sc false s.group)∧QZ q W1 (eO (.slice none 0 0) (.slice none 0 0) (.pointer p3) (.pointer p4) gr (.slice none 0 0) (.slice none 0 0) (.int .i64 s.limit) (.bool false)) (λS w=>OnS S w sc s.on (.pointer p3)∧OnS S w sc s.wh (.pointer p4)∧(aF sc false s.group=0->GrS S w sc s.group gr)) wx)
       case first =>
        as_aux_lemma =>
         have hlg:l5.length=s.group.length:=by rw [<-HG.o.1,List.length_map]
         have HT:=κ ((Bl A c sc false l5 A5 c5 W4.drew (HI.o.1.below HB4.o.drew) (HG.o.2.1.below HB4.o.drew) (by have:=HI.o.2.2.2.2.1.lg;omega) (λp hp=>PX.keepN (StaysT.below HB4.o.drew) (HG.o.2.2 p hp)) (λp hp=>qX A c sc ac HI.o.2.2.1 p.1 false (HI.o.2.2.2.2.1.grp _ (by rw [<-HG.o.1];exact List.mem_map_of_mem hp)))).mono λ_ _ h=>Qn h);rw [HG.o.1,hlg] at HT;unfold bdr at HT;clear hlg
         go_region_law (first
          | (go_simp;go_at_call 47;refine μ HT ?_;rintro e w2 ⟨hb2,Ag,ng,cg,rfl,hon⟩;have kq:=aA (w:=W4.drew) HZ.o.2.1 hb2;have d6:w2.cell? ⟨q+1,0,none⟩=some (.pointer (some ⟨q,0,none⟩)):=β (aA (w:=W4.drew) H6.o hb2) 0;have d2:w2.cell? ⟨q,4,none⟩=some (.slice none 0 0):=β kq 4;have f2:=λj=>frozen_of_row w2 q j _ _ kq)
          | fail)
         all_goals
          have hz:=Kw (j:=4) (v:=.slice Ag ng cg) (P':=λS w=>OnS S w sc s.on (.pointer p3)∧OnS S w sc s.wh (.pointer p4)∧(aF sc false s.group=0->GrS S w sc s.group (.slice Ag ng cg))) HZ.o JW (λ_ _ _ _ ht h=>⟨h.1.turn ht,λh0=>(h.2 h0).turn ht⟩) (λ_ _ _ _ ht h=>⟨h.1.turn ht,h.2.1.turn ht,λh0=>(h.2.2 h0).turn ht⟩) ((θ).drew.trans (show Below W4 W4.drew w2 from hb2)) (λh=>⟨h.1,h.2 HE4.o,λh0=>(hon h0).turn (Turn.mono λk hk _=>Nat.le_trans HZ.o.1.size hk)⟩);have HQ:=κ hz;clear kq d6 d2 f2 hb2 hon HT hz;go_wp2
          go_meet
          exact ⟨.slice Ag ng cg,rfl,HQ.o⟩
       case rest =>
        obtain ⟨gr,rfl,hz⟩:=sn;generalize wc=W5 at *;replace HZ:=κ hz;have HB5:=JX;clear hz c6 c5x
        by_cases ht:aF sc false s.group=0
        ·have HP5:=κ (show QZ q W1 (eO (.slice none 0 0) (.slice none 0 0) (.pointer p3) (.pointer p4) gr (.slice none 0 0) (.slice none 0 0) (.int .i64 s.limit) (.bool false)) (aGF sc s (.pointer p3) (.pointer p4) gr) W5 from ⟨HZ.o.1,HZ.o.2.1,HZ.o.2.2.1,HZ.o.2.2.2.1,HZ.o.2.2.2.2 ht⟩);have HE5:=κ ht;rw [ht];clear ht HZ;have hq1:q<W1.heap.size:=JW
         have hbx5:=aL HP5.o.1 H1.o.2.1 ac;obtain ⟨W6,hW6⟩:∃ W,W5.alloc (.cells #[.slice A sc.length c,true] 139)=W:=cw;have hb6:Below W5 W5 W6:=by rw [<-hW6];exact ρ
         have h86:W6.heap[W5.heap.size]? = some (.cells #[.slice A sc.length c,true] 139 (0,0)):=by rw [<-hW6];exact heap_alloc_new _ _
         have hq5:q<W5.heap.size:=Nat.lt_of_lt_of_le hq1 HP5.o.1.size;have H6:=κ (ι (HB5.o.trans (hb6.mono HB5.o.size)) (ι (aA hbx5 hb6) (ι h86 (Nat.lt_of_lt_of_le hq5 hb6.size))));have HPr:=κ (sN sc s _ _ _ _ _ _ _ (Turn.below hb6) (sN sc s _ _ _ _ (λk=>k≠q) _ _ (Turn.mono λk (hk:W1.heap.size≤k) _=>show k≠q by omega) HP5.o.2.2));have HQ0:=κ (show QI sc q W6 T0 (.pointer p3) (.pointer p4) gr (.slice none 0 0) (.slice none 0 0) (.int .i64 s.limit) (.bool false) W6 [] W6 from ⟨But.refl _ _,none,0,none,0,[],rfl,aA HP5.o.2.1 hb6,Pair.nil_ (ν _) am Um trivial⟩);have cg0:W6.cell? ⟨gx,0,none⟩=some (.slice A0 s.items.length c0):=β (aA HI.o.2.2.2.1 H6.o.1) 0;have HW6:=κ hW6;have hli:(s.items.length:Int)≤20:=by have:=HI.o.2.2.2.2.1.li;omega
         have hlo:(s.order.length:Int)≤10:=by have:=HI.o.2.2.2.2.1.lo;omega
         have hq58:W5.heap.size≠q:=ac
         clear hW6 hb6 h86 hbx5 HP5;go_upto_region 15 with fail;rw [HW6.o];clear HW6;generalize W5.heap.size=b8 at *;go_wp2_with fail;clear cg0;obtain ⟨iN,hiN,hz0,hz1,hz2⟩:=kr;obtain ⟨iS,hiS,hy0,hy1,hy2⟩:=info_parts wX
         go_loopw [10,11,12,91] (λ_ _ _ s91 wr=>∃ i:Nat,i≤s.items.length∧s91=.int .i64 i∧QI sc q W6 T0 (.pointer p3) (.pointer p4) gr (.slice none 0 0) (.slice none 0 0) (.int .i64 s.limit) (.bool false) W6 (s.items.take i) wr∧aF sc true ((s.items.take i).map (·.1))=0) (λ_ _ _ s91 _=>s.items.length-(intOf s91).toNat)
         case atStart=>exact ⟨0,Nat.zero_le _,rfl,HQ0.o,rfl⟩
         case round =>
          obtain ⟨i,hi,rfl,hQ,hfe⟩:=dd;have hbw:=uE hQ.1 H6.o.1 hqw H6.o.2.2.2;have hbx:=aL hQ.1 H6.o.2.1 ac;have hb8:=aL hQ.1 H6.o.2.2.1 hq58
          by_cases hlt:i<s.items.length
          ·obtain ⟨va,vb,ha,hb,hpx,hvb⟩:=Lu hlt HIt.o.2;obtain ⟨b,off,hA,z0⟩:=(HIt.o.1.below hbw).at_ ha;obtain ⟨b',off',hA',z1⟩:=(HIt.o.1.below hbw).at_ hb;subst hA;simp only [Option.some.injEq,Addr.mk.injEq,and_true] at hA';obtain ⟨rfl,rfl⟩:=hA';rw [<-Nat.add_assoc] at z1;have hwf:=HI.o.2.2.2.2.1.itm _ (List.getElem_mem hlt);have hbI:Below wr wr (wr.alloc (.cells #[va,vb] 142)):=ρ;have hpx2:=KB;have HE:=κ (λh=>Pn HD.o HE3.o HE4.o HE5.o hlt hfe h);have HF:=KA;have HT:=κ (List.take_succ_eq_append_getElem hlt);have hC:=JZ;generalize s.items[i]=p at *;obtain ⟨x,nm⟩:=p;subst hvb;obtain ⟨T,gv,rfl⟩:=hpx.form;unfold bdr at hC;simp only at hwf hpx2;have hzI:=heap_alloc_new wr (.cells #[.iface T gv,nm] 142);have HC:=κ hC;have HM:=κ (ι hbI (ι hwf (ι hpx2 hzI)));have HQ:=κ hQ;have HX:=JY;have k8:=β (aA hb8 hbI);have kI:=β hzI;clear hQ hfe ha hb hpx hwf hpx2 hC hbI hzI hbw hbx hb8;go_wp2_with fail;refine μ HC ?_;rintro e w2 ⟨hb2,hq⟩;clear k8 kI z0 z1
           by_cases hk:(aC sc x true).2=0
           ·rw [if_pos hk] at hq;obtain ⟨g,rfl,hnx⟩:=hq;have hLl:(s.items.take i).length≤20:=rx
            generalize s.items.take i=L at *;obtain ⟨hbut,B1,d1,B2,d2,gs,hg,hqr,hp⟩:=HQ.o;have hlw:Below wr wr w2:=HM.o.1.trans (hb2.mono HM.o.1.size);have hnW:=KD;have x2:=aA HX.o.2.1 hlw;have i2:=aA HM.o.2.2.2 hb2;have hpxW:=PX.keepN (StaysT.below hb2) HM.o.2.2.1;have hBi:wr.heap.size≠q:=by have:=Nat.lt_of_lt_of_le H6.o.2.2.2 hbut.size;omega
            clear hnx hb2 HC;unfold ptr at x2;go_wp2_with fail;refine aKG _ _ q W6 wr g _ nm B1 B2 L.length d1 d2 W6 wr w2 sc x _ _ _ gs ac (List.length_map ..) hg rfl rfl rfl rfl H6.o.2.2.2 hBi (ν _) hbut hqr rfl rfl hp hlw hnW x2 i2 HM.o.2.1 hpxW ?_;intro A5 c5 A7 c7 y1 y2 y3 y4 y5 w' k1 k2 k3;have hQI:=κ (Ni (p:=(x,nm)) (l:=L) rfl KF k1 k2 k3);have HFK:=κ (HF.o.trans hk);rw [HT.o] at HFK;have HTT:=κ HT.o;clear HF HE HT hk k1 k2 k3 x2 i2 hpxW hnW hlw hp hqr hbut HM HX;simp only [dT,gX,gY];go_wp2
            go_roundw
            case rel=>exact ⟨i+1,ac,de,by rw [HTT.o];exact hQI.o,by rw [HTT.o];exact HFK.o⟩
            case measure=>simp [intOf];omega
           ·rw [if_neg hk] at hq;subst hq;have hsel:=HE.o hk;have HB:=KG;generalize (aC sc x true).2=E at *;have e1:=kw;have e2:=ku
            have HK:=κ (ι hsel hk);clear hk hsel hb2;go_wp2;go_ret2;exact Ky HK.o.1 HK.o.2 HB.o
          ·have hi2:i=s.items.length:=ac
           rw [hi2,List.take_length] at hQ hfe;have cgx:=β (aA HI.o.2.2.2.1 hbw) 0;simp only [γ,δ] at cgx;have HF8:=κ (show aF sc true ((aY sc s).map (·.1))=0 by
            unfold aY
            split
            ·exact yP λx hx=>by
              obtain ⟨p,hp,rfl⟩:=List.mem_map.1 hx;exact (Aw HI.o.2.1 HD.o p hp).1
            ·exact hfe)
           have HQ:=κ hQ;have HX:=JY;have hxc:=β hbx 0;clear hi2 hfe hQ hbw hbx hb8;go_upto_if 132 with fail
           go_cut [7] (λs7 wx=>s7=.int .i64 0∧QI sc q W6 T0 (.pointer p3) (.pointer p4) gr (.slice none 0 0) (.slice none 0 0) (.int .i64 s.limit) (.bool false) W6 (aY sc s) wx)
           case first =>
            as_aux_lemma =>
             by_cases hnil:s.items=[]
             ·have e1:((s.items.length:Int)==0)=true:=by rw [hnil];rfl
              have HIT:=κ (show aY sc s=jE sc by simp [aY,hnil]);have hQ:=HQ.o;rw [hnil] at hQ;have HA:=κ (aFX w A c sc q W6 T0 (.pointer p3) (.pointer p4) gr (.slice none 0 0) (.slice none 0 0) (.int .i64 s.limit) (.bool false) W6 wr HI.o.1 H6.o.1 hqw HI.o.2.1 HD.o H6.o.2.2.2 H6.o.2.2.2 (ν _) hQ);unfold ptr at HA hxc;clear hQ hnil;go_wp2_with fail;refine μ HA ?_;rintro e w2 ⟨rfl,hQ2⟩;have HQ2:=κ hQ2;clear hQ2;go_wp2
              go_meet
              exact ⟨rfl,by rw [HIT.o];exact HQ2.o⟩
             ·have e1:((s.items.length:Int)==0)=false:=by
               rw [beq_eq_false_iff_ne];intro h;exact hnil (List.eq_nil_of_length_eq_zero ac)
              have HIT:=κ (show aY sc s=s.items by simp [aY,hnil]);clear hnil;go_wp2
              go_meet
              exact ⟨rfl,by rw [HIT.o];exact HQ.o⟩
           case rest =>
            obtain ⟨rfl,hQ8⟩:=sn;generalize wc=W8 at *;obtain ⟨hb8,B1,d1,B2,d2,hq8,hI8⟩:=aDA hQ8 H6.o.2.2.2 HPr.o;have hbw8:=uE hb8 H6.o.1 hqw H6.o.2.2.2;have HO0:=κ (show QO sc q W8 (.slice B1 (aY sc s).length d1) (.slice B2 (aY sc s).length d2) (.pointer p3) (.pointer p4) gr (.int .i64 s.limit) (.bool false) W8 [] W8 from ⟨But.refl _ _,none,0,none,0,[],rfl,hq8,Pair.nil_ (ν _) am Um trivial⟩);have H8:=κ (ι hbw8 (ι (aL hb8 H6.o.2.1 ac) (ι (aL hb8 H6.o.2.2.1 hq58) (ι (Nat.lt_of_lt_of_le H6.o.2.2.2 hb8.size) hI8))));have cg6:=β (aA HI.o.2.2.2.1 hbw8) 6;simp only [γ,δ,ε] at cg6;clear hQ8 hb8 hbw8 hq8 hI8 HQ HX HPr HQ0 cgx hxc hlt hi HIt H6;generalize wr=wo at *;generalize (aY sc s).length=nI at *;go_wp2_with fail;clear cg6;obtain ⟨iB,hiB,hx0,hx1,hx2⟩:=info_parts Ch
            go_loopw [14,15,16,141] (λ_ _ _ s141 wr=>∃ i:Nat,i≤s.order.length∧s141=.int .i64 i∧QO sc q W8 (.slice B1 nI d1) (.slice B2 nI d2) (.pointer p3) (.pointer p4) gr (.int .i64 s.limit) (.bool false) W8 (s.order.take i) wr∧aF sc true ((s.order.take i).map (·.1))=0) (λ_ _ _ s141 _=>s.order.length-(intOf s141).toNat)
            case atStart=>exact ⟨0,Nat.zero_le _,rfl,HO0.o,rfl⟩
            case round =>
             obtain ⟨i,hi,rfl,hQ,hfe⟩:=dd;have hbw:=uE hQ.1 H8.o.1 hqw H8.o.2.2.2.1;have hbx:=aL hQ.1 H8.o.2.1 ac;have hb8:=aL hQ.1 H8.o.2.2.1 hq58
             by_cases hlt:i<s.order.length
             ·obtain ⟨va,vb,ha,hb,hpx,hvb⟩:=Lu hlt HOr.o.2;obtain ⟨b,off,hA,z0⟩:=(HOr.o.1.below hbw).at_ ha;obtain ⟨b',off',hA',z1⟩:=(HOr.o.1.below hbw).at_ hb;subst hA;simp only [Option.some.injEq,Addr.mk.injEq,and_true] at hA';obtain ⟨rfl,rfl⟩:=hA';rw [<-Nat.add_assoc] at z1;have hwf:=HI.o.2.2.2.2.1.ord _ (List.getElem_mem hlt);have hbI:Below wr wr (wr.alloc (.cells #[va,vb] 147)):=ρ;have hpx2:=KB;have HE:=κ (λh=>Kh HD.o HE3.o HE4.o HE5.o HF8.o hlt hfe h);have HF:=KA;have HT:=κ (List.take_succ_eq_append_getElem hlt);have hC:=JZ;generalize s.order[i]=p at *;obtain ⟨x,bd⟩:=p;subst hvb;obtain ⟨T,gv,rfl⟩:=hpx.form;unfold bdr at hC;have hzI:=heap_alloc_new wr (.cells #[.iface T gv,bd] 147);have HC:=κ hC;have HM:=κ (ι hbI hzI);have HQ:=κ hQ;have HX:=JY;have k8:=β (aA hb8 hbI);have kI:=β hzI;clear hQ hfe ha hb hpx hwf hpx2 hC hbI hzI hbw hbx hb8;go_wp2_with fail;refine μ HC ?_;rintro e w2 ⟨hb2,hq⟩;clear k8 kI z0 z1
              by_cases hk:(aC sc x true).2=0
              ·rw [if_pos hk] at hq;obtain ⟨g,rfl,hnx⟩:=hq;have hLl:(s.order.take i).length≤10:=rx
               generalize s.order.take i=L at *;obtain ⟨hbut,C1,r1,C2,r2,gs,hg,hqr,hp⟩:=HQ.o;have hlw:Below wr wr w2:=HM.o.1.trans (hb2.mono HM.o.1.size);have hnW:=KD;have x2:=aA HX.o.2.1 hlw;have i2:=aA HM.o.2 hb2;have hBi:wr.heap.size≠q:=by have:=Nat.lt_of_lt_of_le H8.o.2.2.2.1 hbut.size;omega
               clear hnx hb2 HC;unfold ptr at x2;go_wp2_with fail;refine aKD _ _ q W8 wr g _ bd C1 C2 L.length r1 r2 W8 wr w2 sc x _ _ _ gs ac (List.length_map ..) hg rfl rfl rfl rfl H8.o.2.2.2.1 hBi (ν _) hbut hqr rfl rfl hp hlw hnW x2 i2 ?_;intro A5 c5 A7 c7 y1 y2 y3 y4 w' k1 k2 k3;have hQI:=κ (aCY (p:=(x,bd)) (l:=L) rfl KF k1 k2 k3);have HFK:=κ (HF.o.trans hk);rw [HT.o] at HFK;have HTT:=κ HT.o;clear HF HE HT hk k1 k2 k3 x2 i2 hnW hlw hp hqr hbut HM HX;simp only [dT,gX,gY];go_wp2
               go_roundw
               case rel=>exact ⟨i+1,ac,de,by rw [HTT.o];exact hQI.o,by rw [HTT.o];exact HFK.o⟩
               case measure=>simp [intOf];omega
              ·rw [if_neg hk] at hq;subst hq;have hsel:=HE.o hk;have HB:=KG;generalize (aC sc x true).2=E at *;have e1:=kw;have e2:=ku
               have HK:=κ (ι hsel hk);clear hk hsel hb2;go_wp2;go_ret2;exact Ky HK.o.1 HK.o.2 HB.o
             ·have hi2:i=s.order.length:=ac
              rw [hi2,List.take_length] at hQ hfe;obtain ⟨-,C1,r1,C2,r2,hq9,hI9,hG9,hD9⟩:=aCZ hQ H8.o.2.2.2.1 H8.o.2.2.2.2;have HSEL:=κ (show fO sc s=if mL sc s && !(dJ sc s).all (setX sc s.group) then 3 else 0 by rw [nP HD.o HE3.o HE4.o HE5.o,wO HF8.o hfe,if_neg (λh=>h rfl)]);have HTW:=κ (ι (λx hx=>ι (Fg HI.o.2.1 HD.o HI.o.2.2.2.2.1 x hx) (sX sc x true (mD (wO HF8.o hfe) x hx))) (Tn HI.o.2.1 HI.o.2.2.2.2.1));obtain ⟨A3,c3,g3,e3,hl3,hr3,hn3⟩:=Dy hI9.1.2.2;obtain ⟨Ai,ci,gi,ei,hli,hri,hni⟩:=Dy hI9.2.2;obtain ⟨Ao,co,go,eo,hlo2,hro,hno⟩:=Dy hG9;rw [e3,ei,eo] at hq9;have hnt:=Pa hni hno;have hgl:gi.length≤30:=by have:=HTW.o.2;rw [dJ,List.length_append, <-hli] at this;omega
              have hol:go.length≤10:=by rw [hlo2,List.length_map];have:=hlo;omega
              have hx9:=hbx;have HEnd:=κ (ι hbw (ι hI9 (ι hG9 hD9)));rw [e3,ei,eo] at HEnd;have HNT:=κ (ι hnt (ι (ι hl3 (ι hr3 hn3)) (ι hri.rds hro.rds)));clear hI9 hG9 hD9 hnt hl3 hr3 hn3 hri hro hni hno hli hlo2 e3 ei eo hQ hfe hi2 hbx hb8 hbw;unfold ptr at hx9;go_upto_region 33 with fail;refine eR (S:=λw'=>w'.cell? ⟨q+1,0,none⟩=some (.pointer (some ⟨q,0,none⟩))∧w'.cell? ⟨q,1,none⟩=some (.slice Ai gi.length ci)∧w'.cell? ⟨q,5,none⟩=some (.slice Ao go.length co)) (λ_=>True) 99 aj ⟨β hx9 0,β hq9 1,β hq9 5⟩ trivial (λhS hT => ?_);refine tkE false 0 177 ?_;refine tkE false 1 178 ?_;refine tkE false 2 179 ?_;refine tkE false 3 180 ?_;refine tkE false 5 182 ?_;refine tkE false 6 183 ?_;refine tkE false 7 184 ?_;refine tkE false 8 185 ?_;simp only [Act.put,dT,gX,gY];refine stE 4 λK hK => ?_;go_simp;go_at_call 51;refine (Ly Ai ci gi wr.drew HNT.o.2.2.1 ac).mono ?_;rintro e w2 ⟨A7,c7,rfl,ho7,hb7⟩;have x7:=aA (w:=wr.drew) hx9 hb7;have q7:=aA (w:=wr.drew) hq9 hb7;refine hK.out _ _ ⟨β x7 0,β q7 1,β q7 5⟩ trivial (λhS hT => ?_);clear hK K;refine stE 9 λK hK => ?_;refine bL _ rfl (.tmp 181) (.tmp 185) _ rfl wr.drew 53 iN _ 1 8 underlying46 hiN hz0 hz1 hz2 rfl ac A7 gi.length c7 (gi.map ptr) rfl ho7 Ao go.length co (go.map ptr) rfl aa (Rds.below (w:=wr.drew) HNT.o.2.2.2 hb7) (Nl go) ?_ ?_ ?_ ?_
              ·simp only [maxLen];omega
              ·omega
              ·exact hb7.size
              intro A8 c8 w8 ho8 hb8 hg8 hk8;have hb9:Below wr wr w8:=(show Below wr wr w2 from (θ).drew.trans hb7).trans hb8;have x8:=aA hx9 hb9;have q8:=aA hq9 hb9;change K (Act.put _ (some 186) _) _;refine hK.out _ _ ⟨β x8 0,β q8 1,β q8 5⟩ trivial (λhS hT => ?_);clear hK K;refine tkE false 10 17 ?_;simp only [Act.put,dT,gX,gY];refine dY ?_ rfl _;have hqw:q<wr.heap.size:=aG hq9;have hr8:=RowS.own ho8;rw [<-List.map_append] at hr8;replace hr8:=hr8.turn (Turn.mono (S':=λk=>k≠q) λk (hk:wr.heap.size≤k) _=>ac);have hlen:gi.length+go.length=(gi++go).length:=List.length_append.symm;have hnt:=HNT.o.1;have hga:(gi++go).length=(dJ sc s).length:=NTs.length hnt;rw [hlen];generalize gi++go=ga at *;have HZ:=κ (ι hr8 (ι (NTs.turn (Turn.below hb9) hnt) (ι hga (ι HNT.o.2.1.1 (ι (HNT.o.2.1.2.1.turn (Turn.below hb9)) (NTs.turn (Turn.below hb9) HNT.o.2.1.2.2))))));replace HEnd:=κ (ι (HEnd.o.1.trans (hb9.mono HEnd.o.1.size)) (ι (pR _ _ _ _ _ _ _ _ _ _ _ (Turn.below hb9) HEnd.o.2.1) (ι (HEnd.o.2.2.1.turn (Turn.below hb9)) (HEnd.o.2.2.2.turn (Turn.below hb9)))));clear hr8 hnt hga HNT hlen ho7 hb7 x7 q7 ho8 hb8 hg8 hk8 hb9 hx9 hq9 hS hT;go_upto_region 34 with fail
              go_cut [17] (λs17 wx=>s17=.slice A8 ga.length c8∧But q w8 wx∧wx.heap[q]? = some (.cells (eO (.slice B1 nI d1) (.slice Ai gi.length ci) (.pointer p3) (.pointer p4) (.slice A3 g3.length c3) (.slice Ao go.length co) (.slice C1 s.order.length r1) (.int .i64 s.limit) (.bool (mL sc s))) 84 (0,0)))
              case first =>
               have d8:=β (bX q8) 8;have f8:=λj=>frozen_of_row w8 q j _ _ q8;have hl3:=HZ.o.2.2.2.1
               by_cases hg:s.group=[]
               ·rw [hg] at hl3;have HQ:=κ (aEO (sc:=sc) hg);have HC:=κ (fR 53 (λ_ _=>rfl) #[] A8 c8 ga ((dJ sc s).map jC) w8.drew HZ.o.1.rds (by rw [List.length_map];exact HZ.o.2.2.1.symm) (by rw [HZ.o.2.2.1];have:=HTW.o.2;omega) (Pc (NTs.turn (Turn.below (θ).drew) HZ.o.2.1) λx hx=>(HTW.o.1 x hx).1));rw [aJI, <-HQ.o] at HC;generalize g3.length=n3 at *;obtain rfl:n3=0:=hl3;refine eR (S:=λw'=>w'.cell? ⟨q+1,0,none⟩=some (.pointer (some ⟨q,0,none⟩))∧w'.cell? ⟨q,4,none⟩=some (.slice A3 0 c3)) (λ_=>True) 13 aj ⟨β x8 0,β q8 4⟩ trivial (λhS hT => ?_);refine tkE false 0 187 ?_;refine tkE false 1 188 ?_;refine tkE false 2 189 ?_;refine tkE false 3 190 ?_;refine tkE false 4 191 ?_;refine tkE false 5 192 ?_;refine tkE false 6 193 ?_;refine tkE false 7 194 ?_;simp only [Act.put,dT,gX,gY];refine tkE false 8 195 ?_;simp only [Act.put,dT,gX,gY];refine stE 9 λK hK => ?_;go_simp;go_at_call 52;refine μ HC ?_;rintro e w9 ⟨rfl,hb9⟩;have x9:=aA (w:=w8.drew) x8 hb9;have q9:=aA (w:=w8.drew) q8 hb9;have d9:=β q9 8;have f9:=λj=>frozen_of_row w9 q j _ _ q9;refine hK.out _ _ ⟨β x9 0,β q9 4⟩ trivial (λhS hT => ?_);clear hK K HC;refine tkE false 10 197 ?_;refine tkE false 11 198 ?_;refine tkE false 12 199 ?_;simp only [Act.put,dT,gX,gY];refine stL 13 λK hK => ?_;go_simp;refine hK.out _ _ ⟨β (cA x9 ac _) 0,β (gJ (o:=8) q9) 4⟩ (λhS => ?_);clear hK K;refine dY ?_ rfl _
                have HM:=κ (ι ((But.of (show Below w8 w8 w9 from (θ).drew.trans hb9)).trans (But.set q 8 w9 (.bool (mL sc s)))) (gJ (o:=8) (u:=.bool (mL sc s)) q9));clear hb9 x9 q9 d9 f9 hS hT HQ;go_wp2
                go_meet
                exact ⟨rfl,HM.o⟩
               ·have HQ:=κ (Yq (sc:=sc) hg);have hg0:=List.length_pos_iff.2 hg;generalize g3.length=n3 at *;have hp1:0<n3:=ac
                have hpos:(0:Int)<(n3:Int):=ac
                refine eR (S:=λw'=>w'.cell? ⟨q+1,0,none⟩=some (.pointer (some ⟨q,0,none⟩))∧w'.cell? ⟨q,4,none⟩=some (.slice A3 n3 c3)) (λ_=>True) 13 aj ⟨β x8 0,β q8 4⟩ trivial (λhS hT => ?_);refine tkE false 0 187 ?_;refine tkE false 1 188 ?_;refine tkE false 2 189 ?_;refine tkE false 3 190 ?_;refine tkE false 4 191 ?_;refine tkE false 5 192 ?_;refine tkE false 6 193 ?_;refine tkE false 7 194 ?_;simp only [Act.put,dT,gX,gY];refine tkN 8 195 ?_;refine tkN 9 196 ?_;simp only [Act.put,dT,gX,gY];refine tkE false 10 197 ?_;refine tkE false 11 198 ?_;refine tkE false 12 199 ?_;simp only [Act.put,dT,gX,gY];refine stL 13 λK hK => ?_;go_simp;refine hK.out _ _ ⟨β (cA x8 ac _) 0,β (gJ (o:=8) q8) 4⟩ (λhS => ?_);clear hK K;refine dY ?_ rfl _;have HM:=κ (show But q w8 ((w8.drew).setCell ⟨q,8,none⟩ (.bool true))∧_ from ⟨(But.of (Below.refl _ w8).drew).trans (But.set q 8 _ _),gJ (o:=8) (u:=.bool true) (bX q8)⟩);clear hS hT hl3 hpos hp1 hg0 d8 f8;go_wp2
                go_meet
                exact ⟨rfl,HM.o.1,by rw [HQ.o];exact HM.o.2⟩
              case rest =>
               obtain ⟨rfl,hb10,hq10⟩:=sn;generalize wc=W10 at *;have ht:=zD hb10;have hx10:=aL hb10 x8 ac;have HF:=κ (ι (HEnd.o.1.trans (But.below hb10 (B:=w) ac (Nat.le_of_lt (aG q8)))) (ι (pR _ _ _ _ _ _ _ _ _ _ _ ht HEnd.o.2.1) (ι (HEnd.o.2.2.1.turn ht) (HEnd.o.2.2.2.turn ht))));have HG:=κ (ι (aEM HZ.o.2.2.2.1 (HZ.o.2.2.2.2.1.turn ht) (NTs.turn ht HZ.o.2.2.2.2.2)) (ι (HZ.o.1.turn ht).rds (NTs.turn ht HZ.o.2.1)));have HL:=κ (ι HZ.o.2.2.1 HZ.o.2.2.2.1);have HNq:=κ hq10;clear HZ HEnd ht hb10 x8 q8;have hgrp:s.group.length≤10:=HI.o.2.2.2.2.1.lg;have HY:=κ (λy hy=>ι (HI.o.2.2.2.2.1.grp y hy) (sX sc y false (mD HE5.o y hy)));unfold ptr at hx10;go_upto_region 35 with fail;cases hgq:mL sc s
               ·rw [hgq] at hq10;have hz:=KH;have hz8:W10.cell? ⟨q,8,none⟩=some (.bool false):=β hq10 8;have H0:=κ (show fO sc s=0 by rw [HSEL.o,hgq];rfl);clear hgq hq10 hx10;go_wp2;go_ret2;exact aGR H0.o HF.o.1 rfl HNq.o HF.o.2.1 HF.o.2.2.1 HF.o.2.2.2
               ·have hc:=hq10;rw [hgq] at hc;have hz:=KH;have hz8:W10.cell? ⟨q,8,none⟩=some (.bool true):=β hc 8;have H0:=κ (show fO sc s=if !(dJ sc s).all (setX sc s.group) then 3 else 0 by rw [HSEL.o,hgq,Bool.true_and]);have HC:=κ (fR 55 (λ_ _=>rfl) #[(q+1:Nat)] A8 c8 ga ((dJ sc s).map λx => !setX sc s.group x) W10 HG.o.2.1 (by rw [List.length_map];exact HL.o.1.symm) (by rw [HL.o.1];have:=HTW.o.2;omega) (Pb HG.o.2.2 HTW.o.1 HY.o ac HG.o.1 (by unfold ptr;exact hx10) hc));rw [aFW] at HC;generalize (dJ sc s).all (setX sc s.group)=ba at *;clear hgq hq10 hc HSEL;go_wp2_with fail;refine μ HC ?_;rintro e w11 ⟨rfl,hb11⟩;have hz2:w11.cell? ⟨q+1,0,none⟩=some (.pointer (some ⟨q,0,none⟩)):=β (aA hx10 hb11) 0;have hb12:=HF.o.1.trans (hb11.mono HF.o.1.size);have HK:=κ (ι hb12 (ι (aA HNq.o hb11) (ι (pR _ _ _ _ _ _ _ _ _ _ _ (Turn.below hb11) HF.o.2.1) (ι (HF.o.2.2.1.turn (Turn.below hb11)) (HF.o.2.2.2.turn (Turn.below hb11))))));clear hb11 hb12 hx10;cases ba
                ·go_wp2;go_ret2;exact Ky H0.o am HK.o.1
                ·go_wp2;go_ret2;exact aGR H0.o HK.o.1 rfl HK.o.2.1 HK.o.2.2.1 HK.o.2.2.2.1 HK.o.2.2.2.2
        ·have hsel:=κ (show fO sc s=aF sc false s.group by unfold fO;rw [HD.o,if_neg am,if_neg (λh=>h HE3.o),if_neg (λh=>h HE4.o),if_pos ht]);have HE:=κ ht;generalize aF sc false s.group=E at *;have e1:(E==0)=false:=η ht;have e2:=ku
         clear ht;go_wp2;go_ret2;exact Ky hsel.o HE.o HB5.o
      ·have hsel:=κ (show fO sc s=jB sc s.wh by unfold fO;rw [HD.o,if_neg am,if_neg (λh=>h HE3.o),if_pos ht]);have HE:=κ ht;generalize jB sc s.wh=E at *;have e1:(E==0)=false:=η ht;have e2:=ku
       clear ht;go_wp2;go_ret2;exact Ky hsel.o HE.o HB4.o
    ·have hsel:=κ (show fO sc s=jB sc s.on by unfold fO;rw [HD.o,if_neg am,if_pos ht]);have HE3:=κ ht;generalize jB sc s.on=E at *;have e1:(E==0)=false:=η ht;have e2:=ku
     clear ht;go_wp2;go_ret2;exact Ky hsel.o HE3.o HB3.o
  ·go_wp2;go_ret2;exact Ky (by unfold fO;rw [hdb];rfl) am hb0
