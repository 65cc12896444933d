/-
 Contracts. Conditions: those of each.
-/
import Derived.Test.YtkolcimllghnaaaGreatDoorQdVR
set_option maxRecDepth 100000
set_option maxHeartbeats 16000000
namespace Go.Proofs.YtkolcimllghnaaaGreatDoor
open Lp Go.Proofs.Tryz
open Go.RowKit
variable{L xs:List Lp.X}{sc:List Tb}{x:Lp.X}{B i n:Nat}{S:Nat->Prop}{s:Sel}{w w':World}{A:ZT}
def jR (l:List (Lp.X×ZS)):List (Lp.X×ZS×Bool):=l.map λp=>(p.1,p.2,false)
def rcX:Lp.X->RC
 | .col t s=>rcC t s
 | _=>rc0 0 []
def vD (l:List (Lp.X×ZS)):List (RC×ZS×Bool):=l.map λp=>(rcX p.1,p.2,false)
theorem Nm (l m:List (RC×ZS×Bool)):prv (l++m)=prv l++prv m:=by simp [prv]
theorem aBZ (S:Nat->Prop) (w:World):∀ (l:List (Lp.X×ZS)),(∀ p∈l,∃ t s,p.1=.col t s)->PRl S w (jR l) (vD l):=by
 intro l h;refine ⟨by simp [jR,vD], ?_⟩;have e1:(jR l).map (·.1)=l.map (·.1):=by simp [jR]
 have e2:(vD l).map (·.1)=l.map λp=>rcX p.1:=by simp [vD]
 rw [e1,e2]
 induction l with
 | nil=>trivial
 | cons p l ih =>
   obtain ⟨t,s,e⟩:=h p aa;refine ⟨?_,ih (λq hq=>h q (by simp [hq])) (by simp [jR]) (by simp [vD])⟩;show RX S w p.1 (rcX p.1);rw [e];rfl
theorem Pf (sc:List Tb):∀ p∈jE sc,∃ t s,p.1=.col t s:=by
 intro p hp;obtain ⟨tb, -,h2⟩:=ra;obtain ⟨c, -,rfl⟩:=qz;exact ⟨_,_,rfl⟩
theorem Lk (A:ZT) (c:Nat) (l:List dW) (k:Int) (s1 s2 s3:ByteArray) (A4 A5 A6 A7 A8 A9 A10 A11:ZT) (n4 c4 n5 c5 n6 c6 c7 n8 c8 n9 c9 n10 c10 n11 c11:Nat) (li:Int) (w:World) (hA:ScA w A l) (hok:nA (aE l)) :
 Calls prog 19 #[.slice A l.length c,.agg #[.int .u8 k,s1,s2,s3,.slice A4 n4 c4,.slice A5 n5 c5,.slice A6 n6 c6,.slice A7 0 c7,.slice A8 n8 c8,.slice A9 n9 c9,.slice A10 n10 c10,.slice A11 n11 c11,.int .i64 li]] w λe w'=>(∃ u,e=.returned u∧PR (λg=>w.heap.size≤g) w' (jR (jE (aE l))) u)∧Below w w w':=by
 obtain ⟨iP,hiP,hz0,hz1,hz2⟩:=KK;have hb0:Below w w (w.alloc (.cells #[.int .u8 k,s1,s2,s3,.slice A4 n4 c4,.slice A5 n5 c5,.slice A6 n6 c6,.slice A7 0 c7,.slice A8 n8 c8,.slice A9 n9 c9,.slice A10 n10 c10,.slice A11 n11 c11,.int .i64 li] 38)):=ρ;have hc:=β (heap_alloc_new w (.cells #[.int .u8 k,s1,s2,s3,.slice A4 n4 c4,.slice A5 n5 c5,.slice A6 n6 c6,.slice A7 0 c7,.slice A8 n8 c8,.slice A9 n9 c9,.slice A10 n10 c10,.slice A11 n11 c11,.int .i64 li] 38));have HB:=κ (ι hb0 (hA.below hb0));have hl2:l.length≤2:=by have:=hok.1;unfold aE at this;rw [List.length_map] at this;exact this
 have hlI:(l.length:Int)≤2:=ac
 have HST:=κ (lW hok);clear hb0 hA hok;go_enter func19,ntmps19;go_wp2_with fail;generalize (w.alloc (.cells #[.int .u8 k,s1,s2,s3,.slice A4 n4 c4,.slice A5 n5 c5,.slice A6 n6 c6,.slice A7 0 c7,.slice A8 n8 c8,.slice A9 n9 c9,.slice A10 n10 c10,.slice A11 n11 c11,.int .i64 li] 38))=W at *;clear hc
 go_loopw [5,7,9,18] (λs5 _ _ s18 wr=>∃ (i:Nat) (Ao:ZT) (co:Nat),i≤l.length∧s18=.int .i64 i∧s5=.slice Ao (jE ((l.take i).map (·.1))).length co∧wr.ownsRow W 72 10 s5 (jE ((l.take i).map (·.1))).length (prv (vD (jE ((l.take i).map (·.1)))))∧Below W W wr) (λ_ _ _ s18 _=>l.length-(intOf s18).toNat)
 case atStart=>exact ⟨0,none,0,Nat.zero_le _,rfl,rfl,World.ownsRow_nil _ _ _ _,θ⟩
 case round =>
  obtain ⟨i,Ao,co,hi,rfl,rfl,ho,hb⟩:=dd
  by_cases hlt:i<l.length
  ·have HT1:=κ (Av l hlt);have hpw:=HB.o.2.below hb;obtain ⟨bT,oT,hA1,p0,p1⟩:=qK hpw.1 hlt;have hcs:=(HB.o.2.2 _ (List.getElem_mem hlt)).2.1;have hln:(jE ((l.take i).map (·.1))++stc (l[i]).1 (l[i]).1.cs).length≤16:=by
    rw [<-HT1.o];refine Nat.le_trans ?_ HST.o;rw [gI,gI,List.map_take];exact nJ _ _
   subst hA1;generalize (l[i])=tb at *;generalize hSt:jE ((l.take i).map (·.1))=ST at *;obtain ⟨⟨tn,cs⟩,A2,c2⟩:=tb;simp only at p0 p1 hcs hln;have hbT:Below wr wr (wr.alloc (.cells #[tn,.slice A2 cs.length c2] 52)):=ρ;have hzT:=heap_alloc_new wr (.cells #[tn,.slice A2 cs.length c2] 52);have x2:=β hzT;have hcsl:=FJ
   have hcsI:(cs.length:Int)≤16:=ac
   have HM:=κ (ι hzT (ι hcs (ι hln (ι (aN ho hbT) (hb.trans (hbT.mono hb.size))))));clear hcs hln hbT hzT hpw hSt ho hb;go_wp2_with fail;generalize hbx:wr.heap.size=bx at *;generalize wr.alloc (.cells #[tn,.slice A2 cs.length c2] 52)=W1 at *;clear x2 p0 p1 hbx
   go_loopw [5,9,25] (λs5 _ s25 wr=>∃ (j:Nat) (Ao:ZT) (co:Nat),j≤cs.length∧s25=.int .i64 j∧s5=.slice Ao (ST++stc ⟨tn,cs⟩ (cs.take j)).length co∧wr.ownsRow W 72 10 s5 (ST++stc ⟨tn,cs⟩ (cs.take j)).length (prv (vD (ST++stc ⟨tn,cs⟩ (cs.take j))))∧Below W W wr∧wr.heap[bx]? = some (.cells #[tn,.slice A2 cs.length c2] 52 (0,0))) (λ_ _ s25 _=>cs.length-(intOf s25).toNat)
   case atStart=>exact ⟨0,Ao,co,Nat.zero_le _,rfl,by rw [List.take_zero];simp [stc],by rw [List.take_zero];simpa [stc] using HM.o.2.2.2.1,HM.o.2.2.2.2,HM.o.1⟩
   case round =>
    obtain ⟨j,Ao,co,hj,rfl,rfl,ho,hb,hT⟩:=dd
    by_cases hjl:j<cs.length
    ·have hcat:=tI hjl;have hrq:=HM.o.2.1.below hb;obtain ⟨bc,oc,hA3,hn1⟩:=hrq.at_ hcat.1;obtain ⟨bc2,oc2,hA4,hn2⟩:=hrq.at_ hcat.2;have hA5:=jx;simp only [Addr.mk.injEq,and_true] at hA5;obtain ⟨rfl,rfl⟩:=hA5;rw [<-Nat.add_assoc] at hn2;have hstep:=Fp (tb:=⟨tn,cs⟩) hjl;have hxl:(ST++stc ⟨tn,cs⟩ (cs.take j)).length≤16:=by
      refine Nat.le_trans ?_ HM.o.2.2.1;simp only [List.length_append,stc,List.length_map,List.length_take];omega
     generalize (cs[j])=cj at *;obtain ⟨cn,ck⟩:=cj;simp only at hn1 hn2 hstep;obtain ⟨L,hL⟩:∃ L,ST++stc ⟨tn,cs⟩ (cs.take j)=L:=cw;have HSt:=FK;rw [hL] at ho hxl |-;have hbC:=jw;have x2:=jv;have y2:=β (aA hT hbC);have HC:=κ (ι (hb.trans (hbC.mono hb.size)) (ι (aA hT hbC) (aN ho hbC)));have hjI:=ju
     clear hstep hbC hrq hcat hA4 hb ho hT hL;subst hA3;go_upto_region 10 with fail;generalize wr.alloc (.cells #[cn,.int .u8 ck] 116)=W2 at *;go_wp2_with (at_builtin;refine bJ _ rfl (.tmp 29) (.tmp 36) _ rfl W 72 iP _ 10 128 underlying35 hiP hz0 hz1 hz2 rfl ac Ao L.length co (prv (vD L)) rfl (HC.o.2.2.alloc _) _ 1 1 [.int .u8 2,.int .u8 0,.int .i64 0,.string ⟨#[]⟩,.bool false,.string ⟨tn.toArray⟩,.string ⟨cn.toArray⟩,.slice none 0 0,.string ⟨#[]⟩,.bool false] rfl rfl (aS [.int .u8 2,.int .u8 0,.int .i64 0,.string ⟨#[]⟩,.bool false,.string ⟨tn.toArray⟩,.string ⟨cn.toArray⟩,.slice none 0 0,.string ⟨#[]⟩,.bool false] (heap_alloc_new _ _)) GF kt ac (by rw [World.size_alloc];exact Nat.le_trans HC.o.1.size (Nat.le_succ _)) ?_;intro A5 c5 w5 ho5 hb5 _ hk5;have hT5:=(hk5 _ _ (aB HC.o.2.1 _) (cU HC.o.2.2 HC.o.2.1 am)).1;have y5:=β hT5;clear hk5);have hB5:=(HC.o.1.alloc HC.o.1.size (.cells #[.int .u8 2,.int .u8 0,.int .i64 0,(),false,tn,cn,.slice none 0 0,(),false] 72)).trans hb5;have HQ:=κ (ι ho5 (ι hB5 hT5));clear ho5 hb5 hT5 hB5 x2 y2 hn1 hn2 HC;go_wp2
     go_roundw
     case rel =>
      refine ⟨j+1,A5,c5,ac,de,by rw [HSt.o,List.length_append];rfl, ?_,HQ.o.2.1,HQ.o.2.2⟩;rw [HSt.o,List.length_append,show vD (L++[(.col tn cn,[])])=vD L++[(rcC tn cn,[],false)] by simp [vD,rcX],Nm];exact HQ.o.1
     case measure=>simp [intOf];omega
    ·have hj2:=jz
     rw [hj2,List.take_length] at ho |-;rw [<-HT1.o] at ho |-;have HQ:=κ (ι ho hb);clear hj2 ho hb hT;go_wp2
     go_roundw
     case rel=>exact ⟨i+1,Ao,co,ac,de,rfl,HQ.o.1,HQ.o.2⟩
     case measure=>simp [intOf];omega
  ·have hi2:=ka
   rw [hi2,List.take_length] at ho |-;have HQ:=κ (ι ho (HB.o.1.trans (hb.mono HB.o.1.size)));have HS:=κ HB.o.1.size;clear hi2 ho hb;go_wp2;go_ret;refine ⟨⟨_,rfl,Ao,co,vD (jE (aE l)), ?_,RdS.turn (λg hg _=>⟨Nat.le_trans HS.o hg,rfl⟩) (RdS.own HQ.o.1),aBZ _ _ _ (Pf _)⟩,HQ.o.2⟩;unfold jR;rw [List.length_map];rfl
theorem Ll (A:ZT) (n c:Nat) (k:Int) (s1 s2 s3:ByteArray) (A4 A5 A6 A7 A8 A9 A10 A11:ZT) (n4 c4 n5 c5 n6 c6 n7 c7 n8 c8 n9 c9 n10 c10 n11 c11:Nat) (li:Int) (w:World) (h7:0<n7) :
 Calls prog 19 #[.slice A n c,.agg #[.int .u8 k,s1,s2,s3,.slice A4 n4 c4,.slice A5 n5 c5,.slice A6 n6 c6,.slice A7 n7 c7,.slice A8 n8 c8,.slice A9 n9 c9,.slice A10 n10 c10,.slice A11 n11 c11,.int .i64 li]] w λe w'=>e=.returned (.slice A7 n7 c7)∧Below w w w':=by
 have hb0:=KL;have hc:=β (heap_alloc_new w (.cells #[.int .u8 k,s1,s2,s3,.slice A4 n4 c4,.slice A5 n5 c5,.slice A6 n6 c6,.slice A7 n7 c7,.slice A8 n8 c8,.slice A9 n9 c9,.slice A10 n10 c10,.slice A11 n11 c11,.int .i64 li] 38));have HB:=sv;have hI:(0:Int)<(n7:Int):=ac
 clear hb0 h7;go_enter func19,ntmps19;go_wp2;go_ret;exact sm
theorem pS (A:ZT) (c:Nat) (l:List dW) (s:Sel) (cs:ZU) (w:World) (hA:ScA w A l) (hok:nA (aE l)) (h13:Cs13 cs) (hf:∀ j u,cs[j]? = some u->FldR (λ_=>True) w s j u) :
 Calls prog 19 #[.slice A l.length c,.agg cs.toArray] w λe w'=>(∃ u,e=.returned u∧PR (λ_=>True) w' (jR (aY (aE l) s)) u)∧Below w w w':=by
 obtain ⟨k,s1,s2,s3,A4,n4,c4,A5,n5,c5,A6,n6,c6,A7,n7,c7,A8,n8,c8,A9,n9,c9,A10,n10,c10,A11,n11,c11,li,rfl⟩:=nE h13;have h7:PR (λ_=>True) w (itL s) (.slice A7 n7 c7):=hf 7 _ rfl;have hl7:n7=s.items.length:=by
  obtain ⟨A',c',pr,e, -⟩:=h7;injection e with _ e _;rw [e,itL,List.length_map]
 by_cases h0:n7=0
 ·have hi:s.items=[]:=List.eq_nil_of_length_eq_zero ac;subst h0;refine (Lk A c l k s1 s2 s3 A4 A5 A6 A7 A8 A9 A10 A11 n4 c4 n5 c5 n6 c6 c7 n8 c8 n9 c9 n10 c10 n11 c11 li w hA hok).mono ?_;rintro e w' ⟨⟨u,h1,h2⟩,h3⟩;refine ⟨⟨u,h1, ?_⟩,h3⟩;obtain ⟨A',c',pr,e1,e2,e3⟩:=h2;unfold aY;rw [hi];exact ⟨A',c',pr,e1,RdS.turn (λ_ _ _=>⟨trivial,rfl⟩) e2,e3.1,fZ (λ_ _ _=>⟨trivial,rfl⟩) e3.2⟩
 ·have hi:s.items.isEmpty=false:=by
   cases hs:s.items with
   | nil=>rw [hs] at hl7;exact absurd hl7 h0
   | cons=>rfl
  refine (Ll A l.length c k s1 s2 s3 A4 A5 A6 A7 A8 A9 A10 A11 n4 c4 n5 c5 n6 c6 n7 c7 n8 c8 n9 c9 n10 c10 n11 c11 li w ac).mono ?_;rintro e w' ⟨h1,h3⟩;refine ⟨⟨_,h1, ?_⟩,h3⟩;unfold aY;rw [hi];obtain ⟨A',c',pr,e1,e2,e3⟩:=h7;exact ⟨A',c',pr,e1,RdS.turn (λg _ hl=>⟨trivial,h3.block g hl⟩) e2,e3.1,fZ (λg _ hl=>⟨trivial,h3.block g hl⟩) e3.2⟩
theorem Mx (sc:List Tb) (s:Sel):dJ sc s=(jR (aY sc s)++orL s).map (·.1):=by simp [jR,orL,dJ,Function.comp_def]
theorem mS (l:List (RC×ZS×Bool)):(prv l).length=l.length*10:=pW (f:=prc) (n:=10) (λ_=>rfl) l
theorem mR (l:List (RC×ZS×Bool)):∀ u∈prv l,Value.oneCell' u:=by
 intro u hu;obtain ⟨p, -,h⟩:=List.mem_flatMap.1 hu;simp only [prc,RC.cells,List.mem_append,List.mem_cons,List.not_mem_nil,or_false] at h;rcases h with (rfl|rfl|rfl|rfl|rfl|rfl|rfl|rfl)|(rfl|rfl)<;>rfl
theorem gM {l:List (Lp.X×ZS×Bool)} {pr:List (RC×ZS×Bool)} (h:PRl S w l pr):pr.length=l.length:=by
 have:=congrArg List.length h.1
 simpa using this
theorem Nd {S:Nat->Prop} {w:World}:∀ {xs ys:List Lp.X} {rs ts:List RC},RXL S w xs rs->RXL S w ys ts->RXL S w (xs++ys) (rs++ts)
 | [],_,[],_,_,h=>h
 | _::_,_,_::_,_,h,k=>⟨h.1,Nd h.2 k⟩
 | [],_,_::_,_,h,_=>h.elim
 | _::_,_,[],_,h,_=>h.elim
theorem Ki {S:Nat->Prop} {w:World}:∀ {xs:List Lp.X} {rs:List RC} {i:Nat} (_:RXL S w xs rs) (h:i<xs.length) (h':i<rs.length),RX S w xs[i] rs[i]
 | _::_,_::_,0,hp,_,_=>hp.1
 | _::xs,_::rs,i+1,hp,h,h'=>by
   have:=Ki (i:=i) hp.2 an (by simpa using h')
   simpa using this
 | [],_,_,_,h,_=>absurd h (Nat.not_lt_zero _)
 | _::_,[],_,_,_,h'=>absurd h' (Nat.not_lt_zero _)
theorem Nc {S:Nat->Prop} {w:World}:∀ {xs:List Lp.X} {rs:List RC},RXL S w xs rs->rs.length=xs.length
 | [],[],_=>rfl
 | _::_,_::_,h=>by simp [Nc h.2]
 | [],_::_,h=>h.elim
 | _::_,[],h=>h.elim
theorem Bc {rs:List RC} (hb:Below w w w') (h:RXL S w xs rs):RXL S w' xs rs:=fZ (λg h0 hl=>⟨h0,hb.block g hl⟩) h
theorem iX {l:List (Lp.X×ZS×Bool)} {pr:List (RC×ZS×Bool)} (hb:Below w w w') (h:PRl S w l pr):PRl S w' l pr:=⟨h.1,Bc hb h.2⟩
theorem kR {size:Nat} {e:TypeId} {v:Value} {xs:ZU} {r:Option Nat} (hk:fL w w' v.ownBlock r) (ho:w.ownsRow B e size v n xs) (he:e≠60) {l:List (Lp.X×ZS×Bool)} {pr:List (RC×ZS×Bool)} (h:PRl S w l pr):PRl S w' l pr:=⟨h.1,RXL.turn (λ_ _ h0 hg=>⟨h0,bV hk ho hg he⟩) h.2⟩
def TR (w:World) (A:ZT) (L:List Lp.X) (tr:List (RC×ZS×Bool)):Prop:=tr.length=L.length∧Rds w A (prv tr)∧RXL (λ_=>True) w L (tr.map (·.1))
theorem TR.below {w w':World} {A:ZT} {L:List Lp.X} {tr:List (RC×ZS×Bool)} (h:TR w A L tr) (hb:Below w w w'):TR w' A L tr:=⟨h.1,h.2.1.below hb,Bc hb h.2.2⟩
theorem Mw {c:Nat} {PI:List (Lp.X×ZS×Bool)} {pr qr:List (RC×ZS×Bool)} (ho:w.ownsRow B 72 10 (.slice A n c) n ([]++prv pr++prv qr)) (hL:L=(PI++orL s).map (·.1)) (h1:PRl (λ_=>True) w PI pr) (h2:PRl (λ_=>True) w (orL s) qr):TR w A L (pr++qr):=by
 subst hL;refine ⟨by rw [List.length_append,List.length_map,List.length_append,gM h1,gM h2], ?_, ?_⟩
 ·rw [Nm];exact Rds.own ho
 ·rw [List.map_append,List.map_append];exact Nd h1.2 h2.2
theorem Fe {tr:List (RC×ZS×Bool)} (h:TR w A L tr) (hi:i<tr.length) (hL:i<L.length):∃ b off,A=some ⟨b,off,none⟩∧RX (λ_=>True) w L[i] tr[i].1∧w.cell? ⟨b,off+i*10,none⟩=some (.int .u8 tr[i].1.k)∧w.cell? ⟨b,off+i*10+1,none⟩=some (.int .u8 tr[i].1.vk)∧w.cell? ⟨b,off+i*10+2,none⟩=some (.int .i64 tr[i].1.vi)∧w.cell? ⟨b,off+i*10+3,none⟩=some (.string tr[i].1.vs)∧w.cell? ⟨b,off+i*10+4,none⟩=some (.bool tr[i].1.vb)∧w.cell? ⟨b,off+i*10+5,none⟩=some (.string tr[i].1.t)∧w.cell? ⟨b,off+i*10+6,none⟩=some (.string tr[i].1.s)∧w.cell? ⟨b,off+i*10+7,none⟩=some (.slice tr[i].1.A tr[i].1.n tr[i].1.c)∧w.cell? ⟨b,off+i*10+8,none⟩=some (.string ⟨tr[i].2.1.toArray⟩)∧w.cell? ⟨b,off+i*10+9,none⟩=some (.bool tr[i].2.2):=by
 obtain ⟨-,h2,h3⟩:=h;have at0:=λ(k:Nat) (hk:k<10)=>vZ (f:=prc) (n:=10) (λ_=>rfl) tr i k hi hk;rcases h2 with hn|⟨b,off,rfl,hc⟩
 ·have:=at0 0 am;rw [show tr.flatMap prc=[] from hn] at this;simp [prc,RC.cells] at this
 ·have at_:=λ(k:Nat) (hk:k<10) (u:Value) (hu:(prc tr[i])[k]? = some u)=>hc (i*10+k) u ((at0 k hk).trans hu);have hx:=Ki h3 (i:=i) hL (by rw [List.length_map];exact hi);rw [List.getElem_map] at hx;exact ⟨b,off,rfl,hx,at_ 0 am _ rfl,at_ 1 am _ rfl,at_ 2 am _ rfl,at_ 3 am _ rfl,at_ 4 am _ rfl,at_ 5 am _ rfl,at_ 6 am _ rfl,at_ 7 am _ rfl,at_ 8 am _ rfl,at_ 9 am _ rfl⟩
theorem Tx {f:Lp.X->Bool} {b:Bool} (h:i<xs.length) (ha:(xs.take i).any f=false) (hr:f xs[i]=b):(xs.take (i+1)).any f=b:=by
 rw [List.take_succ_eq_append_getElem h,List.any_append,ha];simp [hr]
theorem Rm (h:(dJ sc s).any jC=false) (hn:n=s.group.length):Ending.returned (.bool (decide (0<n)))=.returned (.bool (mL sc s)):=by
 subst hn;rw [mL,h,Bool.or_false];cases s.group<;>simp
theorem Rl (hx:dJ sc s=xs) (h:(xs.take i).any jC=true):Ending.returned (.bool true)=.returned (.bool (mL sc s)):=by
 rw [<-hx] at h;obtain ⟨x,h1,h2⟩:=List.any_eq_true.1 h;rw [mL,List.any_eq_true.2 ⟨x,List.mem_of_mem_take h1,h2⟩,Bool.or_true]
theorem rJ (A:ZT) (c:Nat) (l:List dW) (s:Sel) (cs:ZU) (w:World) (hA:ScA w A l) (hok:nA (aE l)) (h13:Cs13 cs) (hf:∀ j u,cs[j]? = some u->FldR (λ_=>True) w s j u) (hli:(aY (aE l) s).length≤30) (hlo:s.order.length≤10) :
 Calls prog 20 #[.slice A l.length c,.agg cs.toArray] w λe w'=>e=.returned (.bool (mL (aE l) s))∧Below w w w':=by
 have HI:=λ(W:World) (hb:Below w w W)=>pS A c l s cs W (hA.below hb) hok h13 (λj u hj=>(hf j u hj).turn λg _ hl=>⟨trivial,hb.block g hl⟩);obtain ⟨k,s1,s2,s3,A4,n4,c4,A5,n5,c5,A6,n6,c6,A7,n7,c7,A8,n8,c8,A9,n9,c9,A10,n10,c10,A11,n11,c11,li,rfl⟩:=nE h13;obtain ⟨Ae,ce,qr,e11,r11,p11⟩:PR (λ_=>True) w (orL s) (.slice A11 n11 c11):=hf 11 _ rfl;injection e11 with eA e11 eC;subst eA eC;have hqn:qr.length=n11:=by rw [e11,gM p11]
 have e10:n10=s.group.length:=by
  obtain ⟨Ag,cg,rg,e, -⟩:GR (λ_=>True) w s.group (.slice A10 n10 c10):=hf 10 _ rfl;injection e
 have hq10:n11≤10:=KM
 obtain ⟨iP,hiP,hz0,hz1,hz2⟩:=KK;have hb0:=KL;have HB0:=κ (heap_alloc_new w (.cells #[.int .u8 k,s1,s2,s3,.slice A4 n4 c4,.slice A5 n5 c5,.slice A6 n6 c6,.slice A7 n7 c7,.slice A8 n8 c8,.slice A9 n9 c9,.slice A10 n10 c10,.slice A11 n11 c11,.int .i64 li] 38));have HIq:=κ (λ(Wq:World) (hq:Below (w.alloc (.cells #[.int .u8 k,s1,s2,s3,.slice A4 n4 c4,.slice A5 n5 c5,.slice A6 n6 c6,.slice A7 n7 c7,.slice A8 n8 c8,.slice A9 n9 c9,.slice A10 n10 c10,.slice A11 n11 c11,.int .i64 li] 38)) (w.alloc (.cells #[.int .u8 k,s1,s2,s3,.slice A4 n4 c4,.slice A5 n5 c5,.slice A6 n6 c6,.slice A7 n7 c7,.slice A8 n8 c8,.slice A9 n9 c9,.slice A10 n10 c10,.slice A11 n11 c11,.int .i64 li] 38)) Wq)=>HI Wq (hb0.trans (hq.mono hb0.size)));have HR:=κ (ι (RdS.turn (S':=λ_=>True) (λg _ hl=>⟨trivial,hb0.block g hl⟩) r11) (ι (iX hb0 p11) hqn));have HPI:=κ (Mx (aE l) s);have HN10:=κ e10;have HB:=sv;have hl30:=KN
 have hll:=KO
 have hc:=β HB0.o;clear e11 e10 r11 p11 hqn hf h13 hA HI hb0;go_enter func20,ntmps20;go_upto_region 1 with fail;have HBX:=HB0;clear hc HB0;generalize hW:(w.alloc (.cells #[.int .u8 k,s1,s2,s3,.slice A4 n4 c4,.slice A5 n5 c5,.slice A6 n6 c6,.slice A7 n7 c7,.slice A8 n8 c8,.slice A9 n9 c9,.slice A10 n10 c10,.slice A11 n11 c11,.int .i64 li] 38))=W at *;generalize jR (aY (aE l) s)=PI at *;generalize hLL:dJ (aE l) s=LL at *;have HX:=κ hLL;clear hW hLL
 go_cut [14,15,16] (λs14 s15 s16 wx=>∃ At ct tr,s14=.slice At tr.length ct∧s15=.int .i64 (tr.length:Int)∧s16=.int .i64 0∧TR wx At LL tr∧Below W W wx)
 case first =>
  as_aux_lemma =>
   refine eR (S:=λw'=>∀ j,w'.cell? ⟨w.heap.size,j,none⟩=(#[.int .u8 k,s1,s2,s3,.slice A4 n4 c4,.slice A5 n5 c5,.slice A6 n6 c6,.slice A7 n7 c7,.slice A8 n8 c8,.slice A9 n9 c9,.slice A10 n10 c10,.slice A11 n11 c11,.int .i64 li]:ZV)[j]?) (λ_=>True) 99 aj (β HBX.o) trivial (λhS hT => ?_);refine tkE false 1 8 ?_;refine tkE false 2 9 ?_;refine tkE false 5 12 ?_;refine tkE false 6 13 ?_;refine tkE false 9 16 ?_;simp only [Act.put,dT,gX,gY];refine aCE 0 3 (λK hK => ?_) λK hK => ?_
   ·go_simp;refine hK.out _ _ (β (aB HBX.o _)) trivial (λhS hT => ?_);clear hK K;refine stE 3 λK hK => ?_;go_simp;go_at_call 19;refine (HIq.o _ (ρ).drew).mono ?_;rintro e w2 ⟨⟨u,rfl,Ai,ci,pr,rfl,hr1,hr2⟩,hb2⟩;have ho0:=aN (World.ownsRow_made (e:=72) (size:=10) W #[] 0 (ν _) FF rfl).drew hb2;have hb3:Below W W w2:=((ρ).drew).trans (hb2.mono aa);have hrr:=hr1.rds;refine hK.out _ _ (β (aA HBX.o hb3)) trivial (λhS hT => ?_);clear hK K hr1 hb2;refine stE 4 λK hK => ?_;refine bL _ rfl (.tmp 7) (.tmp 10) _ rfl W 72 iP _ 10 128 underlying35 hiP hz0 hz1 hz2 rfl ac _ 0 0 [] rfl ho0 Ai PI.length ci (prv pr) rfl KP hrr (mR pr) ?_ ?_ ?_ ?_
    ·simp only [maxLen];omega
    ·omega
    ·exact hb3.size
    intro A5' c5' w5 ho5 hb5 hg5 hk5;have hb6:=hb3.trans hb5;change K (Act.put _ (some 11) _) _;refine hK.out _ _ (β (aA HBX.o hb6)) trivial (λhS hT => ?_);have hr5:=KR;clear hK K hk5 hg5;refine stE 7 λK hK => ?_;refine bL _ rfl (.tmp 11) (.tmp 13) _ rfl W 72 iP _ 10 128 underlying35 hiP hz0 hz1 hz2 rfl ac A5' (0+PI.length) c5' _ rfl ho5 A11 n11 c11 (prv qr) rfl KQ (HR.o.1.rds.below hb6) (mR qr) ?_ ?_ ?_ ?_
    ·simp only [maxLen];omega
    ·omega
    ·exact hb6.size
    intro A8' c8' w8 ho8 hb8 hg8 hk8;have hb9:=hb6.trans hb8;change K (Act.put _ (some 14) _) _;refine hK.out _ _ (β (aA HBX.o hb9)) trivial (λhS hT => ?_);have HTR:=KU;have HLn:=KT;have HB9:=κ hb9;clear hK K hk8 hg8 hr5 ho0 hb3 hrr hr2 ho5 hb5 hb6 ho8 hb8 hb9 hS hT;rw [HLn.o];generalize pr++qr=tr at *;have hS:=KS;refine tkE false 8 15 ?_;simp only [Act.put,dT,gX,gY];refine dY ?_ rfl _;clear hS hT;go_wp2
    go_meet
    exact ⟨A8',c8',tr,rfl,rfl,rfl,HTR.o,HB9.o⟩
   ·go_simp;go_at_call 19;refine (HIq.o _ (θ).drew).mono ?_;rintro e w2 ⟨⟨u,rfl,Ai,ci,pr,rfl,hr1,hr2⟩,hb2⟩;have hbq:Below W W w2:=(θ).drew.trans hb2;refine hK.out _ _ (β (aA HBX.o hbq)) trivial (λhS hT => ?_);clear hK K;refine stE 0 λK hK => ?_;go_simp;have ho0:=World.ownsRow_made (base:=W.heap.size) (e:=72) (size:=10) w2 #[] 0 hbq.size FF rfl;have hbA:Below w2 w2 (w2.alloc (.cells #[] 72)):=ρ;have hb3:=hbq.trans (hbA.mono hbq.size);have hrr:=hr1.rds.below hbA;replace hr2:=iX hbA hr2;refine hK.out _ _ (β (aA HBX.o hb3)) trivial (λhS hT => ?_);clear hK K hr1 hb2 hbq hbA;refine stE 4 λK hK => ?_;refine bL _ rfl (.tmp 7) (.tmp 10) _ rfl W 72 iP _ 10 128 underlying35 hiP hz0 hz1 hz2 rfl ac _ 0 0 [] rfl ho0 Ai PI.length ci (prv pr) rfl KP hrr (mR pr) ?_ ?_ ?_ ?_
    ·simp only [maxLen];omega
    ·omega
    ·exact hb3.size
    intro A5' c5' w5 ho5 hb5 hg5 hk5;have hb6:=hb3.trans hb5;change K (Act.put _ (some 11) _) _;refine hK.out _ _ (β (aA HBX.o hb6)) trivial (λhS hT => ?_);have hr5:=KR;clear hK K hk5 hg5;refine stE 7 λK hK => ?_;refine bL _ rfl (.tmp 11) (.tmp 13) _ rfl W 72 iP _ 10 128 underlying35 hiP hz0 hz1 hz2 rfl ac A5' (0+PI.length) c5' _ rfl ho5 A11 n11 c11 (prv qr) rfl KQ (HR.o.1.rds.below hb6) (mR qr) ?_ ?_ ?_ ?_
    ·simp only [maxLen];omega
    ·omega
    ·exact hb6.size
    intro A8' c8' w8 ho8 hb8 hg8 hk8;have hb9:=hb6.trans hb8;change K (Act.put _ (some 14) _) _;refine hK.out _ _ (β (aA HBX.o hb9)) trivial (λhS hT => ?_);have HTR:=KU;have HLn:=KT;have HB9:=κ hb9;clear hK K hk8 hg8 hr5 ho0 hb3 hrr hr2 ho5 hb5 hb6 ho8 hb8 hb9 hS hT;rw [HLn.o];generalize pr++qr=tr at *;have hS:=KS;refine tkE false 8 15 ?_;simp only [Act.put,dT,gX,gY];refine dY ?_ rfl _;clear hS hT;go_wp2
    go_meet
    exact ⟨A8',c8',tr,rfl,rfl,rfl,HTR.o,HB9.o⟩
 case rest =>
  obtain ⟨At,ct,tr,rfl,rfl,rfl,h1,h2⟩:=sn;generalize wc=W1 at *;have HT:=κ h1;have HW:=κ h2;have hl1:=Nat.le_of_eq h1.1;have hl2:=Nat.le_of_eq h1.1.symm;clear h1 h2 HR HPI HIq;go_wp2_with fail
  go_loopw [6,16] (λ_ s16 wr=>∃ i:Nat,i≤tr.length∧s16=.int .i64 i∧(LL.take i).any jC=false∧Below W1 W1 wr) (λ_ s16 _=>tr.length-(intOf s16).toNat)
  case atStart=>exact ⟨0,Nat.zero_le _,rfl,rfl,θ⟩
  case round =>
   obtain ⟨i,hi,rfl,ha,hb⟩:=dd
   by_cases hlt:i<tr.length
   ·have hiL:i<LL.length:=ac
    obtain ⟨bR,oR,hAR,hrx,q0,q1,q2,q3,q4,q5,q6,q7,q8,q9⟩:=KZ;have HA:=κ (λb (h:jC LL[i]=b)=>Tx (b:=b) (f:=jC) hiL ha h);subst hAR;generalize tr[i]=p at *;generalize LL[i]=x at *;obtain ⟨⟨rk,rvk,rvi,rvs,rvb,rt,rs0,rA,rn,rc⟩,nm,ds⟩:=p;simp only at hrx q0 q1 q2 q3 q4 q5 q6 q7 q8 q9;have hbP:=KY;have y:=KX;have HC:=κ (Ri x _ _ _ (RX.below hbP hrx));simp only [RC.val] at HC;have HQ:=KW;generalize jC x=b at *;clear ha hb hrx hbP;go_wp2_with fail;refine μ HC ?_;rintro e w9 ⟨rfl,hb9⟩;have HQ9:=KV;clear hb9 y q0 q1 q2 q3 q4 q5 q6 q7 q8 q9;cases b
    ·have HN:=κ (HA.o _ rfl);go_wp2
     go_roundw
     case rel=>exact ⟨i+1,ac,de,HN.o,HQ9.o⟩
     case measure=>simp [intOf];omega
    ·have HN:=κ (HA.o _ rfl);have HY:=κ (HB.o.trans ((HW.o.trans (HQ9.o.mono HW.o.size)).mono HB.o.size));go_wp2;go_ret;exact ⟨Rl HX.o HN.o,HY.o⟩
   ·have hi2:i=LL.length:=ac
    rw [hi2,List.take_length, <-HX.o] at ha;have HN:=κ ha;have y:wr.cell? ⟨w,10,none⟩=some (.slice A10 n10 c10):=β (aA HBX.o (HW.o.trans (hb.mono HW.o.size))) 10;have HY:=κ (HB.o.trans ((HW.o.trans (hb.mono HW.o.size)).mono HB.o.size));clear hi2 ha hb;go_wp2;go_ret;exact ⟨Rm HN.o HN10.o,HY.o⟩
theorem Ve {gs:List Lp.X} (hx:x.wf) (kx:eW sc x) (hg:∀ g∈gs,g.wf∧eW sc g) :
 setX sc gs x=(iO x==6||(gs.any λg=>aO sc g==aO sc x)||(!(iO x==2)&&(dR x).all (setX sc gs))):=by
 have e:(gs.any λg=>bU sc g x)=gs.any λg=>aO sc g==aO sc x:=by
  rw [Bool.eq_iff_iff];simp only [List.any_eq_true]
  constructor
  ·rintro ⟨g,h1,h2⟩;exact ⟨g,h1,by rw [<-sL (hg g h1).1 hx (hg g h1).2 kx];exact h2⟩
  ·rintro ⟨g,h1,h2⟩;exact ⟨g,h1,by rw [sL (hg g h1).1 hx (hg g h1).2 kx];exact h2⟩
 rw [<-e];cases x<;>simp [setX,dR,iO]
theorem aEJ (hx:x.wf) (kx:eW sc x):∀ y∈dR x,y.wf∧eW sc y∧y.size≤x.size:=by
 intro y hy;cases x with
 | lit=>cases hy
 | col=>cases hy
 | cnt=>cases hy
 | un op x=>rw [List.mem_singleton.1 hy];exact ⟨hx.2,kx,IL⟩
 | isn n x=>rw [List.mem_singleton.1 hy];exact ⟨hx,kx,IL⟩
 | agg op x=>rw [List.mem_singleton.1 hy];exact ⟨hx.2,kx,IL⟩
 | bin op a b =>
   rcases List.mem_cons.1 hy with rfl|hy
   ·exact ⟨hx.2.1,kx.1,by simp [Lp.X.size];omega⟩
   ·rw [List.mem_singleton.1 hy];exact ⟨hx.2.2,kx.2,by simp [Lp.X.size];omega⟩
theorem fE {a:Addr} {u:Value} (h:w.cell? a=some u) (hb:Below w w w'):w'.cell? a=some u:=(hb.cell (p:=a) (World.block_lt_of_cell? w a h)).trans h
theorem Nw {W:World} {g gz:Nat} {u0 u1 u2 u3 u4 u5 u6 u7 v0 v1 v2 v3 v4 v5 v6 v7:Value} (hb:Below w w W) (h0:w.cell? ⟨g,0,none⟩=some u0) (h1:w.cell? ⟨g,1,none⟩=some u1) (h2:w.cell? ⟨g,2,none⟩=some u2) (h3:w.cell? ⟨g,3,none⟩=some u3) (h4:w.cell? ⟨g,4,none⟩=some u4) (h5:w.cell? ⟨g,5,none⟩=some u5) (h6:w.cell? ⟨g,6,none⟩=some u6) (h7:w.cell? ⟨g,7,none⟩=some u7) (j0:w.cell? ⟨gz,0,none⟩=some v0) (j1:w.cell? ⟨gz,1,none⟩=some v1) (j2:w.cell? ⟨gz,2,none⟩=some v2) (j3:w.cell? ⟨gz,3,none⟩=some v3) (j4:w.cell? ⟨gz,4,none⟩=some v4) (j5:w.cell? ⟨gz,5,none⟩=some v5) (j6:w.cell? ⟨gz,6,none⟩=some v6) (j7:w.cell? ⟨gz,7,none⟩=some v7) :
 W.cell? ⟨g,0,none⟩=some u0∧W.cell? ⟨g,1,none⟩=some u1∧W.cell? ⟨g,2,none⟩=some u2∧W.cell? ⟨g,3,none⟩=some u3∧W.cell? ⟨g,4,none⟩=some u4∧W.cell? ⟨g,5,none⟩=some u5∧W.cell? ⟨g,6,none⟩=some u6∧W.cell? ⟨g,7,none⟩=some u7∧W.cell? ⟨gz,0,none⟩=some v0∧W.cell? ⟨gz,1,none⟩=some v1∧W.cell? ⟨gz,2,none⟩=some v2∧W.cell? ⟨gz,3,none⟩=some v3∧W.cell? ⟨gz,4,none⟩=some v4∧W.cell? ⟨gz,5,none⟩=some v5∧W.cell? ⟨gz,6,none⟩=some v6∧W.cell? ⟨gz,7,none⟩=some v7 :=
 ⟨fE h0 hb,fE h1 hb,fE h2 hb,fE h3 hb,fE h4 hb,fE h5 hb,fE h6 hb,fE h7 hb,fE j0 hb,fE j1 hb,fE j2 hb,fE j3 hb,fE j4 hb,fE j5 hb,fE j6 hb,fE j7 hb⟩
theorem aAX {f:Lp.X->Bool} (h:i<xs.length) (ha:(xs.take i).all f=true) (hr:f xs[i]=true):(xs.take (i+1)).all f=true:=by
 rw [List.take_succ_eq_append_getElem h,List.all_append,ha];simp [hr]
theorem aJK {f:Lp.X->Bool} (h:i<xs.length) (hr:f xs[i]=false):xs.all f=false:=by
 rw [List.all_eq_false];exact ⟨xs[i],List.getElem_mem h,by rw [hr];decide⟩
def aBF (A:ZT) (c:Nat) (l:List dW) (gs:List Lp.X) (x:Lp.X):Prop:=∀ (S:Nat->Prop) (w:World) (r:RC) (Ag:ZT) (cg:Nat) (rg:List RC),ScA w A l->RX S w x r->Pts S w Ag gs rg->Calls prog 58 #[.slice A l.length c,r.val,.slice Ag gs.length cg] w λe w'=>e=.returned (.bool (setX (aE l) gs x))∧Below w w w'
theorem Vd (A:ZT) (c:Nat) (l:List dW) (hn:l.length≤100) (hw:bY (aE l)≤10000) (gs:List Lp.X) (hgs:∀ g∈gs,(g.wf∧eW (aE l) g)∧g.size≤10000) (hgl:gs.length≤100) (x:Lp.X) (hx:x.wf) (kx:eW (aE l) x) (hz:x.size≤10000) (ho:∀ y∈dR x,aBF A c l gs y):aBF A c l gs x:=by
 intro S w r Ag cg rg hA hr hG;have hf:=Ve hx kx λg hg=>(hgs g hg).1;have hkl:=sY x;obtain ⟨h1,h2,rs,hp⟩:=Nf hr;have M6:=λ(W:World) (hA:ScA W A l) (hr:RX S W x r)=>jT A c l hn hw x hx hz S W r hA hr;obtain ⟨k,vk,vi,vs,vb,t,op,Ar,n,c8⟩:=r;simp only at h1 h2 hp;subst h1 h2;unfold shB at M6;have HF:=mh;have HM:=κ M6;clear hf M6;obtain ⟨L2,hL2⟩:∃ L,aO (aE l) x=L:=cw;rw [hL2] at HF HM;have hb0:Below w w (w.alloc (.cells #[.int .u8 (iO x),.int .u8 vk,vi,vs,vb,t,op,.slice Ar (dR x).length c8] 60)):=ρ;have hz0:=heap_alloc_new w (.cells #[.int .u8 (iO x),.int .u8 vk,vi,vs,vb,t,op,.slice Ar (dR x).length c8] 60);have HB:=κ (ι hb0 (ι hz0 (ι (hp.below hb0) (ι (hA.below hb0) (ι (RX.below hb0 hr) (hG.below hb0))))));have HO:=κ ho;have hc:=sw;simp only [RC.val];generalize iO x=k at *;generalize dR x=xs at *;have hnI:=FW
 have hgI:(gs.length:Int)≤100:=ac
 clear hb0 hz0 hp ho hr hA hG hL2 kx hx;go_enter func58,ntmps58;obtain ⟨b6,h6⟩:∃ b,(k==6)=b:=cw;rw [h6] at HF;cases b6
 ·go_wp2_with fail;generalize (w.alloc (.cells #[.int .u8 k,.int .u8 vk,vi,vs,vb,t,op,.slice Ar xs.length c8] 60))=W at *;clear hc h6
  go_loopw [8,16] (λ_ s16 wr=>∃ i:Nat,i≤gs.length∧s16=.int .i64 i∧(gs.take i).any (λg=>aO (aE l) g==L2)=false∧Below W W wr) (λ_ s16 _=>gs.length-(intOf s16).toNat)
  case atStart=>exact ⟨0,Nat.zero_le _,rfl,rfl,θ⟩
  case round =>
   obtain ⟨i,hi,rfl,ha,hb⟩:=dd;have hkw:=FX
   by_cases hlt:i<gs.length
   ·have hpw:=HB.o.2.2.2.2.2.below hb;have hri:i<rg.length:=IM
    obtain ⟨bR,oR,hAR,q0,q1,q2,q3,q4,q5,q6,q7⟩:=GD;have hrx:=GC;have hg1:=hgs _ (List.getElem_mem hlt);have M5:=λ(W:World) (hA:ScA W A l) (hr:RX S W gs[i] rg[i])=>jT A c l hn hw gs[i] hg1.1.1 hg1.2 S W rg[i] hA hr;have HNO:=κ (Je (f:=λg=>aO (aE l) g==L2) hlt ha);have HYE:=κ (Om (f:=λg=>aO (aE l) g==L2) hlt);subst hAR;unfold shB at M5;generalize rg[i]=r at *;generalize gs[i]=y at *;obtain ⟨L1,hL1⟩:∃ L,aO (aE l) y=L:=cw;simp only [hL1] at HNO HYE M5;obtain ⟨rk,rvk,rvi,rvs,rvb,rt,rs0,rA,rn,rc⟩:=r;have hbx:=GA;have hy0:=IE;have hx0:=aA (aA HB.o.2.1 hb) hbx;have HX:=FZ;obtain ⟨WR,hWR⟩:∃ WR,wr.alloc (.cells #[.int .u8 rk,.int .u8 rvk,rvi,rvs,rvb,rt,rs0,.slice rA rn rc] 60)=WR:=cw;have HWR:=κ hWR;rw [hWR] at hbx hy0 hx0 HX;have K5:=κ (λ(Wq:World) (hq:Below WR.heap.size WR Wq)=>(M5 Wq ((HB.o.2.2.2.1.below HX.o).below hq) (RX.below hq (RX.below hbx hrx))).mono λ_ _ h=>ι h.1 (hq.trans (h.2.mono hq.size)))
    have K6:=κ (λ(Wq:World) (hq:Below WR WR Wq)=>(HM.o Wq ((HB.o.2.2.2.1.below HX.o).below hq) (RX.below hq (RX.below HX.o HB.o.2.2.2.2.1))).mono λ_ _ h=>ι h.1 (hq.trans (h.2.mono hq.size)));simp only [RC.val] at K5 K6;have a0:=oe;have b0:=β hy0 0;have a1:=β hx0 1;have b1:=β hy0 1;have a2:=β hx0 2;have b2:=β hy0 2;have a3:=β hx0 3;have b3:=β hy0 3;have a4:=β hx0 4;have b4:=β hy0 4;have a5:=β hx0 5;have b5:=β hy0 5;have a6:=β hx0 6;have b6:=β hy0 6;have a7:=β hx0 7;have b7:=β hy0 7;simp only [γ,δ,ε] at a0 a1 a2 a3 a4 a5 a6 a7 b0 b1 b2 b3 b4 b5 b6 b7;obtain ⟨bs,hbs⟩:∃ bs,(L1==L2)=bs:=cw;clear ha hb hpw hri hrx hbx hkw M5 hx0 hy0 hL1 hg1 hWR;go_wp2_with fail;go_upto_region 6 with fail;rw [HWR.o];clear HWR q0 q1 q2 q3 q4 q5 q6 q7
    go_cut [26] (λs26 wx=>s26=.bool bs∧Below WR WR wx)
    case first =>
     first|go_region_held_law (λw'=>w'.cell? ⟨w,0,none⟩=some (.int .u8 k)∧w'.cell? ⟨w,1,none⟩=some (.int .u8 vk)∧w'.cell? ⟨w,2,none⟩=some (.int .i64 vi)∧w'.cell? ⟨w,3,none⟩=some (.string vs)∧w'.cell? ⟨w,4,none⟩=some (.bool vb)∧w'.cell? ⟨w,5,none⟩=some (.string t)∧w'.cell? ⟨w,6,none⟩=some (.string op)∧w'.cell? ⟨w,7,none⟩=some (.slice Ar xs.length c8)∧w'.cell? ⟨wr,0,none⟩=some (.int .u8 rk)∧w'.cell? ⟨wr,1,none⟩=some (.int .u8 rvk)∧w'.cell? ⟨wr,2,none⟩=some (.int .i64 rvi)∧w'.cell? ⟨wr,3,none⟩=some (.string rvs)∧w'.cell? ⟨wr,4,none⟩=some (.bool rvb)∧w'.cell? ⟨wr,5,none⟩=some (.string rt)∧w'.cell? ⟨wr,6,none⟩=some (.string rs0)∧w'.cell? ⟨wr,7,none⟩=some (.slice rA rn rc))
      (first|go_keep|exact hd2)
      ((go_simp;first
        | (go_at_call 13;with_reducible refine (K5.o _ EU).mono ?_;rintro e w2 ⟨rfl,hb⟩;have hd2:=Nw hb a0 a1 a2 a3 a4 a5 a6 a7 b0 b1 b2 b3 b4 b5 b6 b7)
        | (go_at_call 13;with_reducible refine (K6.o _ EU).mono ?_;rintro e w2 ⟨rfl,hb⟩;have hd2:=Nw hb a0 a1 a2 a3 a4 a5 a6 a7 b0 b1 b2 b3 b4 b5 b6 b7)))|fail
     all_goals
      go_wp2
      go_meet
      exact ⟨aa,by assumption⟩
    case rest =>
     obtain ⟨rfl,hbc⟩:=sn;have HQ:=κ (HX.o.trans (hbc.mono HX.o.size));rw [hbs] at HNO HYE;clear hbc a0 a1 a2 a3 a4 a5 a6 a7 b0 b1 b2 b3 b4 b5 b6 b7 hbs K5 K6;cases bs
     ·have HN:=κ (HNO.o rfl);go_wp2
      go_roundw
      case rel=>exact ⟨i+1,ac,de,HN.o,HQ.o⟩
      case measure=>simp [intOf];omega
     ·have HN:=κ (HYE.o rfl);have HQ2:=κ (HB.o.1.trans (HQ.o.mono HB.o.1.size));go_wp2;go_ret;exact GE
   ·have hi2:i=gs.length:=ac
    rw [hi2,List.take_length] at ha;rw [ha] at HF;have hc:=β (aA HB.o.2.1 hb);have HBW:=dm;have HQ:=κ hkw;clear hb hkw hi2 ha;obtain ⟨b2,h2⟩:∃ b,(k==2)=b:=cw;rw [h2] at HF;cases b2
    ·generalize wr=wo at *;go_wp2_with fail;clear hc h2
     go_loopw [10,34] (λ_ s34 wr=>∃ i:Nat,i≤xs.length∧s34=.int .i64 i∧(xs.take i).all (setX (aE l) gs)=true∧Below wo wo wr) (λ_ s34 _=>xs.length-(intOf s34).toNat)
     case atStart=>exact ⟨0,Nat.zero_le _,rfl,rfl,θ⟩
     case round =>
      obtain ⟨i,hi,rfl,ha,hb1⟩:=dd;have hb:=HBW.o.trans (hb1.mono HBW.o.size);have hkw:=FX
      by_cases hlt:i<xs.length
      ·have hpw:=HB.o.2.2.1.below hb;have hri:=FY
       obtain ⟨bR,oR,hAR,q0,q1,q2,q3,q4,q5,q6,q7⟩:=GD;have hrx:=GC;have hok:=GB;have HYE:=κ (aAX (f:=setX (aE l) gs) hlt ha);have HNO:=κ (aJK (f:=setX (aE l) gs) hlt);subst hAR;generalize rs[i]=r at *;generalize xs[i]=y at *;obtain ⟨rk,rvk,rvi,rvs,rvb,rt,rs0,rA,rn,rc⟩:=r;have hbx:=GA;have HX:=FZ;have HX1:=κ (hb1.trans (hbx.mono hb1.size));have HC:=κ (hok S _ _ Ag cg rg (HB.o.2.2.2.1.below HX.o) (RX.below hbx hrx) (HB.o.2.2.2.2.2.below HX.o));simp only [RC.val] at HC;generalize setX (aE l) gs y=b at *;clear ha hb hb1 hpw hri hrx hok hbx hkw;go_wp2_with fail;refine μ HC ?_;rintro e w9 ⟨rfl,hb9⟩;have HQ:=κ (HX1.o.trans (hb9.mono HX1.o.size));have HQ2:=κ (HB.o.1.trans ((HX.o.trans (hb9.mono HX.o.size)).mono HB.o.1.size));cases b
       ·have HN:=κ (HNO.o rfl);clear hb9 q0 q1 q2 q3 q4 q5 q6 q7;go_wp2;go_ret;exact GE
       ·have HN:=κ (HYE.o rfl);clear hb9 q0 q1 q2 q3 q4 q5 q6 q7;go_wp2
        go_roundw
        case rel=>exact ⟨i+1,ac,de,HN.o,HQ.o⟩
        case measure=>simp [intOf];omega
      ·have hi2:=ld
       rw [hi2,List.take_length] at ha;rw [ha] at HF;have HQ:=κ hkw;clear hb hb1 hkw hi2 ha;go_wp2;go_ret;exact ⟨FE,HQ.o⟩
    ·go_wp2;go_ret;exact ⟨FE,HQ.o⟩
 ·go_wp2;go_ret;exact ⟨FE,HB.o.1⟩
theorem Pm (A:ZT) (c:Nat) (l:List dW) (hn:l.length≤100) (hw:bY (aE l)≤10000) (gs:List Lp.X) (hgs:∀ g∈gs,(g.wf∧eW (aE l) g)∧g.size≤10000) (hgl:gs.length≤100):∀ x:Lp.X,x.wf->eW (aE l) x->x.size≤10000->aBF A c l gs x :=
 Hp λx ih hx kx hz=>Vd A c l hn hw gs hgs hgl x hx kx hz λy hy=>by
  obtain ⟨h1,h2,h3⟩:=aEJ hx kx y hy;exact ih y hy h1 h2 (Nat.le_trans h3 hz)
