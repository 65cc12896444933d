/-
 Contracts. Conditions: those of each.
-/
import Derived.Test.YtkolcimllghnaaaGreatDoorQcVK
set_option maxRecDepth 100000
set_option maxHeartbeats 20000000
namespace Go.Proofs.YtkolcimllghnaaaGreatDoor
open Lp Go.Proofs.Tryz
open Go.RowKit
variable{bad:Int}{B P d k most n size:Nat}{e:TypeId}{v:Value}{w w' w0:World}{cs xs:ZU}{l r:ZW}
theorem Nh:(prog.info? 60).map (λi=>(i.zero,i.size,i.bytes))=some (some rcZ.val,8,104):=aj
theorem Lx (h:bad≠0):mJ bad l=false:=by simp [mJ,h]
theorem xW (P d:Nat) (n most:Nat) (w:World) (h:RBad P w d) :
 Calls prog 84 #[P,.int .i64 n,.int .i64 most] w λe w'=>e=.returned (.bool false)/\But P w w'/\RBad P w' d:=by
 obtain ⟨l',d',b',hb,hp,h1,h2⟩:=h;refine (xX P d' b' n most l' w hp).mono ?_;rintro e w' ⟨hbw,hq⟩;rw [if_neg (by rw [Lx hb];decide)] at hq;exact ⟨hq.1,hbw,l',d',b',hb,hq.2,h1,h2⟩
theorem Xv (P d most:Nat) (w:World) (h:RBad P w d) :
 Calls prog 83 #[P,.int .i64 most] w λe w'=>(∃ A n c,e=.returned (.slice A n c))/\But P w w'/\RBad P w' d:=by
 obtain ⟨iE,hiE,hz0,hz1,hz2⟩:=info_parts Nh;have HE:=κ (nU 1 P d w h);clear h;go_enter func83,ntmps83;go_wp2_with fail
 go_loopg [5] 1 (λgk s5 wr=>gk=1/\s5=.slice none 0 0/\wr=w)
 case atStart=>exact ⟨rfl,rfl,rfl⟩
 case round =>
  obtain ⟨rfl,rfl,rfl⟩:=de;go_wp2_with fail;refine μ HE ?_;rintro e w1 ⟨rfl,hb1,hp1⟩;have H1:=ny;clear hb1 hp1 HE;simp only [RC.val,rcZ];go_wp2_with (at_builtin;refine bJ _ rfl (.tmp 6) (.tmp 9) _ rfl w1 60 iE _ 8 104 underlying36 hiE hz0 hz1 hz2 rfl ac none 0 0 [] rfl (World.ownsRow_nil _ _ _ _) _ 1 1 rcZ.cells rfl rfl (aS rcZ.cells (heap_alloc_new _ _)) (by simp [rcZ,RC.cells,Value.oneCell']) uc ac aa ?_;intro A5 c5 w5 _ hb5 _ _);have hb15:Below w1 w1 w5:=((Below.refl w1 w1).alloc (ν _) _).trans hb5;have HM:=κ (xW P d 1 most w5 (H1.o.2.below hb15));have H5:=κ (H1.o.1.trans (But.of hb15));clear hb15 hb5 H1;refine μ HM ?_;rintro e w6 ⟨rfl,hb6,hp6⟩;have H6:=κ (ι (H5.o.trans hb6) hp6);clear hb6 hp6 H5 HM;go_wp2;go_ret;exact ⟨⟨_,_,_,rfl⟩,H6.o.1,H6.o.2⟩
def rcv (L:List RC):ZU:=L.flatMap RC.cells
theorem aCX (L M:List RC):rcv (L++M)=rcv L++rcv M:=by simp [rcv]
def RXL (S:Nat->Prop) (w:World):List Lp.X->List RC->Prop
 | [],[]=>True
 | x::xs,r::rs=>RX S w x r/\RXL S w xs rs
 | _,_=>False
theorem RXL.turn {S S':Nat->Prop} {w w':World} (hs:∀ g cs,S g->w.heap[g]? = some (.cells cs 60 (0,0))->S' g/\w'.heap[g]? = some (.cells cs 60 (0,0))):∀ {xs:List Lp.X} {rs:List RC},RXL S w xs rs->RXL S' w' xs rs
 | [],[],_=>trivial
 | [],_::_,h=>h.elim
 | _::_,[],h=>h.elim
 | _::_,_::_,⟨h1,h2⟩=>⟨RX.turn hs h1,RXL.turn hs h2⟩
theorem RXL.app {S:Nat->Prop} {w:World}:∀ {xs:List Lp.X} {rs:List RC} {x:Lp.X} {r:RC},RXL S w xs rs->RX S w x r->RXL S w (xs++[x]) (rs++[r])
 | [],[],_,_,_,h=>⟨h,trivial⟩
 | [],_::_,_,_,h,_=>h.elim
 | _::_,[],_,_,h,_=>h.elim
 | _::_,_::_,_,_,⟨a,b⟩,h=>⟨a,RXL.app b h⟩
def eK (B:Nat) (v:Value) (g:Nat):Prop:=B<=g/\some g≠v.ownBlock
def aGH (P:Nat) (w:World) (q:Option (List Lp.X×ZW)) (e:Ending) (w':World):Prop :=
 But P w w'/\match q with
 | none=>(∃ A n c,e=.returned (.slice A n c))/\RBad P w' 0
 | some (xs,r)=>∃ A c rs,e=.returned (.slice A xs.length c)/\w'.ownsRow w 60 8 (.slice A xs.length c) xs.length (rcv rs)/\RXL (eK w (.slice A xs.length c)) w' xs rs/\RS w' P r 0 0
theorem sO (h:w.ownsRow B e size v n xs) (hb:But P w w') (hp:RS w P l d bad) (he:e≠108):w'.ownsRow B e size v n xs:=by
 refine ⟨h.1, ?_⟩;rcases h.2 with h2|⟨g,cap,cur,h2,h3,h4,h5⟩
 ·exact .inl h2
 ·exact .inr ⟨g,cap,cur,h2,h3,aL hb h4 (uB hp h4 he),h5⟩
theorem Qd {c c5:Nat} {wr w1 w5:World} {A A5:ZT} {xs:List Lp.X} {rs:List RC} {x:Lp.X} {rr:RC} {ob:Obj} (hb:But P w0 wr) (hp:RS wr P r 0 0) (hown:wr.ownsRow w0 60 8 (.slice A n c) n (rcv rs)) (hx:RXL (eK w0 (.slice A n c)) wr xs rs)
 (hb1:But P wr w1) (hnew:RX (λg=>wr.heap.size<=g) w1 x rr) (hk5:fL (w1.alloc ob) w5 (Value.ownBlock (.slice A n c)) (Value.ownBlock (.slice A5 (n+1) c5))) :
 RXL (eK w0 (.slice A5 (n+1) c5)) w5 (xs++[x]) (rs++[rr]):=by
 refine RXL.app (RXL.turn (λg cs hS hg => ?_) hx) (RX.turn (λg cs hS hg => ?_) hnew)
 ·have hg1:=aL hb1 hg (uB hp hg am);have:=hk5 g _ (aB hg1 ob) hS.2;exact ⟨⟨hS.1,this.2⟩,this.1⟩
 ·have hlt:some g≠Value.ownBlock (.slice A n c):=λe=>by have:=(hown.lt _ e.symm).2;omega
  have:=hk5 g _ (aB hg ob) hlt;exact ⟨⟨Nat.le_trans hb.size hS,this.2⟩,this.1⟩
theorem RS.low (h:RS w P l d bad) (hP:P<B) (hb:Below B w w'):RS w' P l d bad:=by
 obtain ⟨A,c,i,h1,h2,h3⟩:=h;refine ⟨A,c,i,(hb.block P hP).trans h1, ?_,h3⟩;rcases h2 with h2|⟨b,off,hA,hlt,hc⟩
 ·exact .inl h2
 ·exact .inr ⟨b,off,hA,hlt,λj u hu=>(hb.cell (p:=⟨b,_,none⟩) (Nat.lt_trans hlt hP)).trans (hc j u hu)⟩
theorem RBad.low {P d B:Nat} {w w':World} (h:RBad P w d) (hP:P<B) (hb:Below B w w'):RBad P w' d:=by
 obtain ⟨l',d',b',h1,h2,h3⟩:=h;exact ⟨l',d',b',h1,h2.low hP hb,h3⟩
theorem But.lowr (h:But P w0 w) (hb:Below w0 w w'):But P w0 w' :=
 ⟨hb.os.trans h.os,hb.tape.trans h.tape,hb.output.trans h.output,Nat.le_trans h.size hb.size,λk hk hn=>(hb.block k hk).trans (h.block k hk hn)⟩
theorem Xw (P most:Nat) (l:ZW) (w:World) (h:RS w P l 0 0) (hm:most<=100) (h1m:1<=most) :
 Calls prog 83 #[P,.int .i64 most] w (aGH P w (dO (pX 1 0) most l)):=by
 obtain ⟨iE,hiE,hz0,hz1,hz2⟩:=info_parts Nh;have hP0:P<w:=h.lt;go_enter func83,ntmps83;go_wp2_with fail
 go_loopg [5] (most+1) (λgk s5 wr=>∃ (acc:List Lp.X) (r:ZW) (A:ZT) (c:Nat) (rs:List RC),acc.length<=most/\gk=most+1-acc.length/\s5=.slice A acc.length c/\(acc.length=most->r=[])/\But P w wr/\wr.ownsRow w 60 8 (.slice A acc.length c) acc.length (rcv rs)/\RXL (eK w (.slice A acc.length c)) wr acc rs/\RS wr P r 0 0/\dO (pX 1 0) most l=jL (pX 1 0) most (most+1-acc.length) acc r)
 case atStart=>exact ⟨[],l,none,0,[],Nat.zero_le _,rfl,rfl,λh=>by simp at h;omega,But.refl _ _,World.ownsRow_nil _ _ _ _,trivial,h,rfl⟩
 case round =>
  clear h;obtain ⟨acc,r,A,c,rs,ha,rfl,rfl,hend,hb,hown,hx,hp,hq⟩:=de;obtain ⟨n,hn⟩:∃ n,acc.length=n:=da;have hk:most+1-acc.length=(most-acc.length)+1:=ac
  rw [hk] at hq;rw [hn] at hown hx hend hq ha;have HC:=κ ((Dc P r.length 0 ac).e1 wr r (ν _) hp);have HR:=κ (ι hb (ι hown (ι hx (ι hp (ι hq (ι hend hn))))));have hnI:(0:Int)<=(n:Int):=ac
  rw [hn];clear hq hk hb hown hx hp hend;go_wp2_with fail;refine μ HC ?_;rintro e w1 ⟨hb1,rr,rfl,hr⟩;have hown1:=sO HR.o.2.1 hb1 HR.o.2.2.2.1 am;have hsz:w<=w1.heap.size:=Nat.le_trans HR.o.1.size hb1.size;have hbw1:=HR.o.1.trans hb1;simp only [RC.val];rcases hF:pX 1 0 r with _|⟨x,r1⟩
  ·rw [hF] at hr;have HQ:=κ (HR.o.2.2.2.2.1.trans (mF hF));have HB:=κ (ι hbw1 (show RBad P w1 0 from hr));clear hF hr hb1 hbw1 HC;go_wp2_with (at_builtin;refine bJ _ rfl (.tmp 6) (.tmp 9) _ rfl w 60 iE _ 8 104 underlying36 hiE hz0 hz1 hz2 rfl ac A n c (rcv rs) rfl (hown1.alloc _) _ 1 1 rr.cells rfl rfl (aS rr.cells (heap_alloc_new _ _)) GP rf ac GO ?_;intro A5 c5 w5 ho5 hb5 _ hk5);have hb15:=GN;have HM:=κ (xW P 0 (n+1) most w5 (HB.o.2.low hP0 hb15));have H5:=κ (HB.o.1.lowr hb15);clear hb15 hb5 ho5 hk5 hown1;refine μ HM ?_;rintro e w6 ⟨rfl,hb6,hp6⟩;have H6:=κ (ι (H5.o.trans hb6) hp6);clear hb6 hp6;go_wp2;go_ret;refine ⟨H6.o.1, ?_⟩;rw [HQ.o];exact ⟨⟨_,_,_,rfl⟩,H6.o.2⟩
  ·rw [hF] at hr;obtain ⟨hxr,hpr⟩:=hr;have hnm:n<most:=by
    rcases Nat.lt_or_ge n most with h|h
    ·exact h
    ·have h0:=HR.o.2.2.2.2.2.1 ac;rw [h0,xM] at hF;cases hF
   have HB:=κ (ι hb1 (ι hbw1 (ι hxr (ι hpr hF))));clear hF hb1 hbw1 HC hxr hpr;go_wp2_with (at_builtin;refine bJ _ rfl (.tmp 6) (.tmp 9) _ rfl w 60 iE _ 8 104 underlying36 hiE hz0 hz1 hz2 rfl ac A n c (rcv rs) rfl (hown1.alloc _) _ 1 1 rr.cells rfl rfl (aS rr.cells (heap_alloc_new _ _)) GP rf ac GO ?_;intro A5 c5 w5 ho5 hb5 _ hk5);have hb15:=GN;have hp5:RS w5 P r1 0 0:=HB.o.2.2.2.1.low hP0 hb15;have hx5:=Qd HR.o.1 HR.o.2.2.2.1 HR.o.2.1 HR.o.2.2.1 HB.o.1 HB.o.2.2.1 hk5;have ho6:w5.ownsRow w 60 8 (.slice A5 (n+1) c5) (n+1) (rcv (rs++[rr])):=by rw [aCX];simpa [rcv] using ho5
   have H5:=κ (ι (HB.o.2.1.lowr hb15) (ι hp5 (ι hx5 (ι ho6 HB.o.2.2.2.2))));have HM:=κ (xX P 0 0 (n+1) most r1 w5 hp5);clear hb15 hb5 ho5 hk5 hown1 hp5 hx5 ho6 HB;refine μ HM ?_;rintro e w6 ⟨hb6,hq6⟩;have hcb:mJ 0 r1=isF eI r1:=by simp [mJ]
   rw [hcb] at hq6;have hown6:=sO H5.o.2.2.2.1 hb6 H5.o.2.1 am;have hx6:=RXL.turn (S':=eK w (.slice A5 (n+1) c5)) (w':=w6) (λg cs hS hg=>⟨hS,aL hb6 hg (uB H5.o.2.1 hg am)⟩) H5.o.2.2.1;have hbw6:=H5.o.1.trans hb6;have hl6:(acc++[x]).length=n+1:=by rw [List.length_append,HR.o.2.2.2.2.2.2];rfl
   cases hc:isF eI r1
   ·rw [hc] at hq6;simp only [φ,if_false] at hq6;obtain ⟨rfl,hp6⟩:=hq6;have HQ:=κ (HR.o.2.2.2.2.1.trans (nW H5.o.2.2.2.2 hc));have H6:=κ (ι hbw6 (ι hown6 (ι hx6 (ι hp6 hl6))));clear hc hcb hown6 hx6 hbw6 hp6 hb6 hl6 HM H5;go_wp2;go_ret;refine ⟨H6.o.1, ?_⟩;rw [HQ.o];exact ⟨A5,c5,rs++[rr],by rw [H6.o.2.2.2.2];rfl,by rw [H6.o.2.2.2.2];exact H6.o.2.1,by rw [H6.o.2.2.2.2];exact H6.o.2.2.1,H6.o.2.2.2.1⟩
   ·rw [hc] at hq6;simp only [if_true] at hq6;have htl:=bD hc
    by_cases hz:most<=n+1/\0<r1.tail.length
    ·rw [if_pos hz] at hq6;obtain ⟨rfl,hp6⟩:=hq6;have HQ:=κ (HR.o.2.2.2.2.1.trans (mG H5.o.2.2.2.2 hc (by rw [HR.o.2.2.2.2.2.2];omega) ac));have H6:=κ (ι hbw6 (show RBad P w6 0 from ⟨_,_,_,am,hp6,ν _,ac⟩));clear hc hcb hown6 hx6 hbw6 hp6 hb6 hl6 HM H5 htl;go_wp2;go_ret;refine ⟨H6.o.1, ?_⟩;rw [HQ.o];exact ⟨⟨_,_,_,rfl⟩,H6.o.2⟩
    ·rw [if_neg hz] at hq6;obtain ⟨rfl,hp6⟩:=hq6;have HQ:=κ (HR.o.2.2.2.2.1.trans (jY H5.o.2.2.2.2 hc (by rw [HR.o.2.2.2.2.2.2];omega)));have hend6:(acc++[x]).length=most->r1.tail=[]:=λe=>List.eq_nil_of_length_eq_zero ac;have H6:=κ (ι hbw6 (ι hown6 (ι hx6 (ι hp6 (ι hl6 hend6)))));clear hc hcb hown6 hx6 hbw6 hp6 hb6 hl6 hend6 HM H5 htl hz;go_wp2
     go_roundg (most+1-(n+1))
     case measure=>omega
     case rel=>exact ⟨acc++[x],r1.tail,A5,c5,rs++[rr],by rw [H6.o.2.2.2.2.1];omega,by rw [H6.o.2.2.2.2.1],by rw [H6.o.2.2.2.2.1],H6.o.2.2.2.2.2,H6.o.1,by rw [H6.o.2.2.2.2.1];exact H6.o.2.1,by rw [H6.o.2.2.2.2.1];exact H6.o.2.2.1,H6.o.2.2.2.1,by rw [HQ.o,H6.o.2.2.2.2.1];congr 1;omega⟩
theorem qN (P d:Nat) (bad:Int) (l:ZW) (w:World) (h:RS w P l d bad) (hf:(decide (bad=0)&&isF Ck l)=false) :
 Calls prog 86 #[P] w λe w'=>e=.returned (.slice none 0 0)/\But P w w'/\RS w' P l d bad:=by
 have HI:=κ (aH P d bad l ⟨#[119,104,101,114,101]⟩ w h false hf);clear h hf;go_enter func86,ntmps86;go_wp2_with fail;refine μ HI ?_;rintro e w1 ⟨rfl,hb1,hp1⟩;have H1:=ny;clear hb1 hp1 HI;go_wp2;go_ret;exact ⟨rfl,H1.o.1,H1.o.2⟩
theorem Qc (P d:Nat) (w:World) (h:RBad P w d) :
 Calls prog 80 #[P] w λe w'=>e=.returned (.string ⟨#[]⟩)/\But P w w'/\RBad P w' d:=by
 obtain ⟨l,d',b',hb',hp,h1,h2⟩:=h;have H:=κ (λ(w':World) (h':RS w' P l d' b')=>fH P d' b' 4 l w' h');have HRS:=eh;have HD:=κ (ι h1 (ι h2 hb'));obtain ⟨A,c,i,k1, -, -⟩:=hp;have hc3:=β k1 3;have eb:=zh;have eb2:=BP
 clear k1 h1 h2 hb';go_enter func80,ntmps80;go_wp2_with fail;go_quiet (fail);go_wp2_with fail;refine (H.o (w.drewN nq) (HRS.o.drawn ⟨nq,rfl⟩)).mono ?_;rintro e w1 ⟨rfl,hb1,hp1⟩;have HE:=ny;clear hb1 hp1;go_wp2;go_ret;exact ⟨rfl,(Drawn.but ⟨nq,rfl⟩).trans HE.o.1,l,d',_,by rw [tK,if_neg HD.o.2.2];exact HD.o.2.2,HE.o.2,HD.o.1,HD.o.2.1⟩
def RO (P:Nat) (w:World):Option ZW->Prop
 | none=>RBad P w 0
 | some l=>RS w P l 0 0
theorem RO.low {P B:Nat} {w w':World} {o:Option ZW} (h:RO P w o) (hP:P<B) (hb:Below B w w'):RO P w' o:=by
 cases o with
 | none=>exact RBad.low h hP hb
 | some l=>exact RS.low h hP hb
theorem RO.lt {P:Nat} {w:World} {o:Option ZW} (h:RO P w o):P<w:=by
 cases o with
 | none=>obtain ⟨l',d',b', -,hp, -⟩:=h;exact hp.lt
 | some l=>exact RS.lt h
theorem RO.below {o:Option ZW} (h:RO P w o) (hb:Below w w w'):RO P w' o:=h.low h.lt hb
theorem RO.box {g:Nat} {o:Option ZW} {cs:ZV} {t:TypeId} (hp:RO P w o) (hg:w.heap[g]? = some (.cells cs t (0,0))) (ht:t≠108):g≠P:=by
 cases o with
 | none=>obtain ⟨l',d',b', -,hp, -⟩:=hp;exact uB hp hg ht
 | some l=>exact uB (show RS w P l 0 0 from hp) hg ht
theorem RO.own {o:Option ZW} (hp:RO P w o) (h:w.ownsRow B e size v n xs) (hb:But P w w') (he:e≠108):w'.ownsRow B e size v n xs:=by
 cases o with
 | none=>obtain ⟨l',d',b', -,hp, -⟩:=hp;exact sO h hb hp he
 | some l=>exact sO h hb (show RS w P l 0 0 from hp) he
def aDO:Option ZW->Nat
 | none=>0
 | some l=>l.length
theorem RO.len {o:Option ZW} (h:RO P w o):aDO o<=2000:=by
 cases o with
 | none=>exact Nat.zero_le _
 | some l=>obtain ⟨A,c,i, -, -,h3⟩:=(show RS w P l 0 0 from h);show l.length<=2000;omega
def lC (s:ZS):Option ZW->Bool
 | none=>false
 | some l=>isF s l
theorem fB (P:Nat) (o:Option ZW) (s:ByteArray) (w:World) (h:RO P w o) (b:Bool) (hb:lC s.data.toList o=b) :
 Calls prog 34 #[P,s] w λe w'=>e=.returned (.bool b)/\But P w w'/\RO P w' (if b then o.map List.tail else o):=by
 cases o with
 | none =>
   obtain ⟨l,d,bd,h1,h2,h3,h4⟩:=h;obtain rfl:false=b:=hb;refine (aH P d bd l s w h2 false GQ).mono ?_;rintro e w' ⟨k1,k2,k3⟩;exact ⟨k1,k2,l,d,bd,h1,k3,h3,h4⟩
 | some l =>
   refine (aH P 0 0 l s w h b (by simpa [lC] using hb)).mono ?_;rintro e w' ⟨k1,k2,k3⟩;cases b<;>exact ⟨k1,k2,k3⟩
theorem Hd (P:Nat) (o:Option ZW) (s:ByteArray) (w:World) (h:RO P w o) :
 Calls prog 81 #[P,s] w λe w'=>e=.returned (.tuple #[])/\But P w w'/\RO P w' (o.bind (aD s.data.toList)):=by
 cases o with
 | none =>
   obtain ⟨l,d,bd,h1,h2,h3,h4⟩:=h;refine (dV P d bd l s w h2 GQ).mono ?_;rintro e w' ⟨k1,k2,b',k3,k4⟩;exact ⟨k1,k2,l,d,b',k3,k4,h3,h4⟩
 | some l =>
   cases hf:isF s.data.toList l with
   | false =>
     refine (dV P 0 0 l s w h GS).mono ?_;rintro e w' ⟨k1,k2,b',k3,k4⟩;refine ⟨k1,k2, ?_⟩;rw [show (some l).bind (aD s.data.toList)=none by simp [aD,hf]];exact ⟨l,0,b',k3,k4,ν _,ac⟩
   | true =>
     refine (dI P 0 l s w h hf).mono ?_;rintro e w' ⟨k1,k2,k3⟩;refine ⟨k1,k2, ?_⟩;rw [show (some l).bind (aD s.data.toList)=some l.tail by simp [aD,hf]];exact k3
theorem Ih (P:Nat) (o:Option ZW) (c:Int) (hc:c≠0) (w:World) (h:RO P w o) :
 Calls prog 35 #[P,.int .i64 c] w λe w'=>e=.returned (.tuple #[])/\But P w w'/\RO P w' none:=by
 obtain ⟨l,d,bd,h2,h4⟩:∃ l d bd,RS w P l d bd/\d<=100000:=by
  cases o with
  | none=>obtain ⟨l,d,bd,h1,h2,h3,h4⟩:=h;exact ⟨l,d,bd,h2,h4⟩
  | some l=>exact ⟨l,0,0,h,ac⟩
 refine (fH P d bd c l w h2).mono ?_;rintro e w' ⟨k1,k2,k3⟩;exact ⟨k1,k2,l,d,_,jN hc,k3,Nat.zero_le _,h4⟩
theorem Ns (P:Nat) (o:Option ZW) (w:World) (h:RO P w o) :
 Calls prog 80 #[P] w λe w'=>∃ n:ZS,e=.returned (.string n)/\But P w w'/\RO P w' ((o.bind bB).map (·.2))/\∀ q,o.bind bB=some q->q.1=n:=by
 cases o with
 | none =>
   refine (Qc P 0 w h).mono ?_;rintro e w' ⟨k1,k2,k3⟩;exact ⟨[],k1,k2,k3,λq hq=>by cases hq⟩
 | some l =>
   refine (qO P 0 l w h ac).mono ?_;rintro e w' ⟨k1,k2⟩;rcases hq:bB l with _|⟨n,r⟩
   ·rw [hq] at k2;refine ⟨[],k2.1,k1, ?_,λq hq'=>GT⟩;rw [Option.bind_some,hq];exact k2.2
   ·rw [hq] at k2;refine ⟨n,k2.1,k1, ?_,λq hq'=>by rw [Option.bind_some,hq] at hq';injection hq' with hq';rw [<-hq']⟩;rw [Option.bind_some,hq];exact k2.2
theorem Od (P:Nat) (o:Option ZW) (w:World) (h:RO P w o) :
 Calls prog 85 #[P,.int .i64 1] w λe w'=>∃ rr:RC,e=.returned rr.val/\But P w w'/\RO P w' ((o.bind (pX 1 0)).map (·.2))/\∀ q,o.bind (pX 1 0)=some q->RX (λg=>w.heap.size<=g) w' q.1 rr:=by
 cases o with
 | none =>
   refine (nU 1 P 0 w h).mono ?_;rintro e w' ⟨k1,k2,k3⟩;exact ⟨rcZ,k1,k2,k3,λq hq=>by cases hq⟩
 | some l =>
   refine ((Dc P l.length 0 ac).e1 w l (ν _) h).mono ?_;rintro e w' ⟨k1,rr,k2,k3⟩;rcases hq:pX 1 0 l with _|⟨x,r⟩
   ·rw [hq] at k3;refine ⟨rr,k2,k1, ?_,λq hq'=>GT⟩;rw [Option.bind_some,hq];exact k3
   ·rw [hq] at k3;refine ⟨rr,k2,k1, ?_,λq hq'=>by rw [Option.bind_some,hq] at hq';injection hq' with hq';rw [<-hq'];exact k3.1⟩;rw [Option.bind_some,hq];exact k3.2
def rE (n most:Nat):Option ZW->Bool×Option ZW
 | none=>(false,none)
 | some l=>if isF eI l then (if most<=n/\0<l.tail.length then (false,none) else (true,some l.tail)) else (false,some l)
theorem Xm (P n most:Nat) (o:Option ZW) (w:World) (h:RO P w o) :
 Calls prog 84 #[P,.int .i64 n,.int .i64 most] w λe w'=>e=.returned (.bool (rE n most o).1)/\But P w w'/\RO P w' (rE n most o).2:=by
 cases o with
 | none=>exact xW P 0 n most w h
 | some l =>
   refine (xX P 0 0 n most l w h).mono ?_;rintro e w' ⟨k1,k2⟩;have hcb:mJ 0 l=isF eI l:=by simp [mJ]
   rw [hcb] at k2;unfold rE
   by_cases hc:isF eI l=true
   ·simp only [hc,if_true] at k2 |-
    by_cases hz:most<=n/\0<l.tail.length
    ·rw [if_pos hz] at k2 |-;exact ⟨k2.1,k1,l.tail,0,2,am,k2.2,ν _,ac⟩
    ·rw [if_neg hz] at k2 |-;exact ⟨k2.1,k1,k2.2⟩
   ·simp only [hc] at k2 |-;exact ⟨k2.1,k1,k2.2⟩
def RLs (B:Nat) (w:World) (xs:List Lp.X) (v:Value):Prop:=∃ A c rs,v=.slice A xs.length c/\w.ownsRow B 60 8 v xs.length (rcv rs)/\RXL (eK B v) w xs rs
theorem aGV (P most:Nat) (o:Option ZW) (w:World) (h:RO P w o) (hm:most<=100) (h1m:1<=most) :
 Calls prog 83 #[P,.int .i64 most] w λe w'=>∃ A n c,e=.returned (.slice A n c)/\But P w w'/\RO P w' ((o.bind (dO (pX 1 0) most)).map (·.2))/\∀ q,o.bind (dO (pX 1 0) most)=some q->RLs w w' q.1 (.slice A n c):=by
 cases o with
 | none =>
   refine (Xv P 0 most w h).mono ?_;rintro e w' ⟨⟨A,n,c,k1⟩,k2,k3⟩;exact ⟨A,n,c,k1,k2,k3,λq hq=>by cases hq⟩
 | some l =>
   refine (Xw P most l w h hm h1m).mono ?_;rintro e w' ⟨k1,k2⟩;rcases hq:dO (pX 1 0) most l with _|⟨xs,r⟩
   ·rw [hq] at k2;obtain ⟨⟨A,n,c,k3⟩,k4⟩:=k2;refine ⟨A,n,c,k3,k1, ?_,λq hq'=>GT⟩;rw [Option.bind_some,hq];exact k4
   ·rw [hq] at k2;obtain ⟨A,c,rs,k3,k4,k5,k6⟩:=k2;refine ⟨A,_,c,k3,k1, ?_,λq hq'=>by rw [Option.bind_some,hq] at hq';injection hq' with hq';rw [<-hq'];exact ⟨A,c,rs,rfl,k4,k5⟩⟩;rw [Option.bind_some,hq];exact k6
def whO (o:Option ZW):Option ZW:=(o.bind whF).map (·.2)
theorem aHF (P:Nat) (o:Option ZW) (w:World) (h:RO P w o) :
 Calls prog 86 #[P] w λe w'=>(∃ A n c,e=.returned (.slice A n c))/\But P w w'/\RO P w' (whO o):=by
 cases o with
 | none =>
   obtain ⟨l,d,bd,h1,h2,h3,h4⟩:=h;refine (qN P d bd l w h2 GQ).mono ?_;rintro e w' ⟨k1,k2,k3⟩;exact ⟨⟨_,_,_,k1⟩,k2,l,d,bd,h1,k3,h3,h4⟩
 | some l =>
   cases hf:isF Ck l with
   | false =>
     refine (qN P 0 0 l w h GS).mono ?_;rintro e w' ⟨k1,k2,k3⟩;refine ⟨⟨_,_,_,k1⟩,k2, ?_⟩;rw [show whO (some l)=some l by unfold whO;rw [Option.bind_some,whF,hf];rfl];exact k3
   | true =>
     refine (rQ P l w h hf).mono ?_;rintro e w' ⟨g,rr,k1,k2,k3,k4,k5⟩;refine ⟨⟨_,_,_,k1⟩,k2, ?_⟩;rw [show whO (some l)=(pX 1 0 l.tail).map (·.2) by unfold whO;rw [Option.bind_some,whF,if_pos hf,Option.map_map];rfl];rcases hq:pX 1 0 l.tail with _|⟨x,r⟩
     ·rw [hq] at k5;exact k5
     ·rw [hq] at k5;exact k5.2
def puts (w:World) (g:Nat):ZU->Nat->World
 | [],_=>w
 | v::vs,k=>puts (w.setCell ⟨g,k,none⟩ v) g vs (k+1)
theorem jG {g j:Nat} (h:j≠g):∀ (vs:ZU) (k:Nat) (w:World),(puts w g vs k).heap[j]? = w.heap[j]?
 | [],_,_=>rfl
 | v::vs,k,w=>(jG h vs (k+1) _).trans (Below.heap_setCell w ⟨g,k,none⟩ v j h)
theorem gZ {g B:Nat} (hg:B<=g) {a:World}:∀ (vs:ZU) (k:Nat) (w:World),Below B a w->Below B a (puts w g vs k)
 | [],_,_,h=>h
 | v::vs,k,_,h=>gZ hg vs (k+1) _ (h.setCell (p:=⟨g,k,none⟩) hg v)
theorem kP {g:Nat} {t:TypeId}:∀ (vs:ZU) (k:Nat) (w:World) (cs:ZU),w.heap[g]? = some (.cells cs.toArray t (0,0))->cs.length=k+vs.length->(puts w g vs k).heap[g]? = some (.cells (cs.take k++vs).toArray t (0,0))
 | [],k,w,cs,h,hl=>by
   rw [List.append_nil,List.take_of_length_le lu];exact h
 | v::vs,k,w,cs,h,hl=>by
   have h1:=heap_setCell_same w g k _ _ v h;rw [List.setIfInBounds_toArray] at h1;have h2:=kP vs (k+1) _ (cs.set k v) h1 (by simp at hl |-;omega);have hk:k<cs.length:=lu
   rw [show (cs.set k v).take (k+1)=cs.take k++[v] by
    rw [List.take_succ_eq_append_getElem (by simpa using hk),List.take_set_of_le (ν _)];simp,List.append_assoc] at h2
   exact h2
structure SS (B P:Nat) (w0 w:World) (o:Option ZW) (cs:ZU):Prop where
 b:But P w0 w
 z:w.heap[B]? = some (.cells stZ.toArray 38 (0,0))
 x:w.heap[B+1]? = some (.cells cs.toArray 38 (0,0))
 p:RO P w o
theorem SS.next {o o':Option ZW} (h:SS B P w0 w o cs) (hb:But P w w') (hp:RO P w' o'):SS B P w0 w' o' cs :=
 ⟨h.b.trans hb,aL hb h.z (h.p.box h.z am),aL hb h.x (h.p.box h.x am),hp⟩
theorem RO.puts {P g:Nat} {w:World} {o:Option ZW} (h:RO P w o) (hP:P<g) (vs:ZU) (k:Nat):RO P (puts w g vs k) o:=h.low hP (gZ (ν _) vs k w (θ))
theorem But.puts {P g:Nat} {a:World} (hg:a.heap.size<=g):∀ (vs:ZU) (k:Nat) (w:World),But P a w->But P a (puts w g vs k)
 | [],_,_,h=>h
 | v::vs,k,_,h=>But.puts hg vs (k+1) _ (bP h hg k v)
theorem SS.puts {B P:Nat} {w0 w:World} {o:Option ZW} {cs:ZU} (h:SS B P w0 w o cs) (hB:w0<=B) (hP:P<B) (vs:ZU) (hl:cs.length=vs.length):SS B P w0 (puts w (B+1) vs 0) o vs :=
 ⟨But.puts ac vs 0 w h.b,(jG ac vs 0 w).trans h.z,by simpa using kP vs 0 w cs h.x ac,h.p.puts ac vs 0⟩
theorem SS.set {B P:Nat} {w0 w:World} {o:Option ZW} {cs:ZU} (h:SS B P w0 w o cs) (hB:w0<=B) (hP:P<B) (j:Nat) (v:Value):SS B P w0 (w.setCell ⟨B+1,j,none⟩ v) o (cs.set j v):=by
 refine ⟨bP h.b ac _ _,(Below.heap_setCell w ⟨B+1,j,none⟩ v B yq).trans h.z, ?_,h.p.low (B:=B+1) ac ((θ).setCell (p:=⟨B+1,j,none⟩) (ν _) v)⟩;have:=heap_setCell_same w (B+1) j _ _ v h.x;rwa [List.setIfInBounds_toArray] at this
theorem SS.low {B P B2:Nat} {w0 w w':World} {o:Option ZW} {cs:ZU} (h:SS B P w0 w o cs) (hB:w0<=B2) (h2:B+2<=B2) (hP:P<B) (hb:Below B2 w w'):SS B P w0 w' o cs :=
 ⟨h.b.lowr (hb.mono hB),(hb.block B ac).trans h.z,(hb.block (B+1) ac).trans h.x,h.p.low ac hb⟩
theorem SS.new (P:Nat) (w:World) (o:Option ZW) (cs:ZU) (h:RO P w o):SS w P w ((w.alloc (.cells stZ.toArray 38)).alloc (.cells cs.toArray 38)) o cs:=by
 have hb:Below w w ((w.alloc (.cells stZ.toArray 38)).alloc (.cells cs.toArray 38)):=(ρ).alloc aa _;refine ⟨But.of hb,aB (heap_alloc_new w _) _, ?_,h.below hb⟩;have:=heap_alloc_new (w.alloc (.cells stZ.toArray 38)) (.cells cs.toArray 38);rwa [World.size_alloc] at this
theorem SS.cells {o:Option ZW} (h:SS B P w0 w o cs):(∀ j,w.cell? ⟨B,j,none⟩=stZ.toArray[j]?)/\(∀ j,w.cell? ⟨B+1,j,none⟩=cs.toArray[j]?)/\(∀ j,w.frozen? ⟨B,j,none⟩=false)/\∀ j,w.frozen? ⟨B+1,j,none⟩=false :=
 ⟨β h.z,β h.x,λj=>frozen_of_row w _ j _ _ h.z,λj=>frozen_of_row w _ j _ _ h.x⟩
theorem aII {α:Type} {f:ZW->Option (α×ZW)} {acc:List α} (hm:acc.length<=most) (hr:acc.length=most->r=[]) (hf0:f []=none) (h:(rE (acc.length+1) most ((f r).map (·.2))).1=false) :
 (rE (acc.length+1) most ((f r).map (·.2))).2=(jL f most (k+1) acc r).map (·.2)/\∀ p,jL f most (k+1) acc r=some p->∃ x r',f r=some (x,r')/\p.1=acc++[x]:=by
 rcases hq:f r with _|⟨x,r1⟩
 ·rw [hq] at h;rw [mF hq];exact ⟨rfl,λp hp=>by cases hp⟩
 ·rw [hq] at h;have hlt:acc.length<most:=by
   rcases Nat.lt_or_ge acc.length most with h1|h1
   ·exact h1
   ·rw [hr ac,hf0] at hq;cases hq
  simp only [Option.map_some,rE] at h |-
  by_cases hc:isF eI r1=true
  ·have htl:=bD hc;simp only [hc,if_true] at h |-
   by_cases hz:most<=acc.length+1/\0<r1.tail.length
   ·rw [if_pos hz,mG hq hc ac ac];exact ⟨rfl,λp hp=>by cases hp⟩
   ·rw [if_neg hz] at h;cases h
  ·simp only [hc];rw [nW hq ew];exact ⟨rfl,λp hp=>by injection hp with hp;rw [<-hp];exact ⟨x,r1,rfl,rfl⟩⟩
theorem aDV {α:Type} {f:ZW->Option (α×ZW)} {acc:List α} (hm:acc.length<=most) (hr:acc.length=most->r=[]) (hf0:f []=none) (h:(rE (acc.length+1) most ((f r).map (·.2))).1=true) :
 ∃ x r',f r=some (x,r')/\(rE (acc.length+1) most ((f r).map (·.2))).2=some r'.tail/\jL f most (k+1) acc r=jL f most k (acc++[x]) r'.tail/\acc.length+1<=most/\(acc.length+1=most->r'.tail=[]):=by
 rcases hq:f r with _|⟨x,r1⟩
 ·rw [hq] at h;cases h
 ·rw [hq] at h;have hlt:acc.length<most:=by
   rcases Nat.lt_or_ge acc.length most with h1|h1
   ·exact h1
   ·rw [hr ac,hf0] at hq;cases hq
  simp only [Option.map_some,rE] at h |-
  by_cases hc:isF eI r1=true
  ·have htl:=bD hc;simp only [hc,if_true] at h |-
   by_cases hz:most<=acc.length+1/\0<r1.tail.length
   ·rw [if_pos hz] at h;cases h
   ·rw [if_neg hz];exact ⟨x,r1,rfl,rfl,jY hq hc ac,hlt,λe=>List.eq_nil_of_length_eq_zero ac⟩
  ·simp only [hc] at h;cases h
def tF {α:Type} (f:ZW->Option (α×ZW)) (most k:Nat) (acc:List α) (o:Option ZW):Option (List α×ZW):=o.bind (jL f most k acc)
theorem Nu {α:Type} {f:ZW->Option (α×ZW)} {acc:List α} {o:Option ZW} (hm:acc.length<=most) (hr:acc.length=most->o=none\/o=some []) (hf0:f []=none) (h:(rE (acc.length+1) most ((o.bind f).map (·.2))).1=false) :
 (rE (acc.length+1) most ((o.bind f).map (·.2))).2=(tF f most (k+1) acc o).map (·.2)/\∀ p,tF f most (k+1) acc o=some p->∃ x r',o.bind f=some (x,r')/\p.1=acc++[x]:=by
 cases o with
 | none=>exact ⟨rfl,λp hp=>by cases hp⟩
 | some r=>exact aII hm (λe=>by rcases hr e with h|h;cases h;injection h) hf0 h
theorem Hf {α:Type} {f:ZW->Option (α×ZW)} {acc:List α} {o:Option ZW} (hm:acc.length<=most) (hr:acc.length=most->o=none\/o=some []) (hf0:f []=none) (h:(rE (acc.length+1) most ((o.bind f).map (·.2))).1=true) :
 ∃ x r',o.bind f=some (x,r')/\(rE (acc.length+1) most ((o.bind f).map (·.2))).2=some r'.tail/\tF f most (k+1) acc o=tF f most k (acc++[x]) (some r'.tail)/\acc.length+1<=most/\(acc.length+1=most->r'.tail=[]):=by
 cases o with
 | none=>cases h
 | some r=>exact aDV hm (λe=>by rcases hr e with h|h;cases h;injection h) hf0 h
