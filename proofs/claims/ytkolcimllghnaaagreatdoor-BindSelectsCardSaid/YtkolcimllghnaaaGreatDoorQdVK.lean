/-
 Contracts. Conditions: those of each.
-/
import Derived.Test.YtkolcimllghnaaaGreatDoorQdVJ
set_option maxRecDepth 100000
set_option maxHeartbeats 20000000
namespace Go.Proofs.YtkolcimllghnaaaGreatDoor
open Lp Go.Proofs.Tryz
open Go.RowKit
variable{bad:Int}{B P bp d gi n:Nat}{w w' w0:World}{l r:ZW}
def wOn:ZS:=[111,110]
theorem Lr:∀ args w,Sem.run prog (callFunc 121 args) w=.ok (.enter 121 args) w:=λ_ _=>rfl
theorem Rw (P bp bx gi:Nat) (cs0:ZV) (l0 l:ZW) (w0 w:World) (hR0:Resv w0) (hp0:PS w0 P l0 0) (hgi:w0.heap.size≤gi) (hne:gi≠bp) (hnx:gi≠bx) (hi:KC P bp bx gi cs0 w0 [] w) (hp:PS w P l 0) (hs:Lsane l) :
 Calls prog 120 #[P,.int .i64 8,.func (.func 121) #[] #[bp,bx]]
  w (EachPost P (KC P bp bx gi cs0 w0) (RJ P w0) (dO pZ 8 l)) :=
 mE pZ Im aFE 8 ac ac _ Lr #[bp,bx] P (KC P bp bx gi cs0 w0) (RJ P w0) (λ_ _ h=>h.but) (λ_ _ h k=>But.trans h k) (λ_ _ _ _ h hp hb=>h.next hp hb okC)
  (λacc l' w' ha hi hp' hs'=>Ir P bp bx gi 0 cs0 l0 w0 hR0 hp0 hgi hne hnx acc l' w' (Nat.le_trans ha ac) hi hp' hs') l w hi hp hs
structure CS (P bp gi:Nat) (w0:World) (r:ZW) (w:World):Prop where
 but:But P w0 w
 hbp:w.heap[bp]? = some (.cells #[P] 98 (0,0))
 ix:∃ a b c:ByteArray,w.heap[gi]? = some (.cells #[a,b,c] 230 (0,0))
 ps:PS w P r 0
 sane:Lsane r
theorem CS.next {r':ZW} (h:CS P bp gi w0 r w) (hb:But P w w') (hp:PS w' P r' 0) (hr:r' <:+ r):CS P bp gi w0 r' w':=by
 obtain ⟨a,b,c,hx⟩:=h.ix;exact ⟨h.but.trans hb,aM h.hbp hb h.ps am,⟨a,b,c,aM hx hb h.ps am⟩,hp,h.sane.sfx hr⟩
theorem CS.set1 (h:CS P bp gi w0 r w) (hP:P<gi) (hgi:w0.heap.size≤gi) (hne:gi≠bp) (s:ByteArray):CS P bp gi w0 r (w.setCell ⟨gi,1,none⟩ (.string s)):=by
 obtain ⟨a,b,c,hx⟩:=h.ix;have h1:=heap_setCell_same w gi 1 _ _ (.string s) hx;exact ⟨h.but.setNew hgi _,cA h.hbp (λe=>hne e.symm) _,⟨a,s,c,fu⟩,h.ps.setNew hP _,h.sane⟩
theorem CS.set2 (h:CS P bp gi w0 r w) (hP:P<gi) (hgi:w0.heap.size≤gi) (hne:gi≠bp) (s:ByteArray):CS P bp gi w0 r (w.setCell ⟨gi,2,none⟩ (.string s)):=by
 obtain ⟨a,b,c,hx⟩:=h.ix;have h1:=heap_setCell_same w gi 2 _ _ (.string s) hx;exact ⟨h.but.setNew hgi _,cA h.hbp (λe=>hne e.symm) _,⟨a,b,s,fu⟩,h.ps.setNew hP _,h.sane⟩
theorem Lv (P:Nat) (l:ZW) (w:World) (h:PS w P l 0) (hs:Lsane l) (hR:Resv w) :
 Calls prog 64 #[P] w (WkPost P w):=by
 have hb0:=nk;have hx0:=ns;have HI:=κ (λb (hb:isF Cn l=b)=>bS P 0 l ⟨#[105,110,100,101,120]⟩ _ (h.below hb0) b hb);have H0:=pu;clear h hs hR hb0 hx0;go_enter func64,ntmps64;cases hf:isF Cn l
 ·have HI1:=κ (HI.o false hf);clear HI hf;go_wp2_with fail;refine μ HI1 ?_;rintro e w1 ⟨rfl,hb1,hp1⟩;simp only [φ,if_false] at hp1;have HNe:=κ (bQ P 0 Cm l w1 hp1);have hx1:=pv;have c1:=oa;have H1:=κ (ι (H0.o.2.2.2.1.trans hb1) (ι hp1 hx1));clear hb1 hp1 HI1 hx1;go_wp2_with fail;refine μ HNe ?_;rintro e w2 hn;rcases hq:aD Cm l with _|r
  ·obtain ⟨rfl,hb2⟩:=er;have HB:=pw;clear hn hq hb2 HNe;unfold aT;go_wp2;exact rl
  ·obtain ⟨rfl,hb2,hp2⟩:=eu;have hB:=H1.o.1.trans hb2;have hx2:=aM H1.o.2.2 hb2 H1.o.2.1 am;have c2:=β hx2 0;have HNm:=κ (eD P 0 r w2 hp2 (H0.o.2.2.1.but H0.o.1 hB));have H2:=κ (ι hB (ι (H0.o.2.1.sfx (aU hq)) (ι hx2 hp2)));clear hn hq hb2 hp2 hB HNe c1 hx2;go_wp2_with fail;refine μ HNm ?_;rintro e w3 ⟨hb3,hq3⟩;rcases hq:bB r with _|⟨t,r3⟩
   ·rw [hq] at hq3;obtain ⟨ce,rfl,hce⟩:=hq3;have HB:=κ (H2.o.1.trans hb3);clear hq hb3 HNm;unfold aT;go_wp2;exact rm
   ·rw [hq] at hq3;obtain ⟨rfl,hp3⟩:=hq3;have hx3:=aM H2.o.2.2.1 hb3 H2.o.2.2.2 am;have hbA:Below w3 w3 ((w3.alloc (.cells #[t,.slice none 0 0] 232)).alloc (.cells #[w3] 231)):=(ρ).alloc aa _;have hg4:=aB (heap_alloc_new w3 (.cells #[t,.slice none 0 0] 232)) (.cells #[w3] 231);have hv4:=bG w3 (.cells #[t,.slice none 0 0] 232) (.cells #[w3] 231);have hx4:=aA hx3 hbA;have c4:=β hx4 0;have HN4:=κ (bQ P 0 uR r3 _ (hp3.below hbA));have hlt:=aG hx3;have H3:=κ (ι ((H2.o.1.trans hb3).trans (But.of hbA)) (ι (hp3.below hbA) (ι (H2.o.2.1.sfx (bZ hq)) (ι hg4 (ι hv4 (ι hx4 (ι (H2.o.1.trans hb3).size hlt)))))));clear hq hb3 hp3 hbA HNm hx3 hg4 hv4 hx4 c2 hlt;rw [World.size_alloc,World.size_alloc] at HN4;go_wp2_with fail;refine μ HN4 ?_;rintro e w5 hn;rcases hq:aD uR r3 with _|r5
    ·obtain ⟨rfl,hb5⟩:=er;have HB:=κ (H3.o.1.trans hb5);clear hn hq hb5 HN4;unfold aT;go_wp2;exact rl
    ·obtain ⟨rfl,hb5,hp5⟩:=eu;have hbp5:=aM H3.o.2.2.2.2.2.1 hb5 H3.o.2.1 am;have hi5:KC P w (w3+1) w3 #[t,.slice none 0 0] w [] w5:=⟨H3.o.1.trans hb5,hbp5,aM H3.o.2.2.2.2.1 hb5 H3.o.2.1 am,none,0,[],⟨_,aM H3.o.2.2.2.1 hb5 H3.o.2.1 am,rfl,rfl,λ_ _=>rfl⟩,World.ownsRow_nil _ _ _ _,trivial⟩;have hs5:=H3.o.2.2.1.sfx (aU hq);have HE:=κ (Rw P w (w3+1) w3 _ l r5 w w5 H0.o.2.2.1 H0.o.1 H3.o.2.2.2.2.2.2.1 (Nat.ne_of_gt H3.o.2.2.2.2.2.2.2) ac hi5 hp5 hs5);have c5:=β hbp5 0;have HS5:=κ hs5;clear hn hq hb5 hp5 hbp5 hi5 hs5 HN4 c4;go_wp2_with fail;refine μ HE ?_;rintro e w6 hn;rcases hq6:dO pZ 8 r5 with _|⟨cols,r6⟩
     ·rw [hq6] at hn;obtain ⟨ce,rfl,hc,hj⟩:=hn;have HB:=κ (ι hc hj);clear hq6 hc hj HE;unfold aT;go_wp2;exact ⟨rfl,WkPost.stop HB.o.2 HB.o.1⟩
     ·rw [hq6] at hn;obtain ⟨rfl,hp6,hi6⟩:=hn;have HN6:=κ (bQ P 0 uQ r6 w6 hp6);have c6:=β hi6.hbp 0;have H6:=κ (ι hi6 (ι hp6 (HS5.o.sfx (lQ Im 8 _ _ _ _ _ hq6).2)));clear hq6 hp6 hi6 HE c5;go_wp2_with fail;refine μ HN6 ?_;rintro e w7 hn;rcases hq:aD uQ r6 with _|r7
      ·obtain ⟨rfl,hb7⟩:=er;have HB:=κ (H6.o.1.but.trans hb7);clear hn hq hb7 HN6;unfold aT;go_wp2;exact rl
      ·obtain ⟨rfl,hb7,hp7⟩:=eu;have hi7:=H6.o.1.next H6.o.2.1 hb7 okC;have c7:=β hi7.hbx 0;have HB:=κ (ι hi7.but (ι hp7 (H6.o.2.2.sfx (aU hq))));clear hn hq hb7 hp7 hi7 HN6;go_wp2;go_ret;exact rp
 ·have HI1:=κ (HI.o true hf);clear HI hf;go_wp2_with fail;refine μ HI1 ?_;rintro e w1 ⟨rfl,hb1,hp1⟩;simp only [if_true] at hp1;have hx1:=pv;have c1:=oa;have hB1:=H0.o.2.2.2.1.trans hb1;have HNm:=κ (eD P 0 l.tail w1 hp1 (H0.o.2.2.1.but H0.o.1 hB1));have H1:=κ (ι hB1 (ι hp1 (ι H0.o.2.1.tl hx1)));clear hb1 hp1 HI1 hx1 hB1;go_wp2_with fail;refine μ HNm ?_;rintro e w2 ⟨hb2,hq2⟩;rcases hq:bB l.tail with _|⟨t,r2⟩
  ·rw [hq] at hq2;obtain ⟨ce,rfl,hce⟩:=hq2;have HB:=pw;clear hq hb2 HNm;unfold aT;go_wp2;exact rm
  ·rw [hq] at hq2;obtain ⟨rfl,hp2⟩:=hq2;have hbA:Below w2 w2 (w2.alloc (.cells #[t,(),()] 230)):=ρ;have hx2:=aM H1.o.2.2.2 hb2 H1.o.2.1 am;have hs3:CS P w w2 w r2 (w2.alloc (.cells #[t,(),()] 230)):=⟨(H1.o.1.trans hb2).trans (But.of hbA),aA hx2 hbA,⟨_,_,_,heap_alloc_new w2 _⟩,hp2.below hbA,H1.o.2.2.1.sfx (bZ hq)⟩;have HG:=κ (ι hp2.lt (ι (H1.o.1.trans hb2).size (Nat.ne_of_gt (aG hx2))));have c3:=β hs3.hbp 0;have HNe:=κ (bQ P 0 wOn r2 _ hs3.ps);have HC:=κ hs3;clear hq hb2 hp2 hbA hx2 hs3 HNm c1;rw [World.size_alloc] at HNe;go_wp2_with fail;refine μ HNe ?_;rintro e wa1 hn;rcases hq:aD wOn r2 with _|ra1
   ·obtain ⟨rfl,hb5⟩:=er;have HB:=ru;clear hn hq hb5 HNe;unfold aT;go_wp2;exact rl
   ·obtain ⟨rfl,hb5,hp5⟩:=eu;have hs5:=rv;have c5:=β hs5.hbp 0;have HNm:=κ (eD P 0 ra1 wa1 hp5 (H0.o.2.2.1.but H0.o.1 hs5.but));have HC1:=κ hs5;clear hn hq hb5 hp5 hs5 HNe c3;go_wp2_with fail;refine μ HNm ?_;rintro e wb1 ⟨hb6,hq6⟩;rcases hq:bB ra1 with _|⟨tb1,rb1⟩
    ·rw [hq] at hq6;obtain ⟨ce,rfl,hce⟩:=hq6;have HB:=κ (HC1.o.but.trans hb6);clear hq hb6 HNm;unfold aT;go_wp2;exact rm
    ·rw [hq] at hq6;obtain ⟨rfl,hp6⟩:=hq6;have hs6:=HC1.o.next hb6 hp6 (bZ hq);have hs7:=hs6.set1 HG.o.1 HG.o.2.1 HG.o.2.2 ⟨tb1.toArray⟩;obtain ⟨xa,xb,xc,hx6⟩:=hs6.ix;have d6:=β hx6 1;have f6:=λj=>frozen_of_row wb1 w2 j _ _ hx6;have c7:=β hs7.hbp 0;have HNe:=κ (bQ P 0 uR rb1 _ hs7.ps);have HC:=κ hs7;clear hq hb6 hp6 hs6 hs7 hx6 HNm c5;rw [World.size_setCell] at HNe;go_wp2_with fail;refine μ HNe ?_;rintro e wa2 hn;rcases hq:aD uR rb1 with _|ra2
     ·obtain ⟨rfl,hb5⟩:=er;have HB:=ru;clear hn hq hb5 HNe;unfold aT;go_wp2;exact rl
     ·obtain ⟨rfl,hb5,hp5⟩:=eu;have hs5:=rv;have c5:=β hs5.hbp 0;have HNm:=κ (eD P 0 ra2 wa2 hp5 (H0.o.2.2.1.but H0.o.1 hs5.but));have HC2:=κ hs5;clear hn hq hb5 hp5 hs5 HNe c7 d6 f6;go_wp2_with fail;refine μ HNm ?_;rintro e wb2 ⟨hb6,hq6⟩;rcases hq:bB ra2 with _|⟨tb2,rb2⟩
      ·rw [hq] at hq6;obtain ⟨ce,rfl,hce⟩:=hq6;have HB:=κ (HC2.o.but.trans hb6);clear hq hb6 HNm;unfold aT;go_wp2;exact rm
      ·rw [hq] at hq6;obtain ⟨rfl,hp6⟩:=hq6;have hs6:=HC2.o.next hb6 hp6 (bZ hq);have hs7:=hs6.set2 HG.o.1 HG.o.2.1 HG.o.2.2 ⟨tb2.toArray⟩;obtain ⟨xa,xb,xc,hx6⟩:=hs6.ix;have d6:=β hx6 2;have f6:=λj=>frozen_of_row wb2 w2 j _ _ hx6;have c7:=β hs7.hbp 0;have HNe:=κ (bQ P 0 uQ rb2 _ hs7.ps);have HC:=κ hs7;clear hq hb6 hp6 hs6 hs7 hx6 HNm c5;rw [World.size_setCell] at HNe;go_wp2_with fail;refine μ HNe ?_;rintro e wa3 hn;rcases hq:aD uQ rb2 with _|ra3
       ·obtain ⟨rfl,hb5⟩:=er;have HB:=ru;clear hn hq hb5 HNe;unfold aT;go_wp2;exact rl
       ·obtain ⟨rfl,hb5,hp5⟩:=eu;have hs5:=rv;have HB:=κ hs5;clear hn hq hb5 hp5 hs5 HNe c7 d6 f6;go_wp2;go_ret;exact WkPost.ok HB.o.but am HB.o.ps HB.o.sane
theorem Nh:(prog.info? 60).map (λi=>(i.zero,i.size,i.bytes))=some (some rcZ.val,8,104):=aj
theorem Lx (h:bad≠0):mJ bad l=false:=by simp [mJ,h]
theorem xW (P d:Nat) (n most:Nat) (w:World) (h:RBad P w d) :
 Calls prog 84 #[P,.int .i64 n,.int .i64 most] w λe w'=>e=.returned (.bool false)∧But P w w'∧RBad P w' d:=by
 obtain ⟨l',d',b',hb,hp,h1,h2⟩:=h;refine (xX P d' b' n most l' w hp).mono ?_;rintro e w' ⟨hbw,hq⟩;rw [if_neg (by rw [Lx hb];decide)] at hq;exact ⟨hq.1,hbw,l',d',b',hb,hq.2,h1,h2⟩
theorem Xv (P d most:Nat) (w:World) (h:RBad P w d) :
 Calls prog 83 #[P,.int .i64 most] w λe w'=>(∃ A n c,e=.returned (.slice A n c))∧But P w w'∧RBad P w' d:=by
 obtain ⟨iE,hiE,hz0,hz1,hz2⟩:=info_parts Nh;have HE:=κ (nU 1 P d w h);clear h;go_enter func83,ntmps83;go_wp2_with fail
 go_loopg [5] 1 (λgk s5 wr=>gk=1∧s5=.slice none 0 0∧wr=w)
 case atStart=>exact ⟨rfl,rfl,rfl⟩
 case round =>
  obtain ⟨rfl,rfl,rfl⟩:=dd;go_wp2_with fail;refine μ HE ?_;rintro e w1 ⟨rfl,hb1,hp1⟩;have H1:=rj;clear hb1 hp1 HE;simp only [RC.val,rcZ];go_wp2_with (at_builtin;refine bJ _ rfl (.tmp 6) (.tmp 9) _ rfl w1 60 iE _ 8 104 underlying36 hiE hz0 hz1 hz2 rfl ac none 0 0 [] rfl (World.ownsRow_nil _ _ _ _) _ 1 1 rcZ.cells rfl rfl (aS rcZ.cells (heap_alloc_new _ _)) (by simp [rcZ,RC.cells,Value.oneCell']) FF ac aa ?_;intro A5 c5 w5 _ hb5 _ _);have hb15:Below w1 w1 w5:=((Below.refl w1 w1).alloc (ν _) _).trans hb5;have HM:=κ (xW P d 1 most w5 (H1.o.2.below hb15));have H5:=κ (H1.o.1.trans (But.of hb15));clear hb15 hb5 H1;refine μ HM ?_;rintro e w6 ⟨rfl,hb6,hp6⟩;have H6:=κ (ι (H5.o.trans hb6) hp6);clear hb6 hp6 H5 HM;go_wp2;go_ret;exact ⟨⟨_,_,_,rfl⟩,H6.o.1,H6.o.2⟩
def rcv (L:List RC):ZU:=L.flatMap RC.cells
theorem aCX (L M:List RC):rcv (L++M)=rcv L++rcv M:=by simp [rcv]
def RXL (S:Nat->Prop) (w:World):List Lp.X->List RC->Prop
 | [],[]=>True
 | x::xs,r::rs=>RX S w x r∧RXL S w xs rs
 | _,_=>False
theorem RXL.turn {S S':Nat->Prop} {w w':World} (hs:∀ g cs,S g->w.heap[g]? = some (.cells cs 60 (0,0))->S' g∧w'.heap[g]? = some (.cells cs 60 (0,0))):∀ {xs:List Lp.X} {rs:List RC},RXL S w xs rs->RXL S' w' xs rs
 | [],[],_=>trivial
 | [],_::_,h=>h.elim
 | _::_,[],h=>h.elim
 | _::_,_::_,⟨h1,h2⟩=>⟨RX.turn hs h1,RXL.turn hs h2⟩
theorem RXL.app {S:Nat->Prop} {w:World}:∀ {xs:List Lp.X} {rs:List RC} {x:Lp.X} {r:RC},RXL S w xs rs->RX S w x r->RXL S w (xs++[x]) (rs++[r])
 | [],[],_,_,_,h=>⟨h,trivial⟩
 | [],_::_,_,_,h,_=>h.elim
 | _::_,[],_,_,h,_=>h.elim
 | _::_,_::_,_,_,⟨a,b⟩,h=>⟨a,RXL.app b h⟩
def eK (B:Nat) (v:Value) (g:Nat):Prop:=B≤g∧some g≠v.ownBlock
def aGH (P:Nat) (w:World) (q:Option (List Lp.X×ZW)) (e:Ending) (w':World):Prop :=
 But P w w'∧match q with
 | none=>(∃ A n c,e=.returned (.slice A n c))∧RBad P w' 0
 | some (xs,r)=>∃ A c rs,e=.returned (.slice A xs.length c)∧w'.ownsRow w 60 8 (.slice A xs.length c) xs.length (rcv rs)∧RXL (eK w (.slice A xs.length c)) w' xs rs∧RS w' P r 0 0
theorem sO {size:Nat} {e:TypeId} {v:Value} {xs:ZU} (h:w.ownsRow B e size v n xs) (hb:But P w w') (hp:RS w P l d bad) (he:e≠108):w'.ownsRow B e size v n xs:=by
 refine ⟨h.1, ?_⟩;rcases h.2 with h2|⟨g,cap,cur,h2,h3,h4,h5⟩
 ·exact .inl h2
 ·exact .inr ⟨g,cap,cur,h2,h3,aL hb h4 (uB hp h4 he),h5⟩
theorem Qd {c c5:Nat} {wr w1 w5:World} {A A5:ZT} {xs:List Lp.X} {rs:List RC} {x:Lp.X} {rr:RC} {ob:Obj} (hb:But P w0 wr) (hp:RS wr P r 0 0) (hown:wr.ownsRow w0 60 8 (.slice A n c) n (rcv rs)) (hx:RXL (eK w0 (.slice A n c)) wr xs rs)
 (hb1:But P wr w1) (hnew:RX (λg=>wr.heap.size≤g) w1 x rr) (hk5:fL (w1.alloc ob) w5 (Value.ownBlock (.slice A n c)) (Value.ownBlock (.slice A5 (n+1) c5))) :
 RXL (eK w0 (.slice A5 (n+1) c5)) w5 (xs++[x]) (rs++[rr]):=by
 refine RXL.app (RXL.turn (λg cs hS hg => ?_) hx) (RX.turn (λg cs hS hg => ?_) hnew)
 ·have hg1:=aL hb1 hg (uB hp hg am);have:=hk5 g _ (aB hg1 ob) hS.2;exact ⟨⟨hS.1,this.2⟩,this.1⟩
 ·have hlt:some g≠Value.ownBlock (.slice A n c):=λe=>by have:=(hown.lt _ e.symm).2;omega
  have:=hk5 g _ (aB hg ob) hlt;exact ⟨⟨Nat.le_trans hb.size hS,this.2⟩,this.1⟩
theorem RS.low (h:RS w P l d bad) (hP:P<B) (hb:Below B w w'):RS w' P l d bad:=by
 obtain ⟨A,c,i,h1,h2,h3⟩:=h;refine ⟨A,c,i,(hb.block P hP).trans h1, ?_,h3⟩;rcases h2 with h2|⟨b,off,hA,hlt,hc⟩
 ·exact .inl h2
 ·exact .inr ⟨b,off,hA,hlt,λj u hu=>(hb.cell (p:=⟨b,_,none⟩) (Nat.lt_trans hlt hP)).trans (hc j u hu)⟩
theorem RBad.low {P d B:Nat} {w w':World} (h:RBad P w d) (hP:P<B) (hb:Below B w w'):RBad P w' d:=by
 obtain ⟨l',d',b',h1,h2,h3⟩:=h;exact ⟨l',d',b',h1,h2.low hP hb,h3⟩
theorem But.lowr (h:But P w0 w) (hb:Below w0 w w'):But P w0 w' :=
 ⟨hb.os.trans h.os,hb.tape.trans h.tape,hb.output.trans h.output,Nat.le_trans h.size hb.size,λk hk hn=>(hb.block k hk).trans (h.block k hk hn)⟩
theorem Xw (P most:Nat) (l:ZW) (w:World) (h:RS w P l 0 0) (hm:most≤100) (h1m:1≤most) :
 Calls prog 83 #[P,.int .i64 most] w (aGH P w (dO (pX 1 0) most l)):=by
 obtain ⟨iE,hiE,hz0,hz1,hz2⟩:=info_parts Nh;have hP0:P<w:=h.lt;go_enter func83,ntmps83;go_wp2_with fail
 go_loopg [5] (most+1) (λgk s5 wr=>∃ (acc:List Lp.X) (r:ZW) (A:ZT) (c:Nat) (rs:List RC),acc.length≤most∧gk=most+1-acc.length∧s5=.slice A acc.length c∧(acc.length=most->r=[])∧But P w wr∧wr.ownsRow w 60 8 (.slice A acc.length c) acc.length (rcv rs)∧RXL (eK w (.slice A acc.length c)) wr acc rs∧RS wr P r 0 0∧dO (pX 1 0) most l=jL (pX 1 0) most (most+1-acc.length) acc r)
 case atStart=>exact ⟨[],l,none,0,[],Nat.zero_le _,rfl,rfl,λh=>by simp at h;omega,But.refl _ _,World.ownsRow_nil _ _ _ _,trivial,h,rfl⟩
 case round =>
  clear h;obtain ⟨acc,r,A,c,rs,ha,rfl,rfl,hend,hb,hown,hx,hp,hq⟩:=dd;obtain ⟨n,hn⟩:∃ n,acc.length=n:=cw;have hk:most+1-acc.length=(most-acc.length)+1:=ac
  rw [hk] at hq;rw [hn] at hown hx hend hq ha;have HC:=κ ((Dc P r.length 0 ac).e1 wr r (ν _) hp);have HR:=κ (ι hb (ι hown (ι hx (ι hp (ι hq (ι hend hn))))));have hnI:(0:Int)≤(n:Int):=ac
  rw [hn];clear hq hk hb hown hx hp hend;go_wp2_with fail;refine μ HC ?_;rintro e w1 ⟨hb1,rr,rfl,hr⟩;have hown1:=sO HR.o.2.1 hb1 HR.o.2.2.2.1 am;have hsz:w≤w1.heap.size:=Nat.le_trans HR.o.1.size hb1.size;have hbw1:=HR.o.1.trans hb1;simp only [RC.val];rcases hF:pX 1 0 r with _|⟨x,r1⟩
  ·rw [hF] at hr;have HQ:=κ (HR.o.2.2.2.2.1.trans (mF hF));have HB:=κ (ι hbw1 (show RBad P w1 0 from hr));clear hF hr hb1 hbw1 HC;go_wp2_with (at_builtin;refine bJ _ rfl (.tmp 6) (.tmp 9) _ rfl w 60 iE _ 8 104 underlying36 hiE hz0 hz1 hz2 rfl ac A n c (rcv rs) rfl (hown1.alloc _) _ 1 1 rr.cells rfl rfl (aS rr.cells (heap_alloc_new _ _)) FP kt ac FO ?_;intro A5 c5 w5 ho5 hb5 _ hk5);have hb15:=FN;have HM:=κ (xW P 0 (n+1) most w5 (HB.o.2.low hP0 hb15));have H5:=κ (HB.o.1.lowr hb15);clear hb15 hb5 ho5 hk5 hown1;refine μ HM ?_;rintro e w6 ⟨rfl,hb6,hp6⟩;have H6:=κ (ι (H5.o.trans hb6) hp6);clear hb6 hp6;go_wp2;go_ret;refine ⟨H6.o.1, ?_⟩;rw [HQ.o];exact ⟨⟨_,_,_,rfl⟩,H6.o.2⟩
  ·rw [hF] at hr;obtain ⟨hxr,hpr⟩:=hr;have hnm:n<most:=by
    rcases Nat.lt_or_ge n most with h|h
    ·exact h
    ·have h0:=HR.o.2.2.2.2.2.1 ac;rw [h0,xM] at hF;cases hF
   have HB:=κ (ι hb1 (ι hbw1 (ι hxr (ι hpr hF))));clear hF hb1 hbw1 HC hxr hpr;go_wp2_with (at_builtin;refine bJ _ rfl (.tmp 6) (.tmp 9) _ rfl w 60 iE _ 8 104 underlying36 hiE hz0 hz1 hz2 rfl ac A n c (rcv rs) rfl (hown1.alloc _) _ 1 1 rr.cells rfl rfl (aS rr.cells (heap_alloc_new _ _)) FP kt ac FO ?_;intro A5 c5 w5 ho5 hb5 _ hk5);have hb15:=FN;have hp5:RS w5 P r1 0 0:=HB.o.2.2.2.1.low hP0 hb15;have hx5:=Qd HR.o.1 HR.o.2.2.2.1 HR.o.2.1 HR.o.2.2.1 HB.o.1 HB.o.2.2.1 hk5;have ho6:w5.ownsRow w 60 8 (.slice A5 (n+1) c5) (n+1) (rcv (rs++[rr])):=by rw [aCX];simpa [rcv] using ho5
   have H5:=κ (ι (HB.o.2.1.lowr hb15) (ι hp5 (ι hx5 (ι ho6 HB.o.2.2.2.2))));have HM:=κ (xX P 0 0 (n+1) most r1 w5 hp5);clear hb15 hb5 ho5 hk5 hown1 hp5 hx5 ho6 HB;refine μ HM ?_;rintro e w6 ⟨hb6,hq6⟩;have hcb:mJ 0 r1=isF eI r1:=by simp [mJ]
   rw [hcb] at hq6;have hown6:=sO H5.o.2.2.2.1 hb6 H5.o.2.1 am;have hx6:=RXL.turn (S':=eK w (.slice A5 (n+1) c5)) (w':=w6) (λg cs hS hg=>⟨hS,aL hb6 hg (uB H5.o.2.1 hg am)⟩) H5.o.2.2.1;have hbw6:=H5.o.1.trans hb6;have hl6:(acc++[x]).length=n+1:=by rw [List.length_append,HR.o.2.2.2.2.2.2];rfl
   cases hc:isF eI r1
   ·rw [hc] at hq6;simp only [φ,if_false] at hq6;obtain ⟨rfl,hp6⟩:=hq6;have HQ:=κ (HR.o.2.2.2.2.1.trans (nW H5.o.2.2.2.2 hc));have H6:=κ (ι hbw6 (ι hown6 (ι hx6 (ι hp6 hl6))));clear hc hcb hown6 hx6 hbw6 hp6 hb6 hl6 HM H5;go_wp2;go_ret;refine ⟨H6.o.1, ?_⟩;rw [HQ.o];exact ⟨A5,c5,rs++[rr],by rw [H6.o.2.2.2.2];rfl,by rw [H6.o.2.2.2.2];exact H6.o.2.1,by rw [H6.o.2.2.2.2];exact H6.o.2.2.1,H6.o.2.2.2.1⟩
   ·rw [hc] at hq6;simp only [if_true] at hq6;have htl:=bD hc
    by_cases hz:most≤n+1∧0<r1.tail.length
    ·rw [if_pos hz] at hq6;obtain ⟨rfl,hp6⟩:=hq6;have HQ:=κ (HR.o.2.2.2.2.1.trans (mG H5.o.2.2.2.2 hc (by rw [HR.o.2.2.2.2.2.2];omega) ac));have H6:=κ (ι hbw6 (show RBad P w6 0 from ⟨_,_,_,am,hp6,ν _,ac⟩));clear hc hcb hown6 hx6 hbw6 hp6 hb6 hl6 HM H5 htl;go_wp2;go_ret;refine ⟨H6.o.1, ?_⟩;rw [HQ.o];exact ⟨⟨_,_,_,rfl⟩,H6.o.2⟩
    ·rw [if_neg hz] at hq6;obtain ⟨rfl,hp6⟩:=hq6;have HQ:=κ (HR.o.2.2.2.2.1.trans (jY H5.o.2.2.2.2 hc (by rw [HR.o.2.2.2.2.2.2];omega)));have hend6:(acc++[x]).length=most->r1.tail=[]:=λe=>List.eq_nil_of_length_eq_zero ac;have H6:=κ (ι hbw6 (ι hown6 (ι hx6 (ι hp6 (ι hl6 hend6)))));clear hc hcb hown6 hx6 hbw6 hp6 hb6 hl6 hend6 HM H5 htl hz;go_wp2
     go_roundg (most+1-(n+1))
     case measure=>omega
     case rel=>exact ⟨acc++[x],r1.tail,A5,c5,rs++[rr],by rw [H6.o.2.2.2.2.1];omega,by rw [H6.o.2.2.2.2.1],by rw [H6.o.2.2.2.2.1],H6.o.2.2.2.2.2,H6.o.1,by rw [H6.o.2.2.2.2.1];exact H6.o.2.1,by rw [H6.o.2.2.2.2.1];exact H6.o.2.2.1,H6.o.2.2.2.1,by rw [HQ.o,H6.o.2.2.2.2.1];congr 1;omega⟩
