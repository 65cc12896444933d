/-
 Contracts. Conditions: those of each.
-/
import Derived.Test.YtkolcimllghnaaaGreatDoorQcVD
set_option maxRecDepth 100000
set_option maxHeartbeats 20000000
namespace Go.Proofs.YtkolcimllghnaaaGreatDoor
open Lp Go.Proofs.Tryz
open Go.RowKit
variable{B P bp gi k:Nat}{s:Sel}{w w' w0:World}{vs:ZU}{r:ZW}
def wOn:ZS:=[111,110]
theorem Lr:∀ args w,Sem.run prog (callFunc 121 args) w=.ok (.enter 121 args) w:=λ_ _=>rfl
theorem Rw (P bp bx gi:Nat) (cs0:ZV) (l0 l:ZW) (w0 w:World) (hR0:Resv w0) (hp0:PS w0 P l0 0) (hgi:w0.heap.size<=gi) (hne:gi≠bp) (hnx:gi≠bx) (hi:KC P bp bx gi cs0 w0 [] w) (hp:PS w P l 0) (hs:Lsane l) :
 Calls prog 120 #[P,.int .i64 8,.func (.func 121) #[] #[bp,bx]]
  w (EachPost P (KC P bp bx gi cs0 w0) (RJ P w0) (dO pZ 8 l)) :=
 mE pZ Im aFE 8 ac ac _ Lr #[bp,bx] P (KC P bp bx gi cs0 w0) (RJ P w0) (λ_ _ h=>h.but) (λ_ _ h k=>But.trans h k) (λ_ _ _ _ h hp hb=>h.next hp hb okC)
  (λacc l' w' ha hi hp' hs'=>Ir P bp bx gi 0 cs0 l0 w0 hR0 hp0 hgi hne hnx acc l' w' (Nat.le_trans ha ac) hi hp' hs') l w hi hp hs
structure CS (P bp gi:Nat) (w0:World) (r:ZW) (w:World):Prop where
 but:But P w0 w
 hbp:w.heap[bp]? = some (.cells #[P] 98 (0,0))
 ix:∃ a b c:ByteArray,w.heap[gi]? = some (.cells #[a,b,c] 230 (0,0))
 ps:PS w P r 0
 sane:Lsane r
theorem CS.next {r':ZW} (h:CS P bp gi w0 r w) (hb:But P w w') (hp:PS w' P r' 0) (hr:r' <:+ r):CS P bp gi w0 r' w':=by
 obtain ⟨a,b,c,hx⟩:=h.ix;exact ⟨h.but.trans hb,aM h.hbp hb h.ps am,⟨a,b,c,aM hx hb h.ps am⟩,hp,h.sane.sfx hr⟩
theorem CS.set1 (h:CS P bp gi w0 r w) (hP:P<gi) (hgi:w0.heap.size<=gi) (hne:gi≠bp) (s:ByteArray):CS P bp gi w0 r (w.setCell ⟨gi,1,none⟩ (.string s)):=by
 obtain ⟨a,b,c,hx⟩:=h.ix;have h1:=heap_setCell_same w gi 1 _ _ (.string s) hx;exact ⟨h.but.setNew hgi _,cA h.hbp (λe=>hne e.symm) _,⟨a,s,c,ji⟩,h.ps.setNew hP _,h.sane⟩
theorem CS.set2 (h:CS P bp gi w0 r w) (hP:P<gi) (hgi:w0.heap.size<=gi) (hne:gi≠bp) (s:ByteArray):CS P bp gi w0 r (w.setCell ⟨gi,2,none⟩ (.string s)):=by
 obtain ⟨a,b,c,hx⟩:=h.ix;have h1:=heap_setCell_same w gi 2 _ _ (.string s) hx;exact ⟨h.but.setNew hgi _,cA h.hbp (λe=>hne e.symm) _,⟨a,b,s,ji⟩,h.ps.setNew hP _,h.sane⟩
theorem Lv (P:Nat) (l:ZW) (w:World) (h:PS w P l 0) (hs:Lsane l) (hR:Resv w) :
 Calls prog 64 #[P] w (WkPost P w):=by
 have hb0:=gm;have hx0:=gy;have HI:=κ (λb (hb:isF Cn l=b)=>bS P 0 l ⟨#[105,110,100,101,120]⟩ _ (h.below hb0) b hb);have H0:=ms;clear h hs hR hb0 hx0;go_enter func64,ntmps64;cases hf:isF Cn l
 ·have HI1:=κ (HI.o false hf);clear HI hf;go_wp2_with fail;refine μ HI1 ?_;rintro e w1 ⟨rfl,hb1,hp1⟩;simp only [φ,if_false] at hp1;have HNe:=κ (bQ P 0 Cm l w1 hp1);have hx1:=mt;have c1:=ii;have H1:=κ (ι (H0.o.2.2.2.1.trans hb1) (ι hp1 hx1));clear hb1 hp1 HI1 hx1;go_wp2_with fail;refine μ HNe ?_;rintro e w2 hn;rcases hq:aD Cm l with _|r
  ·obtain ⟨rfl,hb2⟩:=eu;have HB:=mu;clear hn hq hb2 HNe;unfold aT;go_wp2;exact nz
  ·obtain ⟨rfl,hb2,hp2⟩:=ev;have hB:=H1.o.1.trans hb2;have hx2:=aM H1.o.2.2 hb2 H1.o.2.1 am;have c2:=β hx2 0;have HNm:=κ (eD P 0 r w2 hp2 (H0.o.2.2.1.but H0.o.1 hB));have H2:=κ (ι hB (ι (H0.o.2.1.sfx (aU hq)) (ι hx2 hp2)));clear hn hq hb2 hp2 hB HNe c1 hx2;go_wp2_with fail;refine μ HNm ?_;rintro e w3 ⟨hb3,hq3⟩;rcases hq:bB r with _|⟨t,r3⟩
   ·rw [hq] at hq3;obtain ⟨ce,rfl,hce⟩:=hq3;have HB:=κ (H2.o.1.trans hb3);clear hq hb3 HNm;unfold aT;go_wp2;exact oa
   ·rw [hq] at hq3;obtain ⟨rfl,hp3⟩:=hq3;have hx3:=aM H2.o.2.2.1 hb3 H2.o.2.2.2 am;have hbA:Below w3 w3 ((w3.alloc (.cells #[t,.slice none 0 0] 232)).alloc (.cells #[w3] 231)):=(ρ).alloc aa _;have hg4:=aB (heap_alloc_new w3 (.cells #[t,.slice none 0 0] 232)) (.cells #[w3] 231);have hv4:=bG w3 (.cells #[t,.slice none 0 0] 232) (.cells #[w3] 231);have hx4:=aA hx3 hbA;have c4:=β hx4 0;have HN4:=κ (bQ P 0 uR r3 _ (hp3.below hbA));have hlt:=aG hx3;have H3:=κ (ι ((H2.o.1.trans hb3).trans (But.of hbA)) (ι (hp3.below hbA) (ι (H2.o.2.1.sfx (bZ hq)) (ι hg4 (ι hv4 (ι hx4 (ι (H2.o.1.trans hb3).size hlt)))))));clear hq hb3 hp3 hbA HNm hx3 hg4 hv4 hx4 c2 hlt;rw [World.size_alloc,World.size_alloc] at HN4;go_wp2_with fail;refine μ HN4 ?_;rintro e w5 hn;rcases hq:aD uR r3 with _|r5
    ·obtain ⟨rfl,hb5⟩:=eu;have HB:=κ (H3.o.1.trans hb5);clear hn hq hb5 HN4;unfold aT;go_wp2;exact nz
    ·obtain ⟨rfl,hb5,hp5⟩:=ev;have hbp5:=aM H3.o.2.2.2.2.2.1 hb5 H3.o.2.1 am;have hi5:KC P w (w3+1) w3 #[t,.slice none 0 0] w [] w5:=⟨H3.o.1.trans hb5,hbp5,aM H3.o.2.2.2.2.1 hb5 H3.o.2.1 am,none,0,[],⟨_,aM H3.o.2.2.2.1 hb5 H3.o.2.1 am,rfl,rfl,λ_ _=>rfl⟩,World.ownsRow_nil _ _ _ _,trivial⟩;have hs5:=H3.o.2.2.1.sfx (aU hq);have HE:=κ (Rw P w (w3+1) w3 _ l r5 w w5 H0.o.2.2.1 H0.o.1 H3.o.2.2.2.2.2.2.1 (Nat.ne_of_gt H3.o.2.2.2.2.2.2.2) ac hi5 hp5 hs5);have c5:=β hbp5 0;have HS5:=κ hs5;clear hn hq hb5 hp5 hbp5 hi5 hs5 HN4 c4;go_wp2_with fail;refine μ HE ?_;rintro e w6 hn;rcases hq6:dO pZ 8 r5 with _|⟨cols,r6⟩
     ·rw [hq6] at hn;obtain ⟨ce,rfl,hc,hj⟩:=hn;have HB:=κ (ι hc hj);clear hq6 hc hj HE;unfold aT;go_wp2;exact ⟨rfl,WkPost.stop HB.o.2 HB.o.1⟩
     ·rw [hq6] at hn;obtain ⟨rfl,hp6,hi6⟩:=hn;have HN6:=κ (bQ P 0 uQ r6 w6 hp6);have c6:=β hi6.hbp 0;have H6:=κ (ι hi6 (ι hp6 (HS5.o.sfx (lQ Im 8 _ _ _ _ _ hq6).2)));clear hq6 hp6 hi6 HE c5;go_wp2_with fail;refine μ HN6 ?_;rintro e w7 hn;rcases hq:aD uQ r6 with _|r7
      ·obtain ⟨rfl,hb7⟩:=eu;have HB:=κ (H6.o.1.but.trans hb7);clear hn hq hb7 HN6;unfold aT;go_wp2;exact nz
      ·obtain ⟨rfl,hb7,hp7⟩:=ev;have hi7:=H6.o.1.next H6.o.2.1 hb7 okC;have c7:=β hi7.hbx 0;have HB:=κ (ι hi7.but (ι hp7 (H6.o.2.2.sfx (aU hq))));clear hn hq hb7 hp7 hi7 HN6;go_wp2;go_ret;exact oe
 ·have HI1:=κ (HI.o true hf);clear HI hf;go_wp2_with fail;refine μ HI1 ?_;rintro e w1 ⟨rfl,hb1,hp1⟩;simp only [if_true] at hp1;have hx1:=mt;have c1:=ii;have hB1:=H0.o.2.2.2.1.trans hb1;have HNm:=κ (eD P 0 l.tail w1 hp1 (H0.o.2.2.1.but H0.o.1 hB1));have H1:=κ (ι hB1 (ι hp1 (ι H0.o.2.1.tl hx1)));clear hb1 hp1 HI1 hx1 hB1;go_wp2_with fail;refine μ HNm ?_;rintro e w2 ⟨hb2,hq2⟩;rcases hq:bB l.tail with _|⟨t,r2⟩
  ·rw [hq] at hq2;obtain ⟨ce,rfl,hce⟩:=hq2;have HB:=mu;clear hq hb2 HNm;unfold aT;go_wp2;exact oa
  ·rw [hq] at hq2;obtain ⟨rfl,hp2⟩:=hq2;have hbA:Below w2 w2 (w2.alloc (.cells #[t,(),()] 230)):=ρ;have hx2:=aM H1.o.2.2.2 hb2 H1.o.2.1 am;have hs3:CS P w w2 w r2 (w2.alloc (.cells #[t,(),()] 230)):=⟨(H1.o.1.trans hb2).trans (But.of hbA),aA hx2 hbA,⟨_,_,_,heap_alloc_new w2 _⟩,hp2.below hbA,H1.o.2.2.1.sfx (bZ hq)⟩;have HG:=κ (ι hp2.lt (ι (H1.o.1.trans hb2).size (Nat.ne_of_gt (aG hx2))));have c3:=β hs3.hbp 0;have HNe:=κ (bQ P 0 wOn r2 _ hs3.ps);have HC:=κ hs3;clear hq hb2 hp2 hbA hx2 hs3 HNm c1;rw [World.size_alloc] at HNe;go_wp2_with fail;refine μ HNe ?_;rintro e wa1 hn;rcases hq:aD wOn r2 with _|ra1
   ·obtain ⟨rfl,hb5⟩:=eu;have HB:=og;clear hn hq hb5 HNe;unfold aT;go_wp2;exact nz
   ·obtain ⟨rfl,hb5,hp5⟩:=ev;have hs5:=oh;have c5:=β hs5.hbp 0;have HNm:=κ (eD P 0 ra1 wa1 hp5 (H0.o.2.2.1.but H0.o.1 hs5.but));have HC1:=κ hs5;clear hn hq hb5 hp5 hs5 HNe c3;go_wp2_with fail;refine μ HNm ?_;rintro e wb1 ⟨hb6,hq6⟩;rcases hq:bB ra1 with _|⟨tb1,rb1⟩
    ·rw [hq] at hq6;obtain ⟨ce,rfl,hce⟩:=hq6;have HB:=κ (HC1.o.but.trans hb6);clear hq hb6 HNm;unfold aT;go_wp2;exact oa
    ·rw [hq] at hq6;obtain ⟨rfl,hp6⟩:=hq6;have hs6:=HC1.o.next hb6 hp6 (bZ hq);have hs7:=hs6.set1 HG.o.1 HG.o.2.1 HG.o.2.2 ⟨tb1.toArray⟩;obtain ⟨xa,xb,xc,hx6⟩:=hs6.ix;have d6:=β hx6 1;have f6:=λj=>frozen_of_row wb1 w2 j _ _ hx6;have c7:=β hs7.hbp 0;have HNe:=κ (bQ P 0 uR rb1 _ hs7.ps);have HC:=κ hs7;clear hq hb6 hp6 hs6 hs7 hx6 HNm c5;rw [World.size_setCell] at HNe;go_wp2_with fail;refine μ HNe ?_;rintro e wa2 hn;rcases hq:aD uR rb1 with _|ra2
     ·obtain ⟨rfl,hb5⟩:=eu;have HB:=og;clear hn hq hb5 HNe;unfold aT;go_wp2;exact nz
     ·obtain ⟨rfl,hb5,hp5⟩:=ev;have hs5:=oh;have c5:=β hs5.hbp 0;have HNm:=κ (eD P 0 ra2 wa2 hp5 (H0.o.2.2.1.but H0.o.1 hs5.but));have HC2:=κ hs5;clear hn hq hb5 hp5 hs5 HNe c7 d6 f6;go_wp2_with fail;refine μ HNm ?_;rintro e wb2 ⟨hb6,hq6⟩;rcases hq:bB ra2 with _|⟨tb2,rb2⟩
      ·rw [hq] at hq6;obtain ⟨ce,rfl,hce⟩:=hq6;have HB:=κ (HC2.o.but.trans hb6);clear hq hb6 HNm;unfold aT;go_wp2;exact oa
      ·rw [hq] at hq6;obtain ⟨rfl,hp6⟩:=hq6;have hs6:=HC2.o.next hb6 hp6 (bZ hq);have hs7:=hs6.set2 HG.o.1 HG.o.2.1 HG.o.2.2 ⟨tb2.toArray⟩;obtain ⟨xa,xb,xc,hx6⟩:=hs6.ix;have d6:=β hx6 2;have f6:=λj=>frozen_of_row wb2 w2 j _ _ hx6;have c7:=β hs7.hbp 0;have HNe:=κ (bQ P 0 uQ rb2 _ hs7.ps);have HC:=κ hs7;clear hq hb6 hp6 hs6 hs7 hx6 HNm c5;rw [World.size_setCell] at HNe;go_wp2_with fail;refine μ HNe ?_;rintro e wa3 hn;rcases hq:aD uQ rb2 with _|ra3
       ·obtain ⟨rfl,hb5⟩:=eu;have HB:=og;clear hn hq hb5 HNe;unfold aT;go_wp2;exact nz
       ·obtain ⟨rfl,hb5,hp5⟩:=ev;have hs5:=oh;have HB:=κ hs5;clear hn hq hb5 hp5 hs5 HNe c7 d6 f6;go_wp2;go_ret;exact WkPost.ok HB.o.but am HB.o.ps HB.o.sane
def EL2 {α:Type} (R:World->α->Value->Value->Prop):List α->World->ZU->Prop
 | [],_,[]=>True
 | x::xs,w,a::b::vs=>R w x a b/\EL2 R xs w vs
 | _,_,_=>False
theorem EL2.mono {α:Type} {R R':World->α->Value->Value->Prop} {w w':World} (h:∀ x a b,R w x a b->R' w' x a b):∀ {xs:List α} {vs:ZU},EL2 R xs w vs->EL2 R' xs w' vs
 | [],[],_=>trivial
 | [],_::_,k=>k.elim
 | _::_,[],k=>k.elim
 | _::_,[_],k=>k.elim
 | _::_,_::_::_,k=>⟨h _ _ _ k.1,EL2.mono h k.2⟩
theorem EL2.app {α:Type} {R:World->α->Value->Value->Prop} {w:World} {x:α} {a b:Value} (h:R w x a b):∀ {xs:List α} {vs:ZU},EL2 R xs w vs->EL2 R (xs++[x]) w (vs++[a,b])
 | [],[],_=>⟨h,trivial⟩
 | [],_::_,k=>k.elim
 | _::_,[],k=>k.elim
 | _::_,[_],k=>k.elim
 | _::_,_::_::_,k=>⟨k.1,EL2.app h k.2⟩
def RIt (B:Nat) (w:World) (x:Lp.X×ZS) (a b:Value):Prop:=PX B w x.1 a/\b=.string ⟨x.2.toArray⟩
def ROr (B:Nat) (w:World) (x:Lp.X×Bool) (a b:Value):Prop:=PX B w x.1 a/\b=.bool x.2
theorem Zf (hn:fU w w') {xs:List (Lp.X×ZS)} :EL2 (RIt B) xs w vs->EL2 (RIt B) xs w' vs:=EL2.mono λ_ _ _ h=>⟨PX.keepN hn h.1,h.2⟩
theorem Ze (hn:fU w w') {xs:List (Lp.X×Bool)} :EL2 (ROr B) xs w vs->EL2 (ROr B) xs w' vs:=EL2.mono λ_ _ _ h=>⟨PX.keepN hn h.1,h.2⟩
theorem PXo.keepN {B:Nat} {w w':World} (hs:fU w w'):∀ {o:Option Lp.X} {v:Value},PXo B w o v->PXo B w' o v
 | none,_,h=>h
 | some _,_,h=>⟨h.1,PX.keepN hs h.2⟩
def Fld (B:Nat) (w:World) (s:Sel) (j:Nat) (u:Value):Prop:=match j with
 | 0=>∃ A c vs,u=.slice A s.items.length c/\w.ownsRow B 142 2 u s.items.length vs/\EL2 (RIt B) s.items w vs
 | 3=>PXo B w s.on u
 | 4=>PXo B w s.wh u
 | 5=>RowX B w s.group u
 | 6=>∃ A c vs,u=.slice A s.order.length c/\w.ownsRow B 147 2 u s.order.length vs/\EL2 (ROr B) s.order w vs
 | 7=>u=.int .i64 s.limit
 | _=>True
def pV (k:Nat) (t:TypeId):Bool:=Gz t||(t==142&&k !=0)||(t==66&&k !=5)||(t==147&&k !=6)
theorem Fld.stays (hs:StaysT (pV k) w w') {j:Nat} (hj:j≠k) {u:Value} (h:Fld B w s j u):Fld B w' s j u:=by
 have hn:fU w w':=λg cs t hg ht=>hs g cs t hg (by simp [pV,ht])
 match j,hj,h with
 | 0,hj,⟨A,c,vs,e,h1,h2⟩=>exact ⟨A,c,vs,e,qR h1 hs ot,Zf hn h2⟩
 | 1,_,_=>trivial
 | 2,_,_=>trivial
 | 3,_,h=>exact PXo.keepN hn h
 | 4,_,h=>exact PXo.keepN hn h
 | 5,hj,⟨A,c,vs,e,h1,h2⟩=>exact ⟨A,c,vs,e,qR h1 hs ot,h2.keepN hn⟩
 | 6,hj,⟨A,c,vs,e,h1,h2⟩=>exact ⟨A,c,vs,e,qR h1 hs ot,Ze hn h2⟩
 | 7,_,h=>exact h
 | _+8,_,_=>trivial
def SelC (B:Nat) (w:World) (s:Sel) (k:Nat) (cs:ZV):Prop:=cs.size=8/\∀ j u,j≠k->cs[j]? = some u->Fld B w s j u
theorem SelC.stays {B k:Nat} {w w':World} {s:Sel} {cs:ZV} (h:SelC B w s k cs) (hs:StaysT (pV k) w w'):SelC B w' s k cs:=⟨h.1,λj u hj hu=>(h.2 j u hj hu).stays hs hj⟩
def CE (B:Nat) (s:Sel) (k:Nat) (cs:ZV) (E:World->ZU->Prop) (vs:ZU) (w:World):Prop:=SelC B w s k cs/\E w vs
theorem CE.stays {B k:Nat} {s:Sel} {cs:ZV} {E:World->ZU->Prop} {vs:ZU} {w w':World} (h:CE B s k cs E vs w) (hs:StaysT (pV k) w w') (hE:fU w w'->E w vs->E w' vs):CE B s k cs E vs w' :=
 ⟨h.1.stays hs,hE (λg cs t hg ht=>hs g cs t hg (by simp [pV,ht])) h.2⟩
theorem CE.app {cs:ZV} {E E':World->ZU->Prop} {vs':ZU} (h:CE B s k cs E vs w) (hE:E w vs->E' w vs'):CE B s k cs E' vs' w:=⟨h.1,hE h.2⟩
abbrev KIt (P bp bx gi:Nat) (cs0:ZV) (s0:Sel) (w0:World) (acc:List (Lp.X×ZS)) (w:World):Prop:=KI P bp bx gi 0 cs0 74 136 142 2 w0 (CE w0 s0 0 cs0 (EL2 (RIt w0) acc)) acc.length w
theorem aKL (B:Nat) (s0:Sel) (cs0:ZV) (acc:List (Lp.X×ZS)):Ok (CE B s0 0 cs0 (EL2 (RIt B) acc)) (pV 0) 74 136 142:=⟨am,am,am,am,am,am,am,am,am,λ_ h=>by simp [pV,h],λ_ _ _ hs h=>h.stays hs λhn=>Zf hn⟩
theorem Ix (P bp bx gi d0:Nat) (cs0:ZV) (s0:Sel) (l0:ZW) (w0:World) (hR0:Resv w0) (hp0:PS w0 P l0 d0) (hgi:w0.heap.size<=gi) (hne:gi≠bp) (hnx:gi≠bx) (acc:List (Lp.X×ZS)) (l:ZW) (w:World) (hacc:acc.length<=100) (hi:KIt P bp bx gi cs0 s0 w0 acc w) (hp:PS w P l 0) (hs:Lsane l) :
 Calls prog 127 #[bp,bx] w (lA P (KIt P bp bx gi cs0 s0 w0) (RJ P w0) acc (dA l)):=by
 have HC:=ou;have OK:=κ (aKL w0 s0 cs0 acc);obtain ⟨A,c,vs,hke⟩:=hi.row;have HI:=np;have H0:=mn;have cb:=mg;clear hi hp hs hR0 hp0 hgi hne hnx hke;go_enter func127,ntmps127;go_wp2_with fail;refine μ HC ?_;rintro e w1 ⟨hb1,hq1⟩;rcases hq:pX 1 0 l with _|⟨x,r1⟩
 ·rw [hq] at hq1;obtain ⟨ce,rfl,hce⟩:=hq1;have HN:=κ (show dA l=none by rw [dA,hq]);have HB:=my;clear hq;unfold aT;go_wp2;refine ⟨rfl, ?_⟩;rw [HN.o];exact mp
 ·rw [hq] at hq1;obtain ⟨T,g,rfl,hx,hp1⟩:=hq1;have H:=κ (It.new (ds:=#[.iface T g,.string ⟨#[]⟩]) (o:=some (x,.iface T g)) HI.o.1 HI.o.2.1 HI.o.2.2.1 HI.o.2.2.2 hb1 hp1 (iJ hq) OK.o (λq h=>ov));have HQ:=fa;clear hq hb1 hp1 HC cb HI hx;cases hf:isF wAs r1
  ·skip
   have HI1:=κ (bS P 0 r1 ⟨#[97,115]⟩ _ H.o.ps false hf);have cb:=nu;go_wp2_with fail;refine μ HI1 ?_;rintro e w2 ⟨rfl,hb2,hp2⟩;simp only [φ,if_false] at hp2;replace H:=ow;clear hb2 hp2 HI1 cb;have HN:=κ (show dA l=some ((x,[]),r1) by rw [dA,HQ.o];simp only [hf];rfl);go_upto_region 3 with fail
   try clear c3 f3
   refine Jd (T1:=T) (g1:=g) (s1:=⟨#[]⟩) (hbx:=H.o.ki.hbx) (hgs:=H.o.box) (hke:=H.o.ke) (hB:=H.o.ki.but.size) (hn:=hacc) (h := ?_) _ _ _ _ _ _ _ _ _ _ _ _ _ _ _ _ _ _ _ _ _ _ _;intro _ _ _ _ _ _ _ _ _ _ A5 c5 w5 hap;have HE:=κ (H.o.fin H0.o.2.1.lt H0.o.2.2.1 H0.o.2.2.2.1 H0.o.2.2.2.2 hap OK.o (C':=CE w0 s0 0 cs0 (EL2 (RIt w0) (acc++[(x,[])]))) (λw' h k=>k.app λhn=>EL2.app ⟨h _ rfl,rfl⟩ hn));clear hap;go_wp2;go_end0;rw [HN.o];refine ⟨rfl,HE.o.1, ?_⟩;unfold KIt;rw [List.length_append];exact HE.o.2
  ·skip
   have HI1:=κ (bS P 0 r1 ⟨#[97,115]⟩ _ H.o.ps true hf);have cb:=nu;go_wp2_with fail;refine μ HI1 ?_;rintro e w2 ⟨rfl,hb2,hp2⟩;simp only [if_true] at hp2;replace H:=ox;clear hb2 hp2 HI1 cb;have HF:=ez;have HNm:=κ (eD P 0 r1.tail w2 H.o.ps (H0.o.1.but H0.o.2.1 H.o.ki.but));have cb:=nu;clear hf;go_wp2_with fail;refine μ HNm ?_;rintro e w3 ⟨hb3,hq3⟩;rcases hq:bB r1.tail with _|⟨t,r3⟩
   ·rw [hq] at hq3;obtain ⟨ce,rfl,hce⟩:=hq3;have HN:=κ (show dA l=none by rw [dA,HQ.o];simp only [HF.o,hq];rfl);have HB:=κ (ι hce (H.o.ki.but.trans hb3));clear hq;unfold aT;go_wp2;refine ⟨rfl, ?_⟩;rw [HN.o];exact mp
   ·rw [hq] at hq3;obtain ⟨rfl,hp3⟩:=hq3;replace H:=κ (H.o.next hb3 hp3 (bZ hq) OK.o);have HQ3:=fa;clear hq hb3 hp3 HNm cb;have c3:=ns;have f3:=λj=>frozen_of_row w3 w1 j _ _ H.o.box;replace H:=κ (H.o.set 1 (.string t) OK.o);have HN:=κ (show dA l=some ((x,t),r3) by rw [dA,HQ.o];simp only [HF.o,HQ3.o];rfl);go_upto_region 3 with fail
    try clear c3 f3
    refine Jd (T1:=T) (g1:=g) (s1:=⟨t.toArray⟩) (hbx:=H.o.ki.hbx) (hgs:=H.o.box) (hke:=H.o.ke) (hB:=H.o.ki.but.size) (hn:=hacc) (h := ?_) _ _ _ _ _ _ _ _ _ _ _ _ _ _ _ _ _ _ _ _ _ _ _;intro _ _ _ _ _ _ _ _ _ _ A5 c5 w5 hap;have HE:=κ (H.o.fin H0.o.2.1.lt H0.o.2.2.1 H0.o.2.2.2.1 H0.o.2.2.2.2 hap OK.o (C':=CE w0 s0 0 cs0 (EL2 (RIt w0) (acc++[(x,t)]))) (λw' h k=>k.app λhn=>EL2.app ⟨h _ rfl,rfl⟩ hn));clear hap;go_wp2;go_end0;rw [HN.o];refine ⟨rfl,HE.o.1, ?_⟩;unfold KIt;rw [List.length_append];exact HE.o.2
abbrev KOr (P bp bx gi:Nat) (cs0:ZV) (s0:Sel) (w0:World) (acc:List (Lp.X×Bool)) (w:World):Prop:=KI P bp bx gi 6 cs0 74 136 147 2 w0 (CE w0 s0 6 cs0 (EL2 (ROr w0) acc)) acc.length w
theorem aKK (B:Nat) (s0:Sel) (cs0:ZV) (acc:List (Lp.X×Bool)):Ok (CE B s0 6 cs0 (EL2 (ROr B) acc)) (pV 6) 74 136 147:=⟨am,am,am,am,am,am,am,am,am,λ_ h=>by simp [pV,h],λ_ _ _ hs h=>h.stays hs λhn=>Ze hn⟩
theorem Iv (P bp bx gi d0:Nat) (cs0:ZV) (s0:Sel) (l0:ZW) (w0:World) (hR0:Resv w0) (hp0:PS w0 P l0 d0) (hgi:w0.heap.size<=gi) (hne:gi≠bp) (hnx:gi≠bx) (acc:List (Lp.X×Bool)) (l:ZW) (w:World) (hacc:acc.length<=100) (hi:KOr P bp bx gi cs0 s0 w0 acc w) (hp:PS w P l 0) (hs:Lsane l) :
 Calls prog 129 #[bp,bx] w (lA P (KOr P bp bx gi cs0 s0 w0) (RJ P w0) acc (bK l)):=by
 have HC:=ou;have OK:=κ (aKK w0 s0 cs0 acc);obtain ⟨A,c,vs,hke⟩:=hi.row;have HI:=np;have H0:=mn;have cb:=mg;clear hi hp hs hR0 hp0 hgi hne hnx hke;go_enter func129,ntmps129;go_wp2_with fail;refine μ HC ?_;rintro e w1 ⟨hb1,hq1⟩;rcases hq:pX 1 0 l with _|⟨x,r1⟩
 ·rw [hq] at hq1;obtain ⟨ce,rfl,hce⟩:=hq1;have HN:=κ (show bK l=none by rw [bK,hq]);have HB:=my;clear hq;unfold aT;go_wp2;refine ⟨rfl, ?_⟩;rw [HN.o];exact mp
 ·rw [hq] at hq1;obtain ⟨T,g,rfl,hx,hp1⟩:=hq1;have H:=κ (It.new (ds:=#[.iface T g,.bool false]) (o:=some (x,.iface T g)) HI.o.1 HI.o.2.1 HI.o.2.2.1 HI.o.2.2.2 hb1 hp1 (iJ hq) OK.o (λq h=>ov));have HQ:=fa;clear hq hb1 hp1 HC cb HI hx;cases hf:isF wH r1
  ·skip
   have HI1:=κ (bS P 0 r1 ⟨#[100,101,115,99]⟩ _ H.o.ps false hf);have cb:=nu;go_wp2_with fail;refine μ HI1 ?_;rintro e w2 ⟨rfl,hb2,hp2⟩;simp only [φ,if_false] at hp2;replace H:=ow;clear hb2 hp2 HI1 cb;have HF:=ez;clear hf;have c3:=ns;have f3:=nr;replace H:=κ (H.o.set 1 (.bool false) OK.o);have c4:(w2.setCell ⟨w1,1,none⟩ (.bool false)).cell? ⟨w1,1,none⟩=some (.bool false):=β H.o.box 1;cases hf:isF Tj r1
   ·skip
    have HI1:=κ (bS P 0 r1 ⟨#[97,115,99]⟩ _ H.o.ps false hf);have cb:=nu;go_wp2_with fail;refine μ HI1 ?_;rintro e w3 ⟨rfl,hb2,hp2⟩;simp only [φ,if_false] at hp2;replace H:=ow;clear hb2 hp2 HI1 cb;clear c4;have HN:=κ (show bK l=some ((x,false),r1) by rw [bK,HQ.o];simp only [HF.o,hf];rfl);go_upto_region 4 with fail
    try clear c3 f3
    refine uM (T1:=T) (g1:=g) (b1:=false) (hbx:=H.o.ki.hbx) (hgs:=H.o.box) (hke:=H.o.ke) (hB:=H.o.ki.but.size) (hn:=hacc) (h := ?_) _ _ _ _ _ _ _ _ _ _ _ _ _ _ _ _ _ _ _ _ _ _ _ _ _ _;intro _ _ _ _ _ _ _ _ _ _ A5 c5 w5 hap;have HE:=oy;clear hap;go_wp2;go_end0;rw [HN.o];refine ⟨rfl,HE.o.1, ?_⟩;unfold KOr;rw [List.length_append];exact HE.o.2
   ·skip
    have HI1:=κ (bS P 0 r1 ⟨#[97,115,99]⟩ _ H.o.ps true hf);have cb:=nu;go_wp2_with fail;refine μ HI1 ?_;rintro e w3 ⟨rfl,hb2,hp2⟩;simp only [if_true] at hp2;replace H:=ox;clear hb2 hp2 HI1 cb;clear c4;have HN:=κ (show bK l=some ((x,false),r1.tail) by rw [bK,HQ.o];simp only [HF.o,hf];rfl);go_upto_region 4 with fail
    try clear c3 f3
    refine uM (T1:=T) (g1:=g) (b1:=false) (hbx:=H.o.ki.hbx) (hgs:=H.o.box) (hke:=H.o.ke) (hB:=H.o.ki.but.size) (hn:=hacc) (h := ?_) _ _ _ _ _ _ _ _ _ _ _ _ _ _ _ _ _ _ _ _ _ _ _ _ _ _;intro _ _ _ _ _ _ _ _ _ _ A5 c5 w5 hap;have HE:=oy;clear hap;go_wp2;go_end0;rw [HN.o];refine ⟨rfl,HE.o.1, ?_⟩;unfold KOr;rw [List.length_append];exact HE.o.2
  ·skip
   have HI1:=κ (bS P 0 r1 ⟨#[100,101,115,99]⟩ _ H.o.ps true hf);have cb:=nu;go_wp2_with fail;refine μ HI1 ?_;rintro e w2 ⟨rfl,hb2,hp2⟩;simp only [if_true] at hp2;replace H:=ox;clear hb2 hp2 HI1 cb;have c3:=ns;have f3:=nr;replace H:=κ (H.o.set 1 (.bool true) OK.o);have c4:(w2.setCell ⟨w1,1,none⟩ (.bool true)).cell? ⟨w1,1,none⟩=some (.bool true):=β H.o.box 1;have HN:=κ (show bK l=some ((x,true),r1.tail) by rw [bK,HQ.o];simp only [hf];rfl);go_upto_region 4 with fail
   try clear c3 f3
   refine uM (T1:=T) (g1:=g) (b1:=true) (hbx:=H.o.ki.hbx) (hgs:=H.o.box) (hke:=H.o.ke) (hB:=H.o.ki.but.size) (hn:=hacc) (h := ?_) _ _ _ _ _ _ _ _ _ _ _ _ _ _ _ _ _ _ _ _ _ _ _ _ _ _;intro _ _ _ _ _ _ _ _ _ _ A5 c5 w5 hap;have HE:=κ (H.o.fin H0.o.2.1.lt H0.o.2.2.1 H0.o.2.2.2.1 H0.o.2.2.2.2 hap OK.o (C':=CE w0 s0 6 cs0 (EL2 (ROr w0) (acc++[(x,true)]))) (λw' h k=>k.app λhn=>EL2.app ⟨h _ rfl,rfl⟩ hn));clear hap;go_wp2;go_end0;rw [HN.o];refine ⟨rfl,HE.o.1, ?_⟩;unfold KOr;rw [List.length_append];exact HE.o.2
