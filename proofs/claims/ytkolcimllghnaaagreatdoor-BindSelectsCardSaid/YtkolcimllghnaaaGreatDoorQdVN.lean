/-
 Contracts. Conditions: those of each.
-/
import Derived.Test.YtkolcimllghnaaaGreatDoorQdVH
import Derived.Test.YtkolcimllghnaaaGreatDoorQdVV
set_option maxRecDepth 100000
set_option maxHeartbeats 20000000
namespace Go.Proofs.YtkolcimllghnaaaGreatDoor.Lp
def aGZ (cs:List Col):Prop:=cs.Pairwise λa b=>b.n≠a.n
def Ew (cs:List Col):Prop:=aGZ cs∧∀ u∈cs,1≤u.n.length∧u.n.length≤20
theorem rX {s:ZS}:∀ {cs:List Col} (a:Nat),(∀ d∈cs,d.n≠s)->cJ s a cs=[]
 | [],_,_=>rfl
 | c::cs,a,h=>by
   show (if c.n==s then [(a,c.k)] else [])++cJ s (a+1) cs=[];rw [rX (a+1) λd hd=>h d (by simp [hd])];have:=h c aa;simp [this]
end Go.Proofs.YtkolcimllghnaaaGreatDoor.Lp

namespace Go.Proofs.YtkolcimllghnaaaGreatDoor
open Lp Go.Proofs.Tryz
open Go.RowKit
variable{P k size:Nat}{s:Sel}{e:TypeId}{w w' w0:World}{vs:ZU}{cs:ZV}{l r:ZW}
abbrev KIt (P bp bx gi:Nat) (cs0:ZV) (s0:Sel) (w0:World) (acc:List (Lp.X×ZS)) (w:World):Prop:=KI P bp bx gi 0 cs0 74 136 142 2 w0 (CE w0 s0 0 cs0 (EL2 (RIt w0) acc)) acc.length w
theorem aKL (B:Nat) (s0:Sel) (cs0:ZV) (acc:List (Lp.X×ZS)):Ok (CE B s0 0 cs0 (EL2 (RIt B) acc)) (pV 0) 74 136 142:=⟨am,am,am,am,am,am,am,am,am,λ_ h=>by simp [pV,h],λ_ _ _ hs h=>h.stays hs λhn=>Zf hn⟩
theorem Ix (P bp bx gi d0:Nat) (cs0:ZV) (s0:Sel) (l0:ZW) (w0:World) (hR0:Resv w0) (hp0:PS w0 P l0 d0) (hgi:w0.heap.size≤gi) (hne:gi≠bp) (hnx:gi≠bx) (acc:List (Lp.X×ZS)) (l:ZW) (w:World) (hacc:acc.length≤100) (hi:KIt P bp bx gi cs0 s0 w0 acc w) (hp:PS w P l 0) (hs:Lsane l) :
 Calls prog 127 #[bp,bx] w (lA P (KIt P bp bx gi cs0 s0 w0) (RJ P w0) acc (dA l)):=by
 have HC:=ry;have OK:=κ (aKL w0 s0 cs0 acc);obtain ⟨A,c,vs,hke⟩:=hi.row;have HI:=rb;have H0:=pm;have cb:=pd;clear hi hp hs hR0 hp0 hgi hne hnx hke;go_enter func127,ntmps127;go_wp2_with fail;refine μ HC ?_;rintro e w1 ⟨hb1,hq1⟩;rcases hq:pX 1 0 l with _|⟨x,r1⟩
 ·rw [hq] at hq1;obtain ⟨ce,rfl,hce⟩:=hq1;have HN:=κ (show dA l=none by rw [dA,hq]);have HB:=qk;clear hq;unfold aT;go_wp2;refine ⟨rfl, ?_⟩;rw [HN.o];exact po
 ·rw [hq] at hq1;obtain ⟨T,g,rfl,hx,hp1⟩:=hq1;have H:=κ (It.new (ds:=#[.iface T g,.string ⟨#[]⟩]) (o:=some (x,.iface T g)) HI.o.1 HI.o.2.1 HI.o.2.2.1 HI.o.2.2.2 hb1 hp1 (iJ hq) OK.o (λq h=>sa));have HQ:=mi;clear hq hb1 hp1 HC cb HI hx;cases hf:isF wAs r1
  ·skip
   have HI1:=κ (bS P 0 r1 ⟨#[97,115]⟩ _ H.o.ps false hf);have cb:=rf;go_wp2_with fail;refine μ HI1 ?_;rintro e w2 ⟨rfl,hb2,hp2⟩;simp only [φ,if_false] at hp2;replace H:=sd;clear hb2 hp2 HI1 cb;have HN:=κ (show dA l=some ((x,[]),r1) by rw [dA,HQ.o];simp only [hf];rfl);go_upto_region 3 with fail
   try clear c3 f3
   refine Jd (T1:=T) (g1:=g) (s1:=⟨#[]⟩) (hbx:=H.o.ki.hbx) (hgs:=H.o.box) (hke:=H.o.ke) (hB:=H.o.ki.but.size) (hn:=hacc) (h := ?_) _ _ _ _ _ _ _ _ _ _ _ _ _ _ _ _ _ _ _ _ _ _ _;intro _ _ _ _ _ _ _ _ _ _ A5 c5 w5 hap;have HE:=κ (H.o.fin H0.o.2.1.lt H0.o.2.2.1 H0.o.2.2.2.1 H0.o.2.2.2.2 hap OK.o (C':=CE w0 s0 0 cs0 (EL2 (RIt w0) (acc++[(x,[])]))) (λw' h k=>k.app λhn=>EL2.app ⟨h _ rfl,rfl⟩ hn));clear hap;go_wp2;go_end0;rw [HN.o];refine ⟨rfl,HE.o.1, ?_⟩;unfold KIt;rw [List.length_append];exact HE.o.2
  ·skip
   have HI1:=κ (bS P 0 r1 ⟨#[97,115]⟩ _ H.o.ps true hf);have cb:=rf;go_wp2_with fail;refine μ HI1 ?_;rintro e w2 ⟨rfl,hb2,hp2⟩;simp only [if_true] at hp2;replace H:=se;clear hb2 hp2 HI1 cb;have HF:=mh;have HNm:=κ (eD P 0 r1.tail w2 H.o.ps (H0.o.1.but H0.o.2.1 H.o.ki.but));have cb:=rf;clear hf;go_wp2_with fail;refine μ HNm ?_;rintro e w3 ⟨hb3,hq3⟩;rcases hq:bB r1.tail with _|⟨t,r3⟩
   ·rw [hq] at hq3;obtain ⟨ce,rfl,hce⟩:=hq3;have HN:=κ (show dA l=none by rw [dA,HQ.o];simp only [HF.o,hq];rfl);have HB:=κ (ι hce (H.o.ki.but.trans hb3));clear hq;unfold aT;go_wp2;refine ⟨rfl, ?_⟩;rw [HN.o];exact po
   ·rw [hq] at hq3;obtain ⟨rfl,hp3⟩:=hq3;replace H:=κ (H.o.next hb3 hp3 (bZ hq) OK.o);have HQ3:=mi;clear hq hb3 hp3 HNm cb;have c3:=re;have f3:=λj=>frozen_of_row w3 w1 j _ _ H.o.box;replace H:=κ (H.o.set 1 (.string t) OK.o);have HN:=κ (show dA l=some ((x,t),r3) by rw [dA,HQ.o];simp only [HF.o,HQ3.o];rfl);go_upto_region 3 with fail
    try clear c3 f3
    refine Jd (T1:=T) (g1:=g) (s1:=⟨t.toArray⟩) (hbx:=H.o.ki.hbx) (hgs:=H.o.box) (hke:=H.o.ke) (hB:=H.o.ki.but.size) (hn:=hacc) (h := ?_) _ _ _ _ _ _ _ _ _ _ _ _ _ _ _ _ _ _ _ _ _ _ _;intro _ _ _ _ _ _ _ _ _ _ A5 c5 w5 hap;have HE:=κ (H.o.fin H0.o.2.1.lt H0.o.2.2.1 H0.o.2.2.2.1 H0.o.2.2.2.2 hap OK.o (C':=CE w0 s0 0 cs0 (EL2 (RIt w0) (acc++[(x,t)]))) (λw' h k=>k.app λhn=>EL2.app ⟨h _ rfl,rfl⟩ hn));clear hap;go_wp2;go_end0;rw [HN.o];refine ⟨rfl,HE.o.1, ?_⟩;unfold KIt;rw [List.length_append];exact HE.o.2
abbrev KOr (P bp bx gi:Nat) (cs0:ZV) (s0:Sel) (w0:World) (acc:List (Lp.X×Bool)) (w:World):Prop:=KI P bp bx gi 6 cs0 74 136 147 2 w0 (CE w0 s0 6 cs0 (EL2 (ROr w0) acc)) acc.length w
theorem aKK (B:Nat) (s0:Sel) (cs0:ZV) (acc:List (Lp.X×Bool)):Ok (CE B s0 6 cs0 (EL2 (ROr B) acc)) (pV 6) 74 136 147:=⟨am,am,am,am,am,am,am,am,am,λ_ h=>by simp [pV,h],λ_ _ _ hs h=>h.stays hs λhn=>Ze hn⟩
theorem Iv (P bp bx gi d0:Nat) (cs0:ZV) (s0:Sel) (l0:ZW) (w0:World) (hR0:Resv w0) (hp0:PS w0 P l0 d0) (hgi:w0.heap.size≤gi) (hne:gi≠bp) (hnx:gi≠bx) (acc:List (Lp.X×Bool)) (l:ZW) (w:World) (hacc:acc.length≤100) (hi:KOr P bp bx gi cs0 s0 w0 acc w) (hp:PS w P l 0) (hs:Lsane l) :
 Calls prog 129 #[bp,bx] w (lA P (KOr P bp bx gi cs0 s0 w0) (RJ P w0) acc (bK l)):=by
 have HC:=ry;have OK:=κ (aKK w0 s0 cs0 acc);obtain ⟨A,c,vs,hke⟩:=hi.row;have HI:=rb;have H0:=pm;have cb:=pd;clear hi hp hs hR0 hp0 hgi hne hnx hke;go_enter func129,ntmps129;go_wp2_with fail;refine μ HC ?_;rintro e w1 ⟨hb1,hq1⟩;rcases hq:pX 1 0 l with _|⟨x,r1⟩
 ·rw [hq] at hq1;obtain ⟨ce,rfl,hce⟩:=hq1;have HN:=κ (show bK l=none by rw [bK,hq]);have HB:=qk;clear hq;unfold aT;go_wp2;refine ⟨rfl, ?_⟩;rw [HN.o];exact po
 ·rw [hq] at hq1;obtain ⟨T,g,rfl,hx,hp1⟩:=hq1;have H:=κ (It.new (ds:=#[.iface T g,.bool false]) (o:=some (x,.iface T g)) HI.o.1 HI.o.2.1 HI.o.2.2.1 HI.o.2.2.2 hb1 hp1 (iJ hq) OK.o (λq h=>sa));have HQ:=mi;clear hq hb1 hp1 HC cb HI hx;cases hf:isF wH r1
  ·skip
   have HI1:=κ (bS P 0 r1 ⟨#[100,101,115,99]⟩ _ H.o.ps false hf);have cb:=rf;go_wp2_with fail;refine μ HI1 ?_;rintro e w2 ⟨rfl,hb2,hp2⟩;simp only [φ,if_false] at hp2;replace H:=sd;clear hb2 hp2 HI1 cb;have HF:=mh;clear hf;have c3:=re;have f3:=rd;replace H:=κ (H.o.set 1 (.bool false) OK.o);have c4:(w2.setCell ⟨w1,1,none⟩ (.bool false)).cell? ⟨w1,1,none⟩=some (.bool false):=β H.o.box 1;cases hf:isF Tj r1
   ·skip
    have HI1:=κ (bS P 0 r1 ⟨#[97,115,99]⟩ _ H.o.ps false hf);have cb:=rf;go_wp2_with fail;refine μ HI1 ?_;rintro e w3 ⟨rfl,hb2,hp2⟩;simp only [φ,if_false] at hp2;replace H:=sd;clear hb2 hp2 HI1 cb;clear c4;have HN:=κ (show bK l=some ((x,false),r1) by rw [bK,HQ.o];simp only [HF.o,hf];rfl);go_upto_region 4 with fail
    try clear c3 f3
    refine uM (T1:=T) (g1:=g) (b1:=false) (hbx:=H.o.ki.hbx) (hgs:=H.o.box) (hke:=H.o.ke) (hB:=H.o.ki.but.size) (hn:=hacc) (h := ?_) _ _ _ _ _ _ _ _ _ _ _ _ _ _ _ _ _ _ _ _ _ _ _ _ _ _;intro _ _ _ _ _ _ _ _ _ _ A5 c5 w5 hap;have HE:=sf;clear hap;go_wp2;go_end0;rw [HN.o];refine ⟨rfl,HE.o.1, ?_⟩;unfold KOr;rw [List.length_append];exact HE.o.2
   ·skip
    have HI1:=κ (bS P 0 r1 ⟨#[97,115,99]⟩ _ H.o.ps true hf);have cb:=rf;go_wp2_with fail;refine μ HI1 ?_;rintro e w3 ⟨rfl,hb2,hp2⟩;simp only [if_true] at hp2;replace H:=se;clear hb2 hp2 HI1 cb;clear c4;have HN:=κ (show bK l=some ((x,false),r1.tail) by rw [bK,HQ.o];simp only [HF.o,hf];rfl);go_upto_region 4 with fail
    try clear c3 f3
    refine uM (T1:=T) (g1:=g) (b1:=false) (hbx:=H.o.ki.hbx) (hgs:=H.o.box) (hke:=H.o.ke) (hB:=H.o.ki.but.size) (hn:=hacc) (h := ?_) _ _ _ _ _ _ _ _ _ _ _ _ _ _ _ _ _ _ _ _ _ _ _ _ _ _;intro _ _ _ _ _ _ _ _ _ _ A5 c5 w5 hap;have HE:=sf;clear hap;go_wp2;go_end0;rw [HN.o];refine ⟨rfl,HE.o.1, ?_⟩;unfold KOr;rw [List.length_append];exact HE.o.2
  ·skip
   have HI1:=κ (bS P 0 r1 ⟨#[100,101,115,99]⟩ _ H.o.ps true hf);have cb:=rf;go_wp2_with fail;refine μ HI1 ?_;rintro e w2 ⟨rfl,hb2,hp2⟩;simp only [if_true] at hp2;replace H:=se;clear hb2 hp2 HI1 cb;have c3:=re;have f3:=rd;replace H:=κ (H.o.set 1 (.bool true) OK.o);have c4:(w2.setCell ⟨w1,1,none⟩ (.bool true)).cell? ⟨w1,1,none⟩=some (.bool true):=β H.o.box 1;have HN:=κ (show bK l=some ((x,true),r1.tail) by rw [bK,HQ.o];simp only [hf];rfl);go_upto_region 4 with fail
   try clear c3 f3
   refine uM (T1:=T) (g1:=g) (b1:=true) (hbx:=H.o.ki.hbx) (hgs:=H.o.box) (hke:=H.o.ke) (hB:=H.o.ki.but.size) (hn:=hacc) (h := ?_) _ _ _ _ _ _ _ _ _ _ _ _ _ _ _ _ _ _ _ _ _ _ _ _ _ _;intro _ _ _ _ _ _ _ _ _ _ A5 c5 w5 hap;have HE:=κ (H.o.fin H0.o.2.1.lt H0.o.2.2.1 H0.o.2.2.2.1 H0.o.2.2.2.2 hap OK.o (C':=CE w0 s0 6 cs0 (EL2 (ROr w0) (acc++[(x,true)]))) (λw' h k=>k.app λhn=>EL2.app ⟨h _ rfl,rfl⟩ hn));clear hap;go_wp2;go_end0;rw [HN.o];refine ⟨rfl,HE.o.1, ?_⟩;unfold KOr;rw [List.length_append];exact HE.o.2
theorem Il:Am (pX 1 0):=wB 1 0
def EGr (B:Nat) (acc:List Lp.X) (w:World) (vs:ZU):Prop:=PXs B w acc vs
abbrev KGr (P bp bx gi:Nat) (cs0:ZV) (s0:Sel) (w0:World) (acc:List Lp.X) (w:World):Prop:=KI P bp bx gi 5 cs0 74 136 66 1 w0 (CE w0 s0 5 cs0 (EGr w0 acc)) acc.length w
theorem aIH (B:Nat) (s0:Sel) (cs0:ZV) (acc:List Lp.X):Ok (CE B s0 5 cs0 (EGr B acc)) (pV 5) 74 136 66:=⟨am,am,am,am,am,am,am,am,am,λ_ h=>by simp [pV,h],λ_ _ _ hs h=>h.stays hs λhn=>PXs.keepN hn⟩
theorem aEN {bp bx gi c c5:Nat} {cs0:ZV} {s0:Sel} {acc:List Lp.X} {x:Lp.X} {w2 w5:World} {A A5:ZT} {v:Value} {ob:Obj} (hi:KGr P bp bx gi cs0 s0 w0 acc w) (hp:PS w P l 0) (hb2:But P w w2) (hp2:PS w2 P r 0) (hP0:P<w0) (hgi:w0.heap.size≤gi) (hne:gi≠bp) (hnx:gi≠bx)
 (hc:CE w0 s0 5 cs0 (EGr w0 acc) vs w) (hx:PX w w2 x v) (k1:w2.heap[gi]? = some (.cells cs 136 (0,0))) (k2:w2.ownsRow w0 66 1 (.slice A acc.length c) acc.length vs) (hat:AtK cs0 cs 5 (.slice A acc.length c)) (hx5:w5.heap[gi]? = some (.cells cs 136 (0,0)))
 (ho5:w5.ownsRow w0 66 1 (.slice A5 (acc.length+1) c5) (acc.length+1) (vs++[v])) (hb5:Below w0 (w2.alloc ob) w5) (hk5:fL (w2.alloc ob) w5 (Value.ownBlock (.slice A acc.length c)) (Value.ownBlock (.slice A5 (acc.length+1) c5))) :
 PS (w5.setCell ⟨gi,5,none⟩ (.slice A5 (acc.length+1) c5)) P r 0∧KGr P bp bx gi cs0 s0 w0 (acc++[x]) (w5.setCell ⟨gi,5,none⟩ (.slice A5 (acc.length+1) c5)):=by
 have ok:=aIH w0 s0 cs0 acc;unfold KGr;rw [List.length_append];exact Yf (hi.next hp hb2 ok) hp2 hP0 hgi hne hnx ⟨⟨cs,k1,hat⟩,k2,ok.k _ _ _ (StaysT.but hb2 hp ok.ap) hc⟩ ⟨ob,ho5,⟨hb5.os,hb5.tape,hb5.output,hb5.size,hb5.block⟩,λg o h hn=>hk5 g o h hn,cs,hx5,hat⟩ ok
  λw' hs h=>h.app λhn=>PXs.app hn hx.form (PX.keepN (λg cs t hg ht=>hs g cs t hg (ok.n _ ht)) (hx.mono hi.but.size))
theorem Iw (P bp bx gi d0:Nat) (cs0:ZV) (s0:Sel) (l0:ZW) (w0:World) (hR0:Resv w0) (hp0:PS w0 P l0 d0) (hgi:w0.heap.size≤gi) (hne:gi≠bp) (hnx:gi≠bx) (acc:List Lp.X) (l:ZW) (w:World) (hacc:acc.length≤100) (hi:KGr P bp bx gi cs0 s0 w0 acc w) (hp:PS w P l 0) (hs:Lsane l) :
 Calls prog 128 #[bx,bp] w (lA P (KGr P bp bx gi cs0 s0 w0) (RJ P w0) acc (pX 1 0 l)):=by
 obtain ⟨iE,hiE,hz0,hz1,hz2⟩:=info_parts Az;have HC:=pf;obtain ⟨A,c,vs,⟨cs,h1,h1c⟩,h2,h2c⟩:=hi.row;have hdr:StaysT (pV 5) w w.drew:=λ_ _ _ h _=>h;have c0:w.cell? ⟨bx,0,none⟩=some (.pointer (some ⟨gi,0,none⟩)):=β hi.hbx 0;have c1:w.cell? ⟨bp,0,none⟩=some (.pointer (some ⟨P,0,none⟩)):=β hi.hbp 0;have c5:w.cell? ⟨gi,5,none⟩=some (.slice A acc.length c):=(β h1 5).trans h1c.1;have hng:=pp;have hnb:some bx≠Value.ownBlock (.slice A acc.length c):=cU h2 hi.hbx am;have HP:=κ (show PS w.drew P l 0 from hp);have HE:=κ ((aIH w0 s0 cs0 acc).k _ _ _ hdr h2c);have HI:=κ (show KGr P bp bx gi cs0 s0 w0 acc w.drew from ⟨hi.but.drew,hi.hbp,hi.hbx,A,c,vs,⟨cs,h1,h1c⟩,h2.drew,HE.o⟩);have HR:=κ (show w.drew.heap[gi]? = some (.cells cs 136 (0,0))∧w.drew.ownsRow w0 66 1 (.slice A acc.length c) acc.length vs∧AtK cs0 cs 5 (.slice A acc.length c)∧w.drew.heap[bx]? = some (.cells #[gi] 74 (0,0)) from ⟨h1,h2.drew,h1c,hi.hbx⟩);have H0:=κ (ι hp0.lt (ι hgi (ι hne hnx)));have hl1:=aG h1;have hl2:=aG hi.hbx;have hl3:=aG hi.hbp;clear hp hs hi h1 h2 h1c h2c hdr hR0 hp0 hgi hne hnx;go_enter func128,ntmps128;generalize pX 1 0 l=q at *;rcases q with _|⟨x,r⟩
 ·have HC0:=pg;clear HC;go_wp2_with fail;refine wp_region_held_drew (S:=λw'=>w'.cell? ⟨bx,0,none⟩=some (.pointer (some ⟨gi,0,none⟩))∧w'.cell? ⟨bp,0,none⟩=some (.pointer (some ⟨P,0,none⟩))∧w'.cell? ⟨gi,5,none⟩=some (.slice A acc.length c)) aj ⟨c0,c1,c5⟩ (λhHeld => ?_);refine wpAnyH_take (i:=0) (v:=.pointer (some ⟨gi,0,none⟩)) rfl aj aj aj (λ_ _ _ h=>h) (Or.inl ⟨eh,λw hSw=>sh⟩) hHeld ?_;refine wpAnyH_take (i:=1) (v:=.pointer (some ⟨gi,0,none⟩)) rfl aj aj aj (λ_ _ _ h=>h) (Or.inl ⟨eh,λw hSw=>sh⟩) hHeld ?_;refine wpAnyH_take (i:=2) (v:=.pointer (some ⟨gi,0,none⟩)) rfl aj aj aj (λ_ _ _ h=>h) (Or.inl ⟨eh,λw hSw=>oo⟩) hHeld ?_;refine wpAnyH_take (i:=3) (v:=.pointer (some ⟨gi,5,none⟩)) rfl aj aj aj (λ_ _ _ h=>h) (Or.inl ⟨eh,λw hSw=>oo⟩) hHeld ?_;refine wpAnyH_take (i:=4) (v:=.slice A acc.length c) rfl aj aj aj (λ_ _ _ h=>h) (Or.inl ⟨eh,λw hSw=>sh⟩) hHeld ?_
  refine wpAnyH_take (i:=5) (v:=.pointer (some ⟨P,0,none⟩)) rfl aj aj aj (λ_ _ _ h=>h) (Or.inl ⟨eh,λw hSw=>sh⟩) hHeld ?_;refine wpAnyH_ready (rs:=[6]) aj aa ?_;refine AllReadyH.cons rfl (λK hK => ?_) AllReadyH.nil;go_simp;refine μ HC0 ?_;rintro e w2 ⟨hb2,ce,rfl,hc⟩;have HB:=κ (HI.o.but.trans hb2);clear hb2;unfold aT;go_wp2;exact ⟨rfl,ce,rfl,hc,HB.o⟩
 ·have HC0:=ph;clear HC;go_wp2_with fail
  go_region_law (first
   | (go_simp;go_at_call 124;refine μ HC0 ?_;rintro e w2 ⟨hb2,T,g,rfl,hpx,hp2⟩;have HX:=κ hpx;clear hpx;have k1:=aM HR.o.1 hb2 HP.o am;have k2:=mU HR.o.2.1 hb2 HP.o am;have k3:=aM HR.o.2.2.2 hb2 HP.o am;have k4:=aM HI.o.hbp hb2 HP.o am;have d0:w2.cell? ⟨gi,5,none⟩=some (.slice A acc.length c):=(β k1 5).trans HR.o.2.2.1.1;have d1:∀ o,(w2.alloc o).cell? ⟨gi,5,none⟩=some (.slice A acc.length c):=λo=>(β (aB k1 o) 5).trans HR.o.2.2.1.1;have d2:w2.cell? ⟨bx,0,none⟩=some (.pointer (some ⟨gi,0,none⟩)):=β k3 0;have d3:∀ o,(w2.alloc o).cell? ⟨bx,0,none⟩=some (.pointer (some ⟨gi,0,none⟩)):=λo=>β (aB k3 o) 0;have hz5:=Nat.le_trans HI.o.but.size hb2.size)
   | (refine bL _ rfl (.tmp 6) (.tmp 9) _ rfl w0.heap.size 66 iE _ 1 16 underlying45 hiE hz0 hz1 hz2 rfl (by omega) A acc.length c vs rfl ?_ _ 1 1 [.iface T (.pointer (some ⟨g,0,none⟩))] rfl rfl ?_ ?_ ?_ ?_ ?_ ?_
      ·exact k2.alloc _
      ·exact aS [.iface T g] (heap_alloc_new _ _)
      ·simp [Value.oneCell']
      ·simp only [maxLen];omega
      ·omega
      ·rw [World.size_alloc];omega
      intro A5 c5' w5 ho5 hb5 hg5 hk5;have hx5:=(hk5 _ _ (aB k1 _) hng).1;have hx6:=(hk5 _ _ (aB k3 _) hnb).1;have d5:w5.cell? ⟨gi,5,none⟩=some (.slice A acc.length c):=(β hx5 5).trans HR.o.2.2.1.1;have d6:w5.cell? ⟨bx,0,none⟩=some (.pointer (some ⟨gi,0,none⟩)):=β hx6 0;have f5:=λj=>frozen_of_row w5 gi j _ _ hx5)
   | fail)
  all_goals
   have hw5:=aEN HI.o HP.o hb2 hp2 H0.o.1 H0.o.2.1 H0.o.2.2.1 H0.o.2.2.2 HE.o HX.o k1 k2 HR.o.2.2.1 hx5 ho5 hb5 hk5;clear HR HI HP HC0 hp2 hx5 hx6 ho5 hb5 hg5 hk5 k1 k2 k3 k4 hb2 HX HE;go_wp2;go_end0;exact pj
structure SB (P:Nat) (w0:World) (s:Sel) (r:ZW) (w:World):Prop where
 but:But P w0 w
 hbp:w.heap[w0.heap.size]? = some (.cells #[P] 98 (0,0))
 hbx:w.heap[w0.heap.size+1+1]? = some (.cells #[(w0.heap.size+1:Nat)] 74 (0,0))
 sel:∃ cs:ZV,w.heap[w0.heap.size+1]? = some (.cells cs 136 (0,0))∧SelC w0 w s 9 cs
 ps:PS w P r 0
 sane:Lsane r
theorem SB.next {r':ZW} (h:SB P w0 s r w) (hb:But P w w') (hp:PS w' P r' 0) (hr:r' <:+ r):SB P w0 s r' w':=by
 obtain ⟨cs,h1,h2⟩:=h.sel;exact ⟨h.but.trans hb,aM h.hbp hb h.ps am,aM h.hbx hb h.ps am,⟨cs,aM h1 hb h.ps am,h2.stays (StaysT.but hb h.ps am)⟩,hp,h.sane.sfx hr⟩
theorem SB.drew {P:Nat} {w0 w:World} {s:Sel} {r:ZW} (h:SB P w0 s r w):SB P w0 s r w.drew:=by
 obtain ⟨cs,h1,h2⟩:=h.sel;exact ⟨h.but.drew,h.hbp,h.hbx,⟨cs,h1,h2.stays λ_ _ _ h _=>h⟩,h.ps,h.sane⟩
theorem SB.cells (h:SB P w0 s r w):w.cell? ⟨w0,0,none⟩=some (.pointer (some ⟨P,0,none⟩))∧w.cell? ⟨w0+1+1,0,none⟩=some (.pointer (some ⟨w0+1,0,none⟩)):=⟨β h.hbp 0,β h.hbx 0⟩
theorem SB.at_ (h:SB P w0 s r w) (j:Nat) (hj:j<8):(∀ j,w.frozen? ⟨w0+1,j,none⟩=false)∧∃ u,w.cell? ⟨w0+1,j,none⟩=some u:=by
 obtain ⟨cs,h1,h2, -⟩:=h.sel;exact ⟨λj=>frozen_of_row w _ j _ _ h1,cs[j],(β h1 j).trans (Array.getElem?_eq_getElem ac)⟩
theorem SB.set {P:Nat} {w0 w:World} {s:Sel} {r:ZW} (h:SB P w0 s r w) (hP:P<w0) (j:Nat) (v:Value) (s':Sel) (hs:∀ i u,i≠j->Fld w0 w s i u->Fld w0 w s' i u) (hv:∀ w',fU w w'->Fld w0 w' s' j v):SB P w0 s' r (w.setCell ⟨w0+1,j,none⟩ v):=by
 obtain ⟨cs,h1,h2,h3⟩:=h.sel;have ne:∀ (g:Nat) (cs':ZV) (ty:TypeId),w.heap[g]? = some (.cells cs' ty (0,0))->ty≠136->g≠w0.heap.size+1:=by
  rintro g cs' ty k1 k2 rfl;rw [h1] at k1;injection k1 with k1;injection k1 with _ k1;exact k2 k1.symm
 have hst:StaysT (pV 9) w (w.setCell ⟨w0+1,j,none⟩ v):=StaysT.set h1 am;refine ⟨h.but.setNew (Nat.le_succ _) v,cA h.hbp (ne _ _ _ h.hbp am) v,cA h.hbx (ne _ _ _ h.hbx am) v,⟨_,heap_setCell_same w _ j _ _ v h1,db,λi u hi hu => ?_⟩,h.ps.setNew (Nat.lt_succ_of_lt hP) v,h.sane⟩
 by_cases hij:i=j
 ·subst hij;rw [Array.getElem?_setIfInBounds_self] at hu
  split at hu
  ·injection hu with hu;subst hu;exact hv _ λg cs t hg ht=>hst g cs t hg (by simp [pV,ht])
  ·cases hu
 ·rw [Array.getElem?_setIfInBounds_ne (Ne.symm hij)] at hu;exact (hs i u hij (h3 i u hi hu)).stays hst hi
theorem SB.start {E:World->ZU->Prop} (h:SB P w0 s r w) (hk:k<8) (hr:∀ u,Fld w0 w s k u->∃ A c,u=.slice A 0 c∧w.ownsRow w0 e size u 0 []∧E w []) :
 ∃ cs:ZV,KI P w0 (w0+1+1) (w0+1) k cs 74 136 e size w0 (CE w0 s k cs E) 0 w:=by
 obtain ⟨cs,h1,h2,h3⟩:=h.sel;obtain ⟨A,c,k1,k2,k3⟩:=hr cs[k] (h3 k _ ac (Array.getElem?_eq_getElem ac));rw [k1] at k2;exact ⟨cs,h.but,h.hbp,h.hbx,A,c,[],⟨cs,h1,(Array.getElem?_eq_getElem ac).trans (by rw [k1]),rfl,λ_ _=>rfl⟩,k2,⟨h2,λj u hj hu=>h3 j u (by rintro rfl;rw [Array.getElem?_eq_none ac] at hu;cases hu) hu⟩,k3⟩
theorem Vi {n:Nat} {s':Sel} {E:World->ZU->Prop} (h:KI P w0 (w0+1+1) (w0+1) k cs 74 136 e size w0 (CE w0 s k cs E) n w) (hp:PS w P r 0) (hs:Lsane r)
 (hf:∀ i u,i≠k->Fld w0 w s i u->Fld w0 w s' i u) (hE:∀ A c vs,w.ownsRow w0 e size (.slice A n c) n vs->E w vs->Fld w0 w s' k (.slice A n c)):SB P w0 s' r w:=by
 obtain ⟨A,c,vs,⟨cs2,h3,h4⟩,h5,⟨h6,h7⟩,h8⟩:=h.row;refine ⟨h.but,h.hbp,h.hbx,⟨cs2,h3,h4.2.1.trans h6,λj u hj hu => ?_⟩,hp,hs⟩
 by_cases hjk:j=k
 ·subst hjk;rw [h4.1] at hu;injection hu with hu;subst hu;exact hE A c vs h5 h8
 ·rw [h4.2.2 j hjk] at hu;exact hf j u hjk (h7 j u hjk hu)
def EaP {α:Type} (P:Nat) (w0:World) (f:List α->Sel) (q:Option (List α×ZW)) (e:Ending) (w':World):Prop:=match q with
 | none=>∃ c,e=aT c∧c≠0∧But P w0 w'
 | some (xs,r)=>e=.returned (.tuple #[])∧SB P w0 (f xs) r w'
theorem Zl {α:Type} {f:List α->Sel} {F:ZW->Option (α×ZW)} {most:Nat} {en:Ending} {I:List α->World->Prop} (hF:Am F) (hs:Lsane l) (hI:∀ xs r w',I xs w'->PS w' P r 0->Lsane r->SB P w0 (f xs) r w')
 (h:EachPost P I (RJ P w0) (dO F most l) en w'):EaP P w0 f (dO F most l) en w':=by
 rcases hq:dO F most l with _|⟨xs,r⟩
 ·rw [hq] at h;exact h
 ·rw [hq] at h;exact ⟨h.1,hI xs r w' h.2.2 h.2.1 (hs.sfx (lQ hF most _ _ _ _ _ hq).2)⟩
theorem aIR:∀ args w,Sem.run prog (callFunc 127 args) w=.ok (.enter 127 args) w:=λ_ _=>rfl
theorem aIQ:∀ args w,Sem.run prog (callFunc 128 args) w=.ok (.enter 128 args) w:=λ_ _=>rfl
theorem aIP:∀ args w,Sem.run prog (callFunc 129 args) w=.ok (.enter 129 args) w:=λ_ _=>rfl
theorem Oe {α:Type} {R:World->α->Value->Value->Prop} (h:EL2 R [] w vs):vs=[]:=by
 cases vs with
 | nil=>rfl
 | cons=>exact h.elim
theorem Zk (P:Nat) (s:Sel) (l0 l:ZW) (w0 w:World) (hR0:Resv w0) (hp0:PS w0 P l0 0) (h:SB P w0 s l w) (h0:s.items=[]) :
 Calls prog 120 #[P,.int .i64 16,.func (.func 127) #[] #[w0,(w0.heap.size+1+1:Nat)]] w (EaP P w0 (λxs=>{ s with items:=xs }) (dO dA 16 l)):=by
 obtain ⟨cs,hi⟩:=h.start (k:=0) (e:=142) (size:=2) (E:=EL2 (RIt w0) []) am (λu hu=>by
  obtain ⟨A,c,vs,k1,k2,k3⟩:=hu;rw [h0] at k1 k2 k3;rw [Oe k3] at k2;exact ⟨A,c,k1,k2,trivial⟩)
 exact (mE dA Cg yG 16 ac ac _ aIR #[w0,(w0.heap.size+1+1:Nat)] P (KIt P w0 (w0+1+1) (w0+1) cs s w0) (RJ P w0) (λ_ _ h=>h.but) (λ_ _ h k=>But.trans h k) (λ_ _ _ _ h hp hb=>h.next hp hb (aKL _ _ _ _))
  (λacc l' w' ha hi hp' hs'=>Ix P _ _ _ 0 cs s l0 w0 hR0 hp0 (Nat.le_succ _) ac ac acc l' w' ac hi hp' hs') l w hi h.ps h.sane).mono λ_ _ h1=>Zl Cg h.sane (λxs r w' hk hp hs=>Vi (k:=0) hk hp hs (λi u hi hu=>by
   match i,hi,hu with
   | 0,hi,_=>exact absurd rfl hi
   | 1,_,h|2,_,h|3,_,h|4,_,h|5,_,h|6,_,h|7,_,h=>exact h
   | _+8,_,_=>trivial) (λA c vs k1 k2=>⟨A,c,vs,rfl,k1,k2⟩)) h1
theorem Zj (P:Nat) (s:Sel) (l0 l:ZW) (w0 w:World) (hR0:Resv w0) (hp0:PS w0 P l0 0) (h:SB P w0 s l w) (h0:s.group=[]) :
 Calls prog 120 #[P,.int .i64 8,.func (.func 128) #[] #[(w0.heap.size+1+1:Nat),w0]] w (EaP P w0 (λxs=>{ s with group:=xs }) (dO (pX 1 0) 8 l)):=by
 obtain ⟨cs,hi⟩:=h.start (k:=5) (e:=66) (size:=1) (E:=EGr w0 []) am (λu hu=>by
  obtain ⟨A,c,vs,k1,k2,k3⟩:=hu;rw [h0] at k1 k2 k3;have:=k3.len;rw [List.eq_nil_of_length_eq_zero this, <-k1] at k2;exact ⟨A,c,k1,k2,trivial⟩)
 exact (mE (pX 1 0) Il (xM 1 0) 8 ac ac _ aIQ #[(w0.heap.size+1+1:Nat),w0] P (KGr P w0 (w0+1+1) (w0+1) cs s w0) (RJ P w0) (λ_ _ h=>h.but) (λ_ _ h k=>But.trans h k) (λ_ _ _ _ h hp hb=>h.next hp hb (aIH _ _ _ _))
  (λacc l' w' ha hi hp' hs'=>Iw P _ _ _ 0 cs s l0 w0 hR0 hp0 (Nat.le_succ _) ac ac acc l' w' ac hi hp' hs') l w hi h.ps h.sane).mono λ_ _ h1=>Zl Il h.sane (λxs r w' hk hp hs=>Vi (k:=5) hk hp hs (λi u hi hu=>by
   match i,hi,hu with
   | 5,hi,_=>exact absurd rfl hi
   | 0,_,h|1,_,h|2,_,h|3,_,h|4,_,h|6,_,h|7,_,h=>exact h
   | _+8,_,_=>trivial) (λA c vs k1 k2=>⟨A,c,vs,rfl,k1,k2⟩)) h1
theorem Zi (P:Nat) (s:Sel) (l0 l:ZW) (w0 w:World) (hR0:Resv w0) (hp0:PS w0 P l0 0) (h:SB P w0 s l w) (h0:s.order=[]) :
 Calls prog 120 #[P,.int .i64 8,.func (.func 129) #[] #[w0,(w0.heap.size+1+1:Nat)]] w (EaP P w0 (λxs=>{ s with order:=xs }) (dO bK 8 l)):=by
 obtain ⟨cs,hi⟩:=h.start (k:=6) (e:=147) (size:=2) (E:=EL2 (ROr w0) []) am (λu hu=>by
  obtain ⟨A,c,vs,k1,k2,k3⟩:=hu;rw [h0] at k1 k2 k3;rw [Oe k3] at k2;exact ⟨A,c,k1,k2,trivial⟩)
 exact (mE bK yS uG 8 ac ac _ aIP #[w0,(w0.heap.size+1+1:Nat)] P (KOr P w0 (w0+1+1) (w0+1) cs s w0) (RJ P w0) (λ_ _ h=>h.but) (λ_ _ h k=>But.trans h k) (λ_ _ _ _ h hp hb=>h.next hp hb (aKK _ _ _ _))
  (λacc l' w' ha hi hp' hs'=>Iv P _ _ _ 0 cs s l0 w0 hR0 hp0 (Nat.le_succ _) ac ac acc l' w' ac hi hp' hs') l w hi h.ps h.sane).mono λ_ _ h1=>Zl yS h.sane (λxs r w' hk hp hs=>Vi (k:=6) hk hp hs (λi u hi hu=>by
   match i,hi,hu with
   | 6,hi,_=>exact absurd rfl hi
   | 0,_,h|1,_,h|2,_,h|3,_,h|4,_,h|5,_,h|7,_,h=>exact h
   | _+8,_,_=>trivial) (λA c vs k1 k2=>⟨A,c,vs,rfl,k1,k2⟩)) h1
def SelPost (P:Nat) (w:World) (q:Lp.SS) (e:Ending) (w':World):Prop :=
 But P w w'∧match q with
 | none=>∃ c,e=aT c∧c≠0
 | some (s,r)=>∃ g cs,e=.returned (.iface 74 (.pointer (some ⟨g,0,none⟩)))∧w.heap.size≤g∧w'.heap[g]? = some (.cells cs 136 (0,0))∧SelC w w' s 9 cs∧PS w' P r 0
theorem SelPost.no {q:Lp.SS} {c:Int} (hq:q=none) (hb:But P w w') (hc:c≠0):SelPost P w q (aT c) w':=by subst hq;exact ⟨hb,c,rfl,hc⟩
def CSt (P:Nat) (w0:World) (l:ZW) (k:Nat) (w:World):Prop:=∃ s r,aX l k=some (s,r)∧SB P w0 s r w
theorem SB.on0 (h:SB P w0 s r w) (h0:s.on=none):SB P w0 { s with on:=none } r w:=si
theorem SB.grp0 (h:SB P w0 s r w) (h0:s.group=[]):SB P w0 { s with group:=[] } r w:=si
theorem SB.ord0 (h:SB P w0 s r w) (h0:s.order=[]):SB P w0 { s with order:=[] } r w:=si
theorem SB.lim0 (h:SB P w0 s r w) (h0:s.limit = -1):SB P w0 { s with limit := -1 } r w:=si
theorem xA (b:Bool):(if b then l.tail else l) <:+ l:=by
 cases b
 ·exact List.suffix_refl _
 ·exact aV l
def aBM:ZV:=#[.slice none 0 0,.string ⟨#[]⟩,.string ⟨#[]⟩,.nilIface,.nilIface,.slice none 0 0,.slice none 0 0,.int .i64 (-1)]
theorem aHU (h:PS w P l 0) (hs:Lsane l):SB P w tY l (((w.alloc (.cells #[P] 98)).alloc (.cells aBM 136)).alloc (.cells #[(w.heap.size+1:Nat)] 74)):=by
 have hb:Below w w (((w.alloc (.cells #[P] 98)).alloc (.cells aBM 136)).alloc (.cells #[(w.heap.size+1:Nat)] 74)):=((ρ).alloc aa _).alloc bl _;refine ⟨But.of hb,aB (aB (heap_alloc_new w _) _) _, ?_,⟨aBM,aB (bG w _ _) _,rfl,λj u _ hu => ?_⟩,h.below hb,hs⟩
 ·have:=heap_alloc_new ((w.alloc (.cells #[P] 98)).alloc (.cells aBM 136)) (.cells #[(w.heap.size+1:Nat)] 74);rwa [World.size_alloc,World.size_alloc] at this
 ·match j,hu with
  | 0,hu=>injection hu with hu;exact sj
  | 1,_=>trivial
  | 2,_=>trivial
  | 3,hu=>injection hu with hu;exact hu.symm
  | 4,hu=>injection hu with hu;exact hu.symm
  | 5,hu=>injection hu with hu;exact ⟨none,0,[],hu.symm,World.ownsRow_nil _ _ _ _,trivial⟩
  | 6,hu=>injection hu with hu;exact sj
  | 7,hu=>injection hu with hu;exact hu.symm
  | _+8,_=>trivial
theorem Mz (P d:Nat) (l:ZW) (k:Int) (w:World) (h:PS w P l d) (hk:∀ t r,l=t::r->t.k≠k):Calls prog 130 #[P,.int .u8 k] w λe w'=>e=aT 4∧But P w w':=by
 obtain ⟨A,c,h1,h2,h3⟩:=h;have hc0:=cq;have hPs:=aG h1;cases l with
 | nil =>
   clear h1 h2 h3 hk;go_enter func130,ntmps130;go_wp2_with fail;refine (lK _).mono ?_;rintro e w1 ⟨rfl,rfl⟩;unfold aT;go_wp2;exact ⟨rfl,rfl,But.alloc _ _ _⟩
 | cons t r =>
   obtain ⟨b,off,rfl,hlt,k0,k1,k2⟩:=h3.front;have hbs:=World.block_lt_of_cell? w _ k0;have ek:(t.k==k)=false:=η (hk t r rfl);have hlen:=cu
   have hlen2:0<(t::r).length:=aa
   obtain ⟨n,hn⟩:∃ n,(t::r).length=n:=cw;rw [hn] at hc0 hlen hlen2;clear h1 h2 h3 hn hk;go_enter func130,ntmps130;go_wp2_with fail;refine (lK _).mono ?_;rintro e w1 ⟨rfl,rfl⟩;unfold aT;go_wp2;exact ⟨rfl,rfl,But.alloc _ _ _⟩
theorem aHN (P:Nat) (l:ZW) (w:World) (h:PS w P l 0):Calls prog 130 #[P,.int .u8 2] w λe w'=>But P w w'∧match rD l with
 | none=>∃ c,e=aT c∧c≠0
 | some (n,r)=>∃ k s,e=.returned (.agg #[.int .u8 k,.string s,.int .i64 n])∧PS w' P r 0:=by
 cases l with
 | nil=>exact (Mz P 0 [] 2 w h λt r e=>by cases e).mono λe w' h=>⟨h.2,4,h.1,am⟩
 | cons t r =>
   by_cases hk:t.k=2
   ·refine (sJ P 0 t r 2 w h hk).mono λe w' h=>⟨h.2.1, ?_⟩;rw [rD,if_pos hk];exact ⟨_,_,h.1,h.2.2⟩
   ·refine (Mz P 0 (t::r) 2 w h λt' r' e=>by injection e with e _;subst e;exact hk).mono λe w' h=>⟨h.2, ?_⟩;rw [rD,if_neg hk];exact ⟨4,h.1,am⟩
theorem bal (h:Below w w w') (o:Obj):Below w w (w'.alloc o):=h.alloc h.size o
def NmP (s:ByteArray) (e:Ending):Prop:=∃ b,e=.returned (.bool b)∧(b=true->1≤s.size∧s.size≤20)
theorem NmP.no (s:ByteArray):NmP s (.returned (.bool false)):=⟨false,rfl,λh=>lq⟩
theorem NmP.of {s:ByteArray} (h:Hd0 (1≤s.size∧s.size≤20)) (b:Bool):NmP s (.returned (.bool b)):=⟨b,rfl,λ_=>h.o⟩
def SomeB (e:Ending):Prop:=∃ b,e=.returned (.bool b)
theorem SomeB.mk (b:Bool):SomeB (.returned (.bool b)):=⟨b,rfl⟩
theorem xV (s:ByteArray) (w:World) (hs:s.size≤9223372036854775807) :
 Calls prog 26 #[s] w λe w'=>NmP s e∧w=w':=by
 have hsI:(s.size:Int)≤9223372036854775807:=ac
 by_cases h1:s.size<1
 ·go_enter func26,ntmps26;go_wp2;go_ret;exact ⟨NmP.no _,rfl⟩
 ·by_cases h2:20<s.size
  ·go_enter func26,ntmps26;go_wp2;go_ret;exact ⟨NmP.no _,rfl⟩
  ·have hb:s.size≤20:=ac
   have hp:0<s.size:=ac
   have HN:=κ (show 1≤s.size∧s.size≤20 by omega);go_enter func26,ntmps26;go_wp2_with fail
   all_goals first
    | (go_ret;exact ⟨NmP.of HN _,rfl⟩)
    | skip
   all_goals
    go_loop [3,4] (λs3 _=>∃ i:Nat,i≤s.size∧s3=.int .i64 i) (λs3 _=>s.size-(intOf s3).toNat)
    case atStart=>exact ⟨0,ac,rfl⟩
    case round =>
     obtain ⟨i,hi,rfl⟩:=dd
     by_cases hlt:i<s.size
     ·go_wp2
      all_goals first
       | (go_ret;exact ⟨NmP.of HN _,rfl⟩)
       | skip
      all_goals
       go_round
       case rel=>exact ⟨i+1,ac,de⟩
       case measure=>simp [intOf];omega
     ·go_wp2;go_ret;exact ⟨NmP.of HN _,rfl⟩
