/-
 Contracts. Conditions: those of each.
-/
import Derived.Test.YtkolcimllghnaaaGreatDoorQdGO
set_option maxRecDepth 100000
set_option maxHeartbeats 8000000
namespace Go.Proofs.YtkolcimllghnaaaGreatDoor
open Lp Go.Proofs.Tryz
open Go.RowKit
variable{k:Int}{B G P d g n:Nat}{rr:RC}{v w w' w0:World}{a b tb:ZS}{A:ZT}
theorem Lev.setT (h:Lev B G P w0 w (rcC a b)) (hB:w0.heap.size=B) (hG:B<G) (m:ZS):Lev B G P w0 (w.setCell ⟨G,5,none⟩ (.string m)) (rcC m b):=by
 obtain ⟨h1,⟨r0,h2⟩,h3⟩:=h;refine ⟨bP h1 ac _ _,⟨r0,(Below.heap_setCell w ⟨G,5,none⟩ _ B vn).trans h2⟩, ?_⟩;have:=heap_setCell_same w G 5 _ _ (.string m) h3;rw [this];simp [rcC,RC.cells]
theorem Lev.setS (h:Lev B G P w0 w (rcC a b)) (hB:w0.heap.size=B) (hG:B<G) (m:ZS):Lev B G P w0 (w.setCell ⟨G,6,none⟩ (.string m)) (rcC a m):=by
 obtain ⟨h1,⟨r0,h2⟩,h3⟩:=h;refine ⟨bP h1 ac _ _,⟨r0,(Below.heap_setCell w ⟨G,6,none⟩ _ B vn).trans h2⟩, ?_⟩;have:=heap_setCell_same w G 6 _ _ (.string m) h3;rw [this];simp [rcC,RC.cells]
theorem RNPost.open_ {q:Option (ZS×ZW)} {e:Ending} (h:RNPost P w d q e w') :
 ∃ n:ZS,e=.returned (.string n)∧But P w w'∧((q=none∧n=[]∧RBad P w' d)∨∃ r,q=some (n,r)∧RS w' P r d 0):=by
 obtain ⟨h1,h2⟩:=h;cases q with
 | none=>exact ⟨[],h2.1,h1,.inl ⟨rfl,rfl,h2.2⟩⟩
 | some p=>exact ⟨p.1,h2.1,h1,.inr ⟨p.2,rfl,h2.2⟩⟩
theorem xE (P d:Nat) (t:Tok) (r:ZW) (w:World) (h:RS w P (t::r) d 0) (hk2:t.k≠2) (hk3:t.k≠3) (f0:isF cE (t::r)=false) (f1:isF dU (t::r)=false) (f2:isF cX (t::r)=false) (f3:isF [40] (t::r)=false) (f4:isF bF (t::r)=false) (f5:isF gG (t::r)=false) (f6:isF jA (t::r)=false) (f7:isF kL (t::r)=false) (hd:d≤40) :
 Calls prog 134 #[P] w (RPost P w d (pX 8 d (t::r))):=by
 have hq:pX 8 d (t::r)=mM (t::r):=by rw [dD,eF,if_neg hk2,if_neg hk3,if_neg zo,if_neg zr,if_neg DW,if_neg DV,if_neg (by rw [f4,f5,f6,f7];decide)]
 have HQ0:=mi;have e1:=zm;have e2:=zl;clear hk2 hk3 hq;have hP:=mv;have hb0:=vw;have hz0:=vu;have H0:=yz;obtain ⟨A,c,i,h1,h2,h3⟩:=vv;have hc0:=cq;have hc1:=ee;obtain ⟨b,off,rfl,hlt,k0,k1,k2⟩:=ue;obtain ⟨n,hn⟩:∃ n,i+(t::r).length=n:=cw;rw [hn] at hc0;have hin:=ud
 have hinN:=uf
 have hin0:=ug
 have hlt2:=uo
 have hltN:=uq
 simp only [RC.cells,rcZ] at hc0 hc1 k0 k1 k2;clear h hb0 hz0 h1 h2 h3 hn;go_enter func134,ntmps134;go_wp2_with fail;go_quiet (fail);go_wp2_with fail;obtain ⟨k0a,k1a,k2a,h0a,h1a⟩:=zb
 go_region
 have hA0:=zk;have hp0:=zj;simp only [RC.cells,rcZ] at hA0 hp0;have HA:=zh;have HP:=zg;clear hA0 hp0 k0a k1a k2a h0a h1a hc0 hc1 k0 k1 k2 H0 hin hinN hin0 hlt2 hltN;generalize ((w.alloc (.cells #[.int .u8 0,.int .u8 0,.int .i64 0,(),false,(),(),.slice none 0 0] 60)).drewN (nq+1)).alloc (.cells #[.int .u8 t.k,t.s,.int .i64 t.n] 173)=v0 at *;have tk:=ze;have HI:=zq;go_wp2_with fail;refine μ HI ?_;rintro e v1 ⟨rfl,hb,hp⟩;simp only [φ,if_false] at hp;replace HA:=zp;replace HP:=ef;clear hb hp HI;clear tk;have HI:=zt;go_wp2_with fail;refine μ HI ?_;rintro e v2 ⟨rfl,hb,hp⟩;simp only [φ,if_false] at hp;replace HA:=zp;replace HP:=ef;clear hb hp HI;have HI:=zv;go_wp2_with fail;refine μ HI ?_;rintro e v3 ⟨rfl,hb,hp⟩
 simp only [φ,if_false] at hp;replace HA:=zp;replace HP:=ef;clear hb hp HI;have HI:=AU;go_wp2_with fail;refine μ HI ?_;rintro e v4 ⟨rfl,hd1⟩;replace HA:=AA;replace HP:=zy;clear hd1 HI;have HI:=AS;go_wp2_with fail;refine μ HI ?_;rintro e v5 ⟨rfl,hd1⟩;replace HA:=AA;replace HP:=zy;clear hd1 HI;have HI:=CQ;go_wp2_with fail;refine μ HI ?_;rintro e v6 ⟨rfl,hd1⟩;replace HA:=AA;replace HP:=zy;clear hd1 HI;have HI:=DE;go_wp2_with fail;refine μ HI ?_;rintro e v7 ⟨rfl,hd1⟩;replace HA:=AA;replace HP:=zy;clear hd1 HI;have HI:=κ (bH P d 0 (t::r) ⟨#[109,97,120]⟩ v7 HP.o false (by rw [show (⟨#[109,97,120]⟩:ByteArray).data.toList=kL from rfl,f7];rfl));go_wp2_with fail;refine μ HI ?_;rintro e v8 ⟨rfl,hd1⟩;replace HA:=AA;replace HP:=zy;clear hd1 HI
 have HNm:=κ (qO P d (t::r) v8 HP.o ac);go_wp2_with fail;refine μ HNm ?_;rintro e u1 hn1;obtain ⟨n1,rfl,hb1,hcase⟩:=hn1.open_;have hA1:=HA.o.but hb1 hP;have hG:w<u1.heap.size:=by have:=hA1.lt;omega
 have hbG:Below u1 u1 (u1.alloc (.cells #[.int .u8 2,.int .u8 0,.int .i64 0,(),false,(),n1,.slice none 0 0] 60)):=ρ;have hL2:Lev w u1 P w (u1.alloc (.cells #[.int .u8 2,.int .u8 0,.int .i64 0,(),false,(),n1,.slice none 0 0] 60)) (rcC [] n1):=hA1.lev (rcC [] n1);have HL:=κ hL2;clear hn1 hb1 hA1 hL2 HNm HA HP;rcases hcase with ⟨hq1,rfl,hbad⟩|⟨r1,hq1,hp1⟩
 ·have HQ:=κ (show pX 8 d (t::r)=none by rw [HQ0.o,mM,hq1]);have HPs:=κ (xK ⟨#[46]⟩ P d _ (hbad.below hbG));clear hq1 hbad hbG HQ0;go_wp2_with fail;refine μ HPs ?_;rintro e u2 ⟨rfl,hb2,hbad2⟩;have hLF:=HL.o.but hb2 hP hG;have HE:=κ (dC (rcC [] []) hLF.b rfl hP hbad2 HQ.o);clear hb2 hbad2 HPs HL;obtain ⟨⟨⟨a0,a1,a2,a3,a4,a5,a6,a7,a8,a9⟩,c0⟩,c1,z0,z1⟩:=AE;obtain ⟨rz,hz⟩:=AD;have hcE:=β (aK (rcC [] []) hz);simp only [RC.cells,rcC] at c0 c1;clear hLF hz ;go_wp2;change bodyPost _ _ _ _ _ (put8 _ w (rcC [] []));generalize put8 _ w (rcC [] [])=WE at *;simp only [RC.cells,rcC] at hcE;exact bodyPost_ret (v:=RC.val (rcC [] [])) DX rfl HE.o
 ·cases hw:isF [46] r1
  ·have HQ:=κ (show pX 8 d (t::r)=some (.col [] n1,r1) by rw [HQ0.o,mM,hq1];show (if isF [46] r1=true then _ else _)=_;rw [hw];rfl);have HPs:=κ (aH P d 0 r1 ⟨#[46]⟩ _ (hp1.below hbG) false DY);clear hq1 hp1 hbG HQ0 hw;go_wp2_with fail;refine μ HPs ?_;rintro e u2 ⟨rfl,hb2,hp2⟩;simp only [φ,if_false] at hp2;have hLF:=HL.o.but hb2 hP hG;have HE:=κ (fI (rcC [] n1) hLF.b rfl hP (S:=λg=>w.heap.size<g) (λ_ h=>h) (show RX _ _ (.col [] n1) (rcC [] n1) from rfl) hp2 HQ.o);clear hb2 hp2 HPs HL;obtain ⟨⟨⟨a0,a1,a2,a3,a4,a5,a6,a7,a8,a9⟩,c0⟩,c1,z0,z1⟩:=AE;obtain ⟨rz,hz⟩:=AD;have hcE:=β (aK (rcC [] n1) hz);simp only [RC.cells,rcC] at c0 c1;clear hLF hz ;go_wp2;change bodyPost _ _ _ _ _ (put8 _ w (rcC [] n1));generalize put8 _ w (rcC [] n1)=WE at *;simp only [RC.cells,rcC] at hcE;exact bodyPost_ret (v:=RC.val (rcC [] n1)) DX rfl HE.o
  ·have HQ1:=κ (show pX 8 d (t::r)=(match bB r1.tail with|none=>none|some (m,r2)=>some (.col n1 m,r2)) by rw [HQ0.o,mM,hq1];show (if isF [46] r1=true then _ else _)=_;rw [if_pos hw];cases bB r1.tail<;>rfl);have HPs:=κ (aH P d 0 r1 ⟨#[46]⟩ _ (hp1.below hbG) true DY);clear hq1 hp1 hbG HQ0 hw;go_wp2_with fail;refine μ HPs ?_;rintro e u2 ⟨rfl,hb2,hp2⟩;simp only [if_true] at hp2;have hL3:=HL.o.but hb2 hP hG;have hL4:=hL3.setT rfl hG n1;have HNm:=κ (qO P d r1.tail _ (hp2.far (g:=u1) (o:=5) (v:=.string n1) ac) ac);obtain ⟨-,d1, -,y1⟩:=hL3.cells;simp only [RC.cells,rcC] at d1;have HL4:=κ hL4;clear hb2 hp2 HPs HL hL3 hL4;go_wp2_with fail;refine μ HNm ?_;rintro e u3 hn3;obtain ⟨n3,rfl,hb3,hcase⟩:=hn3.open_;have hL5:=HL4.o.but hb3 hP hG;have hLF:=hL5.setS rfl hG n3;obtain ⟨-,d3, -,y3⟩:=xu;simp only [RC.cells,rcC] at d3;clear hn3 hb3 HL4 HNm d1 y1 hL5;rcases hcase with ⟨hq3,rfl,hbad⟩|⟨r2,hq3,hp3⟩
   ·have HQ:=κ (show pX 8 d (t::r)=none by rw [HQ1.o,hq3]);have HE:=κ (dC (rcC n1 []) hLF.b rfl hP (hbad.far (g:=u1) (o:=6) (v:=.string ⟨([]:ZS).toArray⟩) ac) HQ.o);clear hq3 hbad HQ1;obtain ⟨⟨⟨a0,a1,a2,a3,a4,a5,a6,a7,a8,a9⟩,c0⟩,c1,z0,z1⟩:=AE;obtain ⟨rz,hz⟩:=AD;have hcE:=β (aK (rcC n1 []) hz);simp only [RC.cells,rcC] at c0 c1;clear hLF hz ;go_wp2;change bodyPost _ _ _ _ _ (put8 _ w (rcC n1 []));generalize put8 _ w (rcC n1 [])=WE at *;simp only [RC.cells,rcC] at hcE;exact bodyPost_ret (v:=RC.val (rcC n1 [])) DX rfl HE.o
   ·have HQ:=κ (show pX 8 d (t::r)=some (.col n1 n3,r2) by rw [HQ1.o,hq3]);have HE:=κ (fI (rcC n1 n3) hLF.b rfl hP (S:=λg=>w.heap.size<g) (λ_ h=>h) (show RX _ _ (.col n1 n3) (rcC n1 n3) from rfl) (hp3.far (g:=u1) (o:=6) (v:=.string n3) ac) HQ.o);clear hq3 hp3 HQ1;obtain ⟨⟨⟨a0,a1,a2,a3,a4,a5,a6,a7,a8,a9⟩,c0⟩,c1,z0,z1⟩:=AE;obtain ⟨rz,hz⟩:=AD;have hcE:=β (aK (rcC n1 n3) hz);simp only [RC.cells,rcC] at c0 c1;clear hLF hz ;go_wp2;change bodyPost _ _ _ _ _ (put8 _ w (rcC n1 n3));generalize put8 _ w (rcC n1 n3)=WE at *;simp only [RC.cells,rcC] at hcE;exact bodyPost_ret (v:=RC.val (rcC n1 n3)) DX rfl HE.o
theorem Qk (P d n:Nat) (hd:d≤40) (HE:d+1≤40->∀ m,m<n->RvOk 1 P (d+1) m) (W:World) (l:ZW) (hl:l.length≤n) (h:RS W P l d 0) :
 Calls prog 134 #[P] W (RPost P W d (pX 8 d l)):=by
 cases l with
 | nil =>
   rw [dD,Wy];exact Qj P d W h ac
 | cons t r =>
   have hE:d+1≤40->RvOk 1 P (d+1) r.length:=λh40=>HE h40 r.length ot
   by_cases h2:t.k=2
   ·exact Qi P d t r W h h2
   by_cases h3:t.k=3
   ·exact Qh P d t r W h h3
   cases f0:isF cE (t::r) with
   | true=>exact Kv P d t r W h h2 h3 f0
   | false =>
   cases f1:isF dU (t::r) with
   | true=>exact Ku P d t r W h h2 h3 f0 f1
   | false =>
   cases f2:isF cX (t::r) with
   | true=>exact Gl P d t r W h h2 h3 f0 f1 f2
   | false =>
   by_cases h40:d+1≤40
   ·cases f3:isF [40] (t::r) with
    | true=>exact vG P d t r W h h2 h3 f0 f1 f2 f3 h40 (hE h40)
    | false =>
    cases f4:isF bF (t::r) with
    | true=>exact vH P d t r W h h2 h3 f0 f1 f2 f3 f4 h40 (hE h40)
    | false =>
    cases f5:isF gG (t::r) with
    | true=>exact zV P d t r W h h2 h3 f0 f1 f2 f3 f4 f5 h40 (hE h40)
    | false =>
    cases f6:isF jA (t::r) with
    | true=>exact zW P d t r W h h2 h3 f0 f1 f2 f3 f4 f5 f6 h40 (hE h40)
    | false =>
    cases f7:isF kL (t::r) with
    | true=>exact zX P d t r W h h2 h3 f0 f1 f2 f3 f4 f5 f6 f7 h40 (hE h40)
    | false=>exact xE P d t r W h h2 h3 f0 f1 f2 f3 f4 f5 f6 f7 hd
   ·have hn:40<d+1:=ac
    cases f3:isF [40] (t::r) with
    | true=>exact xD P d t r W h h2 h3 f0 f1 f2 f3 hn ac
    | false =>
    cases f4:isF bF (t::r) with
    | true=>exact xF P d t r W h h2 h3 f0 f1 f2 f3 f4 hn ac
    | false =>
    cases f5:isF gG (t::r) with
    | true=>exact Dh P d t r W h h2 h3 f0 f1 f2 f3 f4 f5 hn ac
    | false =>
    cases f6:isF jA (t::r) with
    | true=>exact Di P d t r W h h2 h3 f0 f1 f2 f3 f4 f5 f6 hn ac
    | false =>
    cases f7:isF kL (t::r) with
    | true=>exact Dj P d t r W h h2 h3 f0 f1 f2 f3 f4 f5 f6 f7 hn ac
    | false=>exact xE P d t r W h h2 h3 f0 f1 f2 f3 f4 f5 f6 f7 hd
structure AllR (P d n:Nat):Prop where
 e1:RvOk 1 P d n
 e3:RvOk 3 P d n
 e7:RvOk 7 P d n
theorem Dc (P:Nat):∀ (n d:Nat),d≤40->AllR P d n:=by
 intro n
 induction n using Nat.strongRecOn with
 | _ n ih =>
   intro d hd;have h8:=aIT P d n (Qk P d n hd (λh40 m hm=>(ih m hm (d+1) h40).e1));have h7:=aIU P d n hd h8 (λh40 m hm=>(ih m hm (d+1) h40).e7);have h4:=aIX P d n ac (aIW P d n (aIV P d n h7));have h3:=aIY P d n hd h4 (λh40 m hm=>(ih m hm (d+1) h40).e3);exact ⟨aJA P d n (aIZ P d n h3),h3,h7⟩
def zF (P:Nat) (w:World) (q:Option (Lp.X×ZW)) (g:Nat) (rr:RC) (w':World):Prop :=
 But P w w'∧w.heap.size≤g∧w'.heap[g]? = some (.cells rr.cells.toArray 60 (0,0))∧match q with
 | none=>RBad P w' 0
 | some (x,r)=>RX (λk=>w.heap.size≤k) w' x rr∧RS w' P r 0 0
theorem Ow {w1:World} {q:Option (Lp.X×ZW)} (hb:But P w w1) (h:RPostR P w1 0 q rr v):zF P w q v rr (v.alloc (.cells rr.cells.toArray 60)):=by
 have hb2:Below v v (v.alloc (.cells rr.cells.toArray 60)):=ρ;obtain ⟨h1,h2⟩:=h;refine ⟨(hb.trans h1).trans (But.of hb2),(hb.trans h1).size,heap_alloc_new v _, ?_⟩;cases q with
 | none=>exact RBad.below h2 hb2
 | some p=>exact ⟨RX.mono (λg hg _=>Nat.le_trans hb.size hg) (RX.below hb2 h2.1),h2.2.below hb2⟩
theorem rQ (P:Nat) (l:ZW) (w:World) (h:RS w P l 0 0) (hf:isF [119,104,101,114,101] l=true) :
 Calls prog 86 #[P] w λe w'=>∃ g rr,e=.returned (.slice (some ⟨g,0,none⟩) 1 1)∧zF P w (pX 1 0 l.tail) g rr w':=by
 have HI:=κ (aH P 0 0 l ⟨#[119,104,101,114,101]⟩ w h true (by rw [show (⟨#[119,104,101,114,101]⟩:ByteArray).data.toList=[119,104,101,114,101] from rfl,hf];rfl));clear h hf;go_enter func86,ntmps86;go_wp2_with fail;refine μ HI ?_;rintro e w1 ⟨rfl,hb1,hp1⟩;simp only [if_true] at hp1;have HC:=κ (show Calls prog 85 #[P,.int .i64 1] _ _ from (Dc P l.tail.length 0 ac).e1 w1 l.tail (ν _) hp1);clear hp1;go_wp2_with fail;refine μ HC ?_;rintro e w2 hq;obtain ⟨⟨k,vk,vi,vs,vb,tt,ss,A,nn,c⟩,rfl,hq2⟩:=hq.open_;simp only [RC.val];have HZ:=κ (Ow hb1 hq2);clear hq hq2 hb1 HC;go_wp2;go_ret;exact ⟨_,_,rfl,HZ.o⟩
def stC (k:Int) (tb:ZS) (A:ZT) (n:Nat):ZU:=[.int .u8 k,.string ⟨#[]⟩,.string ⟨tb.toArray⟩,.string ⟨#[]⟩,.slice none 0 0,.slice none 0 0,.slice none 0 0,.slice none 0 0,.slice none 0 0,.slice A n n,.slice none 0 0,.slice none 0 0,.int .i64 0]
def stZ:ZU:=stC 0 [] none 0
def eM (w:World) (g:Nat) (k:Int) (tb:ZS) (A:ZT) (n:Nat):World :=
 ((((((((((((w.setCell ⟨g,0,none⟩ (.int .u8 k)).setCell ⟨g,1,none⟩ (.string ⟨#[]⟩)).setCell ⟨g,2,none⟩ (.string tb)).setCell ⟨g,3,none⟩ (.string ⟨#[]⟩)).setCell ⟨g,4,none⟩ (.slice none 0 0)).setCell ⟨g,5,none⟩ (.slice none 0 0)).setCell ⟨g,6,none⟩ (.slice none 0 0)).setCell ⟨g,7,none⟩ (.slice none 0 0)).setCell ⟨g,8,none⟩ (.slice none 0 0)).setCell ⟨g,9,none⟩ (.slice A n n)).setCell ⟨g,10,none⟩ (.slice none 0 0)).setCell ⟨g,11,none⟩ (.slice none 0 0)).setCell ⟨g,12,none⟩ (.int .i64 0)
theorem aJZ (a0 a1 a2 a3 a4 a5 a6 a7 a8 a9 a10 a11 a12 b0 b1 b2 b3 b4 b5 b6 b7 b8 b9 b10 b11 b12:Value):(((((((((((((#[a0,a1,a2,a3,a4,a5,a6,a7,a8,a9,a10,a11,a12].setIfInBounds 0 b0).setIfInBounds 1 b1).setIfInBounds 2 b2).setIfInBounds 3 b3).setIfInBounds 4 b4).setIfInBounds 5 b5).setIfInBounds 6 b6).setIfInBounds 7 b7).setIfInBounds 8 b8).setIfInBounds 9 b9).setIfInBounds 10 b10).setIfInBounds 11 b11).setIfInBounds 12 b12)=#[b0,b1,b2,b3,b4,b5,b6,b7,b8,b9,b10,b11,b12]:=aa
theorem jW {k0:Int} {tb0:ZS} {A0:ZT} {n0:Nat} {t:TypeId} (k:Int) (tb:ZS) (A:ZT) (n:Nat) (h:w.heap[g]? = some (.cells (stC k0 tb0 A0 n0).toArray t (0,0))):(eM w g k tb A n).heap[g]? = some (.cells (stC k tb A n).toArray t (0,0)):=by
 change w.heap[g]? = some (.cells #[.int .u8 k0,(),tb0,(),.slice none 0 0,.slice none 0 0,.slice none 0 0,.slice none 0 0,.slice none 0 0,.slice A0 n0 n0,.slice none 0 0,.slice none 0 0,.int .i64 0] t (0,0)) at h;have h1:=heap_setCell_same _ g 0 _ _ (.int .u8 k) h;have h2:=heap_setCell_same _ g 1 _ _ (.string ⟨#[]⟩) h1;have h3:=heap_setCell_same _ g 2 _ _ (.string tb) h2;have h4:=heap_setCell_same _ g 3 _ _ (.string ⟨#[]⟩) h3;have h5:=heap_setCell_same _ g 4 _ _ (.slice none 0 0) h4;have h6:=heap_setCell_same _ g 5 _ _ (.slice none 0 0) h5;have h7:=heap_setCell_same _ g 6 _ _ (.slice none 0 0) h6;have h8:=heap_setCell_same _ g 7 _ _ (.slice none 0 0) h7;have h9:=heap_setCell_same _ g 8 _ _ (.slice none 0 0) h8;have h10:=heap_setCell_same _ g 9 _ _ (.slice A n n) h9;have h11:=heap_setCell_same _ g 10 _ _ (.slice none 0 0) h10;have h12:=heap_setCell_same _ g 11 _ _ (.slice none 0 0) h11;have h13:=heap_setCell_same _ g 12 _ _ (.int .i64 0) h12;rw [aJZ] at h13;unfold eM;rw [h13];rfl
theorem jV {j:Nat} (h:j≠g):(eM w g k tb A n).heap[j]? = w.heap[j]? := by
 unfold eM;simp only [λ(w:World) (o:Nat) (v:Value)=>Below.heap_setCell w ⟨g,o,none⟩ v j h]
theorem Bk {a:World} (h:But P a w) (hg:a.heap.size≤g):But P a (eM w g k tb A n):=by
 unfold eM;exact bP (bP (bP (bP (bP (bP (bP (bP (bP (bP (bP (bP (bP h hg _ _) hg _ _) hg _ _) hg _ _) hg _ _) hg _ _) hg _ _) hg _ _) hg _ _) hg _ _) hg _ _) hg _ _) hg _ _
theorem xI {bad:Int} {l:ZW} (h:RS w P l d bad) (hP:P<g):RS (eM w g k tb A n) P l d bad:=by
 obtain ⟨A0,c,i,h1,h2,h3⟩:=h;refine ⟨A0,c,i,(jV ac).trans h1, ?_,h3⟩;rcases h2 with rfl|⟨b,off,hA,hlt,hc⟩
 ·exact ab
 ·exact .inr ⟨b,off,hA,hlt,λj u hu=>(World.cell?_of_block (w:=w) (jV uk)).trans (hc j u hu)⟩
structure StS (B P:Nat) (w0 w:World) (k:Int) (tb:ZS) (A:ZT) (n:Nat):Prop where
 b:But P w0 w
 z:w.heap[B]? = some (.cells stZ.toArray 38 (0,0))
 x:w.heap[B+1]? = some (.cells (stC k tb A n).toArray 38 (0,0))
theorem aCC (P:Nat) (w:World):StS w P w ((w.alloc (.cells stZ.toArray 38)).alloc (.cells stZ.toArray 38)) 0 [] none 0:=by
 refine ⟨But.of ((ρ).alloc aa _),aB (heap_alloc_new w _) _, ?_⟩;have:=heap_alloc_new (w.alloc (.cells stZ.toArray 38)) (.cells stZ.toArray 38);rwa [World.size_alloc] at this
theorem StS.but (h:StS B P w0 w k tb A n) (hb:But P w w') (hP:P<B):StS B P w0 w' k tb A n :=
 ⟨h.b.trans hb,aL hb h.z ac,aL hb h.x ac⟩
theorem StS.cells (h:StS B P w0 w k tb A n):(∀ j,w.cell? ⟨B,j,none⟩=stZ.toArray[j]?)∧(∀ j,w.cell? ⟨B+1,j,none⟩=(stC k tb A n).toArray[j]?)∧(∀ j,w.frozen? ⟨B,j,none⟩=false)∧(∀ j,w.frozen? ⟨B+1,j,none⟩=false) :=
 ⟨β h.z,β h.x,λj=>frozen_of_row w _ j _ _ h.z,λj=>frozen_of_row w _ j _ _ h.x⟩
theorem StS.put (h:StS B P w0 w k tb A n) (hB:w0≤B) (k2:Int) (tb2:ZS) (A2:ZT) (n2:Nat):StS B P w0 (eM w (B+1) k2 tb2 A2 n2) k2 tb2 A2 n2 :=
 ⟨Bk h.b ac,(jV ac).trans h.z,jW k2 tb2 A2 n2 h.x⟩
theorem StS.wh (h:StS B P w0 w k tb none 0) (hB:w0≤B) (g n:Nat):StS B P w0 (w.setCell ⟨B+1,9,none⟩ (.slice (some ⟨g,0,none⟩) n n)) k tb (some ⟨g,0,none⟩) n:=by
 refine ⟨bP h.b ac _ _,(Below.heap_setCell w ⟨B+1,9,none⟩ _ B vl).trans h.z, ?_⟩;have:=heap_setCell_same w (B+1) 9 _ _ (.slice (some ⟨g,0,none⟩) n n) h.x;rw [this];simp [stC]
def stV (k:Int) (tb:ZS) (A:ZT) (n:Nat):Value:=.agg #[.int .u8 k,(),tb,(),.slice none 0 0,.slice none 0 0,.slice none 0 0,.slice none 0 0,.slice none 0 0,.slice A n n,.slice none 0 0,.slice none 0 0,.int .i64 0]
def aJN (P:Nat) (w:World) (q:Option (Lp.X×ZW)) (e:Ending) (w':World):Prop :=
 ∃ g rr,e=.returned (stV 7 [116] (some ⟨g,0,none⟩) 1)∧zF P w q g rr w'
theorem aHR {v2:World} {q:Option (Lp.X×ZW)} (hB:w0.heap.size=B) (hP:P<B) (hb0:But P w0 v) (hv:B+2≤v.heap.size) (h:zF P v q g rr v2) :
 zF P w0 q g rr (eM (v2.setCell ⟨B+1,9,none⟩ (.slice (some ⟨g,0,none⟩) 1 1)) B 7 [116] (some ⟨g,0,none⟩) 1):=by
 obtain ⟨h1,h2,h3,h4⟩:=h;refine ⟨Bk (bP (hb0.trans h1) ac _ _) ac,ac, ?_, ?_⟩
 ·rw [jV ac,Below.heap_setCell _ _ _ _ (by show g≠B+1;omega)];exact h3
 ·cases q with
  | none =>
    obtain ⟨l',d',b',g0,g1,g2,g3⟩:=RBad.far (g:=B+1) (o:=9) (v:=.slice (some ⟨g,0,none⟩) 1 1) h4 (show P<B+1 by omega);exact ⟨l',d',b',g0,xI g1 hP,g2,g3⟩
  | some p =>
    obtain ⟨x,r⟩:=p;refine ⟨RX.turn (λk cs hk hc=>⟨?_, ?_⟩) h4.1,xI (h4.2.far ac) hP⟩
    ·have:v.heap.size≤k:=hk;show w0.heap.size≤k;omega
    ·have:v.heap.size≤k:=hk;rw [jV ac,Below.heap_setCell _ _ _ _ (by show k≠B+1;omega)];exact hc
theorem Px (P:Nat) (L:ZW) (w:World) (h:RS w P (rC++L) 0 0) :
 Calls prog 33 #[P] w (aJN P w (pX 1 0 L)):=by
 have hP:=mv;have hS:=aCC P w;have hp:=h.below (((Below.refl w w).alloc (ν _) (.cells stZ.toArray 38)).alloc aa (.cells stZ.toArray 38));have HS:=lf;have HP:=ef;have HI:=κ (aH P 0 0 (rC++L) ⟨#[99,114,101,97,116,101]⟩ _ HP.o false rfl);clear h hS hp;go_enter func33,ntmps33;go_wp2_with fail;refine μ HI ?_;rintro e v0 ⟨rfl,hb,hp⟩;simp only [φ,if_false] at hp;replace HS:=DZ;replace HP:=ef;clear hb hp HI;have HI:=κ (aH P 0 0 (rC++L) ⟨#[100,114,111,112]⟩ _ HP.o false rfl);go_wp2_with fail;refine μ HI ?_;rintro e v1 ⟨rfl,hb,hp⟩;simp only [φ,if_false] at hp;replace HS:=DZ;replace HP:=ef;clear hb hp HI;have HI:=κ (aH P 0 0 (rC++L) ⟨#[105,110,115,101,114,116]⟩ _ HP.o false rfl);go_wp2_with fail;refine μ HI ?_;rintro e v2 ⟨rfl,hb,hp⟩;simp only [φ,if_false] at hp;replace HS:=DZ;replace HP:=ef;clear hb hp HI;have HI:=κ (aH P 0 0 (rC++L) ⟨#[117,112,100,97,116,101]⟩ _ HP.o false rfl);go_wp2_with fail;refine μ HI ?_;rintro e v3 ⟨rfl,hb,hp⟩;simp only [φ,if_false] at hp;replace HS:=DZ;replace HP:=ef;clear hb hp HI;have HI:=κ (aH P 0 0 (rC++L) ⟨#[100,101,108,101,116,101]⟩ _ HP.o true rfl);go_wp2_with fail;refine μ HI ?_;rintro e v4 ⟨rfl,hb,hp⟩;simp only [if_true] at hp;replace HS:=DZ;replace HP:=ef;clear hb hp HI;have HI:=κ (dI P 0 (rC++L).tail ⟨#[102,114,111,109]⟩ _ HP.o rfl);go_wp2_with fail;refine μ HI ?_;rintro e v5 ⟨rfl,hb,hp⟩
 replace HS:=DZ;replace HP:=ef;clear hb hp HI;have HI:=κ (qO P 0 (rC++L).tail.tail _ HP.o ac);go_wp2_with fail;refine μ HI ?_;rintro e v6 hn;have hn2:But P v5 v6∧e=.returned (.string ⟨#[116]⟩)∧RS v6 P (⟨1,[119,104,101,114,101],0⟩::L) 0 0:=hn;obtain ⟨hb,rfl,hp⟩:=hn2;replace HS:=DZ;obtain ⟨-,c1, -,z1⟩:=sk;simp only [stC] at c1;have hSp:=HS.o.put (ν _) 7 [116] none 0;have hpp:=xI (k:=7) (tb:=[116]) (A:=none) (n:=0) hp (show P<w.heap.size+1 by omega);have hvs:w.heap.size+2≤(eM v6 (w+1) 7 [116] none 0).heap.size:=by have:=aG hSp.x;omega
 obtain ⟨V,hV⟩:∃ V,eM v6 (w+1) 7 [116] none 0=V:=cw;rw [hV] at hSp hpp hvs;simp only [eM] at hV;have HV:=κ hV;replace HS:=κ hSp;have HW:=κ (rQ P (⟨1,[119,104,101,114,101],0⟩::L) V hpp rfl);clear hn hb hp hSp hpp hV HI HP;go_wp2_with fail;rw [HV.o];refine μ HW ?_;rintro e v7 ⟨g,rr,rfl,hw⟩;have hS7:=HS.o.but hw.1 hP;have hS8:=hS7.wh (ν _) g 1;have HE:=κ (aHR (q:=pX 1 0 L) rfl hP HS.o.b hvs hw);obtain ⟨c0,d1,z0,y1⟩:=hS8.cells;obtain ⟨-,d7, -,y7⟩:=hS7.cells;have hcE:=β (jW 7 [116] (some ⟨g,0,none⟩) 1 hS8.z);simp only [stC,stZ] at c0 d1 d7;clear hw hS7 hS8 HS HV HW c1 z1;go_wp2;change bodyPost _ _ _ _ _ (eM _ w 7 [116] (some ⟨g,0,none⟩) 1);generalize eM _ w 7 [116] (some ⟨g,0,none⟩) 1=WE at *;simp only [stC] at hcE;exact bodyPost_ret (v:=stV 7 [116] (some ⟨g,0,none⟩) 1) (by simp [results,results33,go_sem,hcE,stV]) rfl ⟨g,rr,rfl,HE.o⟩
