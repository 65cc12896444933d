/-
 Contracts. Conditions: those of each.
-/
import Derived.Test.YtkolcimllghnaaaGreatDoorQdGM
set_option maxRecDepth 100000
set_option maxHeartbeats 8000000
namespace Go.Proofs.YtkolcimllghnaaaGreatDoor
open Lp Go.Proofs.Tryz
open Go.RowKit
variable{B G P d:Nat}{v w0:World}{op:ZS}
theorem Lev.partsG {w:World} {k:Int} (h:Lev B G P w0 w (rc0 k op)) (hB:w0.heap.size=B) (hG:B<G) (g n:Nat):Lev B G P w0 (w.setCell ⟨G,7,none⟩ (.slice (some ⟨g,0,none⟩) n n)) (rcP k op g n):=by
 obtain ⟨h1,⟨r0,h2⟩,h3⟩:=h;refine ⟨bP h1 ac _ _,⟨r0,(Below.heap_setCell w ⟨G,7,none⟩ _ B vn).trans h2⟩, ?_⟩;have:=heap_setCell_same w G 7 _ _ (.slice (some ⟨g,0,none⟩) n n) h3;rw [this];simp [rc0,rcP,RC.cells]
theorem kY (rr:RC) (hL:Lev B G P w0 v (rc0 6 op)) (hB:w0.heap.size=B) (hG:B<G) :
 (∀ j,(v.alloc (.cells rr.cells.toArray 60)).cell? ⟨G,j,none⟩=(rc0 6 op).cells.toArray[j]?)∧(∀ j,(v.alloc (.cells rr.cells.toArray 60)).frozen? ⟨G,j,none⟩=false) ∧
  Lev B G P w0 ((v.alloc (.cells rr.cells.toArray 60)).setCell ⟨G,7,none⟩ (.slice (some ⟨v,0,none⟩) 1 1)) (rcP 6 op v 1):=by
 have h:=hL.far ((Below.refl v v).alloc (ν _) (.cells rr.cells.toArray 60));exact ⟨h.cells.2.1,h.cells.2.2.2,h.partsG hB hG _ _⟩
theorem mZ (o:Obj) (u:Value) (h:RBad P v d) (hG:P<G):RBad P ((v.alloc o).setCell ⟨G,7,none⟩ u) d :=
 (h.below ((Below.refl v v).alloc (ν _) o)).far hG
theorem Em {v0:World} {x:Lp.X} {l:ZW} (rr:RC) (h:RX (λg=>v0.heap.size≤g) v x rr) (hp:RS v P l d 0) (hG:G<v0) (hv:v0≤v.heap.size) (hB:B<G) (hP:P<G) :
 RX (λg=>B<g) ((v.alloc (.cells rr.cells.toArray 60)).setCell ⟨G,7,none⟩ (.slice (some ⟨v,0,none⟩) 1 1)) (.agg op x) (rcP 6 op v 1)∧RS ((v.alloc (.cells rr.cells.toArray 60)).setCell ⟨G,7,none⟩ (.slice (some ⟨v,0,none⟩) 1 1)) P l d 0:=by
 have hb:=(Below.refl v v).alloc (ν _) (.cells rr.cells.toArray 60);have h1:=(RX.below hb h).far (g:=G) (o:=7) (v:=.slice (some ⟨v,0,none⟩) 1 1) (λk hk _=>by have:v0.heap.size≤k:=hk;omega);refine ⟨⟨v.heap.size,rr,rfl,ac, ?_,RX.mono (λg hg _=>by have:v0.heap.size≤g:=hg;show B<g;omega) h1⟩,(hp.below hb).far hP⟩;rw [Below.heap_setCell _ _ _ _ (by show v.heap.size≠G;omega)];exact heap_alloc_new v _
theorem Dh (P d:Nat) (t:Tok) (r:ZW) (w:World) (h:RS w P (t::r) d 0) (hk2:t.k≠2) (hk3:t.k≠3) (f0:isF cE (t::r)=false) (f1:isF dU (t::r)=false) (f2:isF cX (t::r)=false) (f3:isF [40] (t::r)=false) (f4:isF bF (t::r)=false) (fy:isF gG (t::r)=true) (h40:40<d+1) (hd:d≤100) :
 Calls prog 134 #[P] w (RPost P w d (pX 8 d (t::r))):=by
 have hts:=AJ
 have hq:pX 8 d (t::r)=if d+1≤40 then (match aD [40] r with
  | none=>none
  | some r2=>if t.s=bF∧isF [42] r2=true then (aD [41] r2.tail).map λr3=>(.cnt,r3) else (match pX 1 (d+1) r2 with
    | none=>none
    | some (x,r3)=>(aD [41] r3).map λr4=>(.agg (upW t.s) x,r4))) else none:=AK
 have e1:=zm;have e2:=zl;have g0:=AL
 have g1:(t.s==[115,117,109])=true:=AM
 rw [if_neg ac] at hq;have HQ:=mi;clear hk2 hk3 hq hts;have hP:=mv;have hb0:=vw;have hz0:=vu;have H0:=yz;obtain ⟨A,c,i,h1,h2,h3⟩:=vv;have hc0:=cq;have hc1:=ee;obtain ⟨b,off,rfl,hlt,k0,k1,k2⟩:=ue;obtain ⟨n,hn⟩:∃ n,i+(t::r).length=n:=cw;rw [hn] at hc0;have hin:=ud
 have hinN:=uf
 have hin0:=ug
 have hlt2:=uo
 have hltN:=uq
 simp only [RC.cells,rcZ] at hc0 hc1 k0 k1 k2;clear h hb0 hz0 h1 h2 h3 hn;go_enter func134,ntmps134;go_wp2_with fail;go_quiet (fail);go_wp2_with fail;obtain ⟨k0a,k1a,k2a,h0a,h1a⟩:=zb
 go_region
 have hA0:=zk;have hp0:=zj;simp only [RC.cells,rcZ] at hA0 hp0;have HA:=zh;have HP:=zg;clear hA0 hp0 k0a k1a k2a h0a h1a hc0 hc1 k0 k1 k2 H0 hin hinN hin0 hlt2 hltN;generalize ((w.alloc (.cells #[.int .u8 0,.int .u8 0,.int .i64 0,(),false,(),(),.slice none 0 0] 60)).drewN (nq+1)).alloc (.cells #[.int .u8 t.k,t.s,.int .i64 t.n] 173)=v0 at *;have tk:=ze;have HI:=zq;go_wp2_with fail;refine μ HI ?_;rintro e v1 ⟨rfl,hb,hp⟩;simp only [φ,if_false] at hp;replace HA:=zp;replace HP:=ef;clear hb hp HI;clear tk;have HI:=zt;go_wp2_with fail;refine μ HI ?_;rintro e v2 ⟨rfl,hb,hp⟩;simp only [φ,if_false] at hp;replace HA:=zp;replace HP:=ef;clear hb hp HI;have HI:=zv;go_wp2_with fail;refine μ HI ?_;rintro e v3 ⟨rfl,hb,hp⟩
 simp only [φ,if_false] at hp;replace HA:=zp;replace HP:=ef;clear hb hp HI;have HI:=AU;go_wp2_with fail;refine μ HI ?_;rintro e v4 ⟨rfl,hd1⟩;replace HA:=AA;replace HP:=zy;clear hd1 HI;have HI:=AS;go_wp2_with fail;refine μ HI ?_;rintro e v5 ⟨rfl,hd1⟩;replace HA:=AA;replace HP:=zy;clear hd1 HI;have HI:=AR;go_wp2_with fail;refine μ HI ?_;rintro e u0 ⟨rfl,hd1⟩;replace HA:=AA;replace HP:=zy;clear hd1 HI;have ts1:=AQ;have hb2:=AP;have hG:=AO
 have hL2:=BA;have hp2:=AZ;have HL:=κ hL2;have hGz:=AY;have HD:=AX;clear hL2 hp2 hb2;go_wp2_with fail;refine μ HD ?_;rintro e v5 ⟨rfl,hb,b',hb',hp⟩;have hL5:=AW;obtain ⟨⟨⟨a0,a1,a2,a3,a4,a5,a6,a7,a8,a9⟩,c0⟩, -,z0, -⟩:=xu;obtain ⟨rz,hz⟩:=hL5.z;have hcE:=zx;have HE:=AV;simp only [RC.cells] at c0;clear hL5 hz hp hb HD HA HP HQ HL ts1;go_wp2;change bodyPost _ _ _ _ _ (put8 _ w rcZ);generalize put8 _ w rcZ=WE at *;simp only [RC.cells,rcZ] at hcE;exact zw
theorem zV (P d:Nat) (t:Tok) (r:ZW) (w:World) (h:RS w P (t::r) d 0) (hk2:t.k≠2) (hk3:t.k≠3) (f0:isF cE (t::r)=false) (f1:isF dU (t::r)=false) (f2:isF cX (t::r)=false) (f3:isF [40] (t::r)=false) (f4:isF bF (t::r)=false) (fy:isF gG (t::r)=true) (h40:d+1≤40) (HE1:RvOk 1 P (d+1) r.length) :
 Calls prog 134 #[P] w (RPost P w d (pX 8 d (t::r))):=by
 have hts:=AJ
 have hq:pX 8 d (t::r)=if d+1≤40 then (match aD [40] r with
  | none=>none
  | some r2=>if t.s=bF∧isF [42] r2=true then (aD [41] r2.tail).map λr3=>(.cnt,r3) else (match pX 1 (d+1) r2 with
    | none=>none
    | some (x,r3)=>(aD [41] r3).map λr4=>(.agg (upW t.s) x,r4))) else none:=AK
 have e1:=zm;have e2:=zl;have g0:=AL
 have g1:(t.s==[115,117,109])=true:=AM
 rw [if_pos h40] at hq;have HQ0:=mi;have HF:=κ HE1;have HTS:=κ hts;clear hk2 hk3 hq HE1 hts;have hP:=mv;have hb0:=vw;have hz0:=vu;have H0:=yz;obtain ⟨A,c,i,h1,h2,h3⟩:=vv;have hc0:=cq;have hc1:=ee;obtain ⟨b,off,rfl,hlt,k0,k1,k2⟩:=ue;obtain ⟨n,hn⟩:∃ n,i+(t::r).length=n:=cw;rw [hn] at hc0;have hin:=ud
 have hinN:=uf
 have hin0:=ug
 have hlt2:=uo
 have hltN:=uq
 simp only [RC.cells,rcZ] at hc0 hc1 k0 k1 k2;clear h hb0 hz0 h1 h2 h3 hn;go_enter func134,ntmps134;go_wp2_with fail;go_quiet (fail);go_wp2_with fail;obtain ⟨k0a,k1a,k2a,h0a,h1a⟩:=zb
 go_region
 have hA0:=zk;have hp0:=zj;simp only [RC.cells,rcZ] at hA0 hp0;have HA:=zh;have HP:=zg;clear hA0 hp0 k0a k1a k2a h0a h1a hc0 hc1 k0 k1 k2 H0 hin hinN hin0 hlt2 hltN;generalize ((w.alloc (.cells #[.int .u8 0,.int .u8 0,.int .i64 0,(),false,(),(),.slice none 0 0] 60)).drewN (nq+1)).alloc (.cells #[.int .u8 t.k,t.s,.int .i64 t.n] 173)=v0 at *;have tk:=ze;have HI:=zq;go_wp2_with fail;refine μ HI ?_;rintro e v1 ⟨rfl,hb,hp⟩;simp only [φ,if_false] at hp;replace HA:=zp;replace HP:=ef;clear hb hp HI;clear tk;have HI:=zt;go_wp2_with fail;refine μ HI ?_;rintro e v2 ⟨rfl,hb,hp⟩;simp only [φ,if_false] at hp;replace HA:=zp;replace HP:=ef;clear hb hp HI;have HI:=zv;go_wp2_with fail;refine μ HI ?_;rintro e v3 ⟨rfl,hb,hp⟩
 simp only [φ,if_false] at hp;replace HA:=zp;replace HP:=ef;clear hb hp HI;have HI:=AU;go_wp2_with fail;refine μ HI ?_;rintro e v4 ⟨rfl,hd1⟩;replace HA:=AA;replace HP:=zy;clear hd1 HI;have HI:=AS;go_wp2_with fail;refine μ HI ?_;rintro e v5 ⟨rfl,hd1⟩;replace HA:=AA;replace HP:=zy;clear hd1 HI;have HI:=AR;go_wp2_with fail;refine μ HI ?_;rintro e u0 ⟨rfl,hd1⟩;replace HA:=AA;replace HP:=zy;clear hd1 HI;have ts1:=AQ;have hb2:=AP;have hG:=AO
 have hL2:=BA;have hp2:=AZ;have HL:=κ hL2;have hGz:=AY;have HD:=BC;clear hL2 hp2 hb2;go_wp2_with fail;refine μ HD ?_;rintro e v5 ⟨rfl,hb,hp⟩;obtain ⟨j,n1,n2,n3,n4⟩:=hp.next;have hL6:=BB;have HP6:=κ n4;have HL6:=κ hL6;clear hb hp n4 HD hL6 HA HP HL ts1;cases hw0:isF [40] r
 ·have HQ:=BS;have HNe:=BR;clear hw0 HQ0 HTS HP6;go_wp2_with fail;refine μ HNe ?_;rintro e v7 ⟨rfl,hb,b',hb',hp⟩;have hL7:=BQ;have hb7:=BP;clear hb hp hb' HNe HL6 n1 n2;have cS:=BO;simp only [RC.cells,rc0,dZ,γ,δ,ε] at cS;have HC:=BN;have HL7:=BM;clear hb7 hL7;go_wp2_with fail;refine μ HC ?_;rintro e v9 ⟨rfl,hb9,hbad9⟩;simp only [RC.val,rcZ];have hL9:=BL;obtain ⟨y1,y2,hL10⟩:=BK;have hbad10:=BJ;have HNe:=BI;simp only [RC.cells,rcZ,rc0] at y1 y2 HNe hL10;have HL10:=κ hL10;clear hb9 hbad9 hL9 hL10 hbad10 HC HL7;go_wp2_with fail;refine μ HNe ?_;rintro e v11 ⟨rfl,hb11,hbad11⟩;have hL11:=BH;clear hb11 HNe HL10 y1 y2;obtain ⟨e6,q1,q2,q3,q4,q5⟩:=BG;have hLF:=BF;have HE:=BE;clear q5 hL11 hbad11;obtain ⟨⟨⟨a0,a1,a2,a3,a4,a5,a6,a7,a8,a9⟩,c0⟩,c1,z0,z1⟩:=AE;obtain ⟨rz,hz⟩:=AD;have hcE:=BD;simp only [RC.cells,rcP] at c0 c1;clear hLF hz ;go_wp2
  change bodyPost _ _ _ _ _ (put8 _ w (rcP 6 dZ v9 1));generalize put8 _ w (rcP 6 dZ v9 1)=WE at *;simp only [RC.cells,rcP] at hcE;exact BT
 ·have HNe:=BU;have hlt0:=bD hw0;have HQ1:=κ (show pX 8 d (t::r)=match pX 1 (d+1) r.tail with|none=>none|some (x,r3)=>(aD [41] r3).map (λr4=>(.agg dZ x,r4)) by
  rw [HQ0.o,aD,hw0,HTS.o];exact if_neg (λh=>absurd h.1 am))
  clear hw0 HQ0 HTS HP6;go_wp2_with fail;refine μ HNe ?_;rintro e v7 ⟨rfl,hb,hp7⟩;have hL7:=BQ;clear hb HNe HL6 n1 n2;have cS:=BO;simp only [RC.cells,rc0,dZ,γ,δ,ε] at cS;have HC:=BW;have hGz7:=aG hL7.x;have HL7:=BM;clear hp7 hL7;go_wp2_with fail;refine μ HC ?_;rintro e v9 hq9;obtain ⟨⟨k,vk,vi,vs,vb,tt,ss,A,nn,c⟩,rfl,hb9,hq10⟩:=hq9.open_;simp only [RC.val];have hL9:=BL;obtain ⟨y1,y2,hL10⟩:=BV;simp only [RC.cells,rc0] at y1 y2 hL10;have HL10:=κ hL10;have hz9:=hb9.size;clear hq9 hb9 hL9 hL10 HC HL7;rcases hpx:pX 1 (d+1) r.tail with _|⟨x,r3⟩
  ·have HQ:=BZ;rw [hpx] at hq10;have hbad9:=BY;have hbad10:=BX;have HNe:=BI;clear hpx hq10 hbad9 hbad10 HQ1;go_wp2_with fail;refine μ HNe ?_;rintro e v11 ⟨rfl,hb11,hbad11⟩;have hL11:=BH;clear hb11 HNe HL10 y1 y2;obtain ⟨e6,q1,q2,q3,q4,q5⟩:=BG;have hLF:=BF;have HE:=BE;clear q5 hL11 hbad11;obtain ⟨⟨⟨a0,a1,a2,a3,a4,a5,a6,a7,a8,a9⟩,c0⟩,c1,z0,z1⟩:=AE;obtain ⟨rz,hz⟩:=AD;have hcE:=BD;simp only [RC.cells,rcP] at c0 c1;clear hLF hz ;go_wp2;change bodyPost _ _ _ _ _ (put8 _ w (rcP 6 dZ v9 1));generalize put8 _ w (rcP 6 dZ v9 1)=WE at *;simp only [RC.cells,rcP] at hcE;exact BT
  ·rw [hpx] at hq10;obtain ⟨hx9,hp9⟩:=hq10;obtain ⟨hx10,hp10⟩:=Em (op:=dZ) (B:=w) (G:=u0) ⟨k,vk,vi,vs,vb,tt,ss,A,nn,c⟩ hx9 hp9 hGz7 hz9 hG ac;simp only [RC.cells] at hx10 hp10;have HX:=CA;cases hw:isF [41] r3
   ·have HQ:=CF;have HNe:=CC;clear hpx hx9 hp9 hx10 hp10 hw HQ1;go_wp2_with fail;refine μ HNe ?_;rintro e v11 ⟨rfl,hb11,b',hb',hp11⟩;have hbad11:=CB;have hL11:=BH;clear hb11 HNe HL10 hp11 hb' y1 y2;obtain ⟨e6,q1,q2,q3,q4,q5⟩:=BG;have hLF:=BF;have HE:=BE;clear q5 hL11 hbad11;obtain ⟨⟨⟨a0,a1,a2,a3,a4,a5,a6,a7,a8,a9⟩,c0⟩,c1,z0,z1⟩:=AE;obtain ⟨rz,hz⟩:=AD;have hcE:=BD;simp only [RC.cells,rcP] at c0 c1;clear hLF hz ;go_wp2;change bodyPost _ _ _ _ _ (put8 _ w (rcP 6 dZ v9 1));generalize put8 _ w (rcP 6 dZ v9 1)=WE at *;simp only [RC.cells,rcP] at hcE;exact BT
   ·have HQ:=κ (show pX 8 d (t::r)=some (.agg dZ x,r3.tail) by rw [HQ1.o,hpx];show (aD [41] r3).map _=_;rw [aD,hw];rfl);have HNe:=CK;clear hpx hx9 hp9 hx10 hp10 hw HQ1;go_wp2_with fail;refine μ HNe ?_;rintro e v11 ⟨rfl,hb11,hp11⟩;have hL11:=BH;have hx11:=CJ;clear hb11 HNe HL10 HX y1 y2;obtain ⟨e6,q1,q2,q3,q4,q5⟩:=CH;have hLF:=BF;have hxF:=CG;have HE:=κ (fI (rcP 6 dZ v9 1) hLF.b rfl hP (S:=λg=>w.heap.size<g) (λ_ h=>h) hxF q5 HQ.o);clear q5 hxF hx11 hL11 hp11;obtain ⟨⟨⟨a0,a1,a2,a3,a4,a5,a6,a7,a8,a9⟩,c0⟩,c1,z0,z1⟩:=AE;obtain ⟨rz,hz⟩:=AD;have hcE:=BD;simp only [RC.cells,rcP] at c0 c1;clear hLF hz ;go_wp2;change bodyPost _ _ _ _ _ (put8 _ w (rcP 6 dZ v9 1));generalize put8 _ w (rcP 6 dZ v9 1)=WE at *;simp only [RC.cells,rcP] at hcE;exact BT
theorem Di (P d:Nat) (t:Tok) (r:ZW) (w:World) (h:RS w P (t::r) d 0) (hk2:t.k≠2) (hk3:t.k≠3) (f0:isF cE (t::r)=false) (f1:isF dU (t::r)=false) (f2:isF cX (t::r)=false) (f3:isF [40] (t::r)=false) (f4:isF bF (t::r)=false) (f5:isF gG (t::r)=false) (fy:isF jA (t::r)=true) (h40:40<d+1) (hd:d≤100) :
 Calls prog 134 #[P] w (RPost P w d (pX 8 d (t::r))):=by
 have hts:=CN
 have hq:pX 8 d (t::r)=if d+1≤40 then (match aD [40] r with
  | none=>none
  | some r2=>if t.s=bF∧isF [42] r2=true then (aD [41] r2.tail).map λr3=>(.cnt,r3) else (match pX 1 (d+1) r2 with
    | none=>none
    | some (x,r3)=>(aD [41] r3).map λr4=>(.agg (upW t.s) x,r4))) else none:=AK
 have e1:=zm;have e2:=zl;have g0:=AL
 have g1:=CO
 have g2:(t.s==[109,105,110])=true:=AM
 rw [if_neg ac] at hq;have HQ:=mi;clear hk2 hk3 hq hts;have hP:=mv;have hb0:=vw;have hz0:=vu;have H0:=yz;obtain ⟨A,c,i,h1,h2,h3⟩:=vv;have hc0:=cq;have hc1:=ee;obtain ⟨b,off,rfl,hlt,k0,k1,k2⟩:=ue;obtain ⟨n,hn⟩:∃ n,i+(t::r).length=n:=cw;rw [hn] at hc0;have hin:=ud
 have hinN:=uf
 have hin0:=ug
 have hlt2:=uo
 have hltN:=uq
 simp only [RC.cells,rcZ] at hc0 hc1 k0 k1 k2;clear h hb0 hz0 h1 h2 h3 hn;go_enter func134,ntmps134;go_wp2_with fail;go_quiet (fail);go_wp2_with fail;obtain ⟨k0a,k1a,k2a,h0a,h1a⟩:=zb
 go_region
 have hA0:=zk;have hp0:=zj;simp only [RC.cells,rcZ] at hA0 hp0;have HA:=zh;have HP:=zg;clear hA0 hp0 k0a k1a k2a h0a h1a hc0 hc1 k0 k1 k2 H0 hin hinN hin0 hlt2 hltN;generalize ((w.alloc (.cells #[.int .u8 0,.int .u8 0,.int .i64 0,(),false,(),(),.slice none 0 0] 60)).drewN (nq+1)).alloc (.cells #[.int .u8 t.k,t.s,.int .i64 t.n] 173)=v0 at *;have tk:=ze;have HI:=zq;go_wp2_with fail;refine μ HI ?_;rintro e v1 ⟨rfl,hb,hp⟩;simp only [φ,if_false] at hp;replace HA:=zp;replace HP:=ef;clear hb hp HI;clear tk;have HI:=zt;go_wp2_with fail;refine μ HI ?_;rintro e v2 ⟨rfl,hb,hp⟩;simp only [φ,if_false] at hp;replace HA:=zp;replace HP:=ef;clear hb hp HI;have HI:=zv;go_wp2_with fail;refine μ HI ?_;rintro e v3 ⟨rfl,hb,hp⟩
 simp only [φ,if_false] at hp;replace HA:=zp;replace HP:=ef;clear hb hp HI;have HI:=AU;go_wp2_with fail;refine μ HI ?_;rintro e v4 ⟨rfl,hd1⟩;replace HA:=AA;replace HP:=zy;clear hd1 HI;have HI:=AS;go_wp2_with fail;refine μ HI ?_;rintro e v5 ⟨rfl,hd1⟩;replace HA:=AA;replace HP:=zy;clear hd1 HI;have HI:=CQ;go_wp2_with fail;refine μ HI ?_;rintro e v6 ⟨rfl,hd1⟩;replace HA:=AA;replace HP:=zy;clear hd1 HI;have HI:=CP;go_wp2_with fail;refine μ HI ?_;rintro e u0 ⟨rfl,hd1⟩;replace HA:=AA;replace HP:=zy;clear hd1 HI;have ts1:=AQ
 have hb2:=CT;have hG:=AO
 have hL2:=CY;have hp2:=AZ;have HL:=κ hL2;have hGz:=CU;have HD:=AX;clear hL2 hp2 hb2;go_wp2_with fail;refine μ HD ?_;rintro e v5 ⟨rfl,hb,b',hb',hp⟩;have hL5:=AW;obtain ⟨⟨⟨a0,a1,a2,a3,a4,a5,a6,a7,a8,a9⟩,c0⟩, -,z0, -⟩:=xu;obtain ⟨rz,hz⟩:=hL5.z;have hcE:=zx;have HE:=AV;simp only [RC.cells] at c0;clear hL5 hz hp hb HD HA HP HQ HL ts1;go_wp2;change bodyPost _ _ _ _ _ (put8 _ w rcZ);generalize put8 _ w rcZ=WE at *;simp only [RC.cells,rcZ] at hcE;exact zw
theorem zW (P d:Nat) (t:Tok) (r:ZW) (w:World) (h:RS w P (t::r) d 0) (hk2:t.k≠2) (hk3:t.k≠3) (f0:isF cE (t::r)=false) (f1:isF dU (t::r)=false) (f2:isF cX (t::r)=false) (f3:isF [40] (t::r)=false) (f4:isF bF (t::r)=false) (f5:isF gG (t::r)=false) (fy:isF jA (t::r)=true) (h40:d+1≤40) (HE1:RvOk 1 P (d+1) r.length) :
 Calls prog 134 #[P] w (RPost P w d (pX 8 d (t::r))):=by
 have hts:=CN
 have hq:pX 8 d (t::r)=if d+1≤40 then (match aD [40] r with
  | none=>none
  | some r2=>if t.s=bF∧isF [42] r2=true then (aD [41] r2.tail).map λr3=>(.cnt,r3) else (match pX 1 (d+1) r2 with
    | none=>none
    | some (x,r3)=>(aD [41] r3).map λr4=>(.agg (upW t.s) x,r4))) else none:=AK
 have e1:=zm;have e2:=zl;have g0:=AL
 have g1:=CO
 have g2:(t.s==[109,105,110])=true:=AM
 rw [if_pos h40] at hq;have HQ0:=mi;have HF:=κ HE1;have HTS:=κ hts;clear hk2 hk3 hq HE1 hts;have hP:=mv;have hb0:=vw;have hz0:=vu;have H0:=yz;obtain ⟨A,c,i,h1,h2,h3⟩:=vv;have hc0:=cq;have hc1:=ee;obtain ⟨b,off,rfl,hlt,k0,k1,k2⟩:=ue;obtain ⟨n,hn⟩:∃ n,i+(t::r).length=n:=cw;rw [hn] at hc0;have hin:=ud
 have hinN:=uf
 have hin0:=ug
 have hlt2:=uo
 have hltN:=uq
 simp only [RC.cells,rcZ] at hc0 hc1 k0 k1 k2;clear h hb0 hz0 h1 h2 h3 hn;go_enter func134,ntmps134;go_wp2_with fail;go_quiet (fail);go_wp2_with fail;obtain ⟨k0a,k1a,k2a,h0a,h1a⟩:=zb
 go_region
 have hA0:=zk;have hp0:=zj;simp only [RC.cells,rcZ] at hA0 hp0;have HA:=zh;have HP:=zg;clear hA0 hp0 k0a k1a k2a h0a h1a hc0 hc1 k0 k1 k2 H0 hin hinN hin0 hlt2 hltN;generalize ((w.alloc (.cells #[.int .u8 0,.int .u8 0,.int .i64 0,(),false,(),(),.slice none 0 0] 60)).drewN (nq+1)).alloc (.cells #[.int .u8 t.k,t.s,.int .i64 t.n] 173)=v0 at *;have tk:=ze;have HI:=zq;go_wp2_with fail;refine μ HI ?_;rintro e v1 ⟨rfl,hb,hp⟩;simp only [φ,if_false] at hp;replace HA:=zp;replace HP:=ef;clear hb hp HI;clear tk;have HI:=zt;go_wp2_with fail;refine μ HI ?_;rintro e v2 ⟨rfl,hb,hp⟩;simp only [φ,if_false] at hp;replace HA:=zp;replace HP:=ef;clear hb hp HI;have HI:=zv;go_wp2_with fail;refine μ HI ?_;rintro e v3 ⟨rfl,hb,hp⟩
 simp only [φ,if_false] at hp;replace HA:=zp;replace HP:=ef;clear hb hp HI;have HI:=AU;go_wp2_with fail;refine μ HI ?_;rintro e v4 ⟨rfl,hd1⟩;replace HA:=AA;replace HP:=zy;clear hd1 HI;have HI:=AS;go_wp2_with fail;refine μ HI ?_;rintro e v5 ⟨rfl,hd1⟩;replace HA:=AA;replace HP:=zy;clear hd1 HI;have HI:=CQ;go_wp2_with fail;refine μ HI ?_;rintro e v6 ⟨rfl,hd1⟩;replace HA:=AA;replace HP:=zy;clear hd1 HI;have HI:=CP;go_wp2_with fail;refine μ HI ?_;rintro e u0 ⟨rfl,hd1⟩;replace HA:=AA;replace HP:=zy;clear hd1 HI;have ts1:=AQ
 have hb2:=CT;have hG:=AO
 have hL2:=CY;have hp2:=AZ;have HL:=κ hL2;have hGz:=CU;have HD:=BC;clear hL2 hp2 hb2;go_wp2_with fail;refine μ HD ?_;rintro e v5 ⟨rfl,hb,hp⟩;obtain ⟨j,n1,n2,n3,n4⟩:=hp.next;have hL6:=BB;have HP6:=κ n4;have HL6:=κ hL6;clear hb hp n4 HD hL6 HA HP HL ts1;cases hw0:isF [40] r
 ·have HQ:=BS;have HNe:=BR;clear hw0 HQ0 HTS HP6;go_wp2_with fail;refine μ HNe ?_;rintro e v7 ⟨rfl,hb,b',hb',hp⟩;have hL7:=BQ;have hb7:=BP;clear hb hp hb' HNe HL6 n1 n2;have cS:=BO;simp only [RC.cells,rc0,fT,γ,δ,ε] at cS;have HC:=BN;have HL7:=BM;clear hb7 hL7;go_wp2_with fail;refine μ HC ?_;rintro e v9 ⟨rfl,hb9,hbad9⟩;simp only [RC.val,rcZ];have hL9:=BL;obtain ⟨y1,y2,hL10⟩:=BK;have hbad10:=BJ;have HNe:=BI;simp only [RC.cells,rcZ,rc0] at y1 y2 HNe hL10;have HL10:=κ hL10;clear hb9 hbad9 hL9 hL10 hbad10 HC HL7;go_wp2_with fail;refine μ HNe ?_;rintro e v11 ⟨rfl,hb11,hbad11⟩;have hL11:=BH;clear hb11 HNe HL10 y1 y2;obtain ⟨e6,q1,q2,q3,q4,q5⟩:=BG;have hLF:=BF;have HE:=DA;clear q5 hL11 hbad11;obtain ⟨⟨⟨a0,a1,a2,a3,a4,a5,a6,a7,a8,a9⟩,c0⟩,c1,z0,z1⟩:=AE;obtain ⟨rz,hz⟩:=AD;have hcE:=CZ;simp only [RC.cells,rcP] at c0 c1;clear hLF hz ;go_wp2
  change bodyPost _ _ _ _ _ (put8 _ w (rcP 6 fT v9 1));generalize put8 _ w (rcP 6 fT v9 1)=WE at *;simp only [RC.cells,rcP] at hcE;exact DB
 ·have HNe:=BU;have hlt0:=bD hw0;have HQ1:=κ (show pX 8 d (t::r)=match pX 1 (d+1) r.tail with|none=>none|some (x,r3)=>(aD [41] r3).map (λr4=>(.agg fT x,r4)) by
  rw [HQ0.o,aD,hw0,HTS.o];exact if_neg (λh=>absurd h.1 am))
  clear hw0 HQ0 HTS HP6;go_wp2_with fail;refine μ HNe ?_;rintro e v7 ⟨rfl,hb,hp7⟩;have hL7:=BQ;clear hb HNe HL6 n1 n2;have cS:=BO;simp only [RC.cells,rc0,fT,γ,δ,ε] at cS;have HC:=BW;have hGz7:=aG hL7.x;have HL7:=BM;clear hp7 hL7;go_wp2_with fail;refine μ HC ?_;rintro e v9 hq9;obtain ⟨⟨k,vk,vi,vs,vb,tt,ss,A,nn,c⟩,rfl,hb9,hq10⟩:=hq9.open_;simp only [RC.val];have hL9:=BL;obtain ⟨y1,y2,hL10⟩:=BV;simp only [RC.cells,rc0] at y1 y2 hL10;have HL10:=κ hL10;have hz9:=hb9.size;clear hq9 hb9 hL9 hL10 HC HL7;rcases hpx:pX 1 (d+1) r.tail with _|⟨x,r3⟩
  ·have HQ:=BZ;rw [hpx] at hq10;have hbad9:=BY;have hbad10:=BX;have HNe:=BI;clear hpx hq10 hbad9 hbad10 HQ1;go_wp2_with fail;refine μ HNe ?_;rintro e v11 ⟨rfl,hb11,hbad11⟩;have hL11:=BH;clear hb11 HNe HL10 y1 y2;obtain ⟨e6,q1,q2,q3,q4,q5⟩:=BG;have hLF:=BF;have HE:=DA;clear q5 hL11 hbad11;obtain ⟨⟨⟨a0,a1,a2,a3,a4,a5,a6,a7,a8,a9⟩,c0⟩,c1,z0,z1⟩:=AE;obtain ⟨rz,hz⟩:=AD;have hcE:=CZ;simp only [RC.cells,rcP] at c0 c1;clear hLF hz ;go_wp2;change bodyPost _ _ _ _ _ (put8 _ w (rcP 6 fT v9 1));generalize put8 _ w (rcP 6 fT v9 1)=WE at *;simp only [RC.cells,rcP] at hcE;exact DB
  ·rw [hpx] at hq10;obtain ⟨hx9,hp9⟩:=hq10;obtain ⟨hx10,hp10⟩:=Em (op:=fT) (B:=w) (G:=u0) ⟨k,vk,vi,vs,vb,tt,ss,A,nn,c⟩ hx9 hp9 hGz7 hz9 hG ac;simp only [RC.cells] at hx10 hp10;have HX:=CA;cases hw:isF [41] r3
   ·have HQ:=CF;have HNe:=CC;clear hpx hx9 hp9 hx10 hp10 hw HQ1;go_wp2_with fail;refine μ HNe ?_;rintro e v11 ⟨rfl,hb11,b',hb',hp11⟩;have hbad11:=CB;have hL11:=BH;clear hb11 HNe HL10 hp11 hb' y1 y2;obtain ⟨e6,q1,q2,q3,q4,q5⟩:=BG;have hLF:=BF;have HE:=DA;clear q5 hL11 hbad11;obtain ⟨⟨⟨a0,a1,a2,a3,a4,a5,a6,a7,a8,a9⟩,c0⟩,c1,z0,z1⟩:=AE;obtain ⟨rz,hz⟩:=AD;have hcE:=CZ;simp only [RC.cells,rcP] at c0 c1;clear hLF hz ;go_wp2;change bodyPost _ _ _ _ _ (put8 _ w (rcP 6 fT v9 1));generalize put8 _ w (rcP 6 fT v9 1)=WE at *;simp only [RC.cells,rcP] at hcE;exact DB
   ·have HQ:=κ (show pX 8 d (t::r)=some (.agg fT x,r3.tail) by rw [HQ1.o,hpx];show (aD [41] r3).map _=_;rw [aD,hw];rfl);have HNe:=CK;clear hpx hx9 hp9 hx10 hp10 hw HQ1;go_wp2_with fail;refine μ HNe ?_;rintro e v11 ⟨rfl,hb11,hp11⟩;have hL11:=BH;have hx11:=CJ;clear hb11 HNe HL10 HX y1 y2;obtain ⟨e6,q1,q2,q3,q4,q5⟩:=CH;have hLF:=BF;have hxF:=CG;have HE:=κ (fI (rcP 6 fT v9 1) hLF.b rfl hP (S:=λg=>w.heap.size<g) (λ_ h=>h) hxF q5 HQ.o);clear q5 hxF hx11 hL11 hp11;obtain ⟨⟨⟨a0,a1,a2,a3,a4,a5,a6,a7,a8,a9⟩,c0⟩,c1,z0,z1⟩:=AE;obtain ⟨rz,hz⟩:=AD;have hcE:=CZ;simp only [RC.cells,rcP] at c0 c1;clear hLF hz ;go_wp2;change bodyPost _ _ _ _ _ (put8 _ w (rcP 6 fT v9 1));generalize put8 _ w (rcP 6 fT v9 1)=WE at *;simp only [RC.cells,rcP] at hcE;exact DB
