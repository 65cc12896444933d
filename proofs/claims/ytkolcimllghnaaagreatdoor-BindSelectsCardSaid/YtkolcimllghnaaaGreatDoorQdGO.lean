/-
 Contracts. Conditions: those of each.
-/
import Derived.Test.YtkolcimllghnaaaGreatDoorQdGN
set_option maxRecDepth 100000
set_option maxHeartbeats 8000000
namespace Go.Proofs.YtkolcimllghnaaaGreatDoor
open Lp Go.Proofs.Tryz
open Go.RowKit
theorem Dj (P d:Nat) (t:Tok) (r:ZW) (w:World) (h:RS w P (t::r) d 0) (hk2:t.k≠2) (hk3:t.k≠3) (f0:isF cE (t::r)=false) (f1:isF dU (t::r)=false) (f2:isF cX (t::r)=false) (f3:isF [40] (t::r)=false) (f4:isF bF (t::r)=false) (f5:isF gG (t::r)=false) (f6:isF jA (t::r)=false) (fy:isF kL (t::r)=true) (h40:40<d+1) (hd:d≤100) :
 Calls prog 134 #[P] w (RPost P w d (pX 8 d (t::r))):=by
 have hts:=DC
 have hq:pX 8 d (t::r)=if d+1≤40 then (match aD [40] r with
  | none=>none
  | some r2=>if t.s=bF∧isF [42] r2=true then (aD [41] r2.tail).map λr3=>(.cnt,r3) else (match pX 1 (d+1) r2 with
    | none=>none
    | some (x,r3)=>(aD [41] r3).map λr4=>(.agg (upW t.s) x,r4))) else none:=AK
 have e1:=zm;have e2:=zl;have g0:=AL
 have g1:=CO
 have g2:(t.s==[109,105,110])=false:=AM
 rw [if_neg ac] at hq;have HQ:=mi;clear hk2 hk3 hq hts;have hP:=mv;have hb0:=vw;have hz0:=vu;have H0:=yz;obtain ⟨A,c,i,h1,h2,h3⟩:=vv;have hc0:=cq;have hc1:=ee;obtain ⟨b,off,rfl,hlt,k0,k1,k2⟩:=ue;obtain ⟨n,hn⟩:∃ n,i+(t::r).length=n:=cw;rw [hn] at hc0;have hin:=ud
 have hinN:=uf
 have hin0:=ug
 have hlt2:=uo
 have hltN:=uq
 simp only [RC.cells,rcZ] at hc0 hc1 k0 k1 k2;clear h hb0 hz0 h1 h2 h3 hn;go_enter func134,ntmps134;go_wp2_with fail;go_quiet (fail);go_wp2_with fail;obtain ⟨k0a,k1a,k2a,h0a,h1a⟩:=zb
 go_region
 have hA0:=zk;have hp0:=zj;simp only [RC.cells,rcZ] at hA0 hp0;have HA:=zh;have HP:=zg;clear hA0 hp0 k0a k1a k2a h0a h1a hc0 hc1 k0 k1 k2 H0 hin hinN hin0 hlt2 hltN;generalize ((w.alloc (.cells #[.int .u8 0,.int .u8 0,.int .i64 0,(),false,(),(),.slice none 0 0] 60)).drewN (nq+1)).alloc (.cells #[.int .u8 t.k,t.s,.int .i64 t.n] 173)=v0 at *;have tk:=ze;have HI:=zq;go_wp2_with fail;refine μ HI ?_;rintro e v1 ⟨rfl,hb,hp⟩;simp only [φ,if_false] at hp;replace HA:=zp;replace HP:=ef;clear hb hp HI;clear tk;have HI:=zt;go_wp2_with fail;refine μ HI ?_;rintro e v2 ⟨rfl,hb,hp⟩;simp only [φ,if_false] at hp;replace HA:=zp;replace HP:=ef;clear hb hp HI;have HI:=zv;go_wp2_with fail;refine μ HI ?_;rintro e v3 ⟨rfl,hb,hp⟩
 simp only [φ,if_false] at hp;replace HA:=zp;replace HP:=ef;clear hb hp HI;have HI:=AU;go_wp2_with fail;refine μ HI ?_;rintro e v4 ⟨rfl,hd1⟩;replace HA:=AA;replace HP:=zy;clear hd1 HI;have HI:=AS;go_wp2_with fail;refine μ HI ?_;rintro e v5 ⟨rfl,hd1⟩;replace HA:=AA;replace HP:=zy;clear hd1 HI;have HI:=CQ;go_wp2_with fail;refine μ HI ?_;rintro e v6 ⟨rfl,hd1⟩;replace HA:=AA;replace HP:=zy;clear hd1 HI;have HI:=DE;go_wp2_with fail;refine μ HI ?_;rintro e v7 ⟨rfl,hd1⟩;replace HA:=AA;replace HP:=zy;clear hd1 HI;have HI:=DD;go_wp2_with fail;refine μ HI ?_;rintro e u0 ⟨rfl,hd1⟩;replace HA:=AA;replace HP:=zy;clear hd1 HI
 have ts1:=AQ;have hb2:=DF;have hG:=AO
 have hL2:=DH;have hp2:=AZ;have HL:=κ hL2;have hGz:=DG;have HD:=AX;clear hL2 hp2 hb2;go_wp2_with fail;refine μ HD ?_;rintro e v5 ⟨rfl,hb,b',hb',hp⟩;have hL5:=AW;obtain ⟨⟨⟨a0,a1,a2,a3,a4,a5,a6,a7,a8,a9⟩,c0⟩, -,z0, -⟩:=xu;obtain ⟨rz,hz⟩:=hL5.z;have hcE:=zx;have HE:=AV;simp only [RC.cells] at c0;clear hL5 hz hp hb HD HA HP HQ HL ts1;go_wp2;change bodyPost _ _ _ _ _ (put8 _ w rcZ);generalize put8 _ w rcZ=WE at *;simp only [RC.cells,rcZ] at hcE;exact zw
theorem zX (P d:Nat) (t:Tok) (r:ZW) (w:World) (h:RS w P (t::r) d 0) (hk2:t.k≠2) (hk3:t.k≠3) (f0:isF cE (t::r)=false) (f1:isF dU (t::r)=false) (f2:isF cX (t::r)=false) (f3:isF [40] (t::r)=false) (f4:isF bF (t::r)=false) (f5:isF gG (t::r)=false) (f6:isF jA (t::r)=false) (fy:isF kL (t::r)=true) (h40:d+1≤40) (HE1:RvOk 1 P (d+1) r.length) :
 Calls prog 134 #[P] w (RPost P w d (pX 8 d (t::r))):=by
 have hts:=DC
 have hq:pX 8 d (t::r)=if d+1≤40 then (match aD [40] r with
  | none=>none
  | some r2=>if t.s=bF∧isF [42] r2=true then (aD [41] r2.tail).map λr3=>(.cnt,r3) else (match pX 1 (d+1) r2 with
    | none=>none
    | some (x,r3)=>(aD [41] r3).map λr4=>(.agg (upW t.s) x,r4))) else none:=AK
 have e1:=zm;have e2:=zl;have g0:=AL
 have g1:=CO
 have g2:(t.s==[109,105,110])=false:=AM
 rw [if_pos h40] at hq;have HQ0:=mi;have HF:=κ HE1;have HTS:=κ hts;clear hk2 hk3 hq HE1 hts;have hP:=mv;have hb0:=vw;have hz0:=vu;have H0:=yz;obtain ⟨A,c,i,h1,h2,h3⟩:=vv;have hc0:=cq;have hc1:=ee;obtain ⟨b,off,rfl,hlt,k0,k1,k2⟩:=ue;obtain ⟨n,hn⟩:∃ n,i+(t::r).length=n:=cw;rw [hn] at hc0;have hin:=ud
 have hinN:=uf
 have hin0:=ug
 have hlt2:=uo
 have hltN:=uq
 simp only [RC.cells,rcZ] at hc0 hc1 k0 k1 k2;clear h hb0 hz0 h1 h2 h3 hn;go_enter func134,ntmps134;go_wp2_with fail;go_quiet (fail);go_wp2_with fail;obtain ⟨k0a,k1a,k2a,h0a,h1a⟩:=zb
 go_region
 have hA0:=zk;have hp0:=zj;simp only [RC.cells,rcZ] at hA0 hp0;have HA:=zh;have HP:=zg;clear hA0 hp0 k0a k1a k2a h0a h1a hc0 hc1 k0 k1 k2 H0 hin hinN hin0 hlt2 hltN;generalize ((w.alloc (.cells #[.int .u8 0,.int .u8 0,.int .i64 0,(),false,(),(),.slice none 0 0] 60)).drewN (nq+1)).alloc (.cells #[.int .u8 t.k,t.s,.int .i64 t.n] 173)=v0 at *;have tk:=ze;have HI:=zq;go_wp2_with fail;refine μ HI ?_;rintro e v1 ⟨rfl,hb,hp⟩;simp only [φ,if_false] at hp;replace HA:=zp;replace HP:=ef;clear hb hp HI;clear tk;have HI:=zt;go_wp2_with fail;refine μ HI ?_;rintro e v2 ⟨rfl,hb,hp⟩;simp only [φ,if_false] at hp;replace HA:=zp;replace HP:=ef;clear hb hp HI;have HI:=zv;go_wp2_with fail;refine μ HI ?_;rintro e v3 ⟨rfl,hb,hp⟩
 simp only [φ,if_false] at hp;replace HA:=zp;replace HP:=ef;clear hb hp HI;have HI:=AU;go_wp2_with fail;refine μ HI ?_;rintro e v4 ⟨rfl,hd1⟩;replace HA:=AA;replace HP:=zy;clear hd1 HI;have HI:=AS;go_wp2_with fail;refine μ HI ?_;rintro e v5 ⟨rfl,hd1⟩;replace HA:=AA;replace HP:=zy;clear hd1 HI;have HI:=CQ;go_wp2_with fail;refine μ HI ?_;rintro e v6 ⟨rfl,hd1⟩;replace HA:=AA;replace HP:=zy;clear hd1 HI;have HI:=DE;go_wp2_with fail;refine μ HI ?_;rintro e v7 ⟨rfl,hd1⟩;replace HA:=AA;replace HP:=zy;clear hd1 HI;have HI:=DD;go_wp2_with fail;refine μ HI ?_;rintro e u0 ⟨rfl,hd1⟩;replace HA:=AA;replace HP:=zy;clear hd1 HI
 have ts1:=AQ;have hb2:=DF;have hG:=AO
 have hL2:=DH;have hp2:=AZ;have HL:=κ hL2;have hGz:=DG;have HD:=BC;clear hL2 hp2 hb2;go_wp2_with fail;refine μ HD ?_;rintro e v5 ⟨rfl,hb,hp⟩;obtain ⟨j,n1,n2,n3,n4⟩:=hp.next;have hL6:=BB;have HP6:=κ n4;have HL6:=κ hL6;clear hb hp n4 HD hL6 HA HP HL ts1;cases hw0:isF [40] r
 ·have HQ:=BS;have HNe:=BR;clear hw0 HQ0 HTS HP6;go_wp2_with fail;refine μ HNe ?_;rintro e v7 ⟨rfl,hb,b',hb',hp⟩;have hL7:=BQ;have hb7:=BP;clear hb hp hb' HNe HL6 n1 n2;have cS:=BO;simp only [RC.cells,rc0,fX,γ,δ,ε] at cS;have HC:=BN;have HL7:=BM;clear hb7 hL7;go_wp2_with fail;refine μ HC ?_;rintro e v9 ⟨rfl,hb9,hbad9⟩;simp only [RC.val,rcZ];have hL9:=BL;obtain ⟨y1,y2,hL10⟩:=BK;have hbad10:=BJ;have HNe:=BI;simp only [RC.cells,rcZ,rc0] at y1 y2 HNe hL10;have HL10:=κ hL10;clear hb9 hbad9 hL9 hL10 hbad10 HC HL7;go_wp2_with fail;refine μ HNe ?_;rintro e v11 ⟨rfl,hb11,hbad11⟩;have hL11:=BH;clear hb11 HNe HL10 y1 y2;obtain ⟨e6,q1,q2,q3,q4,q5⟩:=BG;have hLF:=BF;have HE:=DJ;clear q5 hL11 hbad11;obtain ⟨⟨⟨a0,a1,a2,a3,a4,a5,a6,a7,a8,a9⟩,c0⟩,c1,z0,z1⟩:=AE;obtain ⟨rz,hz⟩:=AD;have hcE:=DI;simp only [RC.cells,rcP] at c0 c1;clear hLF hz ;go_wp2
  change bodyPost _ _ _ _ _ (put8 _ w (rcP 6 fX v9 1));generalize put8 _ w (rcP 6 fX v9 1)=WE at *;simp only [RC.cells,rcP] at hcE;exact DK
 ·have HNe:=BU;have hlt0:=bD hw0;have HQ1:=κ (show pX 8 d (t::r)=match pX 1 (d+1) r.tail with|none=>none|some (x,r3)=>(aD [41] r3).map (λr4=>(.agg fX x,r4)) by
  rw [HQ0.o,aD,hw0,HTS.o];exact if_neg (λh=>absurd h.1 am))
  clear hw0 HQ0 HTS HP6;go_wp2_with fail;refine μ HNe ?_;rintro e v7 ⟨rfl,hb,hp7⟩;have hL7:=BQ;clear hb HNe HL6 n1 n2;have cS:=BO;simp only [RC.cells,rc0,fX,γ,δ,ε] at cS;have HC:=BW;have hGz7:=aG hL7.x;have HL7:=BM;clear hp7 hL7;go_wp2_with fail;refine μ HC ?_;rintro e v9 hq9;obtain ⟨⟨k,vk,vi,vs,vb,tt,ss,A,nn,c⟩,rfl,hb9,hq10⟩:=hq9.open_;simp only [RC.val];have hL9:=BL;obtain ⟨y1,y2,hL10⟩:=BV;simp only [RC.cells,rc0] at y1 y2 hL10;have HL10:=κ hL10;have hz9:=hb9.size;clear hq9 hb9 hL9 hL10 HC HL7;rcases hpx:pX 1 (d+1) r.tail with _|⟨x,r3⟩
  ·have HQ:=BZ;rw [hpx] at hq10;have hbad9:=BY;have hbad10:=BX;have HNe:=BI;clear hpx hq10 hbad9 hbad10 HQ1;go_wp2_with fail;refine μ HNe ?_;rintro e v11 ⟨rfl,hb11,hbad11⟩;have hL11:=BH;clear hb11 HNe HL10 y1 y2;obtain ⟨e6,q1,q2,q3,q4,q5⟩:=BG;have hLF:=BF;have HE:=DJ;clear q5 hL11 hbad11;obtain ⟨⟨⟨a0,a1,a2,a3,a4,a5,a6,a7,a8,a9⟩,c0⟩,c1,z0,z1⟩:=AE;obtain ⟨rz,hz⟩:=AD;have hcE:=DI;simp only [RC.cells,rcP] at c0 c1;clear hLF hz ;go_wp2;change bodyPost _ _ _ _ _ (put8 _ w (rcP 6 fX v9 1));generalize put8 _ w (rcP 6 fX v9 1)=WE at *;simp only [RC.cells,rcP] at hcE;exact DK
  ·rw [hpx] at hq10;obtain ⟨hx9,hp9⟩:=hq10;obtain ⟨hx10,hp10⟩:=Em (op:=fX) (B:=w) (G:=u0) ⟨k,vk,vi,vs,vb,tt,ss,A,nn,c⟩ hx9 hp9 hGz7 hz9 hG ac;simp only [RC.cells] at hx10 hp10;have HX:=CA;cases hw:isF [41] r3
   ·have HQ:=CF;have HNe:=CC;clear hpx hx9 hp9 hx10 hp10 hw HQ1;go_wp2_with fail;refine μ HNe ?_;rintro e v11 ⟨rfl,hb11,b',hb',hp11⟩;have hbad11:=CB;have hL11:=BH;clear hb11 HNe HL10 hp11 hb' y1 y2;obtain ⟨e6,q1,q2,q3,q4,q5⟩:=BG;have hLF:=BF;have HE:=DJ;clear q5 hL11 hbad11;obtain ⟨⟨⟨a0,a1,a2,a3,a4,a5,a6,a7,a8,a9⟩,c0⟩,c1,z0,z1⟩:=AE;obtain ⟨rz,hz⟩:=AD;have hcE:=DI;simp only [RC.cells,rcP] at c0 c1;clear hLF hz ;go_wp2;change bodyPost _ _ _ _ _ (put8 _ w (rcP 6 fX v9 1));generalize put8 _ w (rcP 6 fX v9 1)=WE at *;simp only [RC.cells,rcP] at hcE;exact DK
   ·have HQ:=κ (show pX 8 d (t::r)=some (.agg fX x,r3.tail) by rw [HQ1.o,hpx];show (aD [41] r3).map _=_;rw [aD,hw];rfl);have HNe:=CK;clear hpx hx9 hp9 hx10 hp10 hw HQ1;go_wp2_with fail;refine μ HNe ?_;rintro e v11 ⟨rfl,hb11,hp11⟩;have hL11:=BH;have hx11:=CJ;clear hb11 HNe HL10 HX y1 y2;obtain ⟨e6,q1,q2,q3,q4,q5⟩:=CH;have hLF:=BF;have hxF:=CG;have HE:=κ (fI (rcP 6 fX v9 1) hLF.b rfl hP (S:=λg=>w.heap.size<g) (λ_ h=>h) hxF q5 HQ.o);clear q5 hxF hx11 hL11 hp11;obtain ⟨⟨⟨a0,a1,a2,a3,a4,a5,a6,a7,a8,a9⟩,c0⟩,c1,z0,z1⟩:=AE;obtain ⟨rz,hz⟩:=AD;have hcE:=DI;simp only [RC.cells,rcP] at c0 c1;clear hLF hz ;go_wp2;change bodyPost _ _ _ _ _ (put8 _ w (rcP 6 fX v9 1));generalize put8 _ w (rcP 6 fX v9 1)=WE at *;simp only [RC.cells,rcP] at hcE;exact DK
theorem xF (P d:Nat) (t:Tok) (r:ZW) (w:World) (h:RS w P (t::r) d 0) (hk2:t.k≠2) (hk3:t.k≠3) (f0:isF cE (t::r)=false) (f1:isF dU (t::r)=false) (f2:isF cX (t::r)=false) (f3:isF [40] (t::r)=false) (fy:isF bF (t::r)=true) (h40:40<d+1) (hd:d≤100) :
 Calls prog 134 #[P] w (RPost P w d (pX 8 d (t::r))):=by
 have hts:=DL
 have hq:pX 8 d (t::r)=if d+1≤40 then (match aD [40] r with
  | none=>none
  | some r2=>if t.s=bF∧isF [42] r2=true then (aD [41] r2.tail).map λr3=>(.cnt,r3) else (match pX 1 (d+1) r2 with
    | none=>none
    | some (x,r3)=>(aD [41] r3).map λr4=>(.agg (upW t.s) x,r4))) else none:=AK
 have e1:=zm;have e2:=zl;have g0:(t.s==[99,111,117,110,116])=true:=AM
 rw [if_neg ac] at hq;have HQ:=mi;clear hk2 hk3 hq hts;have hP:=mv;have hb0:=vw;have hz0:=vu;have H0:=yz;obtain ⟨A,c,i,h1,h2,h3⟩:=vv;have hc0:=cq;have hc1:=ee;obtain ⟨b,off,rfl,hlt,k0,k1,k2⟩:=ue;obtain ⟨n,hn⟩:∃ n,i+(t::r).length=n:=cw;rw [hn] at hc0;have hin:=ud
 have hinN:=uf
 have hin0:=ug
 have hlt2:=uo
 have hltN:=uq
 simp only [RC.cells,rcZ] at hc0 hc1 k0 k1 k2;clear h hb0 hz0 h1 h2 h3 hn;go_enter func134,ntmps134;go_wp2_with fail;go_quiet (fail);go_wp2_with fail;obtain ⟨k0a,k1a,k2a,h0a,h1a⟩:=zb
 go_region
 have hA0:=zk;have hp0:=zj;simp only [RC.cells,rcZ] at hA0 hp0;have HA:=zh;have HP:=zg;clear hA0 hp0 k0a k1a k2a h0a h1a hc0 hc1 k0 k1 k2 H0 hin hinN hin0 hlt2 hltN;generalize ((w.alloc (.cells #[.int .u8 0,.int .u8 0,.int .i64 0,(),false,(),(),.slice none 0 0] 60)).drewN (nq+1)).alloc (.cells #[.int .u8 t.k,t.s,.int .i64 t.n] 173)=v0 at *;have tk:=ze;have HI:=zq;go_wp2_with fail;refine μ HI ?_;rintro e v1 ⟨rfl,hb,hp⟩;simp only [φ,if_false] at hp;replace HA:=zp;replace HP:=ef;clear hb hp HI;clear tk;have HI:=zt;go_wp2_with fail;refine μ HI ?_;rintro e v2 ⟨rfl,hb,hp⟩;simp only [φ,if_false] at hp;replace HA:=zp;replace HP:=ef;clear hb hp HI;have HI:=zv;go_wp2_with fail;refine μ HI ?_;rintro e v3 ⟨rfl,hb,hp⟩
 simp only [φ,if_false] at hp;replace HA:=zp;replace HP:=ef;clear hb hp HI;have HI:=AU;go_wp2_with fail;refine μ HI ?_;rintro e v4 ⟨rfl,hd1⟩;replace HA:=AA;replace HP:=zy;clear hd1 HI;have HI:=DN;go_wp2_with fail;refine μ HI ?_;rintro e u0 ⟨rfl,hd1⟩;replace HA:=AA;replace HP:=zy;clear hd1 HI;have ts1:=AQ;have hb2:=DM;have hG:=AO
 have hL2:=DP;have hp2:=AZ;have HL:=κ hL2;have hGz:=DO;have HD:=AX;clear hL2 hp2 hb2;go_wp2_with fail;refine μ HD ?_;rintro e v5 ⟨rfl,hb,b',hb',hp⟩;have hL5:=AW;obtain ⟨⟨⟨a0,a1,a2,a3,a4,a5,a6,a7,a8,a9⟩,c0⟩, -,z0, -⟩:=xu;obtain ⟨rz,hz⟩:=hL5.z;have hcE:=zx;have HE:=AV;simp only [RC.cells] at c0;clear hL5 hz hp hb HD HA HP HQ HL ts1;go_wp2;change bodyPost _ _ _ _ _ (put8 _ w rcZ);generalize put8 _ w rcZ=WE at *;simp only [RC.cells,rcZ] at hcE;exact zw
theorem vH (P d:Nat) (t:Tok) (r:ZW) (w:World) (h:RS w P (t::r) d 0) (hk2:t.k≠2) (hk3:t.k≠3) (f0:isF cE (t::r)=false) (f1:isF dU (t::r)=false) (f2:isF cX (t::r)=false) (f3:isF [40] (t::r)=false) (fy:isF bF (t::r)=true) (h40:d+1≤40) (HE1:RvOk 1 P (d+1) r.length) :
 Calls prog 134 #[P] w (RPost P w d (pX 8 d (t::r))):=by
 have hts:=DL
 have hq:pX 8 d (t::r)=if d+1≤40 then (match aD [40] r with
  | none=>none
  | some r2=>if t.s=bF∧isF [42] r2=true then (aD [41] r2.tail).map λr3=>(.cnt,r3) else (match pX 1 (d+1) r2 with
    | none=>none
    | some (x,r3)=>(aD [41] r3).map λr4=>(.agg (upW t.s) x,r4))) else none:=AK
 have e1:=zm;have e2:=zl;have g0:(t.s==[99,111,117,110,116])=true:=AM
 rw [if_pos h40] at hq;have HQ0:=mi;have HF:=κ HE1;have HTS:=κ hts;clear hk2 hk3 hq HE1 hts;have hP:=mv;have hb0:=vw;have hz0:=vu;have H0:=yz;obtain ⟨A,c,i,h1,h2,h3⟩:=vv;have hc0:=cq;have hc1:=ee;obtain ⟨b,off,rfl,hlt,k0,k1,k2⟩:=ue;obtain ⟨n,hn⟩:∃ n,i+(t::r).length=n:=cw;rw [hn] at hc0;have hin:=ud
 have hinN:=uf
 have hin0:=ug
 have hlt2:=uo
 have hltN:=uq
 simp only [RC.cells,rcZ] at hc0 hc1 k0 k1 k2;clear h hb0 hz0 h1 h2 h3 hn;go_enter func134,ntmps134;go_wp2_with fail;go_quiet (fail);go_wp2_with fail;obtain ⟨k0a,k1a,k2a,h0a,h1a⟩:=zb
 go_region
 have hA0:=zk;have hp0:=zj;simp only [RC.cells,rcZ] at hA0 hp0;have HA:=zh;have HP:=zg;clear hA0 hp0 k0a k1a k2a h0a h1a hc0 hc1 k0 k1 k2 H0 hin hinN hin0 hlt2 hltN;generalize ((w.alloc (.cells #[.int .u8 0,.int .u8 0,.int .i64 0,(),false,(),(),.slice none 0 0] 60)).drewN (nq+1)).alloc (.cells #[.int .u8 t.k,t.s,.int .i64 t.n] 173)=v0 at *;have tk:=ze;have HI:=zq;go_wp2_with fail;refine μ HI ?_;rintro e v1 ⟨rfl,hb,hp⟩;simp only [φ,if_false] at hp;replace HA:=zp;replace HP:=ef;clear hb hp HI;clear tk;have HI:=zt;go_wp2_with fail;refine μ HI ?_;rintro e v2 ⟨rfl,hb,hp⟩;simp only [φ,if_false] at hp;replace HA:=zp;replace HP:=ef;clear hb hp HI;have HI:=zv;go_wp2_with fail;refine μ HI ?_;rintro e v3 ⟨rfl,hb,hp⟩
 simp only [φ,if_false] at hp;replace HA:=zp;replace HP:=ef;clear hb hp HI;have HI:=AU;go_wp2_with fail;refine μ HI ?_;rintro e v4 ⟨rfl,hd1⟩;replace HA:=AA;replace HP:=zy;clear hd1 HI;have HI:=DN;go_wp2_with fail;refine μ HI ?_;rintro e u0 ⟨rfl,hd1⟩;replace HA:=AA;replace HP:=zy;clear hd1 HI;have ts1:=AQ;have hb2:=DM;have hG:=AO
 have hL2:=DP;have hp2:=AZ;have HL:=κ hL2;have hGz:=DO;have HD:=BC;clear hL2 hp2 hb2;go_wp2_with fail;refine μ HD ?_;rintro e v5 ⟨rfl,hb,hp⟩;obtain ⟨j,n1,n2,n3,n4⟩:=hp.next;have hL6:=BB;have HP6:=κ n4;have HL6:=κ hL6;clear hb hp n4 HD hL6 HA HP HL ts1;cases hw0:isF [40] r
 ·have HQ:=BS;have HNe:=BR;clear hw0 HQ0 HTS HP6;go_wp2_with fail;refine μ HNe ?_;rintro e v7 ⟨rfl,hb,b',hb',hp⟩;have hL7:=BQ;have hb7:=BP;clear hb hp hb' HNe HL6 n1 n2;have cS:=BO;simp only [RC.cells,rc0,aJ,γ,δ,ε] at cS;have HPb:=κ (xK ⟨#[42]⟩ P (d+1) _ hb7);have HL7:=BM;clear hb7 hL7;go_wp2_with fail;refine μ HPb ?_;rintro e v8 ⟨rfl,hb8,hb7⟩;have hL7:=HL7.o.but hb8 hP hG;clear hb8 HPb HL7 cS;have HC:=BN;have HL7:=BM;clear hb7 hL7;go_wp2_with fail;refine μ HC ?_;rintro e v9 ⟨rfl,hb9,hbad9⟩;simp only [RC.val,rcZ];have hL9:=BL;obtain ⟨y1,y2,hL10⟩:=BK;have hbad10:=BJ;have HNe:=BI;simp only [RC.cells,rcZ,rc0] at y1 y2 HNe hL10;have HL10:=κ hL10;clear hb9 hbad9 hL9 hL10 hbad10 HC HL7;go_wp2_with fail;refine μ HNe ?_;rintro e v11 ⟨rfl,hb11,hbad11⟩;have hL11:=BH;clear hb11 HNe HL10 y1 y2;obtain ⟨e6,q1,q2,q3,q4,q5⟩:=BG;have hLF:=BF;have HE:=DQ;clear q5 hL11 hbad11;obtain ⟨⟨⟨a0,a1,a2,a3,a4,a5,a6,a7,a8,a9⟩,c0⟩,c1,z0,z1⟩:=AE
  obtain ⟨rz,hz⟩:=AD;have hcE:=DS;simp only [RC.cells,rcP] at c0 c1;clear hLF hz ;go_wp2;change bodyPost _ _ _ _ _ (put8 _ w (rcP 6 aJ v9 1));generalize put8 _ w (rcP 6 aJ v9 1)=WE at *;simp only [RC.cells,rcP] at hcE;exact DR
 ·have HNe:=BU;have hlt0:=bD hw0;cases hs:isF [42] r.tail
  ·have HQ1:=κ (show pX 8 d (t::r)=match pX 1 (d+1) r.tail with|none=>none|some (x,r3)=>(aD [41] r3).map (λr4=>(.agg aJ x,r4)) by
  rw [HQ0.o,aD,hw0,HTS.o];exact if_neg (λh=>by rw [hs] at h;cases h.2))
   clear hw0 HQ0 HTS HP6;go_wp2_with fail;refine μ HNe ?_;rintro e v7 ⟨rfl,hb,hp7⟩;have hL7:=BQ;clear hb HNe HL6 n1 n2;have cS:=BO;simp only [RC.cells,rc0,aJ,γ,δ,ε] at cS;have HL7:=BM;have HPs:=κ (aH P (d+1) 0 r.tail ⟨#[42]⟩ _ hp7 false DT);clear hs hp7 hL7;go_wp2_with fail;refine μ HPs ?_;rintro e v8 ⟨rfl,hb8,hp7⟩;simp only [φ,if_false] at hp7;have hL7:=HL7.o.but hb8 hP hG;clear hb8 HPs HL7 cS;have HC:=BW;have hGz7:=aG hL7.x;have HL7:=BM;clear hp7 hL7;go_wp2_with fail;refine μ HC ?_;rintro e v9 hq9;obtain ⟨⟨k,vk,vi,vs,vb,tt,ss,A,nn,c⟩,rfl,hb9,hq10⟩:=hq9.open_;simp only [RC.val];have hL9:=BL;obtain ⟨y1,y2,hL10⟩:=BV;simp only [RC.cells,rc0] at y1 y2 hL10;have HL10:=κ hL10;have hz9:=hb9.size;clear hq9 hb9 hL9 hL10 HC HL7;rcases hpx:pX 1 (d+1) r.tail with _|⟨x,r3⟩
   ·have HQ:=BZ;rw [hpx] at hq10;have hbad9:=BY;have hbad10:=BX;have HNe:=BI;clear hpx hq10 hbad9 hbad10 HQ1;go_wp2_with fail;refine μ HNe ?_;rintro e v11 ⟨rfl,hb11,hbad11⟩;have hL11:=BH;clear hb11 HNe HL10 y1 y2;obtain ⟨e6,q1,q2,q3,q4,q5⟩:=BG;have hLF:=BF;have HE:=DQ;clear q5 hL11 hbad11;obtain ⟨⟨⟨a0,a1,a2,a3,a4,a5,a6,a7,a8,a9⟩,c0⟩,c1,z0,z1⟩:=AE;obtain ⟨rz,hz⟩:=AD;have hcE:=DS;simp only [RC.cells,rcP] at c0 c1;clear hLF hz ;go_wp2;change bodyPost _ _ _ _ _ (put8 _ w (rcP 6 aJ v9 1));generalize put8 _ w (rcP 6 aJ v9 1)=WE at *;simp only [RC.cells,rcP] at hcE;exact DR
   ·rw [hpx] at hq10;obtain ⟨hx9,hp9⟩:=hq10;obtain ⟨hx10,hp10⟩:=Em (op:=aJ) (B:=w) (G:=u0) ⟨k,vk,vi,vs,vb,tt,ss,A,nn,c⟩ hx9 hp9 hGz7 hz9 hG ac;simp only [RC.cells] at hx10 hp10;have HX:=CA;cases hw:isF [41] r3
    ·have HQ:=CF;have HNe:=CC;clear hpx hx9 hp9 hx10 hp10 hw HQ1;go_wp2_with fail;refine μ HNe ?_;rintro e v11 ⟨rfl,hb11,b',hb',hp11⟩;have hbad11:=CB;have hL11:=BH;clear hb11 HNe HL10 hp11 hb' y1 y2;obtain ⟨e6,q1,q2,q3,q4,q5⟩:=BG;have hLF:=BF;have HE:=DQ;clear q5 hL11 hbad11;obtain ⟨⟨⟨a0,a1,a2,a3,a4,a5,a6,a7,a8,a9⟩,c0⟩,c1,z0,z1⟩:=AE;obtain ⟨rz,hz⟩:=AD;have hcE:=DS;simp only [RC.cells,rcP] at c0 c1;clear hLF hz ;go_wp2;change bodyPost _ _ _ _ _ (put8 _ w (rcP 6 aJ v9 1));generalize put8 _ w (rcP 6 aJ v9 1)=WE at *;simp only [RC.cells,rcP] at hcE;exact DR
    ·have HQ:=κ (show pX 8 d (t::r)=some (.agg aJ x,r3.tail) by rw [HQ1.o,hpx];show (aD [41] r3).map _=_;rw [aD,hw];rfl);have HNe:=CK;clear hpx hx9 hp9 hx10 hp10 hw HQ1;go_wp2_with fail;refine μ HNe ?_;rintro e v11 ⟨rfl,hb11,hp11⟩;have hL11:=BH;have hx11:=CJ;clear hb11 HNe HL10 HX y1 y2;obtain ⟨e6,q1,q2,q3,q4,q5⟩:=CH;have hLF:=BF;have hxF:=CG;have HE:=κ (fI (rcP 6 aJ v9 1) hLF.b rfl hP (S:=λg=>w.heap.size<g) (λ_ h=>h) hxF q5 HQ.o);clear q5 hxF hx11 hL11 hp11;obtain ⟨⟨⟨a0,a1,a2,a3,a4,a5,a6,a7,a8,a9⟩,c0⟩,c1,z0,z1⟩:=AE;obtain ⟨rz,hz⟩:=AD;have hcE:=DS;simp only [RC.cells,rcP] at c0 c1;clear hLF hz ;go_wp2;change bodyPost _ _ _ _ _ (put8 _ w (rcP 6 aJ v9 1));generalize put8 _ w (rcP 6 aJ v9 1)=WE at *;simp only [RC.cells,rcP] at hcE;exact DR
  ·have HQ1:=κ (show pX 8 d (t::r)=(aD [41] r.tail.tail).map (λr3=>(.cnt,r3)) by
    rw [HQ0.o,aD,hw0,HTS.o];exact if_pos ⟨rfl,hs⟩)
   clear hw0 HQ0 HTS HP6;go_wp2_with fail;refine μ HNe ?_;rintro e v7 ⟨rfl,hb,hp7⟩;have hL7:=BQ;clear hb HNe HL6 n1 n2;have cS:=BO;simp only [RC.cells,rc0,aJ,γ,δ,ε] at cS;have HL7:=BM;have HPs:=κ (aH P (d+1) 0 r.tail ⟨#[42]⟩ _ hp7 true DT);clear hs hp7 hL7;go_wp2_with fail;refine μ HPs ?_;rintro e v8 ⟨rfl,hb8,hp7⟩;simp only [if_true] at hp7;have hL7:=HL7.o.but hb8 hP hG;clear hb8 HPs HL7 cS;have HL7:=BM;cases hw:isF [41] r.tail.tail
   ·have HQ:=κ (show pX 8 d (t::r)=none by rw [HQ1.o,aD,hw];rfl);have HNe:=κ (dV P (d+1) 0 r.tail.tail ⟨#[41]⟩ _ hp7 AH);clear hw HQ1 hp7 hL7;go_wp2_with fail;refine μ HNe ?_;rintro e v11 ⟨rfl,hb11,b',hb',hp11⟩;have hbad11:=CB;have hL11:=HL7.o.but hb11 hP hG;clear hb11 HNe HL7 hp11 hb';obtain ⟨e6,q1,q2,q3,q4,q5⟩:=BG;have hLF:=BF;have HE:=κ (dC (rc0 6 aJ) hLF.b rfl hP q5 HQ.o);clear q5 hL11 hbad11;obtain ⟨⟨⟨a0,a1,a2,a3,a4,a5,a6,a7,a8,a9⟩,c0⟩,c1,z0,z1⟩:=AE;obtain ⟨rz,hz⟩:=AD;have hcE:=β (aK (rc0 6 aJ) hz);simp only [RC.cells,rc0] at c0 c1;clear hLF hz ;go_wp2;change bodyPost _ _ _ _ _ (put8 _ w (rc0 6 aJ));generalize put8 _ w (rc0 6 aJ)=WE at *;simp only [RC.cells,rc0] at hcE;exact DU
   ·have HQ:=κ (show pX 8 d (t::r)=some (.cnt,r.tail.tail.tail) by rw [HQ1.o,aD,hw];rfl);have HNe:=κ (dI P (d+1) r.tail.tail ⟨#[41]⟩ _ hp7 hw);clear hw HQ1 hp7 hL7;go_wp2_with fail;refine μ HNe ?_;rintro e v11 ⟨rfl,hb11,hp11⟩;have hL11:=HL7.o.but hb11 hP hG;have hx11:RX (λg=>w.heap.size<g) v11 .cnt (rc0 6 aJ):=rfl;clear hb11 HNe HL7;obtain ⟨e6,q1,q2,q3,q4,q5⟩:=CH;have hLF:=BF;have hxF:=CG;have HE:=κ (fI (rc0 6 aJ) hLF.b rfl hP (S:=λg=>w.heap.size<g) (λ_ h=>h) hxF q5 HQ.o);clear q5 hxF hx11 hL11 hp11;obtain ⟨⟨⟨a0,a1,a2,a3,a4,a5,a6,a7,a8,a9⟩,c0⟩,c1,z0,z1⟩:=AE;obtain ⟨rz,hz⟩:=AD;have hcE:=β (aK (rc0 6 aJ) hz);simp only [RC.cells,rc0] at c0 c1;clear hLF hz ;go_wp2;change bodyPost _ _ _ _ _ (put8 _ w (rc0 6 aJ));generalize put8 _ w (rc0 6 aJ)=WE at *;simp only [RC.cells,rc0] at hcE;exact DU
