/-
 Contracts. Conditions: those of each.
-/
import Derived.Test.YtkolcimllghnaaaGreatDoorQdGL
set_option maxRecDepth 100000
set_option maxHeartbeats 8000000
namespace Go.Proofs.YtkolcimllghnaaaGreatDoor
open Lp Go.Proofs.Tryz
open Go.RowKit
variable{B P:Nat}{t:Tok}{w w0:World}
theorem Fz (b:Bool) (w:World):Calls prog 159 #[b] w λe w'=>e=.returned (.agg #[.int .u8 3,.int .i64 0,(),b])∧(w.alloc (.cells #[.int .u8 3,.int .i64 0,(),b] 58))=w':=by
 go_enter func159,ntmps159;go_wp2;exact bodyPost_ret (v:=.agg #[.int .u8 3,.int .i64 0,(),b]) (by simp [results,results159,go_sem]) rfl ⟨rfl,rfl⟩
theorem Kv (P d:Nat) (t:Tok) (r:ZW) (w:World) (h:RS w P (t::r) d 0) (hk2:t.k≠2) (hk3:t.k≠3) (fy:isF cE (t::r)=true)  :
 Calls prog 134 #[P] w (RPost P w d (pX 8 d (t::r))):=by
 have hq:pX 8 d (t::r)=some ((.lit 0 0 [] false),r):=by rw [dD,eF,if_neg hk2,if_neg hk3,if_pos fy]
 have HQ:=mi;have e1:=zm;have e2:=zl;clear hk2 hk3 hq;have hP:=mv;have hb0:=vw;have hz0:=vu;have H0:=yz;obtain ⟨A,c,i,h1,h2,h3⟩:=vv;have hc0:=cq;have hc1:=ee;obtain ⟨b,off,rfl,hlt,k0,k1,k2⟩:=ue;obtain ⟨n,hn⟩:∃ n,i+(t::r).length=n:=cw;rw [hn] at hc0;have hin:=ud
 have hinN:=uf
 have hin0:=ug
 have hlt2:=uo
 have hltN:=uq
 simp only [RC.cells,rcZ] at hc0 hc1 k0 k1 k2;clear h hb0 hz0 h1 h2 h3 hn;go_enter func134,ntmps134;go_wp2_with fail;go_quiet (fail);go_wp2_with fail;obtain ⟨k0a,k1a,k2a,h0a,h1a⟩:=zb
 go_region
 have hA0:=zk;have hp0:=zj;simp only [RC.cells,rcZ] at hA0 hp0;have HA:=zh;have HP:=zg;clear hA0 hp0 k0a k1a k2a h0a h1a hc0 hc1 k0 k1 k2 H0 hin hinN hin0 hlt2 hltN;generalize ((w.alloc (.cells #[.int .u8 0,.int .u8 0,.int .i64 0,(),false,(),(),.slice none 0 0] 60)).drewN (nq+1)).alloc (.cells #[.int .u8 t.k,t.s,.int .i64 t.n] 173)=v0 at *;have tk:=ze;have HI:=κ (aH P d 0 (t::r) ⟨#[110,117,108,108]⟩ v0 HP.o true (by rw [show (⟨#[110,117,108,108]⟩:ByteArray).data.toList=cE from rfl,fy];rfl));go_wp2_with fail;refine μ HI ?_;rintro e v1 ⟨rfl,hb,hp⟩;simp only [if_true] at hp;have hA1:=HA.o.but hb hP;have hp1:RS v1 P r d 0:=hp;clear hb hp HI tk;have HZ:=κ (ι hA1 hp1);obtain ⟨⟨⟨a0,a1,a2,a3,a4,a5,a6,a7,a8,a9⟩,c0⟩,z0, -⟩:=hA1.cells;obtain ⟨rz,hz⟩:=hA1.z;have hcE:=β (aK (rcL 0 0 [] false) hz);have HE:=κ (fI (rcL 0 0 [] false) HZ.o.1.b rfl hP (S:=λg=>w.heap.size<g) (λ_ h=>h) (show RX _ _ (.lit 0 0 [] false) (rcL 0 0 [] false) from rfl) HZ.o.2 HQ.o);simp only [RC.cells] at c0;clear hA1 hz hp1 HA HP HQ HZ;go_wp2;change bodyPost _ _ _ _ _ (put8 _ w (rcL 0 0 [] false));generalize put8 _ w (rcL 0 0 [] false)=WE at *;simp only [RC.cells,rcL] at hcE
 exact bodyPost_ret (v:=RC.val (rcL 0 0 [] false)) zd rfl HE.o
theorem Ku (P d:Nat) (t:Tok) (r:ZW) (w:World) (h:RS w P (t::r) d 0) (hk2:t.k≠2) (hk3:t.k≠3) (f0:isF cE (t::r)=false) (fy:isF dU (t::r)=true)  :
 Calls prog 134 #[P] w (RPost P w d (pX 8 d (t::r))):=by
 have hq:pX 8 d (t::r)=some ((.lit 3 0 [] true),r):=by rw [dD,eF,if_neg hk2,if_neg hk3,if_neg zo,if_pos fy]
 have HQ:=mi;have e1:=zm;have e2:=zl;clear hk2 hk3 hq;have hP:=mv;have hb0:=vw;have hz0:=vu;have H0:=yz;obtain ⟨A,c,i,h1,h2,h3⟩:=vv;have hc0:=cq;have hc1:=ee;obtain ⟨b,off,rfl,hlt,k0,k1,k2⟩:=ue;obtain ⟨n,hn⟩:∃ n,i+(t::r).length=n:=cw;rw [hn] at hc0;have hin:=ud
 have hinN:=uf
 have hin0:=ug
 have hlt2:=uo
 have hltN:=uq
 simp only [RC.cells,rcZ] at hc0 hc1 k0 k1 k2;clear h hb0 hz0 h1 h2 h3 hn;go_enter func134,ntmps134;go_wp2_with fail;go_quiet (fail);go_wp2_with fail;obtain ⟨k0a,k1a,k2a,h0a,h1a⟩:=zb
 go_region
 have hA0:=zk;have hp0:=zj;simp only [RC.cells,rcZ] at hA0 hp0;have HA:=zh;have HP:=zg;clear hA0 hp0 k0a k1a k2a h0a h1a hc0 hc1 k0 k1 k2 H0 hin hinN hin0 hlt2 hltN;generalize ((w.alloc (.cells #[.int .u8 0,.int .u8 0,.int .i64 0,(),false,(),(),.slice none 0 0] 60)).drewN (nq+1)).alloc (.cells #[.int .u8 t.k,t.s,.int .i64 t.n] 173)=v0 at *;have tk:=ze;have HI:=zq;go_wp2_with fail;refine μ HI ?_;rintro e v1 ⟨rfl,hb,hp⟩;simp only [φ,if_false] at hp;replace HA:=zp;replace HP:=ef;clear hb hp HI;clear tk;have HI:=κ (aH P d 0 (t::r) ⟨#[116,114,117,101]⟩ v1 HP.o true (by rw [show (⟨#[116,114,117,101]⟩:ByteArray).data.toList=dU from rfl,fy];rfl));go_wp2_with fail;refine μ HI ?_;rintro e v2 ⟨rfl,hb,hp⟩;simp only [if_true] at hp;have hA1:=HA.o.but hb hP;have hp1:RS v2 P r d 0:=hp;clear hb hp HI;have hbT:Below v2 v2 (v2.alloc (.cells #[.int .u8 3,.int .i64 0,(),true] 58)):=ρ;have hA2:=hA1.but (But.of hbT) hP;have hp2:=hp1.below hbT;clear hA1 hp1 hbT;have HZ:=κ (ι hA2 hp2)
 obtain ⟨⟨⟨a0,a1,a2,a3,a4,a5,a6,a7,a8,a9⟩,c0⟩,z0, -⟩:=hA2.cells;obtain ⟨rz,hz⟩:=hA2.z;have hcE:=β (aK (rcL 3 0 [] true) hz);have HE:=κ (fI (rcL 3 0 [] true) HZ.o.1.b rfl hP (S:=λg=>w.heap.size<g) (λ_ h=>h) (show RX _ _ (.lit 3 0 [] true) (rcL 3 0 [] true) from rfl) HZ.o.2 HQ.o);simp only [RC.cells] at c0;clear hA2 hz hp2 HA HP HQ HZ;go_wp2_with fail;refine (Fz true _).mono ?_;rintro e u1 ⟨rfl,rfl⟩;go_wp2;change bodyPost _ _ _ _ _ (put8 _ w (rcL 3 0 [] true));generalize put8 _ w (rcL 3 0 [] true)=WE at *;simp only [RC.cells,rcL] at hcE;exact bodyPost_ret (v:=RC.val (rcL 3 0 [] true)) zd rfl HE.o
theorem Gl (P d:Nat) (t:Tok) (r:ZW) (w:World) (h:RS w P (t::r) d 0) (hk2:t.k≠2) (hk3:t.k≠3) (f0:isF cE (t::r)=false) (f1:isF dU (t::r)=false) (fy:isF cX (t::r)=true)  :
 Calls prog 134 #[P] w (RPost P w d (pX 8 d (t::r))):=by
 have hq:pX 8 d (t::r)=some ((.lit 3 0 [] false),r):=by rw [dD,eF,if_neg hk2,if_neg hk3,if_neg zo,if_neg zr,if_pos fy]
 have HQ:=mi;have e1:=zm;have e2:=zl;clear hk2 hk3 hq;have hP:=mv;have hb0:=vw;have hz0:=vu;have H0:=yz;obtain ⟨A,c,i,h1,h2,h3⟩:=vv;have hc0:=cq;have hc1:=ee;obtain ⟨b,off,rfl,hlt,k0,k1,k2⟩:=ue;obtain ⟨n,hn⟩:∃ n,i+(t::r).length=n:=cw;rw [hn] at hc0;have hin:=ud
 have hinN:=uf
 have hin0:=ug
 have hlt2:=uo
 have hltN:=uq
 simp only [RC.cells,rcZ] at hc0 hc1 k0 k1 k2;clear h hb0 hz0 h1 h2 h3 hn;go_enter func134,ntmps134;go_wp2_with fail;go_quiet (fail);go_wp2_with fail;obtain ⟨k0a,k1a,k2a,h0a,h1a⟩:=zb
 go_region
 have hA0:=zk;have hp0:=zj;simp only [RC.cells,rcZ] at hA0 hp0;have HA:=zh;have HP:=zg;clear hA0 hp0 k0a k1a k2a h0a h1a hc0 hc1 k0 k1 k2 H0 hin hinN hin0 hlt2 hltN;generalize ((w.alloc (.cells #[.int .u8 0,.int .u8 0,.int .i64 0,(),false,(),(),.slice none 0 0] 60)).drewN (nq+1)).alloc (.cells #[.int .u8 t.k,t.s,.int .i64 t.n] 173)=v0 at *;have tk:=ze;have HI:=zq;go_wp2_with fail;refine μ HI ?_;rintro e v1 ⟨rfl,hb,hp⟩;simp only [φ,if_false] at hp;replace HA:=zp;replace HP:=ef;clear hb hp HI;clear tk;have HI:=zt;go_wp2_with fail;refine μ HI ?_;rintro e v2 ⟨rfl,hb,hp⟩;simp only [φ,if_false] at hp;replace HA:=zp;replace HP:=ef;clear hb hp HI;have HI:=κ (aH P d 0 (t::r) ⟨#[102,97,108,115,101]⟩ v2 HP.o true (by rw [show (⟨#[102,97,108,115,101]⟩:ByteArray).data.toList=cX from rfl,fy];rfl));go_wp2_with fail;refine μ HI ?_;rintro e v3 ⟨rfl,hb,hp⟩;simp only [if_true] at hp
 have hA1:=HA.o.but hb hP;have hp1:RS v3 P r d 0:=hp;clear hb hp HI;have hbT:Below v3 v3 (v3.alloc (.cells #[.int .u8 3,.int .i64 0,(),false] 58)):=ρ;have hA2:=hA1.but (But.of hbT) hP;have hp2:=hp1.below hbT;clear hA1 hp1 hbT;have HZ:=κ (ι hA2 hp2);obtain ⟨⟨⟨a0,a1,a2,a3,a4,a5,a6,a7,a8,a9⟩,c0⟩,z0, -⟩:=hA2.cells;obtain ⟨rz,hz⟩:=hA2.z;have hcE:=β (aK (rcL 3 0 [] false) hz);have HE:=κ (fI (rcL 3 0 [] false) HZ.o.1.b rfl hP (S:=λg=>w.heap.size<g) (λ_ h=>h) (show RX _ _ (.lit 3 0 [] false) (rcL 3 0 [] false) from rfl) HZ.o.2 HQ.o);simp only [RC.cells] at c0;clear hA2 hz hp2 HA HP HQ HZ;go_wp2_with fail;refine (Fz false _).mono ?_;rintro e u1 ⟨rfl,rfl⟩;go_wp2;change bodyPost _ _ _ _ _ (put8 _ w (rcL 3 0 [] false));generalize put8 _ w (rcL 3 0 [] false)=WE at *;simp only [RC.cells,rcL] at hcE;exact bodyPost_ret (v:=RC.val (rcL 3 0 [] false)) zd rfl HE.o
theorem AtSt.lev (h:AtSt B P w0 w t) (rr:RC):Lev B w P w0 (w.alloc (.cells rr.cells.toArray 60)) rr:=by
 obtain ⟨h1,⟨r0,h2⟩, -⟩:=h;exact ⟨h1.trans (But.alloc P _ _),⟨r0,aB h2 _⟩,heap_alloc_new w _⟩
theorem AtSt.lt (h:AtSt B P w0 w t):B+1<w.heap.size:=aG h.x
theorem RS.up2 {d:Nat} {bad:Int} {l:ZW} (h:RS w P l (d+1) bad) (hd:d≤1000) :
 ∃ e:Nat,w.cell? ⟨P,2,none⟩=some (.int .i64 (e:Int))∧w.frozen? ⟨P,2,none⟩=false∧(e:Int)≤100000∧(0:Int)≤(e:Int)∧RS (w.setCell ⟨P,2,none⟩ (.int .i64 ((e:Int)-1))) P l d bad:=by
 obtain ⟨q1,q2,q3⟩:=h.up;exact ⟨d+1,q1,q2,ac,ac,q3⟩
theorem xD (P d:Nat) (t:Tok) (r:ZW) (w:World) (h:RS w P (t::r) d 0) (hk2:t.k≠2) (hk3:t.k≠3) (f0:isF cE (t::r)=false) (f1:isF dU (t::r)=false) (f2:isF cX (t::r)=false) (fy:isF [40] (t::r)=true) (h40:40<d+1) (hd:d≤100) :
 Calls prog 134 #[P] w (RPost P w d (pX 8 d (t::r))):=by
 have hq:pX 8 d (t::r)=if d+1≤40 then (match pX 1 (d+1) r with
  | none=>none
  | some (x,r2)=>(aD [41] r2).map λr3=>(x,r3)) else none:=zu
 have e1:=zm;have e2:=zl;rw [if_neg ac] at hq;have HQ:=mi;clear hk2 hk3 hq;have hP:=mv;have hb0:=vw;have hz0:=vu;have H0:=yz;obtain ⟨A,c,i,h1,h2,h3⟩:=vv;have hc0:=cq;have hc1:=ee;obtain ⟨b,off,rfl,hlt,k0,k1,k2⟩:=ue;obtain ⟨n,hn⟩:∃ n,i+(t::r).length=n:=cw;rw [hn] at hc0;have hin:=ud
 have hinN:=uf
 have hin0:=ug
 have hlt2:=uo
 have hltN:=uq
 simp only [RC.cells,rcZ] at hc0 hc1 k0 k1 k2;clear h hb0 hz0 h1 h2 h3 hn;go_enter func134,ntmps134;go_wp2_with fail;go_quiet (fail);go_wp2_with fail;obtain ⟨k0a,k1a,k2a,h0a,h1a⟩:=zb
 go_region
 have hA0:=zk;have hp0:=zj;simp only [RC.cells,rcZ] at hA0 hp0;have HA:=zh;have HP:=zg;clear hA0 hp0 k0a k1a k2a h0a h1a hc0 hc1 k0 k1 k2 H0 hin hinN hin0 hlt2 hltN;generalize ((w.alloc (.cells #[.int .u8 0,.int .u8 0,.int .i64 0,(),false,(),(),.slice none 0 0] 60)).drewN (nq+1)).alloc (.cells #[.int .u8 t.k,t.s,.int .i64 t.n] 173)=v0 at *;have tk:=ze;have HI:=zq;go_wp2_with fail;refine μ HI ?_;rintro e v1 ⟨rfl,hb,hp⟩;simp only [φ,if_false] at hp;replace HA:=zp;replace HP:=ef;clear hb hp HI;clear tk;have HI:=zt;go_wp2_with fail;refine μ HI ?_;rintro e v2 ⟨rfl,hb,hp⟩;simp only [φ,if_false] at hp;replace HA:=zp;replace HP:=ef;clear hb hp HI;have HI:=zv;go_wp2_with fail;refine μ HI ?_;rintro e v3 ⟨rfl,hb,hp⟩
 simp only [φ,if_false] at hp;replace HA:=zp;replace HP:=ef;clear hb hp HI;have HI:=AB;go_wp2_with fail;refine μ HI ?_;rintro e v4 ⟨rfl,hd1⟩;replace HA:=AA;replace HP:=zy;clear hd1 HI;have HD:=κ (lR P d (t::r) v4 HP.o h40 ac);go_wp2_with fail;refine μ HD ?_;rintro e v5 ⟨rfl,hb,b',hb',hp⟩;have hA1:=HA.o.but hb hP;obtain ⟨⟨⟨a0,a1,a2,a3,a4,a5,a6,a7,a8,a9⟩,c0⟩,z0, -⟩:=hA1.cells;obtain ⟨rz,hz⟩:=hA1.z;have hcE:=zx;have HE:=κ (dC rcZ hA1.b rfl hP (show RBad P v5 d from ⟨t::r,d+1,b',hb',hp,ac,ac⟩) HQ.o);simp only [RC.cells] at c0;clear hA1 hz hp hb HD HA HP HQ;go_wp2;change bodyPost _ _ _ _ _ (put8 _ w rcZ);generalize put8 _ w rcZ=WE at *;simp only [RC.cells,rcZ] at hcE;exact zw
theorem vG (P d:Nat) (t:Tok) (r:ZW) (w:World) (h:RS w P (t::r) d 0) (hk2:t.k≠2) (hk3:t.k≠3) (f0:isF cE (t::r)=false) (f1:isF dU (t::r)=false) (f2:isF cX (t::r)=false) (fy:isF [40] (t::r)=true) (h40:d+1≤40) (HE1:RvOk 1 P (d+1) r.length) :
 Calls prog 134 #[P] w (RPost P w d (pX 8 d (t::r))):=by
 have hq:pX 8 d (t::r)=if d+1≤40 then (match pX 1 (d+1) r with
  | none=>none
  | some (x,r2)=>(aD [41] r2).map λr3=>(x,r3)) else none:=zu
 have e1:=zm;have e2:=zl;rw [if_pos h40] at hq;have HQ0:=mi;have HF:=κ HE1;clear hk2 hk3 hq HE1;have hP:=mv;have hb0:=vw;have hz0:=vu;have H0:=yz;obtain ⟨A,c,i,h1,h2,h3⟩:=vv;have hc0:=cq;have hc1:=ee;obtain ⟨b,off,rfl,hlt,k0,k1,k2⟩:=ue;obtain ⟨n,hn⟩:∃ n,i+(t::r).length=n:=cw;rw [hn] at hc0;have hin:=ud
 have hinN:=uf
 have hin0:=ug
 have hlt2:=uo
 have hltN:=uq
 simp only [RC.cells,rcZ] at hc0 hc1 k0 k1 k2;clear h hb0 hz0 h1 h2 h3 hn;go_enter func134,ntmps134;go_wp2_with fail;go_quiet (fail);go_wp2_with fail;obtain ⟨k0a,k1a,k2a,h0a,h1a⟩:=zb
 go_region
 have hA0:=zk;have hp0:=zj;simp only [RC.cells,rcZ] at hA0 hp0;have HA:=zh;have HP:=zg;clear hA0 hp0 k0a k1a k2a h0a h1a hc0 hc1 k0 k1 k2 H0 hin hinN hin0 hlt2 hltN;generalize ((w.alloc (.cells #[.int .u8 0,.int .u8 0,.int .i64 0,(),false,(),(),.slice none 0 0] 60)).drewN (nq+1)).alloc (.cells #[.int .u8 t.k,t.s,.int .i64 t.n] 173)=v0 at *;have tk:=ze;have HI:=zq;go_wp2_with fail;refine μ HI ?_;rintro e v1 ⟨rfl,hb,hp⟩;simp only [φ,if_false] at hp;replace HA:=zp;replace HP:=ef;clear hb hp HI;clear tk;have HI:=zt;go_wp2_with fail;refine μ HI ?_;rintro e v2 ⟨rfl,hb,hp⟩;simp only [φ,if_false] at hp;replace HA:=zp;replace HP:=ef;clear hb hp HI;have HI:=zv;go_wp2_with fail;refine μ HI ?_;rintro e v3 ⟨rfl,hb,hp⟩
 simp only [φ,if_false] at hp;replace HA:=zp;replace HP:=ef;clear hb hp HI;have HI:=AB;go_wp2_with fail;refine μ HI ?_;rintro e v4 ⟨rfl,hd1⟩;replace HA:=AA;replace HP:=zy;clear hd1 HI;have HD:=κ (kD P d (t::r) v4 HP.o h40);go_wp2_with fail;refine μ HD ?_;rintro e v5 ⟨rfl,hb,hp⟩;obtain ⟨j,n1,n2,n3,n4⟩:=hp.next;have hA1:=(HA.o.but hb hP).but (But.set P 1 v5 (.int .i64 ((j:Int)+1))) hP;replace HA:=κ hA1;have HC:=κ (show Calls prog 85 #[P,.int .i64 1] _ _ from HF.o _ r (ν _) n4);replace HP:=κ n4;clear hb hp n4 HD hA1 HF;go_wp2_with fail;refine μ HC ?_;rintro e v6 hq6;obtain ⟨⟨k,vk,vi,vs,vb,tt,ss,A,nn,c⟩,rfl,hb6,hq7⟩:=hq6.open_;simp only [RC.val];have hA6:=HA.o.but hb6 hP;have hL7:=hA6.lev ⟨k,vk,vi,vs,vb,tt,ss,A,nn,c⟩;have hG:w<v6.heap.size:=by have:=hA6.lt;omega
 have hb7:Below v6 v6 (v6.alloc (.cells #[.int .u8 k,.int .u8 vk,vi,vs,vb,tt,ss,.slice A nn c] 60)):=ρ;have hBs:=HA.o.lt;have HL:=κ (show Lev w v6 P w (v6.alloc (.cells #[.int .u8 k,.int .u8 vk,vi,vs,vb,tt,ss,.slice A nn c] 60)) ⟨k,vk,vi,vs,vb,tt,ss,A,nn,c⟩ from hL7);clear hq6 hb6 hA6 hL7 HC n1 n2;rcases hpx:pX 1 (d+1) r with _|⟨x,r2⟩
 ·have HQ:=κ (show pX 8 d (t::r)=none by rw [HQ0.o,hpx]);rw [hpx] at hq7;have hbad:RBad P v6 (d+1):=hq7;have HNe:=κ (gL ⟨#[41]⟩ P (d+1) _ (hbad.below hb7));clear hpx hq7 hbad hb7 HQ0;go_wp2_with fail;refine μ HNe ?_;rintro e v8 ⟨rfl,hb8,hbad8⟩;have hL8:=HL.o.but hb8 hP hG;clear hb8 HNe HL;obtain ⟨e6,q1,q2,q3,q4,q5⟩:=RBad.up hbad8;have hLF:=AG;have HE:=AF;clear q5 hL8 hbad8;obtain ⟨⟨⟨a0,a1,a2,a3,a4,a5,a6,a7,a8,a9⟩,c0⟩,c1,z0,z1⟩:=AE;obtain ⟨rz,hz⟩:=AD;have hcE:=wb;simp only [RC.cells] at c0 c1;clear hLF hz ;go_wp2;change bodyPost _ _ _ _ _ (put8 _ w ⟨k,vk,vi,vs,vb,tt,ss,A,nn,c⟩);generalize put8 _ w ⟨k,vk,vi,vs,vb,tt,ss,A,nn,c⟩=WE at *;simp only [RC.cells] at hcE;exact AC
 ·rw [hpx] at hq7;obtain ⟨hx7,hp7⟩:=hq7;have hp8:=hp7.below hb7;have hx8:=RX.mono (S':=λg=>w.heap.size<g) (λg hg _=>Nat.lt_of_lt_of_le ac hg) (RX.below hb7 hx7);have HX:=κ (ι hx8 hp8);cases hw:isF [41] r2
  ·have HQ:=κ (show pX 8 d (t::r)=none by rw [HQ0.o,hpx];show (aD [41] r2).map _=none;rw [aD,hw];rfl);have HNe:=κ (dV P (d+1) 0 r2 ⟨#[41]⟩ _ hp8 AH);clear hpx hx7 hp7 hp8 hx8 hb7 hw HQ0;go_wp2_with fail;refine μ HNe ?_;rintro e v8 ⟨rfl,hb8,b',hb',hp8⟩;have hbad8:=eE hp8 hb' ac;have hL8:=HL.o.but hb8 hP hG;clear hb8 HNe HL hp8 hb';obtain ⟨e6,q1,q2,q3,q4,q5⟩:=RBad.up hbad8;have hLF:=AG;have HE:=AF;clear q5 hL8 hbad8;obtain ⟨⟨⟨a0,a1,a2,a3,a4,a5,a6,a7,a8,a9⟩,c0⟩,c1,z0,z1⟩:=AE;obtain ⟨rz,hz⟩:=AD;have hcE:=wb;simp only [RC.cells] at c0 c1;clear hLF hz ;go_wp2;change bodyPost _ _ _ _ _ (put8 _ w ⟨k,vk,vi,vs,vb,tt,ss,A,nn,c⟩);generalize put8 _ w ⟨k,vk,vi,vs,vb,tt,ss,A,nn,c⟩=WE at *;simp only [RC.cells] at hcE;exact AC
  ·have HQ:=κ (show pX 8 d (t::r)=some (x,r2.tail) by rw [HQ0.o,hpx];show (aD [41] r2).map _=_;rw [aD,hw];rfl);have HNe:=κ (dI P (d+1) r2 ⟨#[41]⟩ _ hp8 hw);clear hpx hx7 hp7 hp8 hx8 hb7 hw HQ0;go_wp2_with fail;refine μ HNe ?_;rintro e v8 ⟨rfl,hb8,hp8⟩;have hL8:=HL.o.but hb8 hP hG;have hx8:=RX.but hb8 HX.o.2 HX.o.1;clear hb8 HNe HL HX;obtain ⟨e6,q1,q2,q3,q4,q5⟩:=RS.up2 hp8 ac;have hLF:=AG;have hxF:=hx8.far (g:=P) (o:=2) (v:=.int .i64 ((e6:Int)-1)) (λk hk _=>AI);have HE:=κ (fI ⟨k,vk,vi,vs,vb,tt,ss,A,nn,c⟩ hLF.b rfl hP (S:=λg=>w.heap.size<g) (λ_ h=>h) hxF q5 HQ.o);clear q5 hxF hx8 hL8 hp8;obtain ⟨⟨⟨a0,a1,a2,a3,a4,a5,a6,a7,a8,a9⟩,c0⟩,c1,z0,z1⟩:=AE;obtain ⟨rz,hz⟩:=AD;have hcE:=wb;simp only [RC.cells] at c0 c1;clear hLF hz ;go_wp2;change bodyPost _ _ _ _ _ (put8 _ w ⟨k,vk,vi,vs,vb,tt,ss,A,nn,c⟩);generalize put8 _ w ⟨k,vk,vi,vs,vb,tt,ss,A,nn,c⟩=WE at *;simp only [RC.cells] at hcE;exact AC
