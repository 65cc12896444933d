/-
 Contracts. Conditions: those of each.
-/
import Derived.Test.YtkolcimllghnaaaGreatDoorQdGJ
import Derived.Deep.LoopGhost
set_option maxRecDepth 100000
set_option maxHeartbeats 8000000
namespace Go.Proofs.YtkolcimllghnaaaGreatDoor
open Lp Go.Proofs.Tryz
open Go.RowKit
variable{done:Bool}{x:Lp.X}{B G N P d lev:Nat}{r1 rc:RC}{w w' w0:World}{l r:ZW}
theorem RS.lt {bad:Int} (h:RS w P l d bad):P<w:=by
 obtain ⟨A,c,i,h1,_⟩:=h;exact aG h1
theorem RX.drew {S:Nat->Prop} {w:World} {x:Lp.X} {r:RC} (h:RX S w x r):RX S w.drew x r:=RX.turn (w:=w) (w':=w.drew) (λ_ _ h0 hg=>⟨h0,hg⟩) h
def RPostR (P:Nat) (w:World) (d:Nat) (q:Option (Lp.X×ZW)) (r:RC) (w':World):Prop :=
 But P w w'∧match q with
 | none=>RBad P w' d
 | some (x,l')=>RX (λg=>w.heap.size≤g) w' x r∧RS w' P l' d 0
theorem RPost.open_ {q:Option (Lp.X×ZW)} {e:Ending} (h:RPost P w d q e w'):∃ r:RC,e=.returned r.val∧RPostR P w d q r w':=by
 obtain ⟨h1,r,h2,h3⟩:=h;exact ⟨r,h2,h1,by cases q<;>exact h3⟩
theorem RPostR.wrap {w1:World} {q:Option (Lp.X×ZW)} {r:RC} (h:RPostR P w1 d q r w') (hb:But P w w1) (h1:w<w1.heap.size) (hP:P<w):RPost P w d q (.returned r.val) (put8 w' w r):=by
 obtain ⟨h2,h3⟩:=h;cases q with
 | none=>exact RPost.no r rfl (hH (hb.trans h2) (ν _)) (h3.put8 hP)
 | some p=>exact RPost.yes r rfl (hH (hb.trans h2) (ν _)) (RX.mono (λg hg _=>by have:w1.heap.size≤g:=hg;show _≤g;omega) (lI (λk hk=>by have:w1.heap.size≤k:=hk;omega) h3.1)) (mQ h3.2 hP)
structure Lev (B G P:Nat) (w0 w:World) (rc:RC):Prop where
 b:But P w0 w
 z:∃ r0:RC,w.heap[B]? = some (.cells r0.cells.toArray 60 (0,0))
 x:w.heap[G]? = some (.cells rc.cells.toArray 60 (0,0))
theorem Lev.but (h:Lev B G P w0 w r1) (hb:But P w w') (hP:P<B) (hG:B<G):Lev B G P w0 w' r1:=by
 obtain ⟨h1,⟨r0,h2⟩,h3⟩:=h;exact vh
theorem Lev.cells {B G P:Nat} {w0 w:World} {r1:RC} (h:Lev B G P w0 w r1):(∃ r0:RC,∀ j,w.cell? ⟨B,j,none⟩=r0.cells.toArray[j]?)∧(∀ j,w.cell? ⟨G,j,none⟩=r1.cells.toArray[j]?)∧(∀ j,w.frozen? ⟨B,j,none⟩=false)∧(∀ j,w.frozen? ⟨G,j,none⟩=false):=by
 obtain ⟨h1,⟨r0,h2⟩,h3⟩:=h;exact vj
theorem Lev.put (h:Lev B G P w0 w r1) (hG:B<G) (hB:w0≤B) (r:RC):Lev B G P w0 (put8 w G r) r:=by
 obtain ⟨h1,⟨r0,h2⟩,h3⟩:=h;exact ⟨hH h1 ac,⟨r0,(kQ ac).trans h2⟩,aK r h3⟩
def Sx (B G:Nat):Nat->Prop:=λg=>B+1≤g∧g≠G
def LevIs (lev B G P d:Nat) (w0:World) (l:ZW) (gk:Nat) (done:Bool) (w:World):Prop :=
 ∃ rc:RC,Lev B G P w0 w rc∧((gk=0∧RBad P w d∧pX lev d l=none) ∨
  ∃ (x:Lp.X) (r:ZW),gk=r.length+1∧r.length<l.length∧RX (Sx B G) w x rc∧RS w P r d 0∧pX lev d l=pL lev d x done r)
theorem qU (hB:w0.heap.size=B) (hP:P<B) (h:Lev B G P w0 w rc) (hq:(RBad P w d∧pX lev d l=none)∨∃ (x:Lp.X) (r:ZW),RX (Sx B G) w x rc∧RS w P r d 0∧pX lev d l=some (x,r)) :
 RPost P w0 d (pX lev d l) (.returned rc.val) (put8 w B rc):=by
 rcases hq with ⟨h1,h2⟩|⟨x,r,h1,h2,h3⟩
 ·exact RPost.no rc h2 (hH h.b ac) (h1.put8 hP)
 ·exact RPost.yes rc h3 (hH h.b ac) (RX.mono (λg hg _=>by have:B+1≤g∧g≠G:=hg;show _≤g;omega) (lI (λk hk=>by have:B+1≤k∧k≠G:=hk;omega) h1)) (mQ h2 hP)
theorem Lev.far (h:Lev B G P w0 w rc) (hb:Below w w w'):Lev B G P w0 w' rc :=
 ⟨h.b.trans (But.of hb),by obtain ⟨r0,h2⟩:=h.z;exact ⟨r0,aA h2 hb⟩,aA h.x hb⟩
theorem sV {w4 w5:World} {l r':ZW} {u:ZS} {rc2:RC} {done':Bool} (hL:Lev B G P w0 w5 rc) (hx:RX (Sx B G) w5 x rc) (hq:RPostR P w4 d (pX (lev+1) d r') rc2 w5)
 (hw4:G<w4) (hB:w0.heap.size=B) (hG:B<G) (hP:P<B)
 (hpx:pX lev d l=match pX (lev+1) d r' with|none=>none|some (y,r2)=>pL lev d (.bin u x y) done' r2) (hr:r'.length<l.length) :
 ∃ gk,gk≤r'.length∧LevIs lev B G P d w0 l gk done' (put8 (w5.alloc (.cells (rc.cells++rc2.cells).toArray 60)) G (rcP 4 u w5 2)):=by
 have hb5:Below w5 w5 (w5.alloc (.cells (rc.cells++rc2.cells).toArray 60)):=ρ;have hL6:=(hL.far hb5).put hG ac (rcP 4 u w5 2);obtain ⟨q1,q2⟩:=hq;have hz:=q1.size;cases hp:pX (lev+1) d r' with
 | none =>
   rw [hp] at q2 hpx;exact ⟨0,Nat.zero_le _,_,hL6,.inl ⟨rfl,(RBad.below q2 hb5).put8 ac,hpx⟩⟩
 | some p =>
   obtain ⟨y,r2⟩:=p;rw [hp] at q2 hpx;obtain ⟨g1,g2⟩:=q2;have hlen:=iL hp;refine ⟨r2.length+1,ac,_,hL6,.inr ⟨_,r2,rfl,ac, ?_,mQ (g2.below hb5) ac,hpx⟩⟩;have hS:∀ k,Sx B G k->k≠G:=λk hk=>hk.2;have k1:=lI (r:=rcP 4 u w5 2) hS (RX.below hb5 hx);have k2:=lI (r:=rcP 4 u w5 2) hS (RX.below hb5 (RX.mono (S':=Sx B G) (λg hg _=>by have:w4.heap.size≤g:=hg;exact ⟨ac,ac⟩) g1));refine ⟨w5.heap.size,rc,rc2,rfl,⟨ac,ac⟩, ?_,k1,k2⟩;rw [kQ ac];exact heap_alloc_new w5 _
theorem nM {s:ZS} (h:cP lev r=some s):∃ t r',r=t::r':=by
 have:=iH h;cases r with
 | nil=>simp at this
 | cons t r'=>exact ⟨t,r',rfl⟩
theorem LevIs.end_ (hB:w0.heap.size=B) (hP:P<B) (hL:Lev B G P w0 w rc) (hx:RX (Sx B G) w x rc) (hp:RS w P r d 0) (hpx:pX lev d l=pL lev d x done r) (he:pL lev d x done r=some (x,r)) :
 RPost P w0 d (pX lev d l) (.returned rc.val) (put8 w B rc):=qU hB hP hL (.inr ⟨x,r,hx,hp,hpx.trans he⟩)
theorem pO {q:Option ZS} (h:¬ ∃ s,q=some s∧done=false):(if done then none else q)=none∧((q.getD [] != [])=false∨done=true):=by
 cases done
 ·cases q with
  | none=>exact ⟨rfl,.inl rfl⟩
  | some s=>exact absurd ⟨s,rfl,rfl⟩ h
 ·exact ⟨rfl,.inr rfl⟩
theorem Vl {S:Nat->Prop} (h:RX S w (.isn false x) (rcP 5 [] N 1)):RX S w (.isn true x) (rcP 5 fG N 1):=by
 obtain ⟨g,r1,he,h0,h2,h3⟩:=h;have hg:N=g:=by
  have:=congrArg RC.A he;simp [rcP] at this;exact ah
 subst hg;exact ⟨N,r1,rfl,h0,h2,h3⟩
theorem Lev.not (h:Lev B G P w0 w (rcP 5 [] N 1)) (hG:B<G) (hB:w0≤B):Lev B G P w0 (w.setCell ⟨G,6,none⟩ (.string ⟨#[78,79,84]⟩)) (rcP 5 fG N 1):=by
 obtain ⟨h1,⟨r0,h2⟩,h3⟩:=h;refine ⟨bP h1 ac _ _,⟨r0,(Below.heap_setCell w ⟨G,6,none⟩ _ B vn).trans h2⟩, ?_⟩;have:=heap_setCell_same w G 6 _ _ (.string ⟨#[78,79,84]⟩) h3;rw [this];simp [rcP,RC.cells,fG]
theorem sU {r2:ZW} {n:Bool} (hL:Lev B G P w0 w rc) (hx:RX (Sx B G) w (.isn n x) rc) (hp:RS w P r2 d 0) (hr:r2.length<l.length) (hpx:pX 4 d l=pL 4 d (.isn n x) done r2) :
 LevIs 4 B G P d w0 l (r2.length+1) done w:=⟨rc,hL,.inr ⟨_,r2,rfl,hr,hx,hp,hpx⟩⟩
theorem vX (hL:Lev B G P w0 w rc) (hb:RBad P w d) (hpx:pX lev d l=none) :
 LevIs lev B G P d w0 l 0 done w:=⟨rc,hL,.inl ⟨rfl,hb,hpx⟩⟩
theorem aJA (P d n:Nat) (HF:RvOk 2 P d n):RvOk 1 P d n:=by
 intro w l hl h;have hP:=mv;have hb0:=vw;have h0:=vv;have hz0:=vu;obtain ⟨A0,c00,i0,q1, -, -⟩:=h0;have c3:=vt;simp only [RC.cells,rcZ] at c3;show Calls prog 85 #[P,.int .i64 1] w _;have HC:=κ (show Calls prog 85 #[P,.int .i64 2] _ _ from HF _ l hl (h.below hb0));have HX:=κ (@rT 1 d l am am);have HF':=κ HF;have HZ0:=κ hz0;have HB0:=sv;clear h q1 hz0 hb0 HF;go_enter func85,ntmps85;go_wp2_with fail;refine μ HC ?_;rintro e w1 hp1;obtain ⟨⟨k,vk,vi,vs,vb,tt,ss,A,nn,c⟩,rfl,hb1,hq1⟩:=hp1.open_;simp only [RC.val];clear hp1 c3;have hLb:=vq;have hb2:=vp;have hG:=vo
 have hL2:Lev w w1 P w (w1.alloc (.cells #[.int .u8 k,.int .u8 vk,vi,vs,vb,tt,ss,.slice A nn c] 60)) ⟨k,vk,vi,vs,vb,tt,ss,A,nn,c⟩ :=
  ⟨hLb.trans (But.of hb2),⟨rcZ,aA (aL hb1 HZ0.o ac) hb2⟩,heap_alloc_new w1 _⟩
 obtain ⟨gk,hgk⟩:∃ gk,LevIs 1 w w1 P d w l gk false (w1.alloc (.cells #[.int .u8 k,.int .u8 vk,vi,vs,vb,tt,ss,.slice A nn c] 60)):=by
  have hx:=HX.o;cases hpx:pX 2 d l with
  | none =>
    rw [show 1+1=2 from rfl,hpx] at hx;rw [hpx] at hq1;exact vx
  | some p =>
    obtain ⟨x,r⟩:=p;rw [show 1+1=2 from rfl,hpx] at hx;rw [hpx] at hq1;obtain ⟨g1,g2⟩:=hq1;refine ⟨r.length+1,_,hL2,.inr ⟨x,r,rfl,iL hpx, ?_,g2.below hb2,hx⟩⟩;refine RX.below hb2 (RX.mono (λg hg hl => ?_) g1);have h1:=vz;rw [World.size_alloc] at h1;exact vy
 have HG:=κ hgk;clear hq1 hLb hb1 hb2 hL2 HC HZ0 HB0 hgk HX;go_wp2_with fail;generalize (w1.alloc (.cells #[.int .u8 k,.int .u8 vk,vi,vs,vb,tt,ss,.slice A nn c] 60))=w2 at *;generalize w1.heap.size=G at *
 go_loopg [6,7,48,73] gk (λgk s6 _ _ _ wr=>∃ done:Bool,s6=.bool done∧LevIs 1 w G P d w l gk done wr)
 case atStart=>exact ⟨false,rfl,HG.o⟩
 case round =>
  clear HG;obtain ⟨done,rfl,⟨k,vk,vi,vs,vb,tt,ss,A,nn,c⟩,hL,hst⟩:=dd;rcases hst with ⟨rfl,hbad,hnone⟩|⟨x,r,rfl,hrl,hx,hp,hpx⟩
  ·obtain ⟨l',d',b',hb',hpb,hd1,hd2⟩:=hbad;have HE:=κ (qU (lev:=1) (l:=l) rfl hP hL (.inl ⟨⟨l',d',b',hb',hpb,hd1,hd2⟩,hnone⟩));obtain ⟨A0,c00,i0,q1, -, -⟩:=hpb;have c3:=vt;have eb:=wd;obtain ⟨⟨⟨a0,a1,a2,a3,a4,a5,a6,a7,a8,a9⟩,c0⟩,c1,z0,z1⟩:=hL.cells;obtain ⟨rz,hz⟩:=hL.z;have hcE:=wb;simp only [RC.cells] at c0 c1;clear hL q1 hb' hz HF';go_wp2;change bodyPost _ _ _ _ _ (put8 _ w ⟨k,vk,vi,vs,vb,tt,ss,A,nn,c⟩);generalize put8 _ w ⟨k,vk,vi,vs,vb,tt,ss,A,nn,c⟩=WE at *;simp only [RC.cells] at hcE;exact wa
  ·have hp':=hp;obtain ⟨A0,c00,i0,q1, -, -⟩:=hp';have c3:=vt;have HSg:=κ (aCP P d r _ hp);have HP1:=ef;have HL:=κ hL;have HX:=κ hx;have HPX:=κ hpx;clear q1 hp hL hx hpx;go_wp2_with fail;refine μ HSg ?_;rintro e w3 ⟨rfl,hb3⟩
   by_cases hA:∃ s,cP 1 r=some s∧done=false
   ·obtain ⟨s,hs,rfl⟩:=hA;obtain ⟨t,r',rfl⟩:=nM hs;have hmem:s∈bM 1:=List.mem_of_find?_eq_some hs;have hne0:=wi;have hne:=wg;have hne2:=we
    have hPX:=xe;have hup:=pH 1 s hmem;rw [hs];simp only [Option.getD_some];obtain ⟨i,n1,n2,n3,n4⟩:=xd;have hL4:=wy;have hx4:=ww;have HU:=wu;have HC:=κ (show Calls prog 85 #[P,.int .i64 2] _ _ from HF'.o (w3.setCell ⟨P,1,none⟩ (.int .i64 ((i:Int)+1))).drew r' wt n4.drew);have hGs:=wn;obtain ⟨-,c1, -, -⟩:=hL4.cells;simp only [RC.cells] at c1;have cc:=wm;simp only [γ,δ,ε] at cc;have HN4:=κ n4.drew;have HL4:=wl;have HX4:=wj;have hdn:(1==4)=false:=am
    rw [hdn] at hPX;clear hs hmem hne0 hup n4 hL4 hx4 hb3 HSg HX HPX HL HP1 c1 hdn;generalize upW s=u at *;have HPX4:=κ hPX;clear hPX;obtain ⟨d0,d1,d2,d3,d4,d5,d6,d7⟩:=cc;go_wp2_with fail
    go_region_with
     (first
      | (go_at_call 136;refine μ HU ?_;rintro e w5 ⟨rfl,rfl⟩)
      | (go_at_call 85;refine μ HC ?_;rintro e w5 hp5;obtain ⟨⟨k2,vk2,vi2,vs2,vb2,tt2,ss2,A2,nn2,c2⟩,rfl,hq5⟩:=hp5.open_;clear hp5;simp only [RC.val];have hL5:=HL4.o.but hq5.1 hP hG;have hc5:=(hL5.cells).2.1;simp only [RC.cells] at hc5;have hd2:w5.cell? ⟨G,0,none⟩=some (.int .u8 k)∧w5.cell? ⟨G,1,none⟩=some (.int .u8 vk)∧w5.cell? ⟨G,2,none⟩=some (.int .i64 vi)∧w5.cell? ⟨G,3,none⟩=some (.string vs)∧w5.cell? ⟨G,4,none⟩=some (.bool vb)∧w5.cell? ⟨G,5,none⟩=some (.string tt)∧w5.cell? ⟨G,6,none⟩=some (.string ss)∧w5.cell? ⟨G,7,none⟩=some (.slice A nn c):=⟨hc5 0,hc5 1,hc5 2,hc5 3,hc5 4,hc5 5,hc5 6,hc5 7⟩;have hL6:=hL5.far ((θ).alloc (ν _) (.cells #[.int .u8 k,.int .u8 vk,vi,vs,vb,tt,ss,.slice A nn c,.int .u8 k2,.int .u8 vk2,vi2,vs2,vb2,tt2,ss2,.slice A2 nn2 c2] 60));have hc6:=(hL6.cells).2.1;have hz6:=(hL6.cells).2.2.2;simp only [RC.cells] at hc6))
    all_goals
     have hx5:=xh;obtain ⟨gk',hgk1,hgk2⟩:=xg;simp only [put8,RC.cells,rcP,List.cons_append,List.nil_append] at hgk2;have HGK:=κ hgk2;have hlr:=xf;clear hx5 hgk2 hq5 hL5 hc5 hc6 hz6 hd2 hL6;go_wp2
     go_roundg gk'
     case measure=>omega
     case rel=>exact ⟨_,rfl,HGK.o⟩
   ·obtain ⟨hA1,hA2⟩:=pO hA;have hL3:=HL.o.far hb3;have hx3:=xj;have hp3:=xi;obtain ⟨sg,hsg⟩:∃ sg,(cP 1 r).getD []=sg:=cw;rw [hsg] at hA2 |-;clear hsg;have HE:=κ (LevIs.end_ (lev:=1) (l:=l) (done:=done) rfl hP hL3 hx3 hp3 HPX.o (pM hA1 (.inl am)));obtain ⟨⟨⟨a0,a1,a2,a3,a4,a5,a6,a7,a8,a9⟩,c0⟩,c1,z0,z1⟩:=hL3.cells;obtain ⟨rz,hz⟩:=hL3.z;have hcE:=wb;simp only [RC.cells] at c0 c1;clear hL3 hx3 hp3 hz HF' HSg HP1 HL HX HPX hA hA1 hb3;have hA3:sg=[]∨(done=true∧(sg==[])=false∧(sg != [])=true):=by
     by_cases hs:sg=[]
     ·exact .inl hs
     ·have e1:=xm;have e2:=xk
      rcases hA2 with h|h
      ·rw [e2] at h;cases h
      ·exact xo
    clear hA2;clear hrl;rcases hA3 with rfl|⟨rfl,e1,e2⟩
    all_goals
     go_wp2;change bodyPost _ _ _ _ _ (put8 _ w ⟨k,vk,vi,vs,vb,tt,ss,A,nn,c⟩);generalize put8 _ w ⟨k,vk,vi,vs,vb,tt,ss,A,nn,c⟩=WE at *;simp only [RC.cells] at hcE;exact wa
theorem aIZ (P d n:Nat) (HF:RvOk 3 P d n):RvOk 2 P d n:=by
 intro w l hl h;have hP:=mv;have hb0:=vw;have h0:=vv;have hz0:=vu;obtain ⟨A0,c00,i0,q1, -, -⟩:=h0;have c3:=vt;simp only [RC.cells,rcZ] at c3;show Calls prog 85 #[P,.int .i64 2] w _;have HC:=κ (show Calls prog 85 #[P,.int .i64 3] _ _ from HF _ l hl (h.below hb0));have HX:=κ (@rT 2 d l am am);have HF':=κ HF;have HZ0:=κ hz0;have HB0:=sv;clear h q1 hz0 hb0 HF;go_enter func85,ntmps85;go_wp2_with fail;refine μ HC ?_;rintro e w1 hp1;obtain ⟨⟨k,vk,vi,vs,vb,tt,ss,A,nn,c⟩,rfl,hb1,hq1⟩:=hp1.open_;simp only [RC.val];clear hp1 c3;have hLb:=vq;have hb2:=vp;have hG:=vo
 have hL2:Lev w w1 P w (w1.alloc (.cells #[.int .u8 k,.int .u8 vk,vi,vs,vb,tt,ss,.slice A nn c] 60)) ⟨k,vk,vi,vs,vb,tt,ss,A,nn,c⟩ :=
  ⟨hLb.trans (But.of hb2),⟨rcZ,aA (aL hb1 HZ0.o ac) hb2⟩,heap_alloc_new w1 _⟩
 obtain ⟨gk,hgk⟩:∃ gk,LevIs 2 w w1 P d w l gk false (w1.alloc (.cells #[.int .u8 k,.int .u8 vk,vi,vs,vb,tt,ss,.slice A nn c] 60)):=by
  have hx:=HX.o;cases hpx:pX 3 d l with
  | none =>
    rw [show 2+1=3 from rfl,hpx] at hx;rw [hpx] at hq1;exact vx
  | some p =>
    obtain ⟨x,r⟩:=p;rw [show 2+1=3 from rfl,hpx] at hx;rw [hpx] at hq1;obtain ⟨g1,g2⟩:=hq1;refine ⟨r.length+1,_,hL2,.inr ⟨x,r,rfl,iL hpx, ?_,g2.below hb2,hx⟩⟩;refine RX.below hb2 (RX.mono (λg hg hl => ?_) g1);have h1:=vz;rw [World.size_alloc] at h1;exact vy
 have HG:=κ hgk;clear hq1 hLb hb1 hb2 hL2 HC HZ0 HB0 hgk HX;go_wp2_with fail;generalize (w1.alloc (.cells #[.int .u8 k,.int .u8 vk,vi,vs,vb,tt,ss,.slice A nn c] 60))=w2 at *;generalize w1.heap.size=G at *
 go_loopg [6,7,48,73] gk (λgk s6 _ _ _ wr=>∃ done:Bool,s6=.bool done∧LevIs 2 w G P d w l gk done wr)
 case atStart=>exact ⟨false,rfl,HG.o⟩
 case round =>
  clear HG;obtain ⟨done,rfl,⟨k,vk,vi,vs,vb,tt,ss,A,nn,c⟩,hL,hst⟩:=dd;rcases hst with ⟨rfl,hbad,hnone⟩|⟨x,r,rfl,hrl,hx,hp,hpx⟩
  ·obtain ⟨l',d',b',hb',hpb,hd1,hd2⟩:=hbad;have HE:=κ (qU (lev:=2) (l:=l) rfl hP hL (.inl ⟨⟨l',d',b',hb',hpb,hd1,hd2⟩,hnone⟩));obtain ⟨A0,c00,i0,q1, -, -⟩:=hpb;have c3:=vt;have eb:=wd;obtain ⟨⟨⟨a0,a1,a2,a3,a4,a5,a6,a7,a8,a9⟩,c0⟩,c1,z0,z1⟩:=hL.cells;obtain ⟨rz,hz⟩:=hL.z;have hcE:=wb;simp only [RC.cells] at c0 c1;clear hL q1 hb' hz HF';go_wp2;change bodyPost _ _ _ _ _ (put8 _ w ⟨k,vk,vi,vs,vb,tt,ss,A,nn,c⟩);generalize put8 _ w ⟨k,vk,vi,vs,vb,tt,ss,A,nn,c⟩=WE at *;simp only [RC.cells] at hcE;exact wa
  ·have hp':=hp;obtain ⟨A0,c00,i0,q1, -, -⟩:=hp';have c3:=vt;have HSg:=κ (aCO P d r _ hp);have HP1:=ef;have HL:=κ hL;have HX:=κ hx;have HPX:=κ hpx;clear q1 hp hL hx hpx;go_wp2_with fail;refine μ HSg ?_;rintro e w3 ⟨rfl,hb3⟩
   by_cases hA:∃ s,cP 2 r=some s∧done=false
   ·obtain ⟨s,hs,rfl⟩:=hA;obtain ⟨t,r',rfl⟩:=nM hs;have hmem:s∈bM 2:=List.mem_of_find?_eq_some hs;have hne0:=wi;have hne:=wg;have hne2:=we
    have hPX:=xe;have hup:=pH 2 s hmem;rw [hs];simp only [Option.getD_some];obtain ⟨i,n1,n2,n3,n4⟩:=xd;have hL4:=wy;have hx4:=ww;have HU:=wu;have HC:=κ (show Calls prog 85 #[P,.int .i64 3] _ _ from HF'.o (w3.setCell ⟨P,1,none⟩ (.int .i64 ((i:Int)+1))).drew r' wt n4.drew);have hGs:=wn;obtain ⟨-,c1, -, -⟩:=hL4.cells;simp only [RC.cells] at c1;have cc:=wm;simp only [γ,δ,ε] at cc;have HN4:=κ n4.drew;have HL4:=wl;have HX4:=wj;have hdn:(2==4)=false:=am
    rw [hdn] at hPX;clear hs hmem hne0 hup n4 hL4 hx4 hb3 HSg HX HPX HL HP1 c1 hdn;generalize upW s=u at *;have HPX4:=κ hPX;clear hPX;obtain ⟨d0,d1,d2,d3,d4,d5,d6,d7⟩:=cc;go_wp2_with fail
    go_region_with
     (first
      | (go_at_call 136;refine μ HU ?_;rintro e w5 ⟨rfl,rfl⟩)
      | (go_at_call 85;refine μ HC ?_;rintro e w5 hp5;obtain ⟨⟨k2,vk2,vi2,vs2,vb2,tt2,ss2,A2,nn2,c2⟩,rfl,hq5⟩:=hp5.open_;clear hp5;simp only [RC.val];have hL5:=HL4.o.but hq5.1 hP hG;have hc5:=(hL5.cells).2.1;simp only [RC.cells] at hc5;have hd2:w5.cell? ⟨G,0,none⟩=some (.int .u8 k)∧w5.cell? ⟨G,1,none⟩=some (.int .u8 vk)∧w5.cell? ⟨G,2,none⟩=some (.int .i64 vi)∧w5.cell? ⟨G,3,none⟩=some (.string vs)∧w5.cell? ⟨G,4,none⟩=some (.bool vb)∧w5.cell? ⟨G,5,none⟩=some (.string tt)∧w5.cell? ⟨G,6,none⟩=some (.string ss)∧w5.cell? ⟨G,7,none⟩=some (.slice A nn c):=⟨hc5 0,hc5 1,hc5 2,hc5 3,hc5 4,hc5 5,hc5 6,hc5 7⟩;have hL6:=hL5.far ((θ).alloc (ν _) (.cells #[.int .u8 k,.int .u8 vk,vi,vs,vb,tt,ss,.slice A nn c,.int .u8 k2,.int .u8 vk2,vi2,vs2,vb2,tt2,ss2,.slice A2 nn2 c2] 60));have hc6:=(hL6.cells).2.1;have hz6:=(hL6.cells).2.2.2;simp only [RC.cells] at hc6))
    all_goals
     have hx5:=xh;obtain ⟨gk',hgk1,hgk2⟩:=xg;simp only [put8,RC.cells,rcP,List.cons_append,List.nil_append] at hgk2;have HGK:=κ hgk2;have hlr:=xf;clear hx5 hgk2 hq5 hL5 hc5 hc6 hz6 hd2 hL6;go_wp2
     go_roundg gk'
     case measure=>omega
     case rel=>exact ⟨_,rfl,HGK.o⟩
   ·obtain ⟨hA1,hA2⟩:=pO hA;have hL3:=HL.o.far hb3;have hx3:=xj;have hp3:=xi;obtain ⟨sg,hsg⟩:∃ sg,(cP 2 r).getD []=sg:=cw;rw [hsg] at hA2 |-;clear hsg;have HE:=κ (LevIs.end_ (lev:=2) (l:=l) (done:=done) rfl hP hL3 hx3 hp3 HPX.o (pM hA1 (.inl am)));obtain ⟨⟨⟨a0,a1,a2,a3,a4,a5,a6,a7,a8,a9⟩,c0⟩,c1,z0,z1⟩:=hL3.cells;obtain ⟨rz,hz⟩:=hL3.z;have hcE:=wb;simp only [RC.cells] at c0 c1;clear hL3 hx3 hp3 hz HF' HSg HP1 HL HX HPX hA hA1 hb3;have hA3:sg=[]∨(done=true∧(sg==[])=false∧(sg != [])=true):=by
     by_cases hs:sg=[]
     ·exact .inl hs
     ·have e1:=xm;have e2:=xk
      rcases hA2 with h|h
      ·rw [e2] at h;cases h
      ·exact xo
    clear hA2;clear hrl;rcases hA3 with rfl|⟨rfl,e1,e2⟩
    all_goals
     go_wp2;change bodyPost _ _ _ _ _ (put8 _ w ⟨k,vk,vi,vs,vb,tt,ss,A,nn,c⟩);generalize put8 _ w ⟨k,vk,vi,vs,vb,tt,ss,A,nn,c⟩=WE at *;simp only [RC.cells] at hcE;exact wa
theorem aIW (P d n:Nat) (HF:RvOk 6 P d n):RvOk 5 P d n:=by
 intro w l hl h;have hP:=mv;have hb0:=vw;have h0:=vv;have hz0:=vu;obtain ⟨A0,c00,i0,q1, -, -⟩:=h0;have c3:=vt;simp only [RC.cells,rcZ] at c3;show Calls prog 85 #[P,.int .i64 5] w _;have HC:=κ (show Calls prog 85 #[P,.int .i64 6] _ _ from HF _ l hl (h.below hb0));have HX:=κ (@rT 5 d l am am);have HF':=κ HF;have HZ0:=κ hz0;have HB0:=sv;clear h q1 hz0 hb0 HF;go_enter func85,ntmps85;go_wp2_with fail;refine μ HC ?_;rintro e w1 hp1;obtain ⟨⟨k,vk,vi,vs,vb,tt,ss,A,nn,c⟩,rfl,hb1,hq1⟩:=hp1.open_;simp only [RC.val];clear hp1 c3;have hLb:=vq;have hb2:=vp;have hG:=vo
 have hL2:Lev w w1 P w (w1.alloc (.cells #[.int .u8 k,.int .u8 vk,vi,vs,vb,tt,ss,.slice A nn c] 60)) ⟨k,vk,vi,vs,vb,tt,ss,A,nn,c⟩ :=
  ⟨hLb.trans (But.of hb2),⟨rcZ,aA (aL hb1 HZ0.o ac) hb2⟩,heap_alloc_new w1 _⟩
 obtain ⟨gk,hgk⟩:∃ gk,LevIs 5 w w1 P d w l gk false (w1.alloc (.cells #[.int .u8 k,.int .u8 vk,vi,vs,vb,tt,ss,.slice A nn c] 60)):=by
  have hx:=HX.o;cases hpx:pX 6 d l with
  | none =>
    rw [show 5+1=6 from rfl,hpx] at hx;rw [hpx] at hq1;exact vx
  | some p =>
    obtain ⟨x,r⟩:=p;rw [show 5+1=6 from rfl,hpx] at hx;rw [hpx] at hq1;obtain ⟨g1,g2⟩:=hq1;refine ⟨r.length+1,_,hL2,.inr ⟨x,r,rfl,iL hpx, ?_,g2.below hb2,hx⟩⟩;refine RX.below hb2 (RX.mono (λg hg hl => ?_) g1);have h1:=vz;rw [World.size_alloc] at h1;exact vy
 have HG:=κ hgk;clear hq1 hLb hb1 hb2 hL2 HC HZ0 HB0 hgk HX;go_wp2_with fail;generalize (w1.alloc (.cells #[.int .u8 k,.int .u8 vk,vi,vs,vb,tt,ss,.slice A nn c] 60))=w2 at *;generalize w1.heap.size=G at *
 go_loopg [6,7,48,73] gk (λgk s6 _ _ _ wr=>∃ done:Bool,s6=.bool done∧LevIs 5 w G P d w l gk done wr)
 case atStart=>exact ⟨false,rfl,HG.o⟩
 case round =>
  clear HG;obtain ⟨done,rfl,⟨k,vk,vi,vs,vb,tt,ss,A,nn,c⟩,hL,hst⟩:=dd;rcases hst with ⟨rfl,hbad,hnone⟩|⟨x,r,rfl,hrl,hx,hp,hpx⟩
  ·obtain ⟨l',d',b',hb',hpb,hd1,hd2⟩:=hbad;have HE:=κ (qU (lev:=5) (l:=l) rfl hP hL (.inl ⟨⟨l',d',b',hb',hpb,hd1,hd2⟩,hnone⟩));obtain ⟨A0,c00,i0,q1, -, -⟩:=hpb;have c3:=vt;have eb:=wd;obtain ⟨⟨⟨a0,a1,a2,a3,a4,a5,a6,a7,a8,a9⟩,c0⟩,c1,z0,z1⟩:=hL.cells;obtain ⟨rz,hz⟩:=hL.z;have hcE:=wb;simp only [RC.cells] at c0 c1;clear hL q1 hb' hz HF';go_wp2;change bodyPost _ _ _ _ _ (put8 _ w ⟨k,vk,vi,vs,vb,tt,ss,A,nn,c⟩);generalize put8 _ w ⟨k,vk,vi,vs,vb,tt,ss,A,nn,c⟩=WE at *;simp only [RC.cells] at hcE;exact wa
  ·have hp':=hp;obtain ⟨A0,c00,i0,q1, -, -⟩:=hp';have c3:=vt;have HSg:=κ (aCM P d r _ hp);have HP1:=ef;have HL:=κ hL;have HX:=κ hx;have HPX:=κ hpx;clear q1 hp hL hx hpx;go_wp2_with fail;refine μ HSg ?_;rintro e w3 ⟨rfl,hb3⟩
   by_cases hA:∃ s,cP 5 r=some s∧done=false
   ·obtain ⟨s,hs,rfl⟩:=hA;obtain ⟨t,r',rfl⟩:=nM hs;have hmem:s∈bM 5:=List.mem_of_find?_eq_some hs;have hne0:=wi;have hne:=wg;have hne2:=we
    have hPX:=xe;have hup:=pH 5 s hmem;rw [hs];simp only [Option.getD_some];obtain ⟨i,n1,n2,n3,n4⟩:=xd;have hL4:=wy;have hx4:=ww;have HU:=wu;have HC:=κ (show Calls prog 85 #[P,.int .i64 6] _ _ from HF'.o (w3.setCell ⟨P,1,none⟩ (.int .i64 ((i:Int)+1))).drew r' wt n4.drew);have hGs:=wn;obtain ⟨-,c1, -, -⟩:=hL4.cells;simp only [RC.cells] at c1;have cc:=wm;simp only [γ,δ,ε] at cc;have HN4:=κ n4.drew;have HL4:=wl;have HX4:=wj;have hdn:(5==4)=false:=am
    rw [hdn] at hPX;clear hs hmem hne0 hup n4 hL4 hx4 hb3 HSg HX HPX HL HP1 c1 hdn;generalize upW s=u at *;have HPX4:=κ hPX;clear hPX;obtain ⟨d0,d1,d2,d3,d4,d5,d6,d7⟩:=cc;go_wp2_with fail
    go_region_with
     (first
      | (go_at_call 136;refine μ HU ?_;rintro e w5 ⟨rfl,rfl⟩)
      | (go_at_call 85;refine μ HC ?_;rintro e w5 hp5;obtain ⟨⟨k2,vk2,vi2,vs2,vb2,tt2,ss2,A2,nn2,c2⟩,rfl,hq5⟩:=hp5.open_;clear hp5;simp only [RC.val];have hL5:=HL4.o.but hq5.1 hP hG;have hc5:=(hL5.cells).2.1;simp only [RC.cells] at hc5;have hd2:w5.cell? ⟨G,0,none⟩=some (.int .u8 k)∧w5.cell? ⟨G,1,none⟩=some (.int .u8 vk)∧w5.cell? ⟨G,2,none⟩=some (.int .i64 vi)∧w5.cell? ⟨G,3,none⟩=some (.string vs)∧w5.cell? ⟨G,4,none⟩=some (.bool vb)∧w5.cell? ⟨G,5,none⟩=some (.string tt)∧w5.cell? ⟨G,6,none⟩=some (.string ss)∧w5.cell? ⟨G,7,none⟩=some (.slice A nn c):=⟨hc5 0,hc5 1,hc5 2,hc5 3,hc5 4,hc5 5,hc5 6,hc5 7⟩;have hL6:=hL5.far ((θ).alloc (ν _) (.cells #[.int .u8 k,.int .u8 vk,vi,vs,vb,tt,ss,.slice A nn c,.int .u8 k2,.int .u8 vk2,vi2,vs2,vb2,tt2,ss2,.slice A2 nn2 c2] 60));have hc6:=(hL6.cells).2.1;have hz6:=(hL6.cells).2.2.2;simp only [RC.cells] at hc6))
    all_goals
     have hx5:=xh;obtain ⟨gk',hgk1,hgk2⟩:=xg;simp only [put8,RC.cells,rcP,List.cons_append,List.nil_append] at hgk2;have HGK:=κ hgk2;have hlr:=xf;clear hx5 hgk2 hq5 hL5 hc5 hc6 hz6 hd2 hL6;go_wp2
     go_roundg gk'
     case measure=>omega
     case rel=>exact ⟨_,rfl,HGK.o⟩
   ·obtain ⟨hA1,hA2⟩:=pO hA;have hL3:=HL.o.far hb3;have hx3:=xj;have hp3:=xi;obtain ⟨sg,hsg⟩:∃ sg,(cP 5 r).getD []=sg:=cw;rw [hsg] at hA2 |-;clear hsg;have HE:=κ (LevIs.end_ (lev:=5) (l:=l) (done:=done) rfl hP hL3 hx3 hp3 HPX.o (pM hA1 (.inl am)));obtain ⟨⟨⟨a0,a1,a2,a3,a4,a5,a6,a7,a8,a9⟩,c0⟩,c1,z0,z1⟩:=hL3.cells;obtain ⟨rz,hz⟩:=hL3.z;have hcE:=wb;simp only [RC.cells] at c0 c1;clear hL3 hx3 hp3 hz HF' HSg HP1 HL HX HPX hA hA1 hb3;have hA3:sg=[]∨(done=true∧(sg==[])=false∧(sg != [])=true):=by
     by_cases hs:sg=[]
     ·exact .inl hs
     ·have e1:=xm;have e2:=xk
      rcases hA2 with h|h
      ·rw [e2] at h;cases h
      ·exact xo
    clear hA2;clear hrl;rcases hA3 with rfl|⟨rfl,e1,e2⟩
    all_goals
     go_wp2;change bodyPost _ _ _ _ _ (put8 _ w ⟨k,vk,vi,vs,vb,tt,ss,A,nn,c⟩);generalize put8 _ w ⟨k,vk,vi,vs,vb,tt,ss,A,nn,c⟩=WE at *;simp only [RC.cells] at hcE;exact wa
theorem aIV (P d n:Nat) (HF:RvOk 7 P d n):RvOk 6 P d n:=by
 intro w l hl h;have hP:=mv;have hb0:=vw;have h0:=vv;have hz0:=vu;obtain ⟨A0,c00,i0,q1, -, -⟩:=h0;have c3:=vt;simp only [RC.cells,rcZ] at c3;show Calls prog 85 #[P,.int .i64 6] w _;have HC:=κ (show Calls prog 85 #[P,.int .i64 7] _ _ from HF _ l hl (h.below hb0));have HX:=κ (@rT 6 d l am am);have HF':=κ HF;have HZ0:=κ hz0;have HB0:=sv;clear h q1 hz0 hb0 HF;go_enter func85,ntmps85;go_wp2_with fail;refine μ HC ?_;rintro e w1 hp1;obtain ⟨⟨k,vk,vi,vs,vb,tt,ss,A,nn,c⟩,rfl,hb1,hq1⟩:=hp1.open_;simp only [RC.val];clear hp1 c3;have hLb:=vq;have hb2:=vp;have hG:=vo
 have hL2:Lev w w1 P w (w1.alloc (.cells #[.int .u8 k,.int .u8 vk,vi,vs,vb,tt,ss,.slice A nn c] 60)) ⟨k,vk,vi,vs,vb,tt,ss,A,nn,c⟩ :=
  ⟨hLb.trans (But.of hb2),⟨rcZ,aA (aL hb1 HZ0.o ac) hb2⟩,heap_alloc_new w1 _⟩
 obtain ⟨gk,hgk⟩:∃ gk,LevIs 6 w w1 P d w l gk false (w1.alloc (.cells #[.int .u8 k,.int .u8 vk,vi,vs,vb,tt,ss,.slice A nn c] 60)):=by
  have hx:=HX.o;cases hpx:pX 7 d l with
  | none =>
    rw [show 6+1=7 from rfl,hpx] at hx;rw [hpx] at hq1;exact vx
  | some p =>
    obtain ⟨x,r⟩:=p;rw [show 6+1=7 from rfl,hpx] at hx;rw [hpx] at hq1;obtain ⟨g1,g2⟩:=hq1;refine ⟨r.length+1,_,hL2,.inr ⟨x,r,rfl,iL hpx, ?_,g2.below hb2,hx⟩⟩;refine RX.below hb2 (RX.mono (λg hg hl => ?_) g1);have h1:=vz;rw [World.size_alloc] at h1;exact vy
 have HG:=κ hgk;clear hq1 hLb hb1 hb2 hL2 HC HZ0 HB0 hgk HX;go_wp2_with fail;generalize (w1.alloc (.cells #[.int .u8 k,.int .u8 vk,vi,vs,vb,tt,ss,.slice A nn c] 60))=w2 at *;generalize w1.heap.size=G at *
 go_loopg [6,7,48,73] gk (λgk s6 _ _ _ wr=>∃ done:Bool,s6=.bool done∧LevIs 6 w G P d w l gk done wr)
 case atStart=>exact ⟨false,rfl,HG.o⟩
 case round =>
  clear HG;obtain ⟨done,rfl,⟨k,vk,vi,vs,vb,tt,ss,A,nn,c⟩,hL,hst⟩:=dd;rcases hst with ⟨rfl,hbad,hnone⟩|⟨x,r,rfl,hrl,hx,hp,hpx⟩
  ·obtain ⟨l',d',b',hb',hpb,hd1,hd2⟩:=hbad;have HE:=κ (qU (lev:=6) (l:=l) rfl hP hL (.inl ⟨⟨l',d',b',hb',hpb,hd1,hd2⟩,hnone⟩));obtain ⟨A0,c00,i0,q1, -, -⟩:=hpb;have c3:=vt;have eb:=wd;obtain ⟨⟨⟨a0,a1,a2,a3,a4,a5,a6,a7,a8,a9⟩,c0⟩,c1,z0,z1⟩:=hL.cells;obtain ⟨rz,hz⟩:=hL.z;have hcE:=wb;simp only [RC.cells] at c0 c1;clear hL q1 hb' hz HF';go_wp2;change bodyPost _ _ _ _ _ (put8 _ w ⟨k,vk,vi,vs,vb,tt,ss,A,nn,c⟩);generalize put8 _ w ⟨k,vk,vi,vs,vb,tt,ss,A,nn,c⟩=WE at *;simp only [RC.cells] at hcE;exact wa
  ·have hp':=hp;obtain ⟨A0,c00,i0,q1, -, -⟩:=hp';have c3:=vt;have HSg:=κ (aCL P d r _ hp);have HP1:=ef;have HL:=κ hL;have HX:=κ hx;have HPX:=κ hpx;clear q1 hp hL hx hpx;go_wp2_with fail;refine μ HSg ?_;rintro e w3 ⟨rfl,hb3⟩
   by_cases hA:∃ s,cP 6 r=some s∧done=false
   ·obtain ⟨s,hs,rfl⟩:=hA;obtain ⟨t,r',rfl⟩:=nM hs;have hmem:s∈bM 6:=List.mem_of_find?_eq_some hs;have hne0:=wi;have hne:=wg;have hne2:=we
    have hPX:=xe;have hup:=pH 6 s hmem;rw [hs];simp only [Option.getD_some];obtain ⟨i,n1,n2,n3,n4⟩:=xd;have hL4:=wy;have hx4:=ww;have HU:=wu;have HC:=κ (show Calls prog 85 #[P,.int .i64 7] _ _ from HF'.o (w3.setCell ⟨P,1,none⟩ (.int .i64 ((i:Int)+1))).drew r' wt n4.drew);have hGs:=wn;obtain ⟨-,c1, -, -⟩:=hL4.cells;simp only [RC.cells] at c1;have cc:=wm;simp only [γ,δ,ε] at cc;have HN4:=κ n4.drew;have HL4:=wl;have HX4:=wj;have hdn:(6==4)=false:=am
    rw [hdn] at hPX;clear hs hmem hne0 hup n4 hL4 hx4 hb3 HSg HX HPX HL HP1 c1 hdn;generalize upW s=u at *;have HPX4:=κ hPX;clear hPX;obtain ⟨d0,d1,d2,d3,d4,d5,d6,d7⟩:=cc;go_wp2_with fail
    go_region_with
     (first
      | (go_at_call 136;refine μ HU ?_;rintro e w5 ⟨rfl,rfl⟩)
      | (go_at_call 85;refine μ HC ?_;rintro e w5 hp5;obtain ⟨⟨k2,vk2,vi2,vs2,vb2,tt2,ss2,A2,nn2,c2⟩,rfl,hq5⟩:=hp5.open_;clear hp5;simp only [RC.val];have hL5:=HL4.o.but hq5.1 hP hG;have hc5:=(hL5.cells).2.1;simp only [RC.cells] at hc5;have hd2:w5.cell? ⟨G,0,none⟩=some (.int .u8 k)∧w5.cell? ⟨G,1,none⟩=some (.int .u8 vk)∧w5.cell? ⟨G,2,none⟩=some (.int .i64 vi)∧w5.cell? ⟨G,3,none⟩=some (.string vs)∧w5.cell? ⟨G,4,none⟩=some (.bool vb)∧w5.cell? ⟨G,5,none⟩=some (.string tt)∧w5.cell? ⟨G,6,none⟩=some (.string ss)∧w5.cell? ⟨G,7,none⟩=some (.slice A nn c):=⟨hc5 0,hc5 1,hc5 2,hc5 3,hc5 4,hc5 5,hc5 6,hc5 7⟩;have hL6:=hL5.far ((θ).alloc (ν _) (.cells #[.int .u8 k,.int .u8 vk,vi,vs,vb,tt,ss,.slice A nn c,.int .u8 k2,.int .u8 vk2,vi2,vs2,vb2,tt2,ss2,.slice A2 nn2 c2] 60));have hc6:=(hL6.cells).2.1;have hz6:=(hL6.cells).2.2.2;simp only [RC.cells] at hc6))
    all_goals
     have hx5:=xh;obtain ⟨gk',hgk1,hgk2⟩:=xg;simp only [put8,RC.cells,rcP,List.cons_append,List.nil_append] at hgk2;have HGK:=κ hgk2;have hlr:=xf;clear hx5 hgk2 hq5 hL5 hc5 hc6 hz6 hd2 hL6;go_wp2
     go_roundg gk'
     case measure=>omega
     case rel=>exact ⟨_,rfl,HGK.o⟩
   ·obtain ⟨hA1,hA2⟩:=pO hA;have hL3:=HL.o.far hb3;have hx3:=xj;have hp3:=xi;obtain ⟨sg,hsg⟩:∃ sg,(cP 6 r).getD []=sg:=cw;rw [hsg] at hA2 |-;clear hsg;have HE:=κ (LevIs.end_ (lev:=6) (l:=l) (done:=done) rfl hP hL3 hx3 hp3 HPX.o (pM hA1 (.inl am)));obtain ⟨⟨⟨a0,a1,a2,a3,a4,a5,a6,a7,a8,a9⟩,c0⟩,c1,z0,z1⟩:=hL3.cells;obtain ⟨rz,hz⟩:=hL3.z;have hcE:=wb;simp only [RC.cells] at c0 c1;clear hL3 hx3 hp3 hz HF' HSg HP1 HL HX HPX hA hA1 hb3;have hA3:sg=[]∨(done=true∧(sg==[])=false∧(sg != [])=true):=by
     by_cases hs:sg=[]
     ·exact .inl hs
     ·have e1:=xm;have e2:=xk
      rcases hA2 with h|h
      ·rw [e2] at h;cases h
      ·exact xo
    clear hA2;clear hrl;rcases hA3 with rfl|⟨rfl,e1,e2⟩
    all_goals
     go_wp2;change bodyPost _ _ _ _ _ (put8 _ w ⟨k,vk,vi,vs,vb,tt,ss,A,nn,c⟩);generalize put8 _ w ⟨k,vk,vi,vs,vb,tt,ss,A,nn,c⟩=WE at *;simp only [RC.cells] at hcE;exact wa
