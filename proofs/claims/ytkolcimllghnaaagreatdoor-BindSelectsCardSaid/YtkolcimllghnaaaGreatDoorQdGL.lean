/-
 Contracts. Conditions: those of each.
-/
import Derived.Test.YtkolcimllghnaaaGreatDoorQdGK
set_option maxRecDepth 100000
set_option maxHeartbeats 8000000
namespace Go.Proofs.YtkolcimllghnaaaGreatDoor
open Lp Go.Proofs.Tryz
open Go.RowKit
variable{x:Lp.X}{B P d:Nat}{w w' w0:World}
theorem Oa {G:Nat} {W4:World} {rc:RC} {r':ZW} (hL5:Lev B G P w0 W4 rc) (hx5:RX (Sx B G) W4 x rc) (n4:RS W4 P r' d 0) (hP:P<B) (hG:B<G) (hB:w0.heap.size=B) :
 ∃ W6,put8 (W4.alloc (.cells rc.cells.toArray 60)) G (rcP 5 [] W4 1)=W6∧Lev B G P w0 W6 (rcP 5 [] W4 1)∧RX (Sx B G) W6 (.isn false x) (rcP 5 [] W4 1)∧RS W6 P r' d 0 ∧
  (∀ j,(W4.alloc (.cells rc.cells.toArray 60)).cell? ⟨G,j,none⟩=rc.cells.toArray[j]?)∧(∀ j,(W4.alloc (.cells rc.cells.toArray 60)).frozen? ⟨G,j,none⟩=false):=by
 have hb5:Below W4 W4 (W4.alloc (.cells rc.cells.toArray 60)):=ρ;have hL5a:=hL5.far hb5;have hGs:G<W4:=aG hL5.x;have hx6:=lI (r:=rcP 5 [] W4 1) (λk (hk:Sx B G k)=>hk.2) (RX.below hb5 hx5);have hn:(put8 (W4.alloc (.cells rc.cells.toArray 60)) G (rcP 5 [] W4 1)).heap[W4.heap.size]? = some (.cells rc.cells.toArray 60 (0,0)):=by
  rw [kQ ac];exact heap_alloc_new W4 _
 exact ⟨_,rfl,hL5a.put hG ac _,⟨W4.heap.size,rc,rfl,⟨ac,ac⟩,hn,hx6⟩,mQ (n4.below hb5) ac,hL5a.cells.2.1,hL5a.cells.2.2.2⟩
theorem aIX (P d n:Nat) (hd:d≤100000) (HF:RvOk 5 P d n):RvOk 4 P d n:=by
 intro w l hl h;have hP:=mv;have hb0:=vw;have h0:=vv;have hz0:=vu;obtain ⟨A0,c00,i0,q1, -, -⟩:=h0;have c3:=vt;simp only [RC.cells,rcZ] at c3;show Calls prog 85 #[P,.int .i64 4] w _;have HC:=κ (show Calls prog 85 #[P,.int .i64 5] _ _ from HF _ l hl (h.below hb0));have HX:=κ (@rT 4 d l am am);have HF':=κ HF;have HZ0:=κ hz0;have HB0:=sv;clear h q1 hz0 hb0 HF;go_enter func85,ntmps85;go_wp2_with fail;refine μ HC ?_;rintro e w1 hp1;obtain ⟨⟨k,vk,vi,vs,vb,tt,ss,A,nn,c⟩,rfl,hb1,hq1⟩:=hp1.open_;simp only [RC.val];clear hp1 c3;have hLb:=vq;have hb2:=vp;have hG:=vo
 have hL2:Lev w w1 P w (w1.alloc (.cells #[.int .u8 k,.int .u8 vk,vi,vs,vb,tt,ss,.slice A nn c] 60)) ⟨k,vk,vi,vs,vb,tt,ss,A,nn,c⟩ :=
  ⟨hLb.trans (But.of hb2),⟨rcZ,aA (aL hb1 HZ0.o ac) hb2⟩,heap_alloc_new w1 _⟩
 obtain ⟨gk,hgk⟩:∃ gk,LevIs 4 w w1 P d w l gk false (w1.alloc (.cells #[.int .u8 k,.int .u8 vk,vi,vs,vb,tt,ss,.slice A nn c] 60)):=by
  have hx:=HX.o;cases hpx:pX 5 d l with
  | none =>
    rw [show 4+1=5 from rfl,hpx] at hx;rw [hpx] at hq1;exact vx
  | some p =>
    obtain ⟨x,r⟩:=p;rw [show 4+1=5 from rfl,hpx] at hx;rw [hpx] at hq1;obtain ⟨g1,g2⟩:=hq1;refine ⟨r.length+1,_,hL2,.inr ⟨x,r,rfl,iL hpx, ?_,g2.below hb2,hx⟩⟩;refine RX.below hb2 (RX.mono (λg hg hl => ?_) g1);have h1:=vz;rw [World.size_alloc] at h1;exact vy
 have HG:=κ hgk;clear hq1 hLb hb1 hb2 hL2 HC HZ0 HB0 hgk HX;go_wp2_with fail;generalize (w1.alloc (.cells #[.int .u8 k,.int .u8 vk,vi,vs,vb,tt,ss,.slice A nn c] 60))=w2 at *;generalize w1.heap.size=G at *
 go_loopg [6,7,48,73] gk (λgk s6 _ _ _ wr=>∃ done:Bool,s6=.bool done∧LevIs 4 w G P d w l gk done wr)
 case atStart=>exact ⟨false,rfl,HG.o⟩
 case round =>
  clear HG;obtain ⟨done,rfl,⟨k,vk,vi,vs,vb,tt,ss,A,nn,c⟩,hL,hst⟩:=dd;rcases hst with ⟨rfl,hbad,hnone⟩|⟨x,r,rfl,hrl,hx,hp,hpx⟩
  ·obtain ⟨l',d',b',hb',hpb,hd1,hd2⟩:=hbad;have HE:=κ (qU (lev:=4) (l:=l) rfl hP hL (.inl ⟨⟨l',d',b',hb',hpb,hd1,hd2⟩,hnone⟩));obtain ⟨A0,c00,i0,q1, -, -⟩:=hpb;have c3:=vt;have eb:=wd;obtain ⟨⟨⟨a0,a1,a2,a3,a4,a5,a6,a7,a8,a9⟩,c0⟩,c1,z0,z1⟩:=hL.cells;obtain ⟨rz,hz⟩:=hL.z;have hcE:=wb;simp only [RC.cells] at c0 c1;clear hL q1 hb' hz HF';go_wp2;change bodyPost _ _ _ _ _ (put8 _ w ⟨k,vk,vi,vs,vb,tt,ss,A,nn,c⟩);generalize put8 _ w ⟨k,vk,vi,vs,vb,tt,ss,A,nn,c⟩=WE at *;simp only [RC.cells] at hcE;exact wa
  ·have hp':=hp;obtain ⟨A0,c00,i0,q1, -, -⟩:=hp';have c3:=vt;have HSg:=κ (aCN P d r _ hp);have HP1:=ef;have HL:=κ hL;have HX:=κ hx;have HPX:=κ hpx;clear q1 hp hL hx hpx;go_wp2_with fail;refine μ HSg ?_;rintro e w3 ⟨rfl,hb3⟩
   by_cases hA:∃ s,cP 4 r=some s∧done=false
   ·obtain ⟨s,hs,rfl⟩:=hA;obtain ⟨t,r',rfl⟩:=nM hs;have hmem:s∈bM 4:=List.mem_of_find?_eq_some hs;have hne0:=wi;have hne:=wg;have hne2:=we
    have hPX:=xe;have hup:=pH 4 s hmem;rw [hs];simp only [Option.getD_some];obtain ⟨i,n1,n2,n3,n4⟩:=xd;have hL4:=wy;have hx4:=ww;have HU:=wu;have HC:=κ (show Calls prog 85 #[P,.int .i64 5] _ _ from HF'.o (w3.setCell ⟨P,1,none⟩ (.int .i64 ((i:Int)+1))).drew r' wt n4.drew);have hGs:=wn;obtain ⟨-,c1, -, -⟩:=hL4.cells;simp only [RC.cells] at c1;have cc:=wm;simp only [γ,δ,ε] at cc;have HN4:=κ n4.drew;have HL4:=wl;have HX4:=wj;have hdn:(4==4)=true:=am
    rw [hdn] at hPX;clear hs hmem hne0 hup n4 hL4 hx4 hb3 HSg HX HPX HL HP1 c1 hdn;generalize upW s=u at *;have HPX4:=κ hPX;clear hPX;obtain ⟨d0,d1,d2,d3,d4,d5,d6,d7⟩:=cc;go_wp2_with fail
    go_region_with
     (first
      | (go_at_call 136;refine μ HU ?_;rintro e w5 ⟨rfl,rfl⟩)
      | (go_at_call 85;refine μ HC ?_;rintro e w5 hp5;obtain ⟨⟨k2,vk2,vi2,vs2,vb2,tt2,ss2,A2,nn2,c2⟩,rfl,hq5⟩:=hp5.open_;clear hp5;simp only [RC.val];have hL5:=HL4.o.but hq5.1 hP hG;have hc5:=(hL5.cells).2.1;simp only [RC.cells] at hc5;have hd2:w5.cell? ⟨G,0,none⟩=some (.int .u8 k)∧w5.cell? ⟨G,1,none⟩=some (.int .u8 vk)∧w5.cell? ⟨G,2,none⟩=some (.int .i64 vi)∧w5.cell? ⟨G,3,none⟩=some (.string vs)∧w5.cell? ⟨G,4,none⟩=some (.bool vb)∧w5.cell? ⟨G,5,none⟩=some (.string tt)∧w5.cell? ⟨G,6,none⟩=some (.string ss)∧w5.cell? ⟨G,7,none⟩=some (.slice A nn c):=⟨hc5 0,hc5 1,hc5 2,hc5 3,hc5 4,hc5 5,hc5 6,hc5 7⟩;have hL6:=hL5.far ((θ).alloc (ν _) (.cells #[.int .u8 k,.int .u8 vk,vi,vs,vb,tt,ss,.slice A nn c,.int .u8 k2,.int .u8 vk2,vi2,vs2,vb2,tt2,ss2,.slice A2 nn2 c2] 60));have hc6:=(hL6.cells).2.1;have hz6:=(hL6.cells).2.2.2;simp only [RC.cells] at hc6))
    all_goals
     have hx5:=xh;obtain ⟨gk',hgk1,hgk2⟩:=sV (done':=true) hL5 hx5 hq5 (show G<(w3.setCell ⟨P,1,none⟩ (.int .i64 ((i:Int)+1))).drew.heap.size from hGs) rfl hG hP HPX4.o wt;simp only [put8,RC.cells,rcP,List.cons_append,List.nil_append] at hgk2;have HGK:=κ hgk2;have hlr:=xf;clear hx5 hgk2 hq5 hL5 hc5 hc6 hz6 hd2 hL6;go_wp2
     go_roundg gk'
     case measure=>omega
     case rel=>exact ⟨_,rfl,HGK.o⟩
   ·obtain ⟨hA1,hA2⟩:=pO hA;have hL3:=HL.o.far hb3;have hx3:=xj;have hp3:=xi;obtain ⟨sg,hsg⟩:∃ sg,(cP 4 r).getD []=sg:=cw;rw [hsg] at hA2 |-;clear hsg;cases hi:isF wIs r
    ·have HI:=κ (bH P d 0 r ⟨#[105,115]⟩ w3 hp3 false xp);have HL3:=κ hL3;have HX3:=κ hx3;have HP3:=κ hp3;have HA1:=κ (ι hA1 hi);clear hL3 hx3 hp3 hA1 hi hrl HF';have hA3:sg=[]∨(done=true∧(sg==[])=false∧(sg != [])=true):=by
      by_cases hs:sg=[]
      ·exact .inl hs
      ·have e1:=xm;have e2:=xk
       rcases hA2 with h|h
       ·rw [e2] at h;cases h
       ·exact xo
     clear hA2;rcases hA3 with rfl|⟨rfl,e1,e2⟩
     all_goals
      go_wp2_with fail;refine μ HI ?_;rintro e w4 ⟨rfl,hd4⟩;have hL4:=xr;have hx4:=xq;have hp4:=HP3.o.drawn hd4;have HE:=κ (LevIs.end_ (lev:=4) (l:=l) rfl hP hL4 hx4 hp4 HPX.o (pM HA1.o.1 (.inr HA1.o.2)));obtain ⟨⟨⟨a0,a1,a2,a3,a4,a5,a6,a7,a8,a9⟩,c0⟩,c1,z0,z1⟩:=hL4.cells;obtain ⟨rz,hz⟩:=hL4.z;have hcE:=wb;simp only [RC.cells] at c0 c1;clear hL4 hx4 hp4 hz HSg HP1 HL HX HPX hA hb3 hd4;go_wp2;change bodyPost _ _ _ _ _ (put8 _ w ⟨k,vk,vi,vs,vb,tt,ss,A,nn,c⟩);generalize put8 _ w ⟨k,vk,vi,vs,vb,tt,ss,A,nn,c⟩=WE at *;simp only [RC.cells] at hcE;exact wa
    ·obtain ⟨t,r',rfl⟩:=pT hi;have HI:=κ (bH P d 0 (t::r') ⟨#[105,115]⟩ w3 hp3 true xp);have HPX4:=κ (HPX.o.trans (aGT (d:=d) (x:=x) hA1 hi));have HL3:=κ hL3;have HX3:=κ hx3;have HP3:=κ hp3;have hlr:=xf;have hrl2:r'.length+1<l.length:=hrl;clear hL3 hx3 hp3 hA1 hi hrl HF' HPX HSg HP1 HL HX hA;have hA3:sg=[]∨(done=true∧(sg==[])=false∧(sg != [])=true):=by
      by_cases hs:sg=[]
      ·exact .inl hs
      ·have e1:=xm;have e2:=xk
       rcases hA2 with h|h
       ·rw [e2] at h;cases h
       ·exact xo
     clear hA2;rcases hA3 with rfl|⟨rfl,e1,e2⟩
     ·go_wp2_with fail;refine μ HI ?_;rintro e w4 ⟨rfl,hd4⟩;have hL4:=xr;have hx4:=xq;obtain ⟨i,n1,n2,n3,n4⟩:=(HP3.o.drawn hd4).next;have hL5:=xx;have hx5:=xw;obtain ⟨W6,hW6,hL6,hi6,hp6,c1a,z1a⟩:=xv;obtain ⟨-,c1, -,z1⟩:=xu;simp only [RC.cells] at c1 c1a z1a;simp only [put8,rcP,RC.cells,World.size_setCell] at hW6;have HW6:=κ (ι hL6 (ι hi6 hp6));have HCh:=κ hW6;clear hL4 hx4 n4 hL5 hx5 hd4 hL6 hp6 hi6 hW6;cases hn:isF oV r'
      ·have HPs:=yb;go_wp2_with fail;rw [HCh.o];refine μ HPs ?_;rintro e w7 ⟨rfl,hb7,hp7⟩;simp only [φ,if_false] at hp7;have hL7:=ya;have hi7:=xz;clear hb7 c1 c1a z1 z1a HW6 HCh HPs;have hnl:=xy
       cases hw:isF cE r'
       ·have HNe:=ye;have HQ:=yd;have HZ:=κ (ι hL7 hi7);clear hw hnl hp7 hL7 hi7;go_wp2_with fail;refine μ HNe ?_;rintro e w9 ⟨rfl,hb9,b',hb',hp9⟩;have HGK:=yc;clear hb9 hb' hp9;go_wp2
        go_roundg 0
        case measure=>omega
        case rel=>exact ⟨_,rfl,HGK.o⟩
       ·have hpn:=hp7;have HNe:=yg;have hlt:=bD hw;have HQ:=κ (show pX 4 d l=pL 4 d (Lp.X.isn false x) done (r').tail by rw [HPX4.o];show (match fP r' with|none=>none|some (n,r)=>pL 4 d (Lp.X.isn n x) done r)=_;rw [hnl,aD,hw];rfl);have HZ:=κ (ι hL7 (ι hi7 hpn));clear hw hnl hpn hp7 hL7 hi7;go_wp2_with fail;refine μ HNe ?_;rintro e w9 ⟨rfl,hb9,hp9⟩;have HGK:=yf;clear hb9 hp9;go_wp2
        go_roundg ((r').tail.length+1)
        case measure=>omega
        case rel=>exact ⟨_,rfl,HGK.o⟩
      ·have HPs:=yk;have hlt0:=bD hn;go_wp2_with fail;rw [HCh.o];refine μ HPs ?_;rintro e w7 ⟨rfl,hb7,hp7⟩;simp only [if_true] at hp7;have hL7:=ya;have hi7:=xz;have hL8:=hL7.not hG (ν _);have hi8:=yj;have hp8:=yi;obtain ⟨-,d1, -,y1⟩:=hL7.cells;simp only [RC.cells,rcP] at d1;clear hb7 c1 c1a z1 z1a HW6 HCh HPs hL7 hi7 hp7;have hnl:=yh
       cases hw:isF cE r'.tail
       ·have HNe:=yl;have HQ:=yd;have HZ:=κ (ι hL8 hi8);clear hw hnl hp8 hL8 hi8;go_wp2_with fail;refine μ HNe ?_;rintro e w9 ⟨rfl,hb9,b',hb',hp9⟩;have HGK:=yc;clear hb9 hb' hp9;go_wp2
        go_roundg 0
        case measure=>omega
        case rel=>exact ⟨_,rfl,HGK.o⟩
       ·have hpn:=hp8;have HNe:=ym;have hlt:=bD hw;have HQ:=κ (show pX 4 d l=pL 4 d (Lp.X.isn true x) done (r'.tail).tail by rw [HPX4.o];show (match fP r' with|none=>none|some (n,r)=>pL 4 d (Lp.X.isn n x) done r)=_;rw [hnl,aD,hw];rfl);have HZ:=κ (ι hL8 (ι hi8 hpn));clear hw hnl hpn hp8 hL8 hi8;go_wp2_with fail;refine μ HNe ?_;rintro e w9 ⟨rfl,hb9,hp9⟩;have HGK:=yf;clear hb9 hp9;go_wp2
        go_roundg ((r'.tail).tail.length+1)
        case measure=>omega
        case rel=>exact ⟨_,rfl,HGK.o⟩
     ·go_wp2_with fail;refine μ HI ?_;rintro e w4 ⟨rfl,hd4⟩;have hL4:=xr;have hx4:=xq;obtain ⟨i,n1,n2,n3,n4⟩:=(HP3.o.drawn hd4).next;have hL5:=xx;have hx5:=xw;obtain ⟨W6,hW6,hL6,hi6,hp6,c1a,z1a⟩:=xv;obtain ⟨-,c1, -,z1⟩:=xu;simp only [RC.cells] at c1 c1a z1a;simp only [put8,rcP,RC.cells,World.size_setCell] at hW6;have HW6:=κ (ι hL6 (ι hi6 hp6));have HCh:=κ hW6;clear hL4 hx4 n4 hL5 hx5 hd4 hL6 hp6 hi6 hW6;cases hn:isF oV r'
      ·have HPs:=yb;go_wp2_with fail;rw [HCh.o];refine μ HPs ?_;rintro e w7 ⟨rfl,hb7,hp7⟩;simp only [φ,if_false] at hp7;have hL7:=ya;have hi7:=xz;clear hb7 c1 c1a z1 z1a HW6 HCh HPs;have hnl:=xy
       cases hw:isF cE r'
       ·have HNe:=ye;have HQ:=yo;have HZ:=κ (ι hL7 hi7);clear hw hnl hp7 hL7 hi7;go_wp2_with fail;refine μ HNe ?_;rintro e w9 ⟨rfl,hb9,b',hb',hp9⟩;have HGK:=yn;clear hb9 hb' hp9;go_wp2
        go_roundg 0
        case measure=>omega
        case rel=>exact ⟨_,rfl,HGK.o⟩
       ·have hpn:=hp7;have HNe:=yg;have hlt:=bD hw;have HQ:=κ (show pX 4 d l=pL 4 d (Lp.X.isn false x) true (r').tail by rw [HPX4.o];show (match fP r' with|none=>none|some (n,r)=>pL 4 d (Lp.X.isn n x) true r)=_;rw [hnl,aD,hw];rfl);have HZ:=κ (ι hL7 (ι hi7 hpn));clear hw hnl hpn hp7 hL7 hi7;go_wp2_with fail;refine μ HNe ?_;rintro e w9 ⟨rfl,hb9,hp9⟩;have HGK:=yp;clear hb9 hp9;go_wp2
        go_roundg ((r').tail.length+1)
        case measure=>omega
        case rel=>exact ⟨_,rfl,HGK.o⟩
      ·have HPs:=yk;have hlt0:=bD hn;go_wp2_with fail;rw [HCh.o];refine μ HPs ?_;rintro e w7 ⟨rfl,hb7,hp7⟩;simp only [if_true] at hp7;have hL7:=ya;have hi7:=xz;have hL8:=hL7.not hG (ν _);have hi8:=yj;have hp8:=yi;obtain ⟨-,d1, -,y1⟩:=hL7.cells;simp only [RC.cells,rcP] at d1;clear hb7 c1 c1a z1 z1a HW6 HCh HPs hL7 hi7 hp7;have hnl:=yh
       cases hw:isF cE r'.tail
       ·have HNe:=yl;have HQ:=yo;have HZ:=κ (ι hL8 hi8);clear hw hnl hp8 hL8 hi8;go_wp2_with fail;refine μ HNe ?_;rintro e w9 ⟨rfl,hb9,b',hb',hp9⟩;have HGK:=yn;clear hb9 hb' hp9;go_wp2
        go_roundg 0
        case measure=>omega
        case rel=>exact ⟨_,rfl,HGK.o⟩
       ·have hpn:=hp8;have HNe:=ym;have hlt:=bD hw;have HQ:=κ (show pX 4 d l=pL 4 d (Lp.X.isn true x) true (r'.tail).tail by rw [HPX4.o];show (match fP r' with|none=>none|some (n,r)=>pL 4 d (Lp.X.isn n x) true r)=_;rw [hnl,aD,hw];rfl);have HZ:=κ (ι hL8 (ι hi8 hpn));clear hw hnl hpn hp8 hL8 hi8;go_wp2_with fail;refine μ HNe ?_;rintro e w9 ⟨rfl,hb9,hp9⟩;have HGK:=yp;clear hb9 hp9;go_wp2
        go_roundg ((r'.tail).tail.length+1)
        case measure=>omega
        case rel=>exact ⟨_,rfl,HGK.o⟩
theorem Ex {w2:World} {q:Option (Lp.X×ZW)} {e:Ending} (h:RPost P w2 d q e w') (hb:But P w w2) (h1:w<w2.heap.size) (hP:P<w) (hz:∃ r0:RC,w2.heap[w.heap.size]? = some (.cells r0.cells.toArray 60 (0,0))) :
 ∃ r:RC,e=.returned r.val∧RPost P w d q (.returned r.val) (put8 w' w r)∧(∃ r0:RC,∀ j,w'.cell? ⟨w.heap.size,j,none⟩=r0.cells.toArray[j]?)∧(∀ j,w'.frozen? ⟨w.heap.size,j,none⟩=false)∧(∀ j,(put8 w' w r).cell? ⟨w.heap.size,j,none⟩=r.cells.toArray[j]?):=by
 obtain ⟨r,he,hq⟩:=h.open_;obtain ⟨r0,hz⟩:=hz;have hz':=aL hq.1 hz ac;exact ⟨r,he,hq.wrap hb h1 hP,⟨r0,β hz'⟩,λj=>frozen_of_row w' _ j _ _ hz',β (aK r hz')⟩
theorem zE {l:ZW} (h:RS w P l d 0):w.cell? ⟨P,3,none⟩=some (.int .i64 0):=by
 obtain ⟨A0,c00,i0,q1, -, -⟩:=h;exact vt
theorem aIY (P d n:Nat) (hd:d≤40) (HF:RvOk 4 P d n) (HN:d+1≤40->∀ m,m<n->RvOk 3 P (d+1) m):RvOk 3 P d n:=by
 intro w l hl h;have hP:=mv;have hb0:=vw;have h0:=vv;have c3:=zE h0;have hz0:=vu;have hsz:=yq;show Calls prog 85 #[P,.int .i64 3] w _;cases hf:isF oV l
 ·have HI:=κ (bH P d 0 l ⟨#[110,111,116]⟩ _ h0 false yw);have HC:=κ (λW (hp:RS W P l d 0)=>(show Calls prog 85 #[P,.int .i64 4] W _ from HF W l hl hp));have HQ:=κ (Bn (d:=d) hf);have H0:=yv;simp only [RC.cells,rcZ] at c3;clear h h0 hb0 hz0 hsz hf HF HN;go_enter func85,ntmps85;go_wp2_with fail;refine μ HI ?_;rintro e w1 ⟨rfl,hd1⟩;have HC1:=yu;have HD:=κ hd1;clear hd1 c3 HC;go_wp2_with fail;refine μ HC1 ?_;rintro e w2 hq;rw [<-HQ.o] at hq;obtain ⟨⟨k,vk,vi,vs,vb,tt,ss,A,nn,c⟩,rfl,hr,⟨⟨a0,a1,a2,a3,a4,a5,a6,a7,a8,a9⟩,c0⟩,z0,hcE⟩:=yt;simp only [RC.val];have HR:=κ hr;simp only [RC.cells] at c0;clear hq hr HC1;go_wp2;change bodyPost _ _ _ _ _ (put8 _ w ⟨k,vk,vi,vs,vb,tt,ss,A,nn,c⟩);generalize put8 _ w ⟨k,vk,vi,vs,vb,tt,ss,A,nn,c⟩=WE at *;simp only [RC.cells] at hcE;exact yr
 ·have HI:=κ (bH P d 0 l ⟨#[110,111,116]⟩ _ h0 true yw);have HQ:=κ (xL (d:=d) hf);obtain ⟨t,r,rfl⟩:=pT hf;have HC:=κ (λW (hp:RS W P (t::r) d 0)=>(show Calls prog 133 #[P,.int .i64 3,.string ⟨#[78,79,84]⟩] W (RPost P W d (pX 3 d (t::r))) from by
   rw [HQ.o]
   by_cases h40:d+1≤40
   ·rw [if_pos h40];exact Cj 3 fG P d t r W hp hp.lt h40 (HN h40 r.length ot)
   ·rw [if_neg h40];exact Jh 3 fG P d (t::r) W hp hp.lt ac ac))
  have H0:=yv;simp only [RC.cells,rcZ] at c3;clear h h0 hb0 hz0 hsz hf HF HN;go_enter func85,ntmps85;go_wp2_with fail;refine μ HI ?_;rintro e w1 ⟨rfl,hd1⟩;have HC1:=yu;have HD:=κ hd1;clear hd1 c3 HC;go_wp2_with fail;refine μ HC1 ?_;rintro e w2 hq;obtain ⟨⟨k,vk,vi,vs,vb,tt,ss,A,nn,c⟩,rfl,hr,⟨⟨a0,a1,a2,a3,a4,a5,a6,a7,a8,a9⟩,c0⟩,z0,hcE⟩:=yt;simp only [RC.val];have HR:=κ hr;simp only [RC.cells] at c0;clear hq hr HC1;go_wp2;change bodyPost _ _ _ _ _ (put8 _ w ⟨k,vk,vi,vs,vb,tt,ss,A,nn,c⟩);generalize put8 _ w ⟨k,vk,vi,vs,vb,tt,ss,A,nn,c⟩=WE at *;simp only [RC.cells] at hcE;exact yr
theorem aIU (P d n:Nat) (hd:d≤40) (HF:RvOk 8 P d n) (HN:d+1≤40->∀ m,m<n->RvOk 7 P (d+1) m):RvOk 7 P d n:=by
 intro w l hl h;have hP:=mv;have hb0:=vw;have h0:=vv;have c3:=zE h0;have hz0:=vu;have hsz:=yq;show Calls prog 85 #[P,.int .i64 7] w _;cases hf:isF [45] l
 ·have HI:=κ (bH P d 0 l ⟨#[45]⟩ _ h0 false yx);have HC:=κ (λW (hp:RS W P l d 0)=>(show Calls prog 85 #[P,.int .i64 8] W _ from HF W l hl hp));have HQ:=κ (Bo (d:=d) hf);have H0:=yv;simp only [RC.cells,rcZ] at c3;clear h h0 hb0 hz0 hsz hf HF HN;go_enter func85,ntmps85;go_wp2_with fail;refine μ HI ?_;rintro e w1 ⟨rfl,hd1⟩;have HC1:=yu;have HD:=κ hd1;clear hd1 c3 HC;go_wp2_with fail;refine μ HC1 ?_;rintro e w2 hq;rw [<-HQ.o] at hq;obtain ⟨⟨k,vk,vi,vs,vb,tt,ss,A,nn,c⟩,rfl,hr,⟨⟨a0,a1,a2,a3,a4,a5,a6,a7,a8,a9⟩,c0⟩,z0,hcE⟩:=yt;simp only [RC.val];have HR:=κ hr;simp only [RC.cells] at c0;clear hq hr HC1;go_wp2;change bodyPost _ _ _ _ _ (put8 _ w ⟨k,vk,vi,vs,vb,tt,ss,A,nn,c⟩);generalize put8 _ w ⟨k,vk,vi,vs,vb,tt,ss,A,nn,c⟩=WE at *;simp only [RC.cells] at hcE;exact yr
 ·have HI:=κ (bH P d 0 l ⟨#[45]⟩ _ h0 true yx);have HQ:=κ (xN (d:=d) hf);obtain ⟨t,r,rfl⟩:=pT hf;have HC:=κ (λW (hp:RS W P (t::r) d 0)=>(show Calls prog 133 #[P,.int .i64 7,.string ⟨#[45]⟩] W (RPost P W d (pX 7 d (t::r))) from by
   rw [HQ.o]
   by_cases h40:d+1≤40
   ·rw [if_pos h40];exact Cj 7 [45] P d t r W hp hp.lt h40 (HN h40 r.length ot)
   ·rw [if_neg h40];exact Jh 7 [45] P d (t::r) W hp hp.lt ac ac))
  have H0:=yv;simp only [RC.cells,rcZ] at c3;clear h h0 hb0 hz0 hsz hf HF HN;go_enter func85,ntmps85;go_wp2_with fail;refine μ HI ?_;rintro e w1 ⟨rfl,hd1⟩;have HC1:=yu;have HD:=κ hd1;clear hd1 c3 HC;go_wp2_with fail;refine μ HC1 ?_;rintro e w2 hq;obtain ⟨⟨k,vk,vi,vs,vb,tt,ss,A,nn,c⟩,rfl,hr,⟨⟨a0,a1,a2,a3,a4,a5,a6,a7,a8,a9⟩,c0⟩,z0,hcE⟩:=yt;simp only [RC.val];have HR:=κ hr;simp only [RC.cells] at c0;clear hq hr HC1;go_wp2;change bodyPost _ _ _ _ _ (put8 _ w ⟨k,vk,vi,vs,vb,tt,ss,A,nn,c⟩);generalize put8 _ w ⟨k,vk,vi,vs,vb,tt,ss,A,nn,c⟩=WE at *;simp only [RC.cells] at hcE;exact yr
theorem aIT (P d n:Nat) (HA:∀ (W:World) (l:ZW),l.length≤n->RS W P l d 0->Calls prog 134 #[P] W (RPost P W d (pX 8 d l))):RvOk 8 P d n:=by
 intro w l hl h;have hP:=mv;have hb0:=vw;have h0:=vv;have c3:=zE h0;have hz0:=vu;have hsz:=yq;show Calls prog 85 #[P,.int .i64 8] w _;have HC:=κ (HA _ l hl h0);have H0:=yv;simp only [RC.cells,rcZ] at c3;clear h h0 hb0 hz0 hsz HA;go_enter func85,ntmps85;go_wp2_with fail;refine μ HC ?_;rintro e w2 hq;obtain ⟨⟨k,vk,vi,vs,vb,tt,ss,A,nn,c⟩,rfl,hr,⟨⟨a0,a1,a2,a3,a4,a5,a6,a7,a8,a9⟩,c0⟩,z0,hcE⟩:=Ex hq (But.of H0.o.2.1) (by have:=H0.o.2.2.2;omega) hP ⟨rcZ,H0.o.2.2.1⟩;simp only [RC.val];have HR:=κ hr;simp only [RC.cells] at c0;clear hq hr HC c3;go_wp2;change bodyPost _ _ _ _ _ (put8 _ w ⟨k,vk,vi,vs,vb,tt,ss,A,nn,c⟩);generalize put8 _ w ⟨k,vk,vi,vs,vb,tt,ss,A,nn,c⟩=WE at *;simp only [RC.cells] at hcE;exact yr
structure AtSt (B P:Nat) (w0 w:World) (t:Tok):Prop where
 b:But P w0 w
 z:∃ r0:RC,w.heap[B]? = some (.cells r0.cells.toArray 60 (0,0))
 x:w.heap[B+1]? = some (.cells #[.int .u8 t.k,t.s,.int .i64 t.n] 173 (0,0))
theorem AtSt.but {t:Tok} (h:AtSt B P w0 w t) (hb:But P w w') (hP:P<B):AtSt B P w0 w' t:=by
 obtain ⟨h1,⟨r0,h2⟩,h3⟩:=h;exact vh
theorem AtSt.cells {B P:Nat} {w0 w:World} {t:Tok} (h:AtSt B P w0 w t):(∃ r0:RC,∀ j,w.cell? ⟨B,j,none⟩=r0.cells.toArray[j]?)∧(∀ j,w.frozen? ⟨B,j,none⟩=false)∧w.cell? ⟨B+1,0,none⟩=some (.int .u8 t.k)∧w.cell? ⟨B+1,1,none⟩=some (.string t.s)∧w.cell? ⟨B+1,2,none⟩=some (.int .i64 t.n):=by
 obtain ⟨h1,⟨r0,h2⟩,h3⟩:=h;exact ⟨⟨r0,β h2⟩,λj=>frozen_of_row w _ j _ _ h2,by have:=β h3 0;simpa using this,by have:=β h3 1;simpa using this,by have:=β h3 2;simpa using this⟩
theorem gU (t:Tok) {w1:World} (hb:Below w w w1) (hz:w1.heap[w.heap.size]? = some (.cells rcZ.cells.toArray 60 (0,0))) (hs:w1.heap.size=w.heap.size+1) (m:Nat) :
 AtSt w P w ((w1.drewN m).alloc (.cells #[.int .u8 t.k,t.s,.int .i64 t.n] 173)) t:=by
 refine ⟨((But.of hb).trans (Drawn.but (w':=w1.drewN m) ⟨m,rfl⟩)).trans (But.alloc P _ _),⟨rcZ,aB (show (w1.drewN m).heap[w.heap.size]? = _ from hz) _⟩, ?_⟩;have:=heap_alloc_new (w1.drewN m) (.cells #[.int .u8 t.k,t.s,.int .i64 t.n] 173);rwa [show (w1.drewN m).heap.size=w.heap.size+1 from hs] at this
theorem dC {q:Option (Lp.X×ZW)} (rc:RC) (hb0:But P w0 w) (hB:w0.heap.size=B) (hP:P<B) (hb:RBad P w d) (hq:q=none):RPost P w0 d q (.returned rc.val) (put8 w B rc) :=
 RPost.no rc hq (hH hb0 ac) (hb.put8 hP)
theorem fI {q:Option (Lp.X×ZW)} {S:Nat->Prop} (rc:RC) {l':ZW} (hb0:But P w0 w) (hB:w0.heap.size=B) (hP:P<B) (hS:∀ k,S k->B<k) (hx:RX S w x rc) (hp:RS w P l' d 0) (hq:q=some (x,l')):RPost P w0 d q (.returned rc.val) (put8 w B rc) :=
 RPost.yes rc hq (hH hb0 ac) (RX.mono (λg hg _=>by have:=hS g hg;show _≤g;omega) (lI (λk hk=>by have:=hS k hk;omega) hx)) (mQ hp hP)
theorem nU (lev:Int) (P d:Nat) (w:World) (h:RBad P w d) :
 Calls prog 85 #[P,.int .i64 lev] w λe w'=>e=.returned rcZ.val∧But P w w'∧RBad P w' d:=by
 have hb0:=vw;have hz0:=vu;have hP:P<w:=by obtain ⟨l',d',b', -,hp, -⟩:=h;exact hp.lt
 have h0:=vv;have hE:=κ (ι (But.of (P:=P) hb0) h0);obtain ⟨l',d',b',hb',⟨A0,c00,i0,q1, -, -⟩, -⟩:=h0;have c3:=vt;have eb:=wd;have eb2:=yy
 have c0:=sw;have z0:=λj=>frozen_of_row _ _ j _ _ hz0;simp only [RC.cells,rcZ] at c0 c3 z0;clear h hb0 hz0 q1 hb';go_enter func85,ntmps85;go_wp2;exact bodyPost_ret (v:=rcZ.val) (by simp [results,results85,go_sem,c0,RC.val,rcZ]) rfl ⟨rfl,hE.o⟩
theorem gL (s:ByteArray) (P d:Nat) (w:World) (h:RBad P w d) :
 Calls prog 81 #[P,s] w λe w'=>e=.returned (.tuple #[])∧But P w w'∧RBad P w' d:=by
 obtain ⟨l',d',b',hb',hp,h1,h2⟩:=h;refine (dV P d' b' l' s w hp (by simp [hb'])).mono ?_;rintro e w' ⟨rfl,hb,b2,hb2,hp2⟩;exact ⟨rfl,hb,l',d',b2,hb2,hp2,h1,h2⟩
theorem xK (s:ByteArray) (P d:Nat) (w:World) (h:RBad P w d) :
 Calls prog 34 #[P,s] w λe w'=>e=.returned (.bool false)∧But P w w'∧RBad P w' d:=by
 obtain ⟨l',d',b',hb',hp,h1,h2⟩:=h;refine (aH P d' b' l' s w hp false (by simp [hb'])).mono ?_;rintro e w' ⟨rfl,hb,hp2⟩;exact ⟨rfl,hb,l',d',b',hb',hp2,h1,h2⟩
theorem Qj (P d:Nat) (w:World) (h:RS w P [] d 0) (hd:d≤100) :
 Calls prog 134 #[P] w (RPost P w d none):=by
 have hP:=mv;have hb0:=vw;have hz0:=vu;have H0:=yz;have H:=ul;obtain ⟨A,c,i,h1, -, -⟩:=vv;have hc0:=cq;have hc1:=ee;have hI:((i+([]:ZW).length:Nat):Int)≤(i:Int):=aa
 obtain ⟨n,hn⟩:∃ n,i+([]:ZW).length=n:=cw;rw [hn] at hc0 hI;simp only [RC.cells,rcZ] at hc0 hc1;clear h hb0 hz0 h1 hn;go_enter func134,ntmps134;go_wp2_with fail;go_quiet (fail);go_wp2_with fail;refine (H.o _ (H0.o.1.drawn ⟨nq,rfl⟩)).mono ?_;rintro e w1 ⟨rfl,hb1,hp1⟩;have hB1:=((But.of H0.o.2.1).trans (Drawn.but (P:=P) ⟨nq,rfl⟩)).trans hb1;have hz1:w1.heap[w.heap.size]? = some (.cells rcZ.cells.toArray 60 (0,0)):=aL hb1 (show ((w.alloc (.cells rcZ.cells.toArray 60)).drewN nq).heap[w.heap.size]? = _ from H0.o.2.2) ac;have HE:=κ (dC rcZ hB1 rfl hP (eE hp1 (jN am) ac) rfl);have c0:=β hz1;have z0:=λj=>frozen_of_row _ _ j _ _ hz1;have hcE:=β (aK rcZ hz1);simp only [RC.cells,rcZ] at c0 z0;clear hb1 hp1 hB1 hz1 H H0 hc0 hc1;go_wp2;change bodyPost _ _ _ _ _ (put8 w1 w rcZ);generalize put8 w1 w rcZ=WE at *;simp only [RC.cells,rcZ] at hcE;exact bodyPost_ret (v:=rcZ.val) za rfl HE.o
theorem fD {W:World} (n:Nat) (o:Obj) {a0 a1 a2 a3 a4:Addr} {x0 x1 x2 x3 x4:Value} (h0:W.cell? a0=some x0) (h1:W.cell? a1=some x1) (h2:W.cell? a2=some x2) (h3:W.cell? a3=some x3) (h4:W.cell? a4=some x4) :
 ((W.drewN n).alloc o).cell? a0=some x0∧((W.drewN n).alloc o).cell? a1=some x1∧((W.drewN n).alloc o).cell? a2=some x2∧((W.drewN n).alloc o).cell? a3=some x3∧((W.drewN n).alloc o).cell? a4=some x4:=by
 have hb:Below (W.drewN n) (W.drewN n) ((W.drewN n).alloc o):=ρ;exact ⟨cN (show (W.drewN n).cell? a0=_ from h0) hb,cN (show (W.drewN n).cell? a1=_ from h1) hb,cN (show (W.drewN n).cell? a2=_ from h2) hb,cN (show (W.drewN n).cell? a3=_ from h3) hb,cN (show (W.drewN n).cell? a4=_ from h4) hb⟩
theorem Qi (P d:Nat) (t:Tok) (r:ZW) (w:World) (h:RS w P (t::r) d 0) (hk:t.k=2) :
 Calls prog 134 #[P] w (RPost P w d (pX 8 d (t::r))):=by
 have hq:pX 8 d (t::r)=some ((.lit 1 t.n [] false),r):=by rw [dD,eF,if_pos hk]
 have HQ:=mi;have e1:=nl
 clear hk hq;have hP:=mv;have hb0:=vw;have hz0:=vu;have H0:=yz;obtain ⟨A,c,i,h1,h2,h3⟩:=vv;have hc0:=cq;have hc1:=ee;obtain ⟨b,off,rfl,hlt,k0,k1,k2⟩:=ue;obtain ⟨n,hn⟩:∃ n,i+(t::r).length=n:=cw;rw [hn] at hc0;have hin:=ud
 have hinN:=uf
 have hin0:=ug
 have hlt2:=uo
 have hltN:=uq
 simp only [RC.cells,rcZ] at hc0 hc1 k0 k1 k2;clear h hb0 hz0 h1 h2 h3 hn;go_enter func134,ntmps134;go_wp2_with fail;go_quiet (fail);go_wp2_with fail;obtain ⟨k0a,k1a,k2a,h0a,h1a⟩:=zb
 go_region
 have hA0:=zk;have hp0:=zj;simp only [RC.cells,rcZ] at hA0 hp0;have HA:=zh;have HP:=zg;clear hA0 hp0 k0a k1a k2a h0a h1a hc0 hc1 k0 k1 k2 H0 hin hinN hin0 hlt2 hltN;generalize ((w.alloc (.cells #[.int .u8 0,.int .u8 0,.int .i64 0,(),false,(),(),.slice none 0 0] 60)).drewN (nq+1)).alloc (.cells #[.int .u8 t.k,t.s,.int .i64 t.n] 173)=v0 at *;obtain ⟨j,n1,n2,n3,n4⟩:=HP.o.next;have hA1:=zf;obtain ⟨⟨⟨a0,a1,a2,a3,a4,a5,a6,a7,a8,a9⟩,c0⟩,z0,t0,t1,t2⟩:=hA1.cells;have tk:=ze;obtain ⟨rz,hz⟩:=hA1.z;have hcE:=β (aK (rcL 1 t.n [] false) hz);have HE:=κ (fI (rcL 1 t.n [] false) hA1.b rfl hP (S:=λg=>w.heap.size<g) (λ_ h=>h) (show RX _ _ (.lit 1 t.n [] false) (rcL 1 t.n [] false) from rfl) n4 HQ.o);simp only [RC.cells] at c0;clear hA1 hz n4 HA HP HQ;go_wp2;change bodyPost _ _ _ _ _ (put8 _ w (rcL 1 t.n [] false));generalize put8 _ w (rcL 1 t.n [] false)=WE at *;simp only [RC.cells,rcL] at hcE;exact bodyPost_ret (v:=RC.val (rcL 1 t.n [] false)) zd rfl HE.o
theorem Qh (P d:Nat) (t:Tok) (r:ZW) (w:World) (h:RS w P (t::r) d 0) (hk:t.k=3) :
 Calls prog 134 #[P] w (RPost P w d (pX 8 d (t::r))):=by
 have hq:pX 8 d (t::r)=some ((.lit 2 0 t.s false),r):=by rw [dD,eF,if_neg ac,if_pos hk]
 have HQ:=mi;have e1:=np
 have e2:(t.k==3)=true:=nr
 clear hk hq;have hP:=mv;have hb0:=vw;have hz0:=vu;have H0:=yz;obtain ⟨A,c,i,h1,h2,h3⟩:=vv;have hc0:=cq;have hc1:=ee;obtain ⟨b,off,rfl,hlt,k0,k1,k2⟩:=ue;obtain ⟨n,hn⟩:∃ n,i+(t::r).length=n:=cw;rw [hn] at hc0;have hin:=ud
 have hinN:=uf
 have hin0:=ug
 have hlt2:=uo
 have hltN:=uq
 simp only [RC.cells,rcZ] at hc0 hc1 k0 k1 k2;clear h hb0 hz0 h1 h2 h3 hn;go_enter func134,ntmps134;go_wp2_with fail;go_quiet (fail);go_wp2_with fail;obtain ⟨k0a,k1a,k2a,h0a,h1a⟩:=zb
 go_region
 have hA0:=zk;have hp0:=zj;simp only [RC.cells,rcZ] at hA0 hp0;have HA:=zh;have HP:=zg;clear hA0 hp0 k0a k1a k2a h0a h1a hc0 hc1 k0 k1 k2 H0 hin hinN hin0 hlt2 hltN;generalize ((w.alloc (.cells #[.int .u8 0,.int .u8 0,.int .i64 0,(),false,(),(),.slice none 0 0] 60)).drewN (nq+1)).alloc (.cells #[.int .u8 t.k,t.s,.int .i64 t.n] 173)=v0 at *;obtain ⟨j,n1,n2,n3,n4⟩:=HP.o.next;have hA1:=zf;obtain ⟨⟨⟨a0,a1,a2,a3,a4,a5,a6,a7,a8,a9⟩,c0⟩,z0,t0,t1,t2⟩:=hA1.cells;have tk:=ze;obtain ⟨rz,hz⟩:=hA1.z;have hcE:=β (aK (rcL 2 0 t.s false) hz);have HE:=κ (fI (rcL 2 0 t.s false) hA1.b rfl hP (S:=λg=>w.heap.size<g) (λ_ h=>h) (show RX _ _ (.lit 2 0 t.s false) (rcL 2 0 t.s false) from rfl) n4 HQ.o);simp only [RC.cells] at c0;clear hA1 hz n4 HA HP HQ;go_wp2;change bodyPost _ _ _ _ _ (put8 _ w (rcL 2 0 t.s false));generalize put8 _ w (rcL 2 0 t.s false)=WE at *;simp only [RC.cells,rcL] at hcE;exact bodyPost_ret (v:=RC.val (rcL 2 0 t.s false)) zd rfl HE.o
