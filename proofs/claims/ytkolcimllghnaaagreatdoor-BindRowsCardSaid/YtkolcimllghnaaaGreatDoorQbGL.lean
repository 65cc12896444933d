/-
 Contracts. Conditions: those of each.
-/
import Derived.Test.YtkolcimllghnaaaGreatDoorQbGK
set_option maxRecDepth 100000
set_option maxHeartbeats 8000000
namespace Go.Proofs.YtkolcimllghnaaaGreatDoor
open Lp Go.Proofs.Tryz
open Go.RowKit
theorem Gt {B G P d:Nat} {w0 W4:World} {rc:RC} {x:Lp.X} {r':List Tok} (hL5:Lev B G P w0 W4 rc) (hx5:RX (Sx B G) W4 x rc) (n4:RS W4 P r' d 0) (hP:P<B) (hG:B<G) (hB:w0.heap.size=B) :
 ∃ W6,put8 (W4.alloc (.cells rc.cells.toArray 60)) G (rcP 5 [] W4.heap.size 1)=W6∧Lev B G P w0 W6 (rcP 5 [] W4.heap.size 1)∧RX (Sx B G) W6 (.isn false x) (rcP 5 [] W4.heap.size 1)∧RS W6 P r' d 0 ∧
  (∀ j,(W4.alloc (.cells rc.cells.toArray 60)).cell? ⟨G,j,none⟩=rc.cells.toArray[j]?)∧(∀ j,(W4.alloc (.cells rc.cells.toArray 60)).frozen? ⟨G,j,none⟩=false):=by
 have hb5:Below W4.heap.size W4 (W4.alloc (.cells rc.cells.toArray 60)):=ρ
 have hL5a:=hL5.far hb5
 have hGs:G<W4.heap.size:=aL hL5.x
 have hx6:=jP (r:=rcP 5 [] W4.heap.size 1) (fun k (hk:Sx B G k)=>hk.2) (RX.below hb5 hx5)
 have hn:(put8 (W4.alloc (.cells rc.cells.toArray 60)) G (rcP 5 [] W4.heap.size 1)).heap[W4.heap.size]? = some (.cells rc.cells.toArray 60 (0,0)):=by
  rw [jC (by omega)]
  exact heap_alloc_new W4 _
 exact ⟨_,rfl,hL5a.put hG (by omega) _,⟨W4.heap.size,rc,rfl,⟨by omega,by omega⟩,hn,hx6⟩,kU (n4.below hb5) (by omega),hL5a.cells.2.1,hL5a.cells.2.2.2⟩
theorem Zi (P d n:Nat) (hd:d≤100000) (HF:RvOk 5 P d n):RvOk 4 P d n:=by
 intro w l hl h
 have hP:=h.lt
 have hb0:Below w.heap.size w (w.alloc (.cells rcZ.cells.toArray 60)):=ρ
 have h0:=h.below hb0
 have hz0:=heap_alloc_new w (.cells rcZ.cells.toArray 60)
 obtain ⟨A0,c00,i0,q1, -, -⟩:=h0
 have c3:=β q1 3
 simp only [RC.cells,rcZ] at c3
 show Calls prog 85 #[.pointer (some ⟨P,0,none⟩),.int .i64 4] w _
 have HC:=κ (show Calls prog 85 #[.pointer (some ⟨P,0,none⟩),.int .i64 5] _ _ from HF _ l hl (h.below hb0))
 have HX:=κ (@oP 4 d l (by decide) (by decide))
 have HF':=κ HF
 have HZ0:=κ hz0
 have HB0:=κ hb0
 clear h q1 hz0 hb0 HF
 go_enter func85,ntmps85
 go_wp2_with fail
 refine μ HC ?_
 rintro e w1 hp1
 obtain ⟨⟨k,vk,vi,vs,vb,tt,ss,A,nn,c⟩,rfl,hb1,hq1⟩:=hp1.open_
 simp only [RC.val]
 clear hp1 c3
 have hLb:But P w w1:=(But.of HB0.out).trans hb1
 have hb2:Below w1.heap.size w1 (w1.alloc (.cells #[.int .u8 k,.int .u8 vk,.int .i64 vi,.string vs,.bool vb,.string tt,.string ss,.slice A nn c] 60)):=ρ
 have hG:w.heap.size<w1.heap.size:=by have:=hb1.size;simp at this;omega
 have hL2:Lev w.heap.size w1.heap.size P w (w1.alloc (.cells #[.int .u8 k,.int .u8 vk,.int .i64 vi,.string vs,.bool vb,.string tt,.string ss,.slice A nn c] 60)) ⟨k,vk,vi,vs,vb,tt,ss,A,nn,c⟩ :=
  ⟨hLb.trans (But.of hb2),⟨rcZ,aA (aO hb1 HZ0.out (by omega)) hb2⟩,heap_alloc_new w1 _⟩
 obtain ⟨gk,hgk⟩:∃ gk,LevIs 4 w.heap.size w1.heap.size P d w l gk false (w1.alloc (.cells #[.int .u8 k,.int .u8 vk,.int .i64 vi,.string vs,.bool vb,.string tt,.string ss,.slice A nn c] 60)):=by
  have hx:=HX.out
  cases hpx:pX 5 d l with
  | none =>
    rw [show 4+1=5 from rfl,hpx] at hx
    rw [hpx] at hq1
    exact ⟨0,_,hL2,.inl ⟨rfl,RBad.below hq1 hb2,hx⟩⟩
  | some p =>
    obtain ⟨x,r⟩:=p
    rw [show 4+1=5 from rfl,hpx] at hx
    rw [hpx] at hq1
    obtain ⟨g1,g2⟩:=hq1
    refine ⟨r.length+1,_,hL2,.inr ⟨x,r,rfl,fT hpx, ?_,g2.below hb2,hx⟩⟩
    refine RX.below hb2 (RX.mono (fun g hg hl => ?_) g1)
    have h1:(w.alloc (.cells rcZ.cells.toArray 60)).heap.size≤g:=hg
    rw [World.size_alloc] at h1
    exact ⟨by omega,by omega⟩
 have HG:=κ hgk
 clear hq1 hLb hb1 hb2 hL2 HC HZ0 HB0 hgk HX
 go_wp2_with fail
 generalize (w1.alloc (.cells #[.int .u8 k,.int .u8 vk,.int .i64 vi,.string vs,.bool vb,.string tt,.string ss,.slice A nn c] 60))=w2 at *
 generalize w1.heap.size=G at *
 go_loopg [6,7,48,73] gk (fun gk s6 _ _ _ wr=>∃ done:Bool,s6=.bool done∧LevIs 4 w.heap.size G P d w l gk done wr)
 case atStart=>exact ⟨false,rfl,HG.out⟩
 case round =>
  clear HG
  obtain ⟨done,rfl,⟨k,vk,vi,vs,vb,tt,ss,A,nn,c⟩,hL,hst⟩:=hrel
  rcases hst with ⟨rfl,hbad,hnone⟩|⟨x,r,rfl,hrl,hx,hp,hpx⟩
  ·obtain ⟨l',d',b',hb',hpb,hd1,hd2⟩:=hbad
   have HE:=κ (nX (lev:=4) (l:=l) rfl hP hL (.inl ⟨⟨l',d',b',hb',hpb,hd1,hd2⟩,hnone⟩))
   obtain ⟨A0,c00,i0,q1, -, -⟩:=hpb
   have c3:=β q1 3
   have eb:(b'==0)=false:=η hb'
   obtain ⟨⟨⟨a0,a1,a2,a3,a4,a5,a6,a7,a8,a9⟩,c0⟩,c1,z0,z1⟩:=hL.cells
   obtain ⟨rz,hz⟩:=hL.z
   have hcE:=β (aM ⟨k,vk,vi,vs,vb,tt,ss,A,nn,c⟩ hz)
   simp only [RC.cells] at c0 c1
   clear hL q1 hb' hz HF'
   go_wp2
   change bodyPost _ _ _ _ _ (put8 _ w.heap.size ⟨k,vk,vi,vs,vb,tt,ss,A,nn,c⟩)
   generalize put8 _ w.heap.size ⟨k,vk,vi,vs,vb,tt,ss,A,nn,c⟩=WE at *
   simp only [RC.cells] at hcE
   exact bodyPost_ret (v:=RC.val ⟨k,vk,vi,vs,vb,tt,ss,A,nn,c⟩) (by simp [results,results85,go_sem,hcE,RC.val]) rfl HE.out
  ·have hp':=hp
   obtain ⟨A0,c00,i0,q1, -, -⟩:=hp'
   have c3:=β q1 3
   have HSg:=κ (To P d r _ hp)
   have HP1:=κ hp
   have HL:=κ hL
   have HX:=κ hx
   have HPX:=κ hpx
   clear q1 hp hL hx hpx
   go_wp2_with fail
   refine μ HSg ?_
   rintro e w3 ⟨rfl,hb3⟩
   by_cases hA:∃ s,cA 4 r=some s∧done=false
   ·obtain ⟨s,hs,rfl⟩:=hA
    obtain ⟨t,r',rfl⟩:=lH hs
    have hmem:s∈bJ 4:=List.mem_of_find?_eq_some hs
    have hne0:s≠[]:=lB _ _ hmem
    have hne:(s==[])=false:=η hne0
    have hne2:(s != [])=true:=by rw [bne,hne];rfl
    have hPX:=HPX.out.trans (lV hs (by decide))
    have hup:=mW 4 s hmem
    rw [hs]
    simp only [Option.getD_some]
    obtain ⟨i,n1,n2,n3,n4⟩:=(HP1.out.below hb3).next
    have hL4:=(HL.out.far hb3).but (But.set P 1 w3 (.int .i64 ((i:Int)+1))) hP hG
    have hx4:=(RX.below hb3 HX.out).far (g:=P) (o:=1) (v:=.int .i64 ((i:Int)+1)) (fun k hk _=>by have:w.heap.size+1≤k∧k≠G:=hk;omega)
    have HU:=κ (kE s (w3.setCell ⟨P,1,none⟩ (.int .i64 ((i:Int)+1))).drew _ hup)
    have HC:=κ (show Calls prog 85 #[.pointer (some ⟨P,0,none⟩),.int .i64 5] _ _ from HF'.out (w3.setCell ⟨P,1,none⟩ (.int .i64 ((i:Int)+1))).drew r' (by simp at hrl;omega) n4.drew)
    have hGs:G<(w3.setCell ⟨P,1,none⟩ (.int .i64 ((i:Int)+1))).heap.size:=aL hL4.x
    obtain ⟨-,c1, -, -⟩:=hL4.cells
    simp only [RC.cells] at c1
    have cc:=ι (c1 0) (ι (c1 1) (ι (c1 2) (ι (c1 3) (ι (c1 4) (ι (c1 5) (ι (c1 6) (c1 7)))))))
    simp only [γ,δ,ε] at cc
    have HN4:=κ n4.drew
    have HL4:=κ (show Lev w.heap.size G P w (w3.setCell ⟨P,1,none⟩ (.int .i64 ((i:Int)+1))).drew ⟨k,vk,vi,vs,vb,tt,ss,A,nn,c⟩ from ⟨hL4.b.drew,hL4.z,hL4.x⟩)
    have HX4:=κ (show RX (Sx w.heap.size G) (w3.setCell ⟨P,1,none⟩ (.int .i64 ((i:Int)+1))).drew x ⟨k,vk,vi,vs,vb,tt,ss,A,nn,c⟩ from RX.drew hx4)
    have hdn:(4==4)=true:=by decide
    rw [hdn] at hPX
    clear hs hmem hne0 hup n4 hL4 hx4 hb3 HSg HX HPX HL HP1 c1 hdn
    generalize upW s=u at *
    have HPX4:=κ hPX
    clear hPX
    obtain ⟨d0,d1,d2,d3,d4,d5,d6,d7⟩:=cc
    go_wp2_with fail
    go_region_with
     (first
      | (go_at_call 136;refine μ HU ?_;rintro e w5 ⟨rfl,rfl⟩)
      | (go_at_call 85;refine μ HC ?_;rintro e w5 hp5;obtain ⟨⟨k2,vk2,vi2,vs2,vb2,tt2,ss2,A2,nn2,c2⟩,rfl,hq5⟩:=hp5.open_;clear hp5;simp only [RC.val];have hL5:=HL4.out.but hq5.1 hP hG;have hc5:=(hL5.cells).2.1;simp only [RC.cells] at hc5;have hd2:w5.cell? ⟨G,0,none⟩=some (.int .u8 k)∧w5.cell? ⟨G,1,none⟩=some (.int .u8 vk)∧w5.cell? ⟨G,2,none⟩=some (.int .i64 vi)∧w5.cell? ⟨G,3,none⟩=some (.string vs)∧w5.cell? ⟨G,4,none⟩=some (.bool vb)∧w5.cell? ⟨G,5,none⟩=some (.string tt)∧w5.cell? ⟨G,6,none⟩=some (.string ss)∧w5.cell? ⟨G,7,none⟩=some (.slice A nn c):=⟨hc5 0,hc5 1,hc5 2,hc5 3,hc5 4,hc5 5,hc5 6,hc5 7⟩;have hL6:=hL5.far ((θ).alloc (ν _) (.cells #[.int .u8 k,.int .u8 vk,.int .i64 vi,.string vs,.bool vb,.string tt,.string ss,.slice A nn c,.int .u8 k2,.int .u8 vk2,.int .i64 vi2,.string vs2,.bool vb2,.string tt2,.string ss2,.slice A2 nn2 c2] 60));have hc6:=(hL6.cells).2.1;have hz6:=(hL6.cells).2.2.2;simp only [RC.cells] at hc6))
    all_goals
     have hx5:=RX.but hq5.1 HN4.out HX4.out
     obtain ⟨gk',hgk1,hgk2⟩:=pQ (done':=true) hL5 hx5 hq5 (show G<(w3.setCell ⟨P,1,none⟩ (.int .i64 ((i:Int)+1))).drew.heap.size from hGs) rfl hG hP HPX4.out (by simp at hrl;omega)
     simp only [put8,RC.cells,rcP,List.cons_append,List.nil_append] at hgk2
     have HGK:=κ hgk2
     have hlr:(t::r').length=r'.length+1:=rfl
     clear hx5 hgk2 hq5 hL5 hc5 hc6 hz6 hd2 hL6
     go_wp2
     go_roundg gk'
     case measure=>omega
     case rel=>exact ⟨_,rfl,HGK.out⟩
   ·obtain ⟨hA1,hA2⟩:=nA hA
    have hL3:=HL.out.far hb3
    have hx3:=RX.below hb3 HX.out
    have hp3:=HP1.out.below hb3
    obtain ⟨sg,hsg⟩:∃ sg,(cA 4 r).getD []=sg:=⟨_,rfl⟩
    rw [hsg] at hA2 ⊢
    clear hsg
    cases hi:isF wIs r
    ·have HI:=κ (bI P d 0 r ⟨#[105,115]⟩ w3 hp3 false (by rw [show (⟨#[105,115]⟩:ByteArray).data.toList=wIs from rfl,hi];rfl))
     have HL3:=κ hL3
     have HX3:=κ hx3
     have HP3:=κ hp3
     have HA1:=κ (ι hA1 hi)
     clear hL3 hx3 hp3 hA1 hi hrl HF'
     have hA3:sg=[]∨(done=true∧(sg==[])=false∧(sg != [])=true):=by
      by_cases hs:sg=[]
      ·exact .inl hs
      ·have e1:(sg==[])=false:=η hs
       have e2:(sg != [])=true:=by rw [bne,e1];rfl
       rcases hA2 with h|h
       ·rw [e2] at h;cases h
       ·exact .inr ⟨h,e1,e2⟩
     clear hA2
     rcases hA3 with rfl|⟨rfl,e1,e2⟩
     all_goals
      go_wp2_with fail
      refine μ HI ?_
      rintro e w4 ⟨rfl,hd4⟩
      have hL4:=HL3.out.but (P:=P) hd4.but hP hG
      have hx4:=RX.but hd4.but HP3.out HX3.out
      have hp4:=HP3.out.drawn hd4
      have HE:=κ (LevIs.end_ (lev:=4) (l:=l) rfl hP hL4 hx4 hp4 HPX.out (mZ HA1.out.1 (.inr HA1.out.2)))
      obtain ⟨⟨⟨a0,a1,a2,a3,a4,a5,a6,a7,a8,a9⟩,c0⟩,c1,z0,z1⟩:=hL4.cells
      obtain ⟨rz,hz⟩:=hL4.z
      have hcE:=β (aM ⟨k,vk,vi,vs,vb,tt,ss,A,nn,c⟩ hz)
      simp only [RC.cells] at c0 c1
      clear hL4 hx4 hp4 hz HSg HP1 HL HX HPX hA hb3 hd4
      go_wp2
      change bodyPost _ _ _ _ _ (put8 _ w.heap.size ⟨k,vk,vi,vs,vb,tt,ss,A,nn,c⟩)
      generalize put8 _ w.heap.size ⟨k,vk,vi,vs,vb,tt,ss,A,nn,c⟩=WE at *
      simp only [RC.cells] at hcE
      exact bodyPost_ret (v:=RC.val ⟨k,vk,vi,vs,vb,tt,ss,A,nn,c⟩) (by simp [results,results85,go_sem,hcE,RC.val]) rfl HE.out
    ·obtain ⟨t,r',rfl⟩:=nE hi
     have HI:=κ (bI P d 0 (t::r') ⟨#[105,115]⟩ w3 hp3 true (by rw [show (⟨#[105,115]⟩:ByteArray).data.toList=wIs from rfl,hi];rfl))
     have HPX4:=κ (HPX.out.trans (Xj (d:=d) (x:=x) hA1 hi))
     have HL3:=κ hL3
     have HX3:=κ hx3
     have HP3:=κ hp3
     have hlr:(t::r').length=r'.length+1:=rfl
     have hrl2:r'.length+1<l.length:=hrl
     clear hL3 hx3 hp3 hA1 hi hrl HF' HPX HSg HP1 HL HX hA
     have hA3:sg=[]∨(done=true∧(sg==[])=false∧(sg != [])=true):=by
      by_cases hs:sg=[]
      ·exact .inl hs
      ·have e1:(sg==[])=false:=η hs
       have e2:(sg != [])=true:=by rw [bne,e1];rfl
       rcases hA2 with h|h
       ·rw [e2] at h;cases h
       ·exact .inr ⟨h,e1,e2⟩
     clear hA2
     rcases hA3 with rfl|⟨rfl,e1,e2⟩
     ·go_wp2_with fail
      refine μ HI ?_
      rintro e w4 ⟨rfl,hd4⟩
      have hL4:=HL3.out.but (P:=P) hd4.but hP hG
      have hx4:=RX.but hd4.but HP3.out HX3.out
      obtain ⟨i,n1,n2,n3,n4⟩:=(HP3.out.drawn hd4).next
      have hL5:=hL4.but (But.set P 1 w4 (.int .i64 ((i:Int)+1))) hP hG
      have hx5:=hx4.far (g:=P) (o:=1) (v:=.int .i64 ((i:Int)+1)) (fun k hk _=>by have:w.heap.size+1≤k∧k≠G:=hk;omega)
      obtain ⟨W6,hW6,hL6,hi6,hp6,c1a,z1a⟩:=Gt (rc:=⟨k,vk,vi,vs,vb,tt,ss,A,nn,c⟩) hL5 hx5 n4 hP hG rfl
      obtain ⟨-,c1, -,z1⟩:=hL5.cells
      simp only [RC.cells] at c1 c1a z1a
      simp only [put8,rcP,RC.cells,World.size_setCell] at hW6
      have HW6:=κ (ι hL6 (ι hi6 hp6))
      have HCh:=κ hW6
      clear hL4 hx4 n4 hL5 hx5 hd4 hL6 hp6 hi6 hW6
      cases hn:isF mK r'
      ·have HPs:=κ (aJ P d 0 r' ⟨#[110,111,116]⟩ W6 HW6.out.2.2 false (by rw [show (⟨#[110,111,116]⟩:ByteArray).data.toList=mK from rfl,hn];rfl))
       go_wp2_with fail
       rw [HCh.out]
       refine μ HPs ?_
       rintro e w7 ⟨rfl,hb7,hp7⟩
       simp only [φ,if_false] at hp7
       have hL7:=HW6.out.1.but hb7 hP hG
       have hi7:=RX.but hb7 HW6.out.2.2 HW6.out.2.1
       clear hb7 c1 c1a z1 z1a HW6 HCh HPs
       have hnl:eT r'=(aE bS r').map (fun q=>(false,q)):=by unfold eT;rw [if_neg (by rw [hn];decide)]
       cases hw:isF bS r'
       ·have HNe:=κ (dK P d 0 r' ⟨#[110,117,108,108]⟩ _ hp7 (by rw [show (⟨#[110,117,108,108]⟩:ByteArray).data.toList=bS from rfl,hw];rfl))
        have HQ:=κ (show pX 4 d l=none by rw [HPX4.out];show (match eT r' with|none=>none|some (n,r)=>pL 4 d (Lp.X.isn n x) done r)=none;rw [hnl,aE,hw];rfl)
        have HZ:=κ (ι hL7 hi7)
        clear hw hnl hp7 hL7 hi7
        go_wp2_with fail
        refine μ HNe ?_
        rintro e w9 ⟨rfl,hb9,b',hb',hp9⟩
        have HGK:=κ (sC (done:=done) (HZ.out.1.but hb9 hP hG) (dO hp9 hb' hd) HQ.out)
        clear hb9 hb' hp9
        go_wp2
        go_roundg 0
        case measure=>omega
        case rel=>exact ⟨_,rfl,HGK.out⟩
       ·have hpn:=hp7
        have HNe:=κ (dB P d r' ⟨#[110,117,108,108]⟩ _ hp7 hw)
        have hlt:=bB hw
        have HQ:=κ (show pX 4 d l=pL 4 d (Lp.X.isn false x) done (r').tail by rw [HPX4.out];show (match eT r' with|none=>none|some (n,r)=>pL 4 d (Lp.X.isn n x) done r)=_;rw [hnl,aE,hw];rfl)
        have HZ:=κ (ι hL7 (ι hi7 hpn))
        clear hw hnl hpn hp7 hL7 hi7
        go_wp2_with fail
        refine μ HNe ?_
        rintro e w9 ⟨rfl,hb9,hp9⟩
        have HGK:=κ (pP (done:=done) (HZ.out.1.but hb9 hP hG) (RX.but hb9 HZ.out.2.2 HZ.out.2.1) hp9 (by omega) HQ.out)
        clear hb9 hp9
        go_wp2
        go_roundg ((r').tail.length+1)
        case measure=>omega
        case rel=>exact ⟨_,rfl,HGK.out⟩
      ·have HPs:=κ (aJ P d 0 r' ⟨#[110,111,116]⟩ W6 HW6.out.2.2 true (by rw [show (⟨#[110,111,116]⟩:ByteArray).data.toList=mK from rfl,hn];rfl))
       have hlt0:=bB hn
       go_wp2_with fail
       rw [HCh.out]
       refine μ HPs ?_
       rintro e w7 ⟨rfl,hb7,hp7⟩
       simp only [if_true] at hp7
       have hL7:=HW6.out.1.but hb7 hP hG
       have hi7:=RX.but hb7 HW6.out.2.2 HW6.out.2.1
       have hL8:=hL7.not hG (ν _)
       have hi8:=Nb (hi7.far (g:=G) (o:=6) (v:=.string ⟨#[78,79,84]⟩) (fun k (hk:Sx w.heap.size G k) _=>hk.2))
       have hp8:=hp7.far (o:=6) (v:=.string ⟨#[78,79,84]⟩) (show P<G by omega)
       obtain ⟨-,d1, -,y1⟩:=hL7.cells
       simp only [RC.cells,rcP] at d1
       clear hb7 c1 c1a z1 z1a HW6 HCh HPs hL7 hi7 hp7
       have hnl:eT r'=(aE bS r'.tail).map (fun q=>(true,q)):=by unfold eT;rw [if_pos hn]
       cases hw:isF bS r'.tail
       ·have HNe:=κ (dK P d 0 r'.tail ⟨#[110,117,108,108]⟩ _ hp8 (by rw [show (⟨#[110,117,108,108]⟩:ByteArray).data.toList=bS from rfl,hw];rfl))
        have HQ:=κ (show pX 4 d l=none by rw [HPX4.out];show (match eT r' with|none=>none|some (n,r)=>pL 4 d (Lp.X.isn n x) done r)=none;rw [hnl,aE,hw];rfl)
        have HZ:=κ (ι hL8 hi8)
        clear hw hnl hp8 hL8 hi8
        go_wp2_with fail
        refine μ HNe ?_
        rintro e w9 ⟨rfl,hb9,b',hb',hp9⟩
        have HGK:=κ (sC (done:=done) (HZ.out.1.but hb9 hP hG) (dO hp9 hb' hd) HQ.out)
        clear hb9 hb' hp9
        go_wp2
        go_roundg 0
        case measure=>omega
        case rel=>exact ⟨_,rfl,HGK.out⟩
       ·have hpn:=hp8
        have HNe:=κ (dB P d r'.tail ⟨#[110,117,108,108]⟩ _ hp8 hw)
        have hlt:=bB hw
        have HQ:=κ (show pX 4 d l=pL 4 d (Lp.X.isn true x) done (r'.tail).tail by rw [HPX4.out];show (match eT r' with|none=>none|some (n,r)=>pL 4 d (Lp.X.isn n x) done r)=_;rw [hnl,aE,hw];rfl)
        have HZ:=κ (ι hL8 (ι hi8 hpn))
        clear hw hnl hpn hp8 hL8 hi8
        go_wp2_with fail
        refine μ HNe ?_
        rintro e w9 ⟨rfl,hb9,hp9⟩
        have HGK:=κ (pP (done:=done) (HZ.out.1.but hb9 hP hG) (RX.but hb9 HZ.out.2.2 HZ.out.2.1) hp9 (by omega) HQ.out)
        clear hb9 hp9
        go_wp2
        go_roundg ((r'.tail).tail.length+1)
        case measure=>omega
        case rel=>exact ⟨_,rfl,HGK.out⟩
     ·go_wp2_with fail
      refine μ HI ?_
      rintro e w4 ⟨rfl,hd4⟩
      have hL4:=HL3.out.but (P:=P) hd4.but hP hG
      have hx4:=RX.but hd4.but HP3.out HX3.out
      obtain ⟨i,n1,n2,n3,n4⟩:=(HP3.out.drawn hd4).next
      have hL5:=hL4.but (But.set P 1 w4 (.int .i64 ((i:Int)+1))) hP hG
      have hx5:=hx4.far (g:=P) (o:=1) (v:=.int .i64 ((i:Int)+1)) (fun k hk _=>by have:w.heap.size+1≤k∧k≠G:=hk;omega)
      obtain ⟨W6,hW6,hL6,hi6,hp6,c1a,z1a⟩:=Gt (rc:=⟨k,vk,vi,vs,vb,tt,ss,A,nn,c⟩) hL5 hx5 n4 hP hG rfl
      obtain ⟨-,c1, -,z1⟩:=hL5.cells
      simp only [RC.cells] at c1 c1a z1a
      simp only [put8,rcP,RC.cells,World.size_setCell] at hW6
      have HW6:=κ (ι hL6 (ι hi6 hp6))
      have HCh:=κ hW6
      clear hL4 hx4 n4 hL5 hx5 hd4 hL6 hp6 hi6 hW6
      cases hn:isF mK r'
      ·have HPs:=κ (aJ P d 0 r' ⟨#[110,111,116]⟩ W6 HW6.out.2.2 false (by rw [show (⟨#[110,111,116]⟩:ByteArray).data.toList=mK from rfl,hn];rfl))
       go_wp2_with fail
       rw [HCh.out]
       refine μ HPs ?_
       rintro e w7 ⟨rfl,hb7,hp7⟩
       simp only [φ,if_false] at hp7
       have hL7:=HW6.out.1.but hb7 hP hG
       have hi7:=RX.but hb7 HW6.out.2.2 HW6.out.2.1
       clear hb7 c1 c1a z1 z1a HW6 HCh HPs
       have hnl:eT r'=(aE bS r').map (fun q=>(false,q)):=by unfold eT;rw [if_neg (by rw [hn];decide)]
       cases hw:isF bS r'
       ·have HNe:=κ (dK P d 0 r' ⟨#[110,117,108,108]⟩ _ hp7 (by rw [show (⟨#[110,117,108,108]⟩:ByteArray).data.toList=bS from rfl,hw];rfl))
        have HQ:=κ (show pX 4 d l=none by rw [HPX4.out];show (match eT r' with|none=>none|some (n,r)=>pL 4 d (Lp.X.isn n x) true r)=none;rw [hnl,aE,hw];rfl)
        have HZ:=κ (ι hL7 hi7)
        clear hw hnl hp7 hL7 hi7
        go_wp2_with fail
        refine μ HNe ?_
        rintro e w9 ⟨rfl,hb9,b',hb',hp9⟩
        have HGK:=κ (sC (done:=true) (HZ.out.1.but hb9 hP hG) (dO hp9 hb' hd) HQ.out)
        clear hb9 hb' hp9
        go_wp2
        go_roundg 0
        case measure=>omega
        case rel=>exact ⟨_,rfl,HGK.out⟩
       ·have hpn:=hp7
        have HNe:=κ (dB P d r' ⟨#[110,117,108,108]⟩ _ hp7 hw)
        have hlt:=bB hw
        have HQ:=κ (show pX 4 d l=pL 4 d (Lp.X.isn false x) true (r').tail by rw [HPX4.out];show (match eT r' with|none=>none|some (n,r)=>pL 4 d (Lp.X.isn n x) true r)=_;rw [hnl,aE,hw];rfl)
        have HZ:=κ (ι hL7 (ι hi7 hpn))
        clear hw hnl hpn hp7 hL7 hi7
        go_wp2_with fail
        refine μ HNe ?_
        rintro e w9 ⟨rfl,hb9,hp9⟩
        have HGK:=κ (pP (done:=true) (HZ.out.1.but hb9 hP hG) (RX.but hb9 HZ.out.2.2 HZ.out.2.1) hp9 (by omega) HQ.out)
        clear hb9 hp9
        go_wp2
        go_roundg ((r').tail.length+1)
        case measure=>omega
        case rel=>exact ⟨_,rfl,HGK.out⟩
      ·have HPs:=κ (aJ P d 0 r' ⟨#[110,111,116]⟩ W6 HW6.out.2.2 true (by rw [show (⟨#[110,111,116]⟩:ByteArray).data.toList=mK from rfl,hn];rfl))
       have hlt0:=bB hn
       go_wp2_with fail
       rw [HCh.out]
       refine μ HPs ?_
       rintro e w7 ⟨rfl,hb7,hp7⟩
       simp only [if_true] at hp7
       have hL7:=HW6.out.1.but hb7 hP hG
       have hi7:=RX.but hb7 HW6.out.2.2 HW6.out.2.1
       have hL8:=hL7.not hG (ν _)
       have hi8:=Nb (hi7.far (g:=G) (o:=6) (v:=.string ⟨#[78,79,84]⟩) (fun k (hk:Sx w.heap.size G k) _=>hk.2))
       have hp8:=hp7.far (o:=6) (v:=.string ⟨#[78,79,84]⟩) (show P<G by omega)
       obtain ⟨-,d1, -,y1⟩:=hL7.cells
       simp only [RC.cells,rcP] at d1
       clear hb7 c1 c1a z1 z1a HW6 HCh HPs hL7 hi7 hp7
       have hnl:eT r'=(aE bS r'.tail).map (fun q=>(true,q)):=by unfold eT;rw [if_pos hn]
       cases hw:isF bS r'.tail
       ·have HNe:=κ (dK P d 0 r'.tail ⟨#[110,117,108,108]⟩ _ hp8 (by rw [show (⟨#[110,117,108,108]⟩:ByteArray).data.toList=bS from rfl,hw];rfl))
        have HQ:=κ (show pX 4 d l=none by rw [HPX4.out];show (match eT r' with|none=>none|some (n,r)=>pL 4 d (Lp.X.isn n x) true r)=none;rw [hnl,aE,hw];rfl)
        have HZ:=κ (ι hL8 hi8)
        clear hw hnl hp8 hL8 hi8
        go_wp2_with fail
        refine μ HNe ?_
        rintro e w9 ⟨rfl,hb9,b',hb',hp9⟩
        have HGK:=κ (sC (done:=true) (HZ.out.1.but hb9 hP hG) (dO hp9 hb' hd) HQ.out)
        clear hb9 hb' hp9
        go_wp2
        go_roundg 0
        case measure=>omega
        case rel=>exact ⟨_,rfl,HGK.out⟩
       ·have hpn:=hp8
        have HNe:=κ (dB P d r'.tail ⟨#[110,117,108,108]⟩ _ hp8 hw)
        have hlt:=bB hw
        have HQ:=κ (show pX 4 d l=pL 4 d (Lp.X.isn true x) true (r'.tail).tail by rw [HPX4.out];show (match eT r' with|none=>none|some (n,r)=>pL 4 d (Lp.X.isn n x) true r)=_;rw [hnl,aE,hw];rfl)
        have HZ:=κ (ι hL8 (ι hi8 hpn))
        clear hw hnl hpn hp8 hL8 hi8
        go_wp2_with fail
        refine μ HNe ?_
        rintro e w9 ⟨rfl,hb9,hp9⟩
        have HGK:=κ (pP (done:=true) (HZ.out.1.but hb9 hP hG) (RX.but hb9 HZ.out.2.2 HZ.out.2.1) hp9 (by omega) HQ.out)
        clear hb9 hp9
        go_wp2
        go_roundg ((r'.tail).tail.length+1)
        case measure=>omega
        case rel=>exact ⟨_,rfl,HGK.out⟩
theorem zQ {P d:Nat} {w w2 w':World} {q:Option (Lp.X×List Tok)} {e:Ending} (h:RPost P w2 d q e w') (hb:But P w w2) (h1:w.heap.size<w2.heap.size) (hP:P<w.heap.size) (hz:∃ r0:RC,w2.heap[w.heap.size]? = some (.cells r0.cells.toArray 60 (0,0))) :
 ∃ r:RC,e=.returned r.val∧RPost P w d q (.returned r.val) (put8 w' w.heap.size r)∧(∃ r0:RC,∀ j,w'.cell? ⟨w.heap.size,j,none⟩=r0.cells.toArray[j]?)∧(∀ j,w'.frozen? ⟨w.heap.size,j,none⟩=false)∧(∀ j,(put8 w' w.heap.size r).cell? ⟨w.heap.size,j,none⟩=r.cells.toArray[j]?):=by
 obtain ⟨r,he,hq⟩:=h.open_
 obtain ⟨r0,hz⟩:=hz
 have hz':=aO hq.1 hz (by omega)
 exact ⟨r,he,hq.wrap hb h1 hP,⟨r0,β hz'⟩,fun j=>frozen_of_row w' _ j _ _ hz',β (aM r hz')⟩
theorem vF {w:World} {P d:Nat} {l:List Tok} (h:RS w P l d 0):w.cell? ⟨P,3,none⟩=some (.int .i64 0):=by
 obtain ⟨A0,c00,i0,q1, -, -⟩:=h
 exact β q1 3
theorem Zj (P d n:Nat) (hd:d≤40) (HF:RvOk 4 P d n) (HN:d+1≤40→∀ m,m<n→RvOk 3 P (d+1) m):RvOk 3 P d n:=by
 intro w l hl h
 have hP:=h.lt
 have hb0:Below w.heap.size w (w.alloc (.cells rcZ.cells.toArray 60)):=ρ
 have h0:=h.below hb0
 have c3:=vF h0
 have hz0:=heap_alloc_new w (.cells rcZ.cells.toArray 60)
 have hsz:(w.alloc (.cells rcZ.cells.toArray 60)).heap.size=w.heap.size+1:=World.size_alloc _ _
 show Calls prog 85 #[.pointer (some ⟨P,0,none⟩),.int .i64 3] w _
 cases hf:isF mK l
 ·have HI:=κ (bI P d 0 l ⟨#[110,111,116]⟩ _ h0 false (by rw [show (⟨#[110,111,116]⟩:ByteArray).data.toList=mK from rfl,hf];rfl))
  have HC:=κ (fun W (hp:RS W P l d 0)=>(show Calls prog 85 #[.pointer (some ⟨P,0,none⟩),.int .i64 4] W _ from HF W l hl hp))
  have HQ:=κ (wR (d:=d) hf)
  have H0:=κ (ι h0 (ι hb0 (ι hz0 hsz)))
  simp only [RC.cells,rcZ] at c3
  clear h h0 hb0 hz0 hsz hf HF HN
  go_enter func85,ntmps85
  go_wp2_with fail
  refine μ HI ?_
  rintro e w1 ⟨rfl,hd1⟩
  have HC1:=κ (HC.out w1 (H0.out.1.drawn hd1))
  have HD:=κ hd1
  clear hd1 c3 HC
  go_wp2_with fail
  refine μ HC1 ?_
  rintro e w2 hq
  rw [←HQ.out] at hq
  obtain ⟨⟨k,vk,vi,vs,vb,tt,ss,A,nn,c⟩,rfl,hr,⟨⟨a0,a1,a2,a3,a4,a5,a6,a7,a8,a9⟩,c0⟩,z0,hcE⟩:=zQ hq ((But.of H0.out.2.1).trans HD.out.but) (by have:=HD.out.but (P:=P) |>.size;have:=H0.out.2.2.2;omega) hP ⟨rcZ,aO HD.out.but H0.out.2.2.1 (Nat.ne_of_gt hP)⟩
  simp only [RC.val]
  have HR:=κ hr
  simp only [RC.cells] at c0
  clear hq hr HC1
  go_wp2
  change bodyPost _ _ _ _ _ (put8 _ w.heap.size ⟨k,vk,vi,vs,vb,tt,ss,A,nn,c⟩)
  generalize put8 _ w.heap.size ⟨k,vk,vi,vs,vb,tt,ss,A,nn,c⟩=WE at *
  simp only [RC.cells] at hcE
  exact bodyPost_ret (v:=RC.val ⟨k,vk,vi,vs,vb,tt,ss,A,nn,c⟩) (by simp [results,results85,go_sem,hcE,RC.val]) rfl HR.out
 ·have HI:=κ (bI P d 0 l ⟨#[110,111,116]⟩ _ h0 true (by rw [show (⟨#[110,111,116]⟩:ByteArray).data.toList=mK from rfl,hf];rfl))
  have HQ:=κ (tP (d:=d) hf)
  obtain ⟨t,r,rfl⟩:=nE hf
  have HC:=κ (fun W (hp:RS W P (t::r) d 0)=>(show Calls prog 133 #[.pointer (some ⟨P,0,none⟩),.int .i64 3,.string ⟨#[78,79,84]⟩] W (RPost P W d (pX 3 d (t::r))) from by
   rw [HQ.out]
   by_cases h40:d+1≤40
   ·rw [if_pos h40];exact xG 3 fW P d t r W hp hp.lt h40 (HN h40 r.length (by simp at hl;omega))
   ·rw [if_neg h40];exact De 3 fW P d (t::r) W hp hp.lt (by omega) (by omega)))
  have H0:=κ (ι h0 (ι hb0 (ι hz0 hsz)))
  simp only [RC.cells,rcZ] at c3
  clear h h0 hb0 hz0 hsz hf HF HN
  go_enter func85,ntmps85
  go_wp2_with fail
  refine μ HI ?_
  rintro e w1 ⟨rfl,hd1⟩
  have HC1:=κ (HC.out w1 (H0.out.1.drawn hd1))
  have HD:=κ hd1
  clear hd1 c3 HC
  go_wp2_with fail
  refine μ HC1 ?_
  rintro e w2 hq
  obtain ⟨⟨k,vk,vi,vs,vb,tt,ss,A,nn,c⟩,rfl,hr,⟨⟨a0,a1,a2,a3,a4,a5,a6,a7,a8,a9⟩,c0⟩,z0,hcE⟩:=zQ hq ((But.of H0.out.2.1).trans HD.out.but) (by have:=HD.out.but (P:=P) |>.size;have:=H0.out.2.2.2;omega) hP ⟨rcZ,aO HD.out.but H0.out.2.2.1 (Nat.ne_of_gt hP)⟩
  simp only [RC.val]
  have HR:=κ hr
  simp only [RC.cells] at c0
  clear hq hr HC1
  go_wp2
  change bodyPost _ _ _ _ _ (put8 _ w.heap.size ⟨k,vk,vi,vs,vb,tt,ss,A,nn,c⟩)
  generalize put8 _ w.heap.size ⟨k,vk,vi,vs,vb,tt,ss,A,nn,c⟩=WE at *
  simp only [RC.cells] at hcE
  exact bodyPost_ret (v:=RC.val ⟨k,vk,vi,vs,vb,tt,ss,A,nn,c⟩) (by simp [results,results85,go_sem,hcE,RC.val]) rfl HR.out
theorem Zf (P d n:Nat) (hd:d≤40) (HF:RvOk 8 P d n) (HN:d+1≤40→∀ m,m<n→RvOk 7 P (d+1) m):RvOk 7 P d n:=by
 intro w l hl h
 have hP:=h.lt
 have hb0:Below w.heap.size w (w.alloc (.cells rcZ.cells.toArray 60)):=ρ
 have h0:=h.below hb0
 have c3:=vF h0
 have hz0:=heap_alloc_new w (.cells rcZ.cells.toArray 60)
 have hsz:(w.alloc (.cells rcZ.cells.toArray 60)).heap.size=w.heap.size+1:=World.size_alloc _ _
 show Calls prog 85 #[.pointer (some ⟨P,0,none⟩),.int .i64 7] w _
 cases hf:isF [45] l
 ·have HI:=κ (bI P d 0 l ⟨#[45]⟩ _ h0 false (by rw [show (⟨#[45]⟩:ByteArray).data.toList=[45] from rfl,hf];rfl))
  have HC:=κ (fun W (hp:RS W P l d 0)=>(show Calls prog 85 #[.pointer (some ⟨P,0,none⟩),.int .i64 8] W _ from HF W l hl hp))
  have HQ:=κ (wS (d:=d) hf)
  have H0:=κ (ι h0 (ι hb0 (ι hz0 hsz)))
  simp only [RC.cells,rcZ] at c3
  clear h h0 hb0 hz0 hsz hf HF HN
  go_enter func85,ntmps85
  go_wp2_with fail
  refine μ HI ?_
  rintro e w1 ⟨rfl,hd1⟩
  have HC1:=κ (HC.out w1 (H0.out.1.drawn hd1))
  have HD:=κ hd1
  clear hd1 c3 HC
  go_wp2_with fail
  refine μ HC1 ?_
  rintro e w2 hq
  rw [←HQ.out] at hq
  obtain ⟨⟨k,vk,vi,vs,vb,tt,ss,A,nn,c⟩,rfl,hr,⟨⟨a0,a1,a2,a3,a4,a5,a6,a7,a8,a9⟩,c0⟩,z0,hcE⟩:=zQ hq ((But.of H0.out.2.1).trans HD.out.but) (by have:=HD.out.but (P:=P) |>.size;have:=H0.out.2.2.2;omega) hP ⟨rcZ,aO HD.out.but H0.out.2.2.1 (Nat.ne_of_gt hP)⟩
  simp only [RC.val]
  have HR:=κ hr
  simp only [RC.cells] at c0
  clear hq hr HC1
  go_wp2
  change bodyPost _ _ _ _ _ (put8 _ w.heap.size ⟨k,vk,vi,vs,vb,tt,ss,A,nn,c⟩)
  generalize put8 _ w.heap.size ⟨k,vk,vi,vs,vb,tt,ss,A,nn,c⟩=WE at *
  simp only [RC.cells] at hcE
  exact bodyPost_ret (v:=RC.val ⟨k,vk,vi,vs,vb,tt,ss,A,nn,c⟩) (by simp [results,results85,go_sem,hcE,RC.val]) rfl HR.out
 ·have HI:=κ (bI P d 0 l ⟨#[45]⟩ _ h0 true (by rw [show (⟨#[45]⟩:ByteArray).data.toList=[45] from rfl,hf];rfl))
  have HQ:=κ (tR (d:=d) hf)
  obtain ⟨t,r,rfl⟩:=nE hf
  have HC:=κ (fun W (hp:RS W P (t::r) d 0)=>(show Calls prog 133 #[.pointer (some ⟨P,0,none⟩),.int .i64 7,.string ⟨#[45]⟩] W (RPost P W d (pX 7 d (t::r))) from by
   rw [HQ.out]
   by_cases h40:d+1≤40
   ·rw [if_pos h40];exact xG 7 [45] P d t r W hp hp.lt h40 (HN h40 r.length (by simp at hl;omega))
   ·rw [if_neg h40];exact De 7 [45] P d (t::r) W hp hp.lt (by omega) (by omega)))
  have H0:=κ (ι h0 (ι hb0 (ι hz0 hsz)))
  simp only [RC.cells,rcZ] at c3
  clear h h0 hb0 hz0 hsz hf HF HN
  go_enter func85,ntmps85
  go_wp2_with fail
  refine μ HI ?_
  rintro e w1 ⟨rfl,hd1⟩
  have HC1:=κ (HC.out w1 (H0.out.1.drawn hd1))
  have HD:=κ hd1
  clear hd1 c3 HC
  go_wp2_with fail
  refine μ HC1 ?_
  rintro e w2 hq
  obtain ⟨⟨k,vk,vi,vs,vb,tt,ss,A,nn,c⟩,rfl,hr,⟨⟨a0,a1,a2,a3,a4,a5,a6,a7,a8,a9⟩,c0⟩,z0,hcE⟩:=zQ hq ((But.of H0.out.2.1).trans HD.out.but) (by have:=HD.out.but (P:=P) |>.size;have:=H0.out.2.2.2;omega) hP ⟨rcZ,aO HD.out.but H0.out.2.2.1 (Nat.ne_of_gt hP)⟩
  simp only [RC.val]
  have HR:=κ hr
  simp only [RC.cells] at c0
  clear hq hr HC1
  go_wp2
  change bodyPost _ _ _ _ _ (put8 _ w.heap.size ⟨k,vk,vi,vs,vb,tt,ss,A,nn,c⟩)
  generalize put8 _ w.heap.size ⟨k,vk,vi,vs,vb,tt,ss,A,nn,c⟩=WE at *
  simp only [RC.cells] at hcE
  exact bodyPost_ret (v:=RC.val ⟨k,vk,vi,vs,vb,tt,ss,A,nn,c⟩) (by simp [results,results85,go_sem,hcE,RC.val]) rfl HR.out
theorem Ze (P d n:Nat) (HA:∀ (W:World) (l:List Tok),l.length≤n→RS W P l d 0→Calls prog 134 #[.pointer (some ⟨P,0,none⟩)] W (RPost P W d (pX 8 d l))):RvOk 8 P d n:=by
 intro w l hl h
 have hP:=h.lt
 have hb0:Below w.heap.size w (w.alloc (.cells rcZ.cells.toArray 60)):=ρ
 have h0:=h.below hb0
 have c3:=vF h0
 have hz0:=heap_alloc_new w (.cells rcZ.cells.toArray 60)
 have hsz:(w.alloc (.cells rcZ.cells.toArray 60)).heap.size=w.heap.size+1:=World.size_alloc _ _
 show Calls prog 85 #[.pointer (some ⟨P,0,none⟩),.int .i64 8] w _
 have HC:=κ (HA _ l hl h0)
 have H0:=κ (ι h0 (ι hb0 (ι hz0 hsz)))
 simp only [RC.cells,rcZ] at c3
 clear h h0 hb0 hz0 hsz HA
 go_enter func85,ntmps85
 go_wp2_with fail
 refine μ HC ?_
 rintro e w2 hq
 obtain ⟨⟨k,vk,vi,vs,vb,tt,ss,A,nn,c⟩,rfl,hr,⟨⟨a0,a1,a2,a3,a4,a5,a6,a7,a8,a9⟩,c0⟩,z0,hcE⟩:=zQ hq (But.of H0.out.2.1) (by have:=H0.out.2.2.2;omega) hP ⟨rcZ,H0.out.2.2.1⟩
 simp only [RC.val]
 have HR:=κ hr
 simp only [RC.cells] at c0
 clear hq hr HC c3
 go_wp2
 change bodyPost _ _ _ _ _ (put8 _ w.heap.size ⟨k,vk,vi,vs,vb,tt,ss,A,nn,c⟩)
 generalize put8 _ w.heap.size ⟨k,vk,vi,vs,vb,tt,ss,A,nn,c⟩=WE at *
 simp only [RC.cells] at hcE
 exact bodyPost_ret (v:=RC.val ⟨k,vk,vi,vs,vb,tt,ss,A,nn,c⟩) (by simp [results,results85,go_sem,hcE,RC.val]) rfl HR.out
structure AtSt (B P:Nat) (w0 w:World) (t:Tok):Prop where
 b:But P w0 w
 z:∃ r0:RC,w.heap[B]? = some (.cells r0.cells.toArray 60 (0,0))
 x:w.heap[B+1]? = some (.cells #[.int .u8 t.k,.string ⟨t.s.toArray⟩,.int .i64 t.n] 173 (0,0))
theorem AtSt.but {B P:Nat} {w0 w w':World} {t:Tok} (h:AtSt B P w0 w t) (hb:But P w w') (hP:P<B):AtSt B P w0 w' t:=by
 obtain ⟨h1,⟨r0,h2⟩,h3⟩:=h
 exact ⟨h1.trans hb,⟨r0,aO hb h2 (by omega)⟩,aO hb h3 (by omega)⟩
theorem AtSt.cells {B P:Nat} {w0 w:World} {t:Tok} (h:AtSt B P w0 w t):(∃ r0:RC,∀ j,w.cell? ⟨B,j,none⟩=r0.cells.toArray[j]?)∧(∀ j,w.frozen? ⟨B,j,none⟩=false)∧w.cell? ⟨B+1,0,none⟩=some (.int .u8 t.k)∧w.cell? ⟨B+1,1,none⟩=some (.string ⟨t.s.toArray⟩)∧w.cell? ⟨B+1,2,none⟩=some (.int .i64 t.n):=by
 obtain ⟨h1,⟨r0,h2⟩,h3⟩:=h
 exact ⟨⟨r0,β h2⟩,fun j=>frozen_of_row w _ j _ _ h2,by have:=β h3 0;simpa using this,by have:=β h3 1;simpa using this,by have:=β h3 2;simpa using this⟩
theorem fV {w:World} {P:Nat} (t:Tok) {w1:World} (hb:Below w.heap.size w w1) (hz:w1.heap[w.heap.size]? = some (.cells rcZ.cells.toArray 60 (0,0))) (hs:w1.heap.size=w.heap.size+1) (m:Nat) :
 AtSt w.heap.size P w ((w1.drewN m).alloc (.cells #[.int .u8 t.k,.string ⟨t.s.toArray⟩,.int .i64 t.n] 173)) t:=by
 refine ⟨((But.of hb).trans (Drawn.but (w':=w1.drewN m) ⟨m,rfl⟩)).trans (But.alloc P _ _),⟨rcZ,aC (show (w1.drewN m).heap[w.heap.size]? = _ from hz) _⟩, ?_⟩
 have:=heap_alloc_new (w1.drewN m) (.cells #[.int .u8 t.k,.string ⟨t.s.toArray⟩,.int .i64 t.n] 173)
 rwa [show (w1.drewN m).heap.size=w.heap.size+1 from hs] at this
theorem cT {B P d:Nat} {w0 w:World} {q:Option (Lp.X×List Tok)} (rc:RC) (hb0:But P w0 w) (hB:w0.heap.size=B) (hP:P<B) (hb:RBad P w d) (hq:q=none):RPost P w0 d q (.returned rc.val) (put8 w B rc) :=
 RPost.no rc hq (fY hb0 (by omega)) (hb.put8 hP)
theorem eM {B P d:Nat} {w0 w:World} {q:Option (Lp.X×List Tok)} {S:Nat→Prop} (rc:RC) {x:Lp.X} {l':List Tok} (hb0:But P w0 w) (hB:w0.heap.size=B) (hP:P<B) (hS:∀ k,S k→B<k) (hx:RX S w x rc) (hp:RS w P l' d 0) (hq:q=some (x,l')):RPost P w0 d q (.returned rc.val) (put8 w B rc) :=
 RPost.yes rc hq (fY hb0 (by omega)) (RX.mono (fun g hg _=>by have:=hS g hg;show _≤g;omega) (jP (fun k hk=>by have:=hS k hk;omega) hx)) (kU hp hP)
theorem lP (lev:Int) (P d:Nat) (w:World) (h:RBad P w d) :
 Calls prog 85 #[.pointer (some ⟨P,0,none⟩),.int .i64 lev] w fun e w'=>e=.returned rcZ.val∧But P w w'∧RBad P w' d:=by
 have hb0:Below w.heap.size w (w.alloc (.cells rcZ.cells.toArray 60)):=ρ
 have hz0:=heap_alloc_new w (.cells rcZ.cells.toArray 60)
 have hP:P<w.heap.size:=by obtain ⟨l',d',b', -,hp, -⟩:=h;exact hp.lt
 have h0:=h.below hb0
 have hE:=κ (ι (But.of (P:=P) hb0) h0)
 obtain ⟨l',d',b',hb',⟨A0,c00,i0,q1, -, -⟩, -⟩:=h0
 have c3:=β q1 3
 have eb:(b'==0)=false:=η hb'
 have eb2:(b' !=0)=true:=by rw [bne,eb];rfl
 have c0:=β hz0
 have z0:=fun j=>frozen_of_row _ _ j _ _ hz0
 simp only [RC.cells,rcZ] at c0 c3 z0
 clear h hb0 hz0 q1 hb'
 go_enter func85,ntmps85
 go_wp2
 exact bodyPost_ret (v:=rcZ.val) (by simp [results,results85,go_sem,c0,RC.val,rcZ]) rfl ⟨rfl,hE.out⟩
theorem fL (s:ByteArray) (P d:Nat) (w:World) (h:RBad P w d) :
 Calls prog 81 #[.pointer (some ⟨P,0,none⟩),.string s] w fun e w'=>e=.returned (.tuple #[])∧But P w w'∧RBad P w' d:=by
 obtain ⟨l',d',b',hb',hp,h1,h2⟩:=h
 refine (dK P d' b' l' s w hp (by simp [hb'])).mono ?_
 rintro e w' ⟨rfl,hb,b2,hb2,hp2⟩
 exact ⟨rfl,hb,l',d',b2,hb2,hp2,h1,h2⟩
theorem tN (s:ByteArray) (P d:Nat) (w:World) (h:RBad P w d) :
 Calls prog 34 #[.pointer (some ⟨P,0,none⟩),.string s] w fun e w'=>e=.returned (.bool false)∧But P w w'∧RBad P w' d:=by
 obtain ⟨l',d',b',hb',hp,h1,h2⟩:=h
 refine (aJ P d' b' l' s w hp false (by simp [hb'])).mono ?_
 rintro e w' ⟨rfl,hb,hp2⟩
 exact ⟨rfl,hb,l',d',b',hb',hp2,h1,h2⟩
theorem Ir (P d:Nat) (w:World) (h:RS w P [] d 0) (hd:d≤100) :
 Calls prog 134 #[.pointer (some ⟨P,0,none⟩)] w (RPost P w d none):=by
 have hP:=h.lt
 have hb0:Below w.heap.size w (w.alloc (.cells rcZ.cells.toArray 60)):=ρ
 have hz0:=heap_alloc_new w (.cells rcZ.cells.toArray 60)
 have H0:=κ (ι (h.below hb0) (ι hb0 hz0))
 have H:=κ (fun (w':World) (h':RS w' P [] d 0)=>eL P d 0 4 [] w' h')
 obtain ⟨A,c,i,h1, -, -⟩:=h.below hb0
 have hc0:=β h1 0
 have hc1:=β h1 1
 have hI:((i+([]:List Tok).length:Nat):Int)≤(i:Int):=by simp
 obtain ⟨n,hn⟩:∃ n,i+([]:List Tok).length=n:=⟨_,rfl⟩
 rw [hn] at hc0 hI
 simp only [RC.cells,rcZ] at hc0 hc1
 clear h hb0 hz0 h1 hn
 go_enter func134,ntmps134
 go_wp2_with fail
 go_quiet (fail)
 go_wp2_with fail
 refine (H.out _ (H0.out.1.drawn ⟨nq,rfl⟩)).mono ?_
 rintro e w1 ⟨rfl,hb1,hp1⟩
 have hB1:=((But.of H0.out.2.1).trans (Drawn.but (P:=P) ⟨nq,rfl⟩)).trans hb1
 have hz1:w1.heap[w.heap.size]? = some (.cells rcZ.cells.toArray 60 (0,0)):=aO hb1 (show ((w.alloc (.cells rcZ.cells.toArray 60)).drewN nq).heap[w.heap.size]? = _ from H0.out.2.2) (by omega)
 have HE:=κ (cT rcZ hB1 rfl hP (dO hp1 (gY (by decide)) (by omega)) rfl)
 have c0:=β hz1
 have z0:=fun j=>frozen_of_row _ _ j _ _ hz1
 have hcE:=β (aM rcZ hz1)
 simp only [RC.cells,rcZ] at c0 z0
 clear hb1 hp1 hB1 hz1 H H0 hc0 hc1
 go_wp2
 change bodyPost _ _ _ _ _ (put8 w1 w.heap.size rcZ)
 generalize put8 w1 w.heap.size rcZ=WE at *
 simp only [RC.cells,rcZ] at hcE
 exact bodyPost_ret (v:=rcZ.val) (by simp [results,results134,go_sem,hcE,RC.val,rcZ]) rfl HE.out
theorem eJ {W:World} (n:Nat) (o:Obj) {a0 a1 a2 a3 a4:Addr} {x0 x1 x2 x3 x4:Value} (h0:W.cell? a0=some x0) (h1:W.cell? a1=some x1) (h2:W.cell? a2=some x2) (h3:W.cell? a3=some x3) (h4:W.cell? a4=some x4) :
 ((W.drewN n).alloc o).cell? a0=some x0∧((W.drewN n).alloc o).cell? a1=some x1∧((W.drewN n).alloc o).cell? a2=some x2∧((W.drewN n).alloc o).cell? a3=some x3∧((W.drewN n).alloc o).cell? a4=some x4:=by
 have hb:Below (W.drewN n).heap.size (W.drewN n) ((W.drewN n).alloc o):=ρ
 exact ⟨bZ (show (W.drewN n).cell? a0=_ from h0) hb,bZ (show (W.drewN n).cell? a1=_ from h1) hb,bZ (show (W.drewN n).cell? a2=_ from h2) hb,bZ (show (W.drewN n).cell? a3=_ from h3) hb,bZ (show (W.drewN n).cell? a4=_ from h4) hb⟩
theorem Iq (P d:Nat) (t:Tok) (r:List Tok) (w:World) (h:RS w P (t::r) d 0) (hk:t.k=2) :
 Calls prog 134 #[.pointer (some ⟨P,0,none⟩)] w (RPost P w d (pX 8 d (t::r))):=by
 have hq:pX 8 d (t::r)=some ((.lit 1 t.n [] false),r):=by rw [cU,dP,if_pos hk]
 have HQ:=κ hq
 have e1:(t.k==2)=true:=by rw [hk];rfl
 clear hk hq
 have hP:=h.lt
 have hb0:Below w.heap.size w (w.alloc (.cells rcZ.cells.toArray 60)):=ρ
 have hz0:=heap_alloc_new w (.cells rcZ.cells.toArray 60)
 have H0:=κ (ι (h.below hb0) (ι hb0 hz0))
 obtain ⟨A,c,i,h1,h2,h3⟩:=h.below hb0
 have hc0:=β h1 0
 have hc1:=β h1 1
 obtain ⟨b,off,rfl,hlt,k0,k1,k2⟩:=h2.front
 obtain ⟨n,hn⟩:∃ n,i+(t::r).length=n:=⟨_,rfl⟩
 rw [hn] at hc0
 have hin:(i:Int)<(n:Int):=by simp at hn;omega
 have hinN:i<n:=by simp at hn;omega
 have hin0:(0:Int)≤(i:Int):=by omega
 have hlt2:¬(n:Int)≤(i:Int):=by omega
 have hltN:¬n≤i:=by omega
 simp only [RC.cells,rcZ] at hc0 hc1 k0 k1 k2
 clear h hb0 hz0 h1 h2 h3 hn
 go_enter func134,ntmps134
 go_wp2_with fail
 go_quiet (fail)
 go_wp2_with fail
 obtain ⟨k0a,k1a,k2a,h0a,h1a⟩:=eJ (nq+1) (.cells #[.int .u8 0,.string ⟨#[]⟩,.int .i64 0] 173) k0 k1 k2 hc0 hc1
 go_region
 have hA0:=fV (P:=P) t H0.out.2.1 H0.out.2.2 (World.size_alloc _ _) (nq+1)
 have hp0:=(H0.out.1.drawn (w':=(w.alloc (.cells rcZ.cells.toArray 60)).drewN (nq+1)) ⟨nq+1,rfl⟩).below ((θ).alloc (ν _) (.cells #[.int .u8 t.k,.string ⟨t.s.toArray⟩,.int .i64 t.n] 173))
 simp only [RC.cells,rcZ] at hA0 hp0
 have HA:=κ hA0
 have HP:=κ hp0
 clear hA0 hp0 k0a k1a k2a h0a h1a hc0 hc1 k0 k1 k2 H0 hin hinN hin0 hlt2 hltN
 generalize ((w.alloc (.cells #[.int .u8 0,.int .u8 0,.int .i64 0,.string ⟨#[]⟩,.bool false,.string ⟨#[]⟩,.string ⟨#[]⟩,.slice none 0 0] 60)).drewN (nq+1)).alloc (.cells #[.int .u8 t.k,.string ⟨t.s.toArray⟩,.int .i64 t.n] 173)=v0 at *
 obtain ⟨j,n1,n2,n3,n4⟩:=HP.out.next
 have hA1:=HA.out.but (But.set P 1 v0 (.int .i64 ((j:Int)+1))) hP
 obtain ⟨⟨⟨a0,a1,a2,a3,a4,a5,a6,a7,a8,a9⟩,c0⟩,z0,t0,t1,t2⟩:=hA1.cells
 have tk:=HA.out.cells.2.2.1
 obtain ⟨rz,hz⟩:=hA1.z
 have hcE:=β (aM (rcL 1 t.n [] false) hz)
 have HE:=κ (eM (rcL 1 t.n [] false) hA1.b rfl hP (S:=fun g=>w.heap.size<g) (fun _ h=>h) (show RX _ _ (.lit 1 t.n [] false) (rcL 1 t.n [] false) from rfl) n4 HQ.out)
 simp only [RC.cells] at c0
 clear hA1 hz n4 HA HP HQ
 go_wp2
 change bodyPost _ _ _ _ _ (put8 _ w.heap.size (rcL 1 t.n [] false))
 generalize put8 _ w.heap.size (rcL 1 t.n [] false)=WE at *
 simp only [RC.cells,rcL] at hcE
 exact bodyPost_ret (v:=RC.val (rcL 1 t.n [] false)) (by simp [results,results134,go_sem,hcE,RC.val,rcL]) rfl HE.out
theorem Ip (P d:Nat) (t:Tok) (r:List Tok) (w:World) (h:RS w P (t::r) d 0) (hk:t.k=3) :
 Calls prog 134 #[.pointer (some ⟨P,0,none⟩)] w (RPost P w d (pX 8 d (t::r))):=by
 have hq:pX 8 d (t::r)=some ((.lit 2 0 t.s false),r):=by rw [cU,dP,if_neg (by omega),if_pos hk]
 have HQ:=κ hq
 have e1:(t.k==2)=false:=by rw [hk];rfl
 have e2:(t.k==3)=true:=by rw [hk];rfl
 clear hk hq
 have hP:=h.lt
 have hb0:Below w.heap.size w (w.alloc (.cells rcZ.cells.toArray 60)):=ρ
 have hz0:=heap_alloc_new w (.cells rcZ.cells.toArray 60)
 have H0:=κ (ι (h.below hb0) (ι hb0 hz0))
 obtain ⟨A,c,i,h1,h2,h3⟩:=h.below hb0
 have hc0:=β h1 0
 have hc1:=β h1 1
 obtain ⟨b,off,rfl,hlt,k0,k1,k2⟩:=h2.front
 obtain ⟨n,hn⟩:∃ n,i+(t::r).length=n:=⟨_,rfl⟩
 rw [hn] at hc0
 have hin:(i:Int)<(n:Int):=by simp at hn;omega
 have hinN:i<n:=by simp at hn;omega
 have hin0:(0:Int)≤(i:Int):=by omega
 have hlt2:¬(n:Int)≤(i:Int):=by omega
 have hltN:¬n≤i:=by omega
 simp only [RC.cells,rcZ] at hc0 hc1 k0 k1 k2
 clear h hb0 hz0 h1 h2 h3 hn
 go_enter func134,ntmps134
 go_wp2_with fail
 go_quiet (fail)
 go_wp2_with fail
 obtain ⟨k0a,k1a,k2a,h0a,h1a⟩:=eJ (nq+1) (.cells #[.int .u8 0,.string ⟨#[]⟩,.int .i64 0] 173) k0 k1 k2 hc0 hc1
 go_region
 have hA0:=fV (P:=P) t H0.out.2.1 H0.out.2.2 (World.size_alloc _ _) (nq+1)
 have hp0:=(H0.out.1.drawn (w':=(w.alloc (.cells rcZ.cells.toArray 60)).drewN (nq+1)) ⟨nq+1,rfl⟩).below ((θ).alloc (ν _) (.cells #[.int .u8 t.k,.string ⟨t.s.toArray⟩,.int .i64 t.n] 173))
 simp only [RC.cells,rcZ] at hA0 hp0
 have HA:=κ hA0
 have HP:=κ hp0
 clear hA0 hp0 k0a k1a k2a h0a h1a hc0 hc1 k0 k1 k2 H0 hin hinN hin0 hlt2 hltN
 generalize ((w.alloc (.cells #[.int .u8 0,.int .u8 0,.int .i64 0,.string ⟨#[]⟩,.bool false,.string ⟨#[]⟩,.string ⟨#[]⟩,.slice none 0 0] 60)).drewN (nq+1)).alloc (.cells #[.int .u8 t.k,.string ⟨t.s.toArray⟩,.int .i64 t.n] 173)=v0 at *
 obtain ⟨j,n1,n2,n3,n4⟩:=HP.out.next
 have hA1:=HA.out.but (But.set P 1 v0 (.int .i64 ((j:Int)+1))) hP
 obtain ⟨⟨⟨a0,a1,a2,a3,a4,a5,a6,a7,a8,a9⟩,c0⟩,z0,t0,t1,t2⟩:=hA1.cells
 have tk:=HA.out.cells.2.2.1
 obtain ⟨rz,hz⟩:=hA1.z
 have hcE:=β (aM (rcL 2 0 t.s false) hz)
 have HE:=κ (eM (rcL 2 0 t.s false) hA1.b rfl hP (S:=fun g=>w.heap.size<g) (fun _ h=>h) (show RX _ _ (.lit 2 0 t.s false) (rcL 2 0 t.s false) from rfl) n4 HQ.out)
 simp only [RC.cells] at c0
 clear hA1 hz n4 HA HP HQ
 go_wp2
 change bodyPost _ _ _ _ _ (put8 _ w.heap.size (rcL 2 0 t.s false))
 generalize put8 _ w.heap.size (rcL 2 0 t.s false)=WE at *
 simp only [RC.cells,rcL] at hcE
 exact bodyPost_ret (v:=RC.val (rcL 2 0 t.s false)) (by simp [results,results134,go_sem,hcE,RC.val,rcL]) rfl HE.out
