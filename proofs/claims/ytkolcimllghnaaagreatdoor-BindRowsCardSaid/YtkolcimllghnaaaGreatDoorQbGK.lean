/-
 Contracts. Conditions: those of each.
-/
import Derived.Test.YtkolcimllghnaaaGreatDoorQbGJ
import Derived.Deep.LoopGhost
set_option maxRecDepth 100000
set_option maxHeartbeats 8000000
namespace Go.Proofs.YtkolcimllghnaaaGreatDoor
open Lp Go.Proofs.Tryz
open Go.RowKit
theorem RS.lt {w:World} {P d:Nat} {bad:Int} {l:List Tok} (h:RS w P l d bad):P<w.heap.size:=by
 obtain ⟨A,c,i,h1,_⟩:=h
 exact aL h1
theorem RX.drew {S:Nat→Prop} {w:World} {x:Lp.X} {r:RC} (h:RX S w x r):RX S w.drew x r:=RX.turn (w:=w) (w':=w.drew) (fun _ _ h0 hg=>⟨h0,hg⟩) h
def RPostR (P:Nat) (w:World) (d:Nat) (q:Option (Lp.X×List Tok)) (r:RC) (w':World):Prop :=
 But P w w'∧match q with
 | none=>RBad P w' d
 | some (x,l')=>RX (fun g=>w.heap.size≤g) w' x r∧RS w' P l' d 0
theorem RPost.open_ {P d:Nat} {w w':World} {q:Option (Lp.X×List Tok)} {e:Ending} (h:RPost P w d q e w'):∃ r:RC,e=.returned r.val∧RPostR P w d q r w':=by
 obtain ⟨h1,r,h2,h3⟩:=h
 exact ⟨r,h2,h1,by cases q<;>exact h3⟩
theorem RPostR.wrap {P d:Nat} {w w1 w':World} {q:Option (Lp.X×List Tok)} {r:RC} (h:RPostR P w1 d q r w') (hb:But P w w1) (h1:w.heap.size<w1.heap.size) (hP:P<w.heap.size):RPost P w d q (.returned r.val) (put8 w' w.heap.size r):=by
 obtain ⟨h2,h3⟩:=h
 cases q with
 | none=>exact RPost.no r rfl (fY (hb.trans h2) (ν _)) (h3.put8 hP)
 | some p=>exact RPost.yes r rfl (fY (hb.trans h2) (ν _)) (RX.mono (fun g hg _=>by have:w1.heap.size≤g:=hg;show _≤g;omega) (jP (fun k hk=>by have:w1.heap.size≤k:=hk;omega) h3.1)) (kU h3.2 hP)
structure Lev (B G P:Nat) (w0 w:World) (rc:RC):Prop where
 b:But P w0 w
 z:∃ r0:RC,w.heap[B]? = some (.cells r0.cells.toArray 60 (0,0))
 x:w.heap[G]? = some (.cells rc.cells.toArray 60 (0,0))
theorem Lev.but {B G P:Nat} {w0 w w':World} {r1:RC} (h:Lev B G P w0 w r1) (hb:But P w w') (hP:P<B) (hG:B<G):Lev B G P w0 w' r1:=by
 obtain ⟨h1,⟨r0,h2⟩,h3⟩:=h
 exact ⟨h1.trans hb,⟨r0,aO hb h2 (by omega)⟩,aO hb h3 (by omega)⟩
theorem Lev.cells {B G P:Nat} {w0 w:World} {r1:RC} (h:Lev B G P w0 w r1):(∃ r0:RC,∀ j,w.cell? ⟨B,j,none⟩=r0.cells.toArray[j]?)∧(∀ j,w.cell? ⟨G,j,none⟩=r1.cells.toArray[j]?)∧(∀ j,w.frozen? ⟨B,j,none⟩=false)∧(∀ j,w.frozen? ⟨G,j,none⟩=false):=by
 obtain ⟨h1,⟨r0,h2⟩,h3⟩:=h
 exact ⟨⟨r0,β h2⟩,β h3,fun j=>frozen_of_row w _ j _ _ h2,fun j=>frozen_of_row w _ j _ _ h3⟩
theorem Lev.put {B G P:Nat} {w0 w:World} {r1:RC} (h:Lev B G P w0 w r1) (hG:B<G) (hB:w0.heap.size≤B) (r:RC):Lev B G P w0 (put8 w G r) r:=by
 obtain ⟨h1,⟨r0,h2⟩,h3⟩:=h
 exact ⟨fY h1 (by omega),⟨r0,(jC (by omega)).trans h2⟩,aM r h3⟩
def Sx (B G:Nat):Nat→Prop:=fun g=>B+1≤g∧g≠G
def LevIs (lev B G P d:Nat) (w0:World) (l:List Tok) (gk:Nat) (done:Bool) (w:World):Prop :=
 ∃ rc:RC,Lev B G P w0 w rc∧((gk=0∧RBad P w d∧pX lev d l=none) ∨
  ∃ (x:Lp.X) (r:List Tok),gk=r.length+1∧r.length<l.length∧RX (Sx B G) w x rc∧RS w P r d 0∧pX lev d l=pL lev d x done r)
theorem nX {lev B G P d:Nat} {w0 w:World} {l:List Tok} {rc:RC} (hB:w0.heap.size=B) (hP:P<B) (h:Lev B G P w0 w rc) (hq:(RBad P w d∧pX lev d l=none)∨∃ (x:Lp.X) (r:List Tok),RX (Sx B G) w x rc∧RS w P r d 0∧pX lev d l=some (x,r)) :
 RPost P w0 d (pX lev d l) (.returned rc.val) (put8 w B rc):=by
 rcases hq with ⟨h1,h2⟩|⟨x,r,h1,h2,h3⟩
 ·exact RPost.no rc h2 (fY h.b (by omega)) (h1.put8 hP)
 ·exact RPost.yes rc h3 (fY h.b (by omega)) (RX.mono (fun g hg _=>by have:B+1≤g∧g≠G:=hg;show _≤g;omega) (jP (fun k hk=>by have:B+1≤k∧k≠G:=hk;omega) h1)) (kU h2 hP)
theorem Lev.far {B G P:Nat} {w0 w w':World} {rc:RC} (h:Lev B G P w0 w rc) (hb:Below w.heap.size w w'):Lev B G P w0 w' rc :=
 ⟨h.b.trans (But.of hb),by obtain ⟨r0,h2⟩:=h.z;exact ⟨r0,aA h2 hb⟩,aA h.x hb⟩
theorem pQ {lev B G P d:Nat} {w0 w4 w5:World} {l r':List Tok} {u:List UInt8} {x:Lp.X} {rc rc2:RC} {done':Bool} (hL:Lev B G P w0 w5 rc) (hx:RX (Sx B G) w5 x rc) (hq:RPostR P w4 d (pX (lev+1) d r') rc2 w5)
 (hw4:G<w4.heap.size) (hB:w0.heap.size=B) (hG:B<G) (hP:P<B)
 (hpx:pX lev d l=match pX (lev+1) d r' with|none=>none|some (y,r2)=>pL lev d (.bin u x y) done' r2) (hr:r'.length<l.length) :
 ∃ gk,gk≤r'.length∧LevIs lev B G P d w0 l gk done' (put8 (w5.alloc (.cells (rc.cells++rc2.cells).toArray 60)) G (rcP 4 u w5.heap.size 2)):=by
 have hb5:Below w5.heap.size w5 (w5.alloc (.cells (rc.cells++rc2.cells).toArray 60)):=ρ
 have hL6:=(hL.far hb5).put hG (by omega) (rcP 4 u w5.heap.size 2)
 obtain ⟨q1,q2⟩:=hq
 have hz:=q1.size
 cases hp:pX (lev+1) d r' with
 | none =>
   rw [hp] at q2 hpx
   exact ⟨0,Nat.zero_le _,_,hL6,.inl ⟨rfl,(RBad.below q2 hb5).put8 (by omega),hpx⟩⟩
 | some p =>
   obtain ⟨y,r2⟩:=p
   rw [hp] at q2 hpx
   obtain ⟨g1,g2⟩:=q2
   have hlen:=fT hp
   refine ⟨r2.length+1,by omega,_,hL6,.inr ⟨_,r2,rfl,by omega, ?_,kU (g2.below hb5) (by omega),hpx⟩⟩
   have hS:∀ k,Sx B G k→k≠G:=fun k hk=>hk.2
   have k1:=jP (r:=rcP 4 u w5.heap.size 2) hS (RX.below hb5 hx)
   have k2:=jP (r:=rcP 4 u w5.heap.size 2) hS (RX.below hb5 (RX.mono (S':=Sx B G) (fun g hg _=>by have:w4.heap.size≤g:=hg;exact ⟨by omega,by omega⟩) g1))
   refine ⟨w5.heap.size,rc,rc2,rfl,⟨by omega,by omega⟩, ?_,k1,k2⟩
   rw [jC (by omega)]
   exact heap_alloc_new w5 _
theorem lH {lev:Nat} {r:List Tok} {s:List UInt8} (h:cA lev r=some s):∃ t r',r=t::r':=by
 have:=gE h
 cases r with
 | nil=>simp at this
 | cons t r'=>exact ⟨t,r',rfl⟩
theorem LevIs.end_ {lev B G P d:Nat} {w0 w:World} {l r:List Tok} {rc:RC} {x:Lp.X} {done:Bool} (hB:w0.heap.size=B) (hP:P<B) (hL:Lev B G P w0 w rc) (hx:RX (Sx B G) w x rc) (hp:RS w P r d 0) (hpx:pX lev d l=pL lev d x done r) (he:pL lev d x done r=some (x,r)) :
 RPost P w0 d (pX lev d l) (.returned rc.val) (put8 w B rc):=nX hB hP hL (.inr ⟨x,r,hx,hp,hpx.trans he⟩)
theorem nA {q:Option (List UInt8)} {done:Bool} (h:¬ ∃ s,q=some s∧done=false):(if done then none else q)=none∧((q.getD [] != [])=false∨done=true):=by
 cases done
 ·cases q with
  | none=>exact ⟨rfl,.inl rfl⟩
  | some s=>exact absurd ⟨s,rfl,rfl⟩ h
 ·exact ⟨rfl,.inr rfl⟩
theorem Nb {S:Nat→Prop} {w:World} {x:Lp.X} {N:Nat} (h:RX S w (.isn false x) (rcP 5 [] N 1)):RX S w (.isn true x) (rcP 5 fW N 1):=by
 obtain ⟨g,r1,he,h0,h2,h3⟩:=h
 have hg:N=g:=by
  have:=congrArg RC.A he
  simp [rcP] at this
  exact this
 subst hg
 exact ⟨N,r1,rfl,h0,h2,h3⟩
theorem Lev.not {B G P N:Nat} {w0 w:World} (h:Lev B G P w0 w (rcP 5 [] N 1)) (hG:B<G) (hB:w0.heap.size≤B):Lev B G P w0 (w.setCell ⟨G,6,none⟩ (.string ⟨#[78,79,84]⟩)) (rcP 5 fW N 1):=by
 obtain ⟨h1,⟨r0,h2⟩,h3⟩:=h
 refine ⟨bK h1 (by omega) _ _,⟨r0,(Below.heap_setCell w ⟨G,6,none⟩ _ B (by show B≠G;omega)).trans h2⟩, ?_⟩
 have:=heap_setCell_same w G 6 _ _ (.string ⟨#[78,79,84]⟩) h3
 rw [this]
 simp [rcP,RC.cells,fW]
theorem pP {B G P d:Nat} {w0 w:World} {l r2:List Tok} {x:Lp.X} {rc:RC} {done n:Bool} (hL:Lev B G P w0 w rc) (hx:RX (Sx B G) w (.isn n x) rc) (hp:RS w P r2 d 0) (hr:r2.length<l.length) (hpx:pX 4 d l=pL 4 d (.isn n x) done r2) :
 LevIs 4 B G P d w0 l (r2.length+1) done w:=⟨rc,hL,.inr ⟨_,r2,rfl,hr,hx,hp,hpx⟩⟩
theorem sC {lev B G P d:Nat} {w0 w:World} {l:List Tok} {rc:RC} {done:Bool} (hL:Lev B G P w0 w rc) (hb:RBad P w d) (hpx:pX lev d l=none) :
 LevIs lev B G P d w0 l 0 done w:=⟨rc,hL,.inl ⟨rfl,hb,hpx⟩⟩
theorem Zl (P d n:Nat) (HF:RvOk 2 P d n):RvOk 1 P d n:=by
 intro w l hl h
 have hP:=h.lt
 have hb0:Below w.heap.size w (w.alloc (.cells rcZ.cells.toArray 60)):=ρ
 have h0:=h.below hb0
 have hz0:=heap_alloc_new w (.cells rcZ.cells.toArray 60)
 obtain ⟨A0,c00,i0,q1, -, -⟩:=h0
 have c3:=β q1 3
 simp only [RC.cells,rcZ] at c3
 show Calls prog 85 #[.pointer (some ⟨P,0,none⟩),.int .i64 1] w _
 have HC:=κ (show Calls prog 85 #[.pointer (some ⟨P,0,none⟩),.int .i64 2] _ _ from HF _ l hl (h.below hb0))
 have HX:=κ (@oP 1 d l (by decide) (by decide))
 have HF':=κ HF
 have HZ0:=κ hz0
 have HB0:=κ hb0
 clear h q1 hz0 hb0 HF
 go_enter func85,ntmps85
 go_wp2_with fail
 refine μ HC ?_
 rintro e w1 hp1
 obtain ⟨⟨k,vk,vi,vs,vb,tt,ss,A,nn,c⟩,rfl,hb1,hq1⟩:=hp1.open_
 simp only [RC.val]
 clear hp1 c3
 have hLb:But P w w1:=(But.of HB0.out).trans hb1
 have hb2:Below w1.heap.size w1 (w1.alloc (.cells #[.int .u8 k,.int .u8 vk,.int .i64 vi,.string vs,.bool vb,.string tt,.string ss,.slice A nn c] 60)):=ρ
 have hG:w.heap.size<w1.heap.size:=by have:=hb1.size;simp at this;omega
 have hL2:Lev w.heap.size w1.heap.size P w (w1.alloc (.cells #[.int .u8 k,.int .u8 vk,.int .i64 vi,.string vs,.bool vb,.string tt,.string ss,.slice A nn c] 60)) ⟨k,vk,vi,vs,vb,tt,ss,A,nn,c⟩ :=
  ⟨hLb.trans (But.of hb2),⟨rcZ,aA (aO hb1 HZ0.out (by omega)) hb2⟩,heap_alloc_new w1 _⟩
 obtain ⟨gk,hgk⟩:∃ gk,LevIs 1 w.heap.size w1.heap.size P d w l gk false (w1.alloc (.cells #[.int .u8 k,.int .u8 vk,.int .i64 vi,.string vs,.bool vb,.string tt,.string ss,.slice A nn c] 60)):=by
  have hx:=HX.out
  cases hpx:pX 2 d l with
  | none =>
    rw [show 1+1=2 from rfl,hpx] at hx
    rw [hpx] at hq1
    exact ⟨0,_,hL2,.inl ⟨rfl,RBad.below hq1 hb2,hx⟩⟩
  | some p =>
    obtain ⟨x,r⟩:=p
    rw [show 1+1=2 from rfl,hpx] at hx
    rw [hpx] at hq1
    obtain ⟨g1,g2⟩:=hq1
    refine ⟨r.length+1,_,hL2,.inr ⟨x,r,rfl,fT hpx, ?_,g2.below hb2,hx⟩⟩
    refine RX.below hb2 (RX.mono (fun g hg hl => ?_) g1)
    have h1:(w.alloc (.cells rcZ.cells.toArray 60)).heap.size≤g:=hg
    rw [World.size_alloc] at h1
    exact ⟨by omega,by omega⟩
 have HG:=κ hgk
 clear hq1 hLb hb1 hb2 hL2 HC HZ0 HB0 hgk HX
 go_wp2_with fail
 generalize (w1.alloc (.cells #[.int .u8 k,.int .u8 vk,.int .i64 vi,.string vs,.bool vb,.string tt,.string ss,.slice A nn c] 60))=w2 at *
 generalize w1.heap.size=G at *
 go_loopg [6,7,48,73] gk (fun gk s6 _ _ _ wr=>∃ done:Bool,s6=.bool done∧LevIs 1 w.heap.size G P d w l gk done wr)
 case atStart=>exact ⟨false,rfl,HG.out⟩
 case round =>
  clear HG
  obtain ⟨done,rfl,⟨k,vk,vi,vs,vb,tt,ss,A,nn,c⟩,hL,hst⟩:=hrel
  rcases hst with ⟨rfl,hbad,hnone⟩|⟨x,r,rfl,hrl,hx,hp,hpx⟩
  ·obtain ⟨l',d',b',hb',hpb,hd1,hd2⟩:=hbad
   have HE:=κ (nX (lev:=1) (l:=l) rfl hP hL (.inl ⟨⟨l',d',b',hb',hpb,hd1,hd2⟩,hnone⟩))
   obtain ⟨A0,c00,i0,q1, -, -⟩:=hpb
   have c3:=β q1 3
   have eb:(b'==0)=false:=η hb'
   obtain ⟨⟨⟨a0,a1,a2,a3,a4,a5,a6,a7,a8,a9⟩,c0⟩,c1,z0,z1⟩:=hL.cells
   obtain ⟨rz,hz⟩:=hL.z
   have hcE:=β (aM ⟨k,vk,vi,vs,vb,tt,ss,A,nn,c⟩ hz)
   simp only [RC.cells] at c0 c1
   clear hL q1 hb' hz HF'
   go_wp2
   change bodyPost _ _ _ _ _ (put8 _ w.heap.size ⟨k,vk,vi,vs,vb,tt,ss,A,nn,c⟩)
   generalize put8 _ w.heap.size ⟨k,vk,vi,vs,vb,tt,ss,A,nn,c⟩=WE at *
   simp only [RC.cells] at hcE
   exact bodyPost_ret (v:=RC.val ⟨k,vk,vi,vs,vb,tt,ss,A,nn,c⟩) (by simp [results,results85,go_sem,hcE,RC.val]) rfl HE.out
  ·have hp':=hp
   obtain ⟨A0,c00,i0,q1, -, -⟩:=hp'
   have c3:=β q1 3
   have HSg:=κ (Tq P d r _ hp)
   have HP1:=κ hp
   have HL:=κ hL
   have HX:=κ hx
   have HPX:=κ hpx
   clear q1 hp hL hx hpx
   go_wp2_with fail
   refine μ HSg ?_
   rintro e w3 ⟨rfl,hb3⟩
   by_cases hA:∃ s,cA 1 r=some s∧done=false
   ·obtain ⟨s,hs,rfl⟩:=hA
    obtain ⟨t,r',rfl⟩:=lH hs
    have hmem:s∈bJ 1:=List.mem_of_find?_eq_some hs
    have hne0:s≠[]:=lB _ _ hmem
    have hne:(s==[])=false:=η hne0
    have hne2:(s != [])=true:=by rw [bne,hne];rfl
    have hPX:=HPX.out.trans (lV hs (by decide))
    have hup:=mW 1 s hmem
    rw [hs]
    simp only [Option.getD_some]
    obtain ⟨i,n1,n2,n3,n4⟩:=(HP1.out.below hb3).next
    have hL4:=(HL.out.far hb3).but (But.set P 1 w3 (.int .i64 ((i:Int)+1))) hP hG
    have hx4:=(RX.below hb3 HX.out).far (g:=P) (o:=1) (v:=.int .i64 ((i:Int)+1)) (fun k hk _=>by have:w.heap.size+1≤k∧k≠G:=hk;omega)
    have HU:=κ (kE s (w3.setCell ⟨P,1,none⟩ (.int .i64 ((i:Int)+1))).drew _ hup)
    have HC:=κ (show Calls prog 85 #[.pointer (some ⟨P,0,none⟩),.int .i64 2] _ _ from HF'.out (w3.setCell ⟨P,1,none⟩ (.int .i64 ((i:Int)+1))).drew r' (by simp at hrl;omega) n4.drew)
    have hGs:G<(w3.setCell ⟨P,1,none⟩ (.int .i64 ((i:Int)+1))).heap.size:=aL hL4.x
    obtain ⟨-,c1, -, -⟩:=hL4.cells
    simp only [RC.cells] at c1
    have cc:=ι (c1 0) (ι (c1 1) (ι (c1 2) (ι (c1 3) (ι (c1 4) (ι (c1 5) (ι (c1 6) (c1 7)))))))
    simp only [γ,δ,ε] at cc
    have HN4:=κ n4.drew
    have HL4:=κ (show Lev w.heap.size G P w (w3.setCell ⟨P,1,none⟩ (.int .i64 ((i:Int)+1))).drew ⟨k,vk,vi,vs,vb,tt,ss,A,nn,c⟩ from ⟨hL4.b.drew,hL4.z,hL4.x⟩)
    have HX4:=κ (show RX (Sx w.heap.size G) (w3.setCell ⟨P,1,none⟩ (.int .i64 ((i:Int)+1))).drew x ⟨k,vk,vi,vs,vb,tt,ss,A,nn,c⟩ from RX.drew hx4)
    have hdn:(1==4)=false:=by decide
    rw [hdn] at hPX
    clear hs hmem hne0 hup n4 hL4 hx4 hb3 HSg HX HPX HL HP1 c1 hdn
    generalize upW s=u at *
    have HPX4:=κ hPX
    clear hPX
    obtain ⟨d0,d1,d2,d3,d4,d5,d6,d7⟩:=cc
    go_wp2_with fail
    go_region_with
     (first
      | (go_at_call 136;refine μ HU ?_;rintro e w5 ⟨rfl,rfl⟩)
      | (go_at_call 85;refine μ HC ?_;rintro e w5 hp5;obtain ⟨⟨k2,vk2,vi2,vs2,vb2,tt2,ss2,A2,nn2,c2⟩,rfl,hq5⟩:=hp5.open_;clear hp5;simp only [RC.val];have hL5:=HL4.out.but hq5.1 hP hG;have hc5:=(hL5.cells).2.1;simp only [RC.cells] at hc5;have hd2:w5.cell? ⟨G,0,none⟩=some (.int .u8 k)∧w5.cell? ⟨G,1,none⟩=some (.int .u8 vk)∧w5.cell? ⟨G,2,none⟩=some (.int .i64 vi)∧w5.cell? ⟨G,3,none⟩=some (.string vs)∧w5.cell? ⟨G,4,none⟩=some (.bool vb)∧w5.cell? ⟨G,5,none⟩=some (.string tt)∧w5.cell? ⟨G,6,none⟩=some (.string ss)∧w5.cell? ⟨G,7,none⟩=some (.slice A nn c):=⟨hc5 0,hc5 1,hc5 2,hc5 3,hc5 4,hc5 5,hc5 6,hc5 7⟩;have hL6:=hL5.far ((θ).alloc (ν _) (.cells #[.int .u8 k,.int .u8 vk,.int .i64 vi,.string vs,.bool vb,.string tt,.string ss,.slice A nn c,.int .u8 k2,.int .u8 vk2,.int .i64 vi2,.string vs2,.bool vb2,.string tt2,.string ss2,.slice A2 nn2 c2] 60));have hc6:=(hL6.cells).2.1;have hz6:=(hL6.cells).2.2.2;simp only [RC.cells] at hc6))
    all_goals
     have hx5:=RX.but hq5.1 HN4.out HX4.out
     obtain ⟨gk',hgk1,hgk2⟩:=pQ (done':=false) hL5 hx5 hq5 (show G<(w3.setCell ⟨P,1,none⟩ (.int .i64 ((i:Int)+1))).drew.heap.size from hGs) rfl hG hP HPX4.out (by simp at hrl;omega)
     simp only [put8,RC.cells,rcP,List.cons_append,List.nil_append] at hgk2
     have HGK:=κ hgk2
     have hlr:(t::r').length=r'.length+1:=rfl
     clear hx5 hgk2 hq5 hL5 hc5 hc6 hz6 hd2 hL6
     go_wp2
     go_roundg gk'
     case measure=>omega
     case rel=>exact ⟨_,rfl,HGK.out⟩
   ·obtain ⟨hA1,hA2⟩:=nA hA
    have hL3:=HL.out.far hb3
    have hx3:=RX.below hb3 HX.out
    have hp3:=HP1.out.below hb3
    obtain ⟨sg,hsg⟩:∃ sg,(cA 1 r).getD []=sg:=⟨_,rfl⟩
    rw [hsg] at hA2 ⊢
    clear hsg
    have HE:=κ (LevIs.end_ (lev:=1) (l:=l) (done:=done) rfl hP hL3 hx3 hp3 HPX.out (mZ hA1 (.inl (by decide))))
    obtain ⟨⟨⟨a0,a1,a2,a3,a4,a5,a6,a7,a8,a9⟩,c0⟩,c1,z0,z1⟩:=hL3.cells
    obtain ⟨rz,hz⟩:=hL3.z
    have hcE:=β (aM ⟨k,vk,vi,vs,vb,tt,ss,A,nn,c⟩ hz)
    simp only [RC.cells] at c0 c1
    clear hL3 hx3 hp3 hz HF' HSg HP1 HL HX HPX hA hA1 hb3
    have hA3:sg=[]∨(done=true∧(sg==[])=false∧(sg != [])=true):=by
     by_cases hs:sg=[]
     ·exact .inl hs
     ·have e1:(sg==[])=false:=η hs
      have e2:(sg != [])=true:=by rw [bne,e1];rfl
      rcases hA2 with h|h
      ·rw [e2] at h;cases h
      ·exact .inr ⟨h,e1,e2⟩
    clear hA2
    clear hrl
    rcases hA3 with rfl|⟨rfl,e1,e2⟩
    all_goals
     go_wp2
     change bodyPost _ _ _ _ _ (put8 _ w.heap.size ⟨k,vk,vi,vs,vb,tt,ss,A,nn,c⟩)
     generalize put8 _ w.heap.size ⟨k,vk,vi,vs,vb,tt,ss,A,nn,c⟩=WE at *
     simp only [RC.cells] at hcE
     exact bodyPost_ret (v:=RC.val ⟨k,vk,vi,vs,vb,tt,ss,A,nn,c⟩) (by simp [results,results85,go_sem,hcE,RC.val]) rfl HE.out
theorem Zk (P d n:Nat) (HF:RvOk 3 P d n):RvOk 2 P d n:=by
 intro w l hl h
 have hP:=h.lt
 have hb0:Below w.heap.size w (w.alloc (.cells rcZ.cells.toArray 60)):=ρ
 have h0:=h.below hb0
 have hz0:=heap_alloc_new w (.cells rcZ.cells.toArray 60)
 obtain ⟨A0,c00,i0,q1, -, -⟩:=h0
 have c3:=β q1 3
 simp only [RC.cells,rcZ] at c3
 show Calls prog 85 #[.pointer (some ⟨P,0,none⟩),.int .i64 2] w _
 have HC:=κ (show Calls prog 85 #[.pointer (some ⟨P,0,none⟩),.int .i64 3] _ _ from HF _ l hl (h.below hb0))
 have HX:=κ (@oP 2 d l (by decide) (by decide))
 have HF':=κ HF
 have HZ0:=κ hz0
 have HB0:=κ hb0
 clear h q1 hz0 hb0 HF
 go_enter func85,ntmps85
 go_wp2_with fail
 refine μ HC ?_
 rintro e w1 hp1
 obtain ⟨⟨k,vk,vi,vs,vb,tt,ss,A,nn,c⟩,rfl,hb1,hq1⟩:=hp1.open_
 simp only [RC.val]
 clear hp1 c3
 have hLb:But P w w1:=(But.of HB0.out).trans hb1
 have hb2:Below w1.heap.size w1 (w1.alloc (.cells #[.int .u8 k,.int .u8 vk,.int .i64 vi,.string vs,.bool vb,.string tt,.string ss,.slice A nn c] 60)):=ρ
 have hG:w.heap.size<w1.heap.size:=by have:=hb1.size;simp at this;omega
 have hL2:Lev w.heap.size w1.heap.size P w (w1.alloc (.cells #[.int .u8 k,.int .u8 vk,.int .i64 vi,.string vs,.bool vb,.string tt,.string ss,.slice A nn c] 60)) ⟨k,vk,vi,vs,vb,tt,ss,A,nn,c⟩ :=
  ⟨hLb.trans (But.of hb2),⟨rcZ,aA (aO hb1 HZ0.out (by omega)) hb2⟩,heap_alloc_new w1 _⟩
 obtain ⟨gk,hgk⟩:∃ gk,LevIs 2 w.heap.size w1.heap.size P d w l gk false (w1.alloc (.cells #[.int .u8 k,.int .u8 vk,.int .i64 vi,.string vs,.bool vb,.string tt,.string ss,.slice A nn c] 60)):=by
  have hx:=HX.out
  cases hpx:pX 3 d l with
  | none =>
    rw [show 2+1=3 from rfl,hpx] at hx
    rw [hpx] at hq1
    exact ⟨0,_,hL2,.inl ⟨rfl,RBad.below hq1 hb2,hx⟩⟩
  | some p =>
    obtain ⟨x,r⟩:=p
    rw [show 2+1=3 from rfl,hpx] at hx
    rw [hpx] at hq1
    obtain ⟨g1,g2⟩:=hq1
    refine ⟨r.length+1,_,hL2,.inr ⟨x,r,rfl,fT hpx, ?_,g2.below hb2,hx⟩⟩
    refine RX.below hb2 (RX.mono (fun g hg hl => ?_) g1)
    have h1:(w.alloc (.cells rcZ.cells.toArray 60)).heap.size≤g:=hg
    rw [World.size_alloc] at h1
    exact ⟨by omega,by omega⟩
 have HG:=κ hgk
 clear hq1 hLb hb1 hb2 hL2 HC HZ0 HB0 hgk HX
 go_wp2_with fail
 generalize (w1.alloc (.cells #[.int .u8 k,.int .u8 vk,.int .i64 vi,.string vs,.bool vb,.string tt,.string ss,.slice A nn c] 60))=w2 at *
 generalize w1.heap.size=G at *
 go_loopg [6,7,48,73] gk (fun gk s6 _ _ _ wr=>∃ done:Bool,s6=.bool done∧LevIs 2 w.heap.size G P d w l gk done wr)
 case atStart=>exact ⟨false,rfl,HG.out⟩
 case round =>
  clear HG
  obtain ⟨done,rfl,⟨k,vk,vi,vs,vb,tt,ss,A,nn,c⟩,hL,hst⟩:=hrel
  rcases hst with ⟨rfl,hbad,hnone⟩|⟨x,r,rfl,hrl,hx,hp,hpx⟩
  ·obtain ⟨l',d',b',hb',hpb,hd1,hd2⟩:=hbad
   have HE:=κ (nX (lev:=2) (l:=l) rfl hP hL (.inl ⟨⟨l',d',b',hb',hpb,hd1,hd2⟩,hnone⟩))
   obtain ⟨A0,c00,i0,q1, -, -⟩:=hpb
   have c3:=β q1 3
   have eb:(b'==0)=false:=η hb'
   obtain ⟨⟨⟨a0,a1,a2,a3,a4,a5,a6,a7,a8,a9⟩,c0⟩,c1,z0,z1⟩:=hL.cells
   obtain ⟨rz,hz⟩:=hL.z
   have hcE:=β (aM ⟨k,vk,vi,vs,vb,tt,ss,A,nn,c⟩ hz)
   simp only [RC.cells] at c0 c1
   clear hL q1 hb' hz HF'
   go_wp2
   change bodyPost _ _ _ _ _ (put8 _ w.heap.size ⟨k,vk,vi,vs,vb,tt,ss,A,nn,c⟩)
   generalize put8 _ w.heap.size ⟨k,vk,vi,vs,vb,tt,ss,A,nn,c⟩=WE at *
   simp only [RC.cells] at hcE
   exact bodyPost_ret (v:=RC.val ⟨k,vk,vi,vs,vb,tt,ss,A,nn,c⟩) (by simp [results,results85,go_sem,hcE,RC.val]) rfl HE.out
  ·have hp':=hp
   obtain ⟨A0,c00,i0,q1, -, -⟩:=hp'
   have c3:=β q1 3
   have HSg:=κ (Tp P d r _ hp)
   have HP1:=κ hp
   have HL:=κ hL
   have HX:=κ hx
   have HPX:=κ hpx
   clear q1 hp hL hx hpx
   go_wp2_with fail
   refine μ HSg ?_
   rintro e w3 ⟨rfl,hb3⟩
   by_cases hA:∃ s,cA 2 r=some s∧done=false
   ·obtain ⟨s,hs,rfl⟩:=hA
    obtain ⟨t,r',rfl⟩:=lH hs
    have hmem:s∈bJ 2:=List.mem_of_find?_eq_some hs
    have hne0:s≠[]:=lB _ _ hmem
    have hne:(s==[])=false:=η hne0
    have hne2:(s != [])=true:=by rw [bne,hne];rfl
    have hPX:=HPX.out.trans (lV hs (by decide))
    have hup:=mW 2 s hmem
    rw [hs]
    simp only [Option.getD_some]
    obtain ⟨i,n1,n2,n3,n4⟩:=(HP1.out.below hb3).next
    have hL4:=(HL.out.far hb3).but (But.set P 1 w3 (.int .i64 ((i:Int)+1))) hP hG
    have hx4:=(RX.below hb3 HX.out).far (g:=P) (o:=1) (v:=.int .i64 ((i:Int)+1)) (fun k hk _=>by have:w.heap.size+1≤k∧k≠G:=hk;omega)
    have HU:=κ (kE s (w3.setCell ⟨P,1,none⟩ (.int .i64 ((i:Int)+1))).drew _ hup)
    have HC:=κ (show Calls prog 85 #[.pointer (some ⟨P,0,none⟩),.int .i64 3] _ _ from HF'.out (w3.setCell ⟨P,1,none⟩ (.int .i64 ((i:Int)+1))).drew r' (by simp at hrl;omega) n4.drew)
    have hGs:G<(w3.setCell ⟨P,1,none⟩ (.int .i64 ((i:Int)+1))).heap.size:=aL hL4.x
    obtain ⟨-,c1, -, -⟩:=hL4.cells
    simp only [RC.cells] at c1
    have cc:=ι (c1 0) (ι (c1 1) (ι (c1 2) (ι (c1 3) (ι (c1 4) (ι (c1 5) (ι (c1 6) (c1 7)))))))
    simp only [γ,δ,ε] at cc
    have HN4:=κ n4.drew
    have HL4:=κ (show Lev w.heap.size G P w (w3.setCell ⟨P,1,none⟩ (.int .i64 ((i:Int)+1))).drew ⟨k,vk,vi,vs,vb,tt,ss,A,nn,c⟩ from ⟨hL4.b.drew,hL4.z,hL4.x⟩)
    have HX4:=κ (show RX (Sx w.heap.size G) (w3.setCell ⟨P,1,none⟩ (.int .i64 ((i:Int)+1))).drew x ⟨k,vk,vi,vs,vb,tt,ss,A,nn,c⟩ from RX.drew hx4)
    have hdn:(2==4)=false:=by decide
    rw [hdn] at hPX
    clear hs hmem hne0 hup n4 hL4 hx4 hb3 HSg HX HPX HL HP1 c1 hdn
    generalize upW s=u at *
    have HPX4:=κ hPX
    clear hPX
    obtain ⟨d0,d1,d2,d3,d4,d5,d6,d7⟩:=cc
    go_wp2_with fail
    go_region_with
     (first
      | (go_at_call 136;refine μ HU ?_;rintro e w5 ⟨rfl,rfl⟩)
      | (go_at_call 85;refine μ HC ?_;rintro e w5 hp5;obtain ⟨⟨k2,vk2,vi2,vs2,vb2,tt2,ss2,A2,nn2,c2⟩,rfl,hq5⟩:=hp5.open_;clear hp5;simp only [RC.val];have hL5:=HL4.out.but hq5.1 hP hG;have hc5:=(hL5.cells).2.1;simp only [RC.cells] at hc5;have hd2:w5.cell? ⟨G,0,none⟩=some (.int .u8 k)∧w5.cell? ⟨G,1,none⟩=some (.int .u8 vk)∧w5.cell? ⟨G,2,none⟩=some (.int .i64 vi)∧w5.cell? ⟨G,3,none⟩=some (.string vs)∧w5.cell? ⟨G,4,none⟩=some (.bool vb)∧w5.cell? ⟨G,5,none⟩=some (.string tt)∧w5.cell? ⟨G,6,none⟩=some (.string ss)∧w5.cell? ⟨G,7,none⟩=some (.slice A nn c):=⟨hc5 0,hc5 1,hc5 2,hc5 3,hc5 4,hc5 5,hc5 6,hc5 7⟩;have hL6:=hL5.far ((θ).alloc (ν _) (.cells #[.int .u8 k,.int .u8 vk,.int .i64 vi,.string vs,.bool vb,.string tt,.string ss,.slice A nn c,.int .u8 k2,.int .u8 vk2,.int .i64 vi2,.string vs2,.bool vb2,.string tt2,.string ss2,.slice A2 nn2 c2] 60));have hc6:=(hL6.cells).2.1;have hz6:=(hL6.cells).2.2.2;simp only [RC.cells] at hc6))
    all_goals
     have hx5:=RX.but hq5.1 HN4.out HX4.out
     obtain ⟨gk',hgk1,hgk2⟩:=pQ (done':=false) hL5 hx5 hq5 (show G<(w3.setCell ⟨P,1,none⟩ (.int .i64 ((i:Int)+1))).drew.heap.size from hGs) rfl hG hP HPX4.out (by simp at hrl;omega)
     simp only [put8,RC.cells,rcP,List.cons_append,List.nil_append] at hgk2
     have HGK:=κ hgk2
     have hlr:(t::r').length=r'.length+1:=rfl
     clear hx5 hgk2 hq5 hL5 hc5 hc6 hz6 hd2 hL6
     go_wp2
     go_roundg gk'
     case measure=>omega
     case rel=>exact ⟨_,rfl,HGK.out⟩
   ·obtain ⟨hA1,hA2⟩:=nA hA
    have hL3:=HL.out.far hb3
    have hx3:=RX.below hb3 HX.out
    have hp3:=HP1.out.below hb3
    obtain ⟨sg,hsg⟩:∃ sg,(cA 2 r).getD []=sg:=⟨_,rfl⟩
    rw [hsg] at hA2 ⊢
    clear hsg
    have HE:=κ (LevIs.end_ (lev:=2) (l:=l) (done:=done) rfl hP hL3 hx3 hp3 HPX.out (mZ hA1 (.inl (by decide))))
    obtain ⟨⟨⟨a0,a1,a2,a3,a4,a5,a6,a7,a8,a9⟩,c0⟩,c1,z0,z1⟩:=hL3.cells
    obtain ⟨rz,hz⟩:=hL3.z
    have hcE:=β (aM ⟨k,vk,vi,vs,vb,tt,ss,A,nn,c⟩ hz)
    simp only [RC.cells] at c0 c1
    clear hL3 hx3 hp3 hz HF' HSg HP1 HL HX HPX hA hA1 hb3
    have hA3:sg=[]∨(done=true∧(sg==[])=false∧(sg != [])=true):=by
     by_cases hs:sg=[]
     ·exact .inl hs
     ·have e1:(sg==[])=false:=η hs
      have e2:(sg != [])=true:=by rw [bne,e1];rfl
      rcases hA2 with h|h
      ·rw [e2] at h;cases h
      ·exact .inr ⟨h,e1,e2⟩
    clear hA2
    clear hrl
    rcases hA3 with rfl|⟨rfl,e1,e2⟩
    all_goals
     go_wp2
     change bodyPost _ _ _ _ _ (put8 _ w.heap.size ⟨k,vk,vi,vs,vb,tt,ss,A,nn,c⟩)
     generalize put8 _ w.heap.size ⟨k,vk,vi,vs,vb,tt,ss,A,nn,c⟩=WE at *
     simp only [RC.cells] at hcE
     exact bodyPost_ret (v:=RC.val ⟨k,vk,vi,vs,vb,tt,ss,A,nn,c⟩) (by simp [results,results85,go_sem,hcE,RC.val]) rfl HE.out
theorem Zh (P d n:Nat) (HF:RvOk 6 P d n):RvOk 5 P d n:=by
 intro w l hl h
 have hP:=h.lt
 have hb0:Below w.heap.size w (w.alloc (.cells rcZ.cells.toArray 60)):=ρ
 have h0:=h.below hb0
 have hz0:=heap_alloc_new w (.cells rcZ.cells.toArray 60)
 obtain ⟨A0,c00,i0,q1, -, -⟩:=h0
 have c3:=β q1 3
 simp only [RC.cells,rcZ] at c3
 show Calls prog 85 #[.pointer (some ⟨P,0,none⟩),.int .i64 5] w _
 have HC:=κ (show Calls prog 85 #[.pointer (some ⟨P,0,none⟩),.int .i64 6] _ _ from HF _ l hl (h.below hb0))
 have HX:=κ (@oP 5 d l (by decide) (by decide))
 have HF':=κ HF
 have HZ0:=κ hz0
 have HB0:=κ hb0
 clear h q1 hz0 hb0 HF
 go_enter func85,ntmps85
 go_wp2_with fail
 refine μ HC ?_
 rintro e w1 hp1
 obtain ⟨⟨k,vk,vi,vs,vb,tt,ss,A,nn,c⟩,rfl,hb1,hq1⟩:=hp1.open_
 simp only [RC.val]
 clear hp1 c3
 have hLb:But P w w1:=(But.of HB0.out).trans hb1
 have hb2:Below w1.heap.size w1 (w1.alloc (.cells #[.int .u8 k,.int .u8 vk,.int .i64 vi,.string vs,.bool vb,.string tt,.string ss,.slice A nn c] 60)):=ρ
 have hG:w.heap.size<w1.heap.size:=by have:=hb1.size;simp at this;omega
 have hL2:Lev w.heap.size w1.heap.size P w (w1.alloc (.cells #[.int .u8 k,.int .u8 vk,.int .i64 vi,.string vs,.bool vb,.string tt,.string ss,.slice A nn c] 60)) ⟨k,vk,vi,vs,vb,tt,ss,A,nn,c⟩ :=
  ⟨hLb.trans (But.of hb2),⟨rcZ,aA (aO hb1 HZ0.out (by omega)) hb2⟩,heap_alloc_new w1 _⟩
 obtain ⟨gk,hgk⟩:∃ gk,LevIs 5 w.heap.size w1.heap.size P d w l gk false (w1.alloc (.cells #[.int .u8 k,.int .u8 vk,.int .i64 vi,.string vs,.bool vb,.string tt,.string ss,.slice A nn c] 60)):=by
  have hx:=HX.out
  cases hpx:pX 6 d l with
  | none =>
    rw [show 5+1=6 from rfl,hpx] at hx
    rw [hpx] at hq1
    exact ⟨0,_,hL2,.inl ⟨rfl,RBad.below hq1 hb2,hx⟩⟩
  | some p =>
    obtain ⟨x,r⟩:=p
    rw [show 5+1=6 from rfl,hpx] at hx
    rw [hpx] at hq1
    obtain ⟨g1,g2⟩:=hq1
    refine ⟨r.length+1,_,hL2,.inr ⟨x,r,rfl,fT hpx, ?_,g2.below hb2,hx⟩⟩
    refine RX.below hb2 (RX.mono (fun g hg hl => ?_) g1)
    have h1:(w.alloc (.cells rcZ.cells.toArray 60)).heap.size≤g:=hg
    rw [World.size_alloc] at h1
    exact ⟨by omega,by omega⟩
 have HG:=κ hgk
 clear hq1 hLb hb1 hb2 hL2 HC HZ0 HB0 hgk HX
 go_wp2_with fail
 generalize (w1.alloc (.cells #[.int .u8 k,.int .u8 vk,.int .i64 vi,.string vs,.bool vb,.string tt,.string ss,.slice A nn c] 60))=w2 at *
 generalize w1.heap.size=G at *
 go_loopg [6,7,48,73] gk (fun gk s6 _ _ _ wr=>∃ done:Bool,s6=.bool done∧LevIs 5 w.heap.size G P d w l gk done wr)
 case atStart=>exact ⟨false,rfl,HG.out⟩
 case round =>
  clear HG
  obtain ⟨done,rfl,⟨k,vk,vi,vs,vb,tt,ss,A,nn,c⟩,hL,hst⟩:=hrel
  rcases hst with ⟨rfl,hbad,hnone⟩|⟨x,r,rfl,hrl,hx,hp,hpx⟩
  ·obtain ⟨l',d',b',hb',hpb,hd1,hd2⟩:=hbad
   have HE:=κ (nX (lev:=5) (l:=l) rfl hP hL (.inl ⟨⟨l',d',b',hb',hpb,hd1,hd2⟩,hnone⟩))
   obtain ⟨A0,c00,i0,q1, -, -⟩:=hpb
   have c3:=β q1 3
   have eb:(b'==0)=false:=η hb'
   obtain ⟨⟨⟨a0,a1,a2,a3,a4,a5,a6,a7,a8,a9⟩,c0⟩,c1,z0,z1⟩:=hL.cells
   obtain ⟨rz,hz⟩:=hL.z
   have hcE:=β (aM ⟨k,vk,vi,vs,vb,tt,ss,A,nn,c⟩ hz)
   simp only [RC.cells] at c0 c1
   clear hL q1 hb' hz HF'
   go_wp2
   change bodyPost _ _ _ _ _ (put8 _ w.heap.size ⟨k,vk,vi,vs,vb,tt,ss,A,nn,c⟩)
   generalize put8 _ w.heap.size ⟨k,vk,vi,vs,vb,tt,ss,A,nn,c⟩=WE at *
   simp only [RC.cells] at hcE
   exact bodyPost_ret (v:=RC.val ⟨k,vk,vi,vs,vb,tt,ss,A,nn,c⟩) (by simp [results,results85,go_sem,hcE,RC.val]) rfl HE.out
  ·have hp':=hp
   obtain ⟨A0,c00,i0,q1, -, -⟩:=hp'
   have c3:=β q1 3
   have HSg:=κ (Tn P d r _ hp)
   have HP1:=κ hp
   have HL:=κ hL
   have HX:=κ hx
   have HPX:=κ hpx
   clear q1 hp hL hx hpx
   go_wp2_with fail
   refine μ HSg ?_
   rintro e w3 ⟨rfl,hb3⟩
   by_cases hA:∃ s,cA 5 r=some s∧done=false
   ·obtain ⟨s,hs,rfl⟩:=hA
    obtain ⟨t,r',rfl⟩:=lH hs
    have hmem:s∈bJ 5:=List.mem_of_find?_eq_some hs
    have hne0:s≠[]:=lB _ _ hmem
    have hne:(s==[])=false:=η hne0
    have hne2:(s != [])=true:=by rw [bne,hne];rfl
    have hPX:=HPX.out.trans (lV hs (by decide))
    have hup:=mW 5 s hmem
    rw [hs]
    simp only [Option.getD_some]
    obtain ⟨i,n1,n2,n3,n4⟩:=(HP1.out.below hb3).next
    have hL4:=(HL.out.far hb3).but (But.set P 1 w3 (.int .i64 ((i:Int)+1))) hP hG
    have hx4:=(RX.below hb3 HX.out).far (g:=P) (o:=1) (v:=.int .i64 ((i:Int)+1)) (fun k hk _=>by have:w.heap.size+1≤k∧k≠G:=hk;omega)
    have HU:=κ (kE s (w3.setCell ⟨P,1,none⟩ (.int .i64 ((i:Int)+1))).drew _ hup)
    have HC:=κ (show Calls prog 85 #[.pointer (some ⟨P,0,none⟩),.int .i64 6] _ _ from HF'.out (w3.setCell ⟨P,1,none⟩ (.int .i64 ((i:Int)+1))).drew r' (by simp at hrl;omega) n4.drew)
    have hGs:G<(w3.setCell ⟨P,1,none⟩ (.int .i64 ((i:Int)+1))).heap.size:=aL hL4.x
    obtain ⟨-,c1, -, -⟩:=hL4.cells
    simp only [RC.cells] at c1
    have cc:=ι (c1 0) (ι (c1 1) (ι (c1 2) (ι (c1 3) (ι (c1 4) (ι (c1 5) (ι (c1 6) (c1 7)))))))
    simp only [γ,δ,ε] at cc
    have HN4:=κ n4.drew
    have HL4:=κ (show Lev w.heap.size G P w (w3.setCell ⟨P,1,none⟩ (.int .i64 ((i:Int)+1))).drew ⟨k,vk,vi,vs,vb,tt,ss,A,nn,c⟩ from ⟨hL4.b.drew,hL4.z,hL4.x⟩)
    have HX4:=κ (show RX (Sx w.heap.size G) (w3.setCell ⟨P,1,none⟩ (.int .i64 ((i:Int)+1))).drew x ⟨k,vk,vi,vs,vb,tt,ss,A,nn,c⟩ from RX.drew hx4)
    have hdn:(5==4)=false:=by decide
    rw [hdn] at hPX
    clear hs hmem hne0 hup n4 hL4 hx4 hb3 HSg HX HPX HL HP1 c1 hdn
    generalize upW s=u at *
    have HPX4:=κ hPX
    clear hPX
    obtain ⟨d0,d1,d2,d3,d4,d5,d6,d7⟩:=cc
    go_wp2_with fail
    go_region_with
     (first
      | (go_at_call 136;refine μ HU ?_;rintro e w5 ⟨rfl,rfl⟩)
      | (go_at_call 85;refine μ HC ?_;rintro e w5 hp5;obtain ⟨⟨k2,vk2,vi2,vs2,vb2,tt2,ss2,A2,nn2,c2⟩,rfl,hq5⟩:=hp5.open_;clear hp5;simp only [RC.val];have hL5:=HL4.out.but hq5.1 hP hG;have hc5:=(hL5.cells).2.1;simp only [RC.cells] at hc5;have hd2:w5.cell? ⟨G,0,none⟩=some (.int .u8 k)∧w5.cell? ⟨G,1,none⟩=some (.int .u8 vk)∧w5.cell? ⟨G,2,none⟩=some (.int .i64 vi)∧w5.cell? ⟨G,3,none⟩=some (.string vs)∧w5.cell? ⟨G,4,none⟩=some (.bool vb)∧w5.cell? ⟨G,5,none⟩=some (.string tt)∧w5.cell? ⟨G,6,none⟩=some (.string ss)∧w5.cell? ⟨G,7,none⟩=some (.slice A nn c):=⟨hc5 0,hc5 1,hc5 2,hc5 3,hc5 4,hc5 5,hc5 6,hc5 7⟩;have hL6:=hL5.far ((θ).alloc (ν _) (.cells #[.int .u8 k,.int .u8 vk,.int .i64 vi,.string vs,.bool vb,.string tt,.string ss,.slice A nn c,.int .u8 k2,.int .u8 vk2,.int .i64 vi2,.string vs2,.bool vb2,.string tt2,.string ss2,.slice A2 nn2 c2] 60));have hc6:=(hL6.cells).2.1;have hz6:=(hL6.cells).2.2.2;simp only [RC.cells] at hc6))
    all_goals
     have hx5:=RX.but hq5.1 HN4.out HX4.out
     obtain ⟨gk',hgk1,hgk2⟩:=pQ (done':=false) hL5 hx5 hq5 (show G<(w3.setCell ⟨P,1,none⟩ (.int .i64 ((i:Int)+1))).drew.heap.size from hGs) rfl hG hP HPX4.out (by simp at hrl;omega)
     simp only [put8,RC.cells,rcP,List.cons_append,List.nil_append] at hgk2
     have HGK:=κ hgk2
     have hlr:(t::r').length=r'.length+1:=rfl
     clear hx5 hgk2 hq5 hL5 hc5 hc6 hz6 hd2 hL6
     go_wp2
     go_roundg gk'
     case measure=>omega
     case rel=>exact ⟨_,rfl,HGK.out⟩
   ·obtain ⟨hA1,hA2⟩:=nA hA
    have hL3:=HL.out.far hb3
    have hx3:=RX.below hb3 HX.out
    have hp3:=HP1.out.below hb3
    obtain ⟨sg,hsg⟩:∃ sg,(cA 5 r).getD []=sg:=⟨_,rfl⟩
    rw [hsg] at hA2 ⊢
    clear hsg
    have HE:=κ (LevIs.end_ (lev:=5) (l:=l) (done:=done) rfl hP hL3 hx3 hp3 HPX.out (mZ hA1 (.inl (by decide))))
    obtain ⟨⟨⟨a0,a1,a2,a3,a4,a5,a6,a7,a8,a9⟩,c0⟩,c1,z0,z1⟩:=hL3.cells
    obtain ⟨rz,hz⟩:=hL3.z
    have hcE:=β (aM ⟨k,vk,vi,vs,vb,tt,ss,A,nn,c⟩ hz)
    simp only [RC.cells] at c0 c1
    clear hL3 hx3 hp3 hz HF' HSg HP1 HL HX HPX hA hA1 hb3
    have hA3:sg=[]∨(done=true∧(sg==[])=false∧(sg != [])=true):=by
     by_cases hs:sg=[]
     ·exact .inl hs
     ·have e1:(sg==[])=false:=η hs
      have e2:(sg != [])=true:=by rw [bne,e1];rfl
      rcases hA2 with h|h
      ·rw [e2] at h;cases h
      ·exact .inr ⟨h,e1,e2⟩
    clear hA2
    clear hrl
    rcases hA3 with rfl|⟨rfl,e1,e2⟩
    all_goals
     go_wp2
     change bodyPost _ _ _ _ _ (put8 _ w.heap.size ⟨k,vk,vi,vs,vb,tt,ss,A,nn,c⟩)
     generalize put8 _ w.heap.size ⟨k,vk,vi,vs,vb,tt,ss,A,nn,c⟩=WE at *
     simp only [RC.cells] at hcE
     exact bodyPost_ret (v:=RC.val ⟨k,vk,vi,vs,vb,tt,ss,A,nn,c⟩) (by simp [results,results85,go_sem,hcE,RC.val]) rfl HE.out
theorem Zg (P d n:Nat) (HF:RvOk 7 P d n):RvOk 6 P d n:=by
 intro w l hl h
 have hP:=h.lt
 have hb0:Below w.heap.size w (w.alloc (.cells rcZ.cells.toArray 60)):=ρ
 have h0:=h.below hb0
 have hz0:=heap_alloc_new w (.cells rcZ.cells.toArray 60)
 obtain ⟨A0,c00,i0,q1, -, -⟩:=h0
 have c3:=β q1 3
 simp only [RC.cells,rcZ] at c3
 show Calls prog 85 #[.pointer (some ⟨P,0,none⟩),.int .i64 6] w _
 have HC:=κ (show Calls prog 85 #[.pointer (some ⟨P,0,none⟩),.int .i64 7] _ _ from HF _ l hl (h.below hb0))
 have HX:=κ (@oP 6 d l (by decide) (by decide))
 have HF':=κ HF
 have HZ0:=κ hz0
 have HB0:=κ hb0
 clear h q1 hz0 hb0 HF
 go_enter func85,ntmps85
 go_wp2_with fail
 refine μ HC ?_
 rintro e w1 hp1
 obtain ⟨⟨k,vk,vi,vs,vb,tt,ss,A,nn,c⟩,rfl,hb1,hq1⟩:=hp1.open_
 simp only [RC.val]
 clear hp1 c3
 have hLb:But P w w1:=(But.of HB0.out).trans hb1
 have hb2:Below w1.heap.size w1 (w1.alloc (.cells #[.int .u8 k,.int .u8 vk,.int .i64 vi,.string vs,.bool vb,.string tt,.string ss,.slice A nn c] 60)):=ρ
 have hG:w.heap.size<w1.heap.size:=by have:=hb1.size;simp at this;omega
 have hL2:Lev w.heap.size w1.heap.size P w (w1.alloc (.cells #[.int .u8 k,.int .u8 vk,.int .i64 vi,.string vs,.bool vb,.string tt,.string ss,.slice A nn c] 60)) ⟨k,vk,vi,vs,vb,tt,ss,A,nn,c⟩ :=
  ⟨hLb.trans (But.of hb2),⟨rcZ,aA (aO hb1 HZ0.out (by omega)) hb2⟩,heap_alloc_new w1 _⟩
 obtain ⟨gk,hgk⟩:∃ gk,LevIs 6 w.heap.size w1.heap.size P d w l gk false (w1.alloc (.cells #[.int .u8 k,.int .u8 vk,.int .i64 vi,.string vs,.bool vb,.string tt,.string ss,.slice A nn c] 60)):=by
  have hx:=HX.out
  cases hpx:pX 7 d l with
  | none =>
    rw [show 6+1=7 from rfl,hpx] at hx
    rw [hpx] at hq1
    exact ⟨0,_,hL2,.inl ⟨rfl,RBad.below hq1 hb2,hx⟩⟩
  | some p =>
    obtain ⟨x,r⟩:=p
    rw [show 6+1=7 from rfl,hpx] at hx
    rw [hpx] at hq1
    obtain ⟨g1,g2⟩:=hq1
    refine ⟨r.length+1,_,hL2,.inr ⟨x,r,rfl,fT hpx, ?_,g2.below hb2,hx⟩⟩
    refine RX.below hb2 (RX.mono (fun g hg hl => ?_) g1)
    have h1:(w.alloc (.cells rcZ.cells.toArray 60)).heap.size≤g:=hg
    rw [World.size_alloc] at h1
    exact ⟨by omega,by omega⟩
 have HG:=κ hgk
 clear hq1 hLb hb1 hb2 hL2 HC HZ0 HB0 hgk HX
 go_wp2_with fail
 generalize (w1.alloc (.cells #[.int .u8 k,.int .u8 vk,.int .i64 vi,.string vs,.bool vb,.string tt,.string ss,.slice A nn c] 60))=w2 at *
 generalize w1.heap.size=G at *
 go_loopg [6,7,48,73] gk (fun gk s6 _ _ _ wr=>∃ done:Bool,s6=.bool done∧LevIs 6 w.heap.size G P d w l gk done wr)
 case atStart=>exact ⟨false,rfl,HG.out⟩
 case round =>
  clear HG
  obtain ⟨done,rfl,⟨k,vk,vi,vs,vb,tt,ss,A,nn,c⟩,hL,hst⟩:=hrel
  rcases hst with ⟨rfl,hbad,hnone⟩|⟨x,r,rfl,hrl,hx,hp,hpx⟩
  ·obtain ⟨l',d',b',hb',hpb,hd1,hd2⟩:=hbad
   have HE:=κ (nX (lev:=6) (l:=l) rfl hP hL (.inl ⟨⟨l',d',b',hb',hpb,hd1,hd2⟩,hnone⟩))
   obtain ⟨A0,c00,i0,q1, -, -⟩:=hpb
   have c3:=β q1 3
   have eb:(b'==0)=false:=η hb'
   obtain ⟨⟨⟨a0,a1,a2,a3,a4,a5,a6,a7,a8,a9⟩,c0⟩,c1,z0,z1⟩:=hL.cells
   obtain ⟨rz,hz⟩:=hL.z
   have hcE:=β (aM ⟨k,vk,vi,vs,vb,tt,ss,A,nn,c⟩ hz)
   simp only [RC.cells] at c0 c1
   clear hL q1 hb' hz HF'
   go_wp2
   change bodyPost _ _ _ _ _ (put8 _ w.heap.size ⟨k,vk,vi,vs,vb,tt,ss,A,nn,c⟩)
   generalize put8 _ w.heap.size ⟨k,vk,vi,vs,vb,tt,ss,A,nn,c⟩=WE at *
   simp only [RC.cells] at hcE
   exact bodyPost_ret (v:=RC.val ⟨k,vk,vi,vs,vb,tt,ss,A,nn,c⟩) (by simp [results,results85,go_sem,hcE,RC.val]) rfl HE.out
  ·have hp':=hp
   obtain ⟨A0,c00,i0,q1, -, -⟩:=hp'
   have c3:=β q1 3
   have HSg:=κ (Tm P d r _ hp)
   have HP1:=κ hp
   have HL:=κ hL
   have HX:=κ hx
   have HPX:=κ hpx
   clear q1 hp hL hx hpx
   go_wp2_with fail
   refine μ HSg ?_
   rintro e w3 ⟨rfl,hb3⟩
   by_cases hA:∃ s,cA 6 r=some s∧done=false
   ·obtain ⟨s,hs,rfl⟩:=hA
    obtain ⟨t,r',rfl⟩:=lH hs
    have hmem:s∈bJ 6:=List.mem_of_find?_eq_some hs
    have hne0:s≠[]:=lB _ _ hmem
    have hne:(s==[])=false:=η hne0
    have hne2:(s != [])=true:=by rw [bne,hne];rfl
    have hPX:=HPX.out.trans (lV hs (by decide))
    have hup:=mW 6 s hmem
    rw [hs]
    simp only [Option.getD_some]
    obtain ⟨i,n1,n2,n3,n4⟩:=(HP1.out.below hb3).next
    have hL4:=(HL.out.far hb3).but (But.set P 1 w3 (.int .i64 ((i:Int)+1))) hP hG
    have hx4:=(RX.below hb3 HX.out).far (g:=P) (o:=1) (v:=.int .i64 ((i:Int)+1)) (fun k hk _=>by have:w.heap.size+1≤k∧k≠G:=hk;omega)
    have HU:=κ (kE s (w3.setCell ⟨P,1,none⟩ (.int .i64 ((i:Int)+1))).drew _ hup)
    have HC:=κ (show Calls prog 85 #[.pointer (some ⟨P,0,none⟩),.int .i64 7] _ _ from HF'.out (w3.setCell ⟨P,1,none⟩ (.int .i64 ((i:Int)+1))).drew r' (by simp at hrl;omega) n4.drew)
    have hGs:G<(w3.setCell ⟨P,1,none⟩ (.int .i64 ((i:Int)+1))).heap.size:=aL hL4.x
    obtain ⟨-,c1, -, -⟩:=hL4.cells
    simp only [RC.cells] at c1
    have cc:=ι (c1 0) (ι (c1 1) (ι (c1 2) (ι (c1 3) (ι (c1 4) (ι (c1 5) (ι (c1 6) (c1 7)))))))
    simp only [γ,δ,ε] at cc
    have HN4:=κ n4.drew
    have HL4:=κ (show Lev w.heap.size G P w (w3.setCell ⟨P,1,none⟩ (.int .i64 ((i:Int)+1))).drew ⟨k,vk,vi,vs,vb,tt,ss,A,nn,c⟩ from ⟨hL4.b.drew,hL4.z,hL4.x⟩)
    have HX4:=κ (show RX (Sx w.heap.size G) (w3.setCell ⟨P,1,none⟩ (.int .i64 ((i:Int)+1))).drew x ⟨k,vk,vi,vs,vb,tt,ss,A,nn,c⟩ from RX.drew hx4)
    have hdn:(6==4)=false:=by decide
    rw [hdn] at hPX
    clear hs hmem hne0 hup n4 hL4 hx4 hb3 HSg HX HPX HL HP1 c1 hdn
    generalize upW s=u at *
    have HPX4:=κ hPX
    clear hPX
    obtain ⟨d0,d1,d2,d3,d4,d5,d6,d7⟩:=cc
    go_wp2_with fail
    go_region_with
     (first
      | (go_at_call 136;refine μ HU ?_;rintro e w5 ⟨rfl,rfl⟩)
      | (go_at_call 85;refine μ HC ?_;rintro e w5 hp5;obtain ⟨⟨k2,vk2,vi2,vs2,vb2,tt2,ss2,A2,nn2,c2⟩,rfl,hq5⟩:=hp5.open_;clear hp5;simp only [RC.val];have hL5:=HL4.out.but hq5.1 hP hG;have hc5:=(hL5.cells).2.1;simp only [RC.cells] at hc5;have hd2:w5.cell? ⟨G,0,none⟩=some (.int .u8 k)∧w5.cell? ⟨G,1,none⟩=some (.int .u8 vk)∧w5.cell? ⟨G,2,none⟩=some (.int .i64 vi)∧w5.cell? ⟨G,3,none⟩=some (.string vs)∧w5.cell? ⟨G,4,none⟩=some (.bool vb)∧w5.cell? ⟨G,5,none⟩=some (.string tt)∧w5.cell? ⟨G,6,none⟩=some (.string ss)∧w5.cell? ⟨G,7,none⟩=some (.slice A nn c):=⟨hc5 0,hc5 1,hc5 2,hc5 3,hc5 4,hc5 5,hc5 6,hc5 7⟩;have hL6:=hL5.far ((θ).alloc (ν _) (.cells #[.int .u8 k,.int .u8 vk,.int .i64 vi,.string vs,.bool vb,.string tt,.string ss,.slice A nn c,.int .u8 k2,.int .u8 vk2,.int .i64 vi2,.string vs2,.bool vb2,.string tt2,.string ss2,.slice A2 nn2 c2] 60));have hc6:=(hL6.cells).2.1;have hz6:=(hL6.cells).2.2.2;simp only [RC.cells] at hc6))
    all_goals
     have hx5:=RX.but hq5.1 HN4.out HX4.out
     obtain ⟨gk',hgk1,hgk2⟩:=pQ (done':=false) hL5 hx5 hq5 (show G<(w3.setCell ⟨P,1,none⟩ (.int .i64 ((i:Int)+1))).drew.heap.size from hGs) rfl hG hP HPX4.out (by simp at hrl;omega)
     simp only [put8,RC.cells,rcP,List.cons_append,List.nil_append] at hgk2
     have HGK:=κ hgk2
     have hlr:(t::r').length=r'.length+1:=rfl
     clear hx5 hgk2 hq5 hL5 hc5 hc6 hz6 hd2 hL6
     go_wp2
     go_roundg gk'
     case measure=>omega
     case rel=>exact ⟨_,rfl,HGK.out⟩
   ·obtain ⟨hA1,hA2⟩:=nA hA
    have hL3:=HL.out.far hb3
    have hx3:=RX.below hb3 HX.out
    have hp3:=HP1.out.below hb3
    obtain ⟨sg,hsg⟩:∃ sg,(cA 6 r).getD []=sg:=⟨_,rfl⟩
    rw [hsg] at hA2 ⊢
    clear hsg
    have HE:=κ (LevIs.end_ (lev:=6) (l:=l) (done:=done) rfl hP hL3 hx3 hp3 HPX.out (mZ hA1 (.inl (by decide))))
    obtain ⟨⟨⟨a0,a1,a2,a3,a4,a5,a6,a7,a8,a9⟩,c0⟩,c1,z0,z1⟩:=hL3.cells
    obtain ⟨rz,hz⟩:=hL3.z
    have hcE:=β (aM ⟨k,vk,vi,vs,vb,tt,ss,A,nn,c⟩ hz)
    simp only [RC.cells] at c0 c1
    clear hL3 hx3 hp3 hz HF' HSg HP1 HL HX HPX hA hA1 hb3
    have hA3:sg=[]∨(done=true∧(sg==[])=false∧(sg != [])=true):=by
     by_cases hs:sg=[]
     ·exact .inl hs
     ·have e1:(sg==[])=false:=η hs
      have e2:(sg != [])=true:=by rw [bne,e1];rfl
      rcases hA2 with h|h
      ·rw [e2] at h;cases h
      ·exact .inr ⟨h,e1,e2⟩
    clear hA2
    clear hrl
    rcases hA3 with rfl|⟨rfl,e1,e2⟩
    all_goals
     go_wp2
     change bodyPost _ _ _ _ _ (put8 _ w.heap.size ⟨k,vk,vi,vs,vb,tt,ss,A,nn,c⟩)
     generalize put8 _ w.heap.size ⟨k,vk,vi,vs,vb,tt,ss,A,nn,c⟩=WE at *
     simp only [RC.cells] at hcE
     exact bodyPost_ret (v:=RC.val ⟨k,vk,vi,vs,vb,tt,ss,A,nn,c⟩) (by simp [results,results85,go_sem,hcE,RC.val]) rfl HE.out
