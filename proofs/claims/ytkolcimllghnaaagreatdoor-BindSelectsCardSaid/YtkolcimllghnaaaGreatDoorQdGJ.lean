/-
 Contracts. Conditions: those of each.
-/
import Derived.Test.YtkolcimllghnaaaGreatDoorQdGC
import Derived.Deep.RegionWith
import Derived.Deep.RegionHeld3
import Derived.BigRegion
set_option maxRecDepth 100000
set_option maxHeartbeats 8000000
namespace Go.Proofs.YtkolcimllghnaaaGreatDoor
open Lp Go.Proofs.Tryz
open Go.RowKit
variable{bad:Int}{e x:Lp.X}{B P d g i o:Nat}{S:Nat->Prop}{t:Tok}{v:Value}{a w w' w0:World}{A:ZT}{l r:ZW}
def TkR (w:World) (P:Nat) (A:ZT) (i:Nat) (l:ZW):Prop :=
 l=[]∨∃ b off,A=some ⟨b,off,none⟩∧b<P∧∀ j u,(tkv l)[j]? = some u->w.cell? ⟨b,off+i*3+j,none⟩=some u
theorem TkR.but (h:TkR w P A i l) (hb:But P w w'):TkR w' P A i l:=by
 rcases h with rfl|⟨b,off,hA,hlt,hc⟩
 ·exact ab
 ·exact bf
theorem TkR.front (h:TkR w P A i (t::r)) :
 ∃ b off,A=some ⟨b,off,none⟩∧b<P∧w.cell? ⟨b,off+i*3,none⟩=some (.int .u8 t.k)∧w.cell? ⟨b,off+i*3+1,none⟩=some (.string t.s)∧w.cell? ⟨b,off+i*3+2,none⟩=some (.int .i64 t.n):=by
 rcases h with h|⟨b,off,hA,hlt,hc⟩
 ·cases h
 ·exact bh
theorem TkR.tail (h:TkR w P A i (t::r)):TkR w P A (i+1) r:=by
 rcases h with h|⟨b,off,hA,hlt,hc⟩
 ·cases h
 ·refine .inr ⟨b,off,hA,hlt,λj u hu => ?_⟩;have:=hc (3+j) u bj;rw [show off+(i+1)*3+j=off+i*3+(3+j) by omega];exact ah
def RS (w:World) (P:Nat) (l:ZW) (d:Nat) (bad:Int):Prop :=
 ∃ A c i,w.heap[P]? = some (.cells #[.slice A (i+l.length) c,.int .i64 (i:Nat),.int .i64 d,.int .i64 bad] 108 (0,0))∧TkR w P A i l∧i+l.length≤2000
theorem RS.below (h:RS w P l d bad) (hb:Below w w w'):RS w' P l d bad:=by
 obtain ⟨A,c,i,h1,h2,h3⟩:=h;exact ⟨A,c,i,aA h1 hb,h2.but (But.of hb),h3⟩
def Drawn (w w':World):Prop:=∃ n,w'=w.drewN n
theorem bH (P d:Nat) (bad:Int) (l:ZW) (s:ByteArray) (w:World) (h:RS w P l d bad) (r:Bool) (hr:(decide (bad=0)&&isF s.data.toList l)=r) :
 Calls prog 88 #[P,s] w λe w'=>e=.returned (.bool r)∧Drawn w w':=by
 obtain ⟨A,c,i,h1,h2,h3⟩:=h;have hc0:=cq;have hc1:=ee;have hc3:=β h1 3
 by_cases hb:bad=0
 ·have eb:(bad==0)=true:=by rw [hb];rfl
  cases l with
  | nil =>
    have hI:=uc
    have hr0:r=false:=by rw [<-hr,hb];rfl
    subst hr0;clear h1 h2 hb hr;go_enter func88,ntmps88;go_wp2_with fail;go_quiet (fail);go_wp2;go_ret;exact qy
  | cons t q =>
    obtain ⟨b,off,rfl,hlt,k0,k1, -⟩:=ue;obtain ⟨n,hn⟩:∃ n,i+(t::q).length=n:=cw;rw [hn] at hc0;have hin:=ud
    have hinN:=uf
    have hin0:=ug
    have hr':isF s.data.toList (t::q)=r:=by rw [<-hr,hb];rfl
    clear h1 h2 h3 hn hb hr
    by_cases hs:t.s=s.data.toList
    ·have e1:(t.s==s.toList)=true:=by rw [ByteArray.toList_eq,hs];simp
     by_cases hk1:t.k=1
     ·have e2:(t.k==1)=true:=by rw [hk1];rfl
      have hr0:r=true:=by rw [<-hr'];simp [isF,hs,hk1]
      subst hr0;clear hs hk1 hr';go_enter func88,ntmps88;go_wp2_with fail;go_quiet (fail);go_wp2;go_ret;exact qy
     ·have e2:(t.k==1)=false:=η hk1;obtain ⟨b4,hb4⟩:∃ b4,(t.k==4)=b4:=cw;have hr0:r=b4:=by rw [<-hr', <-hb4];simp [isF,hs,hk1]
      subst hr0;clear hs hk1 hr';go_enter func88,ntmps88;go_wp2_with fail;go_quiet (fail);go_wp2;go_ret;exact qy
    ·have e1:(t.s==s.toList)=false:=by rw [ByteArray.toList_eq];simpa using hs
     have hr0:r=false:=by rw [<-hr'];simp [isF,hs]
     subst hr0;clear hs hr';go_enter func88,ntmps88;go_wp2_with fail;go_quiet (fail);go_wp2;go_ret;exact qy
 ·have eb:(bad==0)=false:=η hb;have hr0:r=false:=by rw [<-hr];simp [hb]
  subst hr0;clear h1 h2 hb hr;go_enter func88,ntmps88;go_wp2_with fail;go_quiet (fail);go_wp2;go_ret;exact qy
def tK (bad code:Int):Int:=if bad=0 then code else bad
theorem Drawn.but (h:Drawn w w'):But P w w':=by
 obtain ⟨n,rfl⟩:=h;exact ⟨rfl,rfl,rfl,ν _,λ_ _ _=>rfl⟩
theorem RS.drawn (h:RS w P l d bad) (hd:Drawn w w'):RS w' P l d bad:=by
 obtain ⟨n,rfl⟩:=hd;exact h
theorem fH (P d:Nat) (bad code:Int) (l:ZW) (w:World) (h:RS w P l d bad) :
 Calls prog 35 #[P,.int .i64 code] w λe w'=>e=.returned (.tuple #[])∧But P w w'∧RS w' P l d (tK bad code):=by
 have H:=da;obtain ⟨A,c,i,h1,h2,h3⟩:=h;have hc3:=β h1 3;have hfz:=ed;have H1:=κ h1;have H2:=κ h2;clear h1 h2
 by_cases hb:bad=0
 ·have HQ:=κ (show tK bad code=code from if_pos hb);have eb:(bad==0)=true:=by rw [hb];rfl
  clear hb;go_enter func35,ntmps35;go_wp2;go_end0;refine ⟨rfl,But.set _ _ _ _, ?_⟩;rw [HQ.o];have:=heap_setCell_same w P 3 _ _ (.int .i64 code) H1.o;exact ⟨A,c,i,by simpa using this,H2.o.but (But.set _ _ _ _),h3⟩
 ·have HQ:=κ (show tK bad code=bad from if_neg hb);have eb:(bad==0)=false:=η hb;clear hb;go_enter func35,ntmps35;go_wp2;go_end0;refine ⟨rfl,But.refl _ _, ?_⟩;rw [HQ.o];exact H.o
def aBH (P:Nat) (w:World) (l:ZW) (d:Nat) (bad:Int) (r:Bool) (e:Ending) (w':World):Prop :=
 e=.returned (.bool r)∧But P w w'∧RS w' P (if r then l.tail else l) d bad
theorem aH (P d:Nat) (bad:Int) (l:ZW) (s:ByteArray) (w:World) (h:RS w P l d bad) (r:Bool) (hr:(decide (bad=0)&&isF s.data.toList l)=r) :
 Calls prog 34 #[P,s] w (aBH P w l d bad r):=by
 have HI:=κ (bH P d bad l s w h r hr);have H:=da;cases r
 ·clear h hr;go_enter func34,ntmps34;go_wp2_with fail;refine μ HI ?_;rintro e w1 ⟨rfl,hd⟩;go_wp2;go_ret;exact ⟨rfl,hd.but,H.o.drawn hd⟩
 ·have hf:isF s.data.toList l=true:=by rw [Bool.and_eq_true] at hr;exact hr.2
  obtain ⟨t,q,rfl⟩:=pT hf;clear h hr hf;go_enter func34,ntmps34;go_wp2_with fail;refine μ HI ?_;rintro e w1 ⟨rfl,hd⟩;have hB:=hd.but (P:=P);obtain ⟨A,c,i,h1,h2,h3⟩:=H.o.drawn hd;have hc1:=ee;have hfz:=λj=>frozen_of_row w1 P j _ _ h1;have H1:=κ h1;have H2:=κ h2.tail;have hi:=uh
  clear h1 h2 hd;go_wp2;go_ret;have:=heap_setCell_same w1 P 1 _ _ (.int .i64 ((i:Int)+1)) H1.o;refine ⟨rfl,hB.trans (But.set _ _ _ _),A,c,i+1, ?_,H2.o.but (But.set _ _ _ _),by simp at h3 |-;omega⟩;rw [show i+1+((if true=true then (t::q).tail else t::q):ZW).length=i+(t::q).length by simp;omega]
  simpa using this
theorem jN {code:Int} (hc:code≠0):tK bad code≠0:=by
 unfold tK;split
 ·exact hc
 ·assumption
theorem dI (P d:Nat) (l:ZW) (s:ByteArray) (w:World) (h:RS w P l d 0) (hf:isF s.data.toList l=true) :
 Calls prog 81 #[P,s] w λe w'=>e=.returned (.tuple #[])∧But P w w'∧RS w' P l.tail d 0:=by
 have HI:=κ (aH P d 0 l s w h true (by rw [hf];rfl));clear h hf;go_enter func81,ntmps81;go_wp2_with fail;refine μ HI ?_;rintro e w1 ⟨rfl,hb1,hp1⟩;simp only [if_true] at hp1;go_wp2;go_end0;exact ⟨rfl,hb1,hp1⟩
theorem dV (P d:Nat) (bad:Int) (l:ZW) (s:ByteArray) (w:World) (h:RS w P l d bad) (hf:(decide (bad=0)&&isF s.data.toList l)=false) :
 Calls prog 81 #[P,s] w λe w'=>e=.returned (.tuple #[])∧But P w w'∧∃ b',b'≠0∧RS w' P l d b':=by
 have HI:=κ (aH P d bad l s w h false hf);clear h hf;go_enter func81,ntmps81;go_wp2_with fail;refine μ HI ?_;rintro e w1 ⟨rfl,hb1,hp1⟩;simp only [φ,if_false] at hp1;have HC:=κ (fH P d bad 4 l w1 hp1);clear hp1;go_wp2_with fail;refine μ HC ?_;rintro e w2 ⟨rfl,hb2,hp2⟩;have HE:=κ hp2;clear hp2;go_wp2;go_end0;exact ⟨rfl,hb1.trans hb2,_,jN am,HE.o⟩
theorem kD (P d:Nat) (l:ZW) (w:World) (h:RS w P l d 0) (hd:d+1≤40) :
 Calls prog 158 #[P] w λe w'=>e=.returned (.bool true)∧But P w w'∧RS w' P l (d+1) 0:=by
 obtain ⟨A,c,i,h1,h2,h3⟩:=h;have hc2:=β h1 2;have hfz:=ed;have h1':=ui;have hd2:=β h1' 2;have hd3:=β h1' 3;have H1:=κ (show (w.setCell ⟨P,2,none⟩ (.int .i64 ((d:Int)+1))).heap[P]? = some (.cells #[.slice A (i+l.length) c,.int .i64 (i:Nat),.int .i64 (d+1:Nat),.int .i64 0] 108 (0,0)) by simpa using h1');have H2:=κ h2;have hdI:(d:Int)≤100:=ac
 have h40:¬((40:Int)<(d:Int)+1):=ac
 clear h1 h1' h2;go_enter func158,ntmps158;go_wp2;go_ret;exact ⟨rfl,But.set _ _ _ _,A,c,i,H1.o,H2.o.but (But.set _ _ _ _),h3⟩
theorem lR (P d:Nat) (l:ZW) (w:World) (h:RS w P l d 0) (hd:40<d+1) (hd2:d≤100000) :
 Calls prog 158 #[P] w λe w'=>e=.returned (.bool false)∧But P w w'∧∃ b',b'≠0∧RS w' P l (d+1) b':=by
 obtain ⟨A,c,i,h1,h2,h3⟩:=h;have hc2:=β h1 2;have hfz:=ed;have h1':=ui;have hd2':=β h1' 2;have hp:=(show RS (w.setCell ⟨P,2,none⟩ (.int .i64 ((d:Int)+1))) P l (d+1) 0 from ⟨A,c,i,by simpa using h1',h2.but (But.set _ _ _ _),h3⟩);have HC:=κ (fH P (d+1) 0 5 l _ hp);have hdI:(d:Int)≤100000:=ac
 have h40:(40:Int)<(d:Int)+1:=ac
 clear h1 h1' h2 hp;go_enter func158,ntmps158;go_wp2_with fail;refine μ HC ?_;rintro e w2 ⟨rfl,hb2,hp2⟩;have HE:=κ hp2;obtain ⟨A2,c2,i2,k1, -, -⟩:=hp2;have hc3:=β k1 3;have hbad:(tK 0 5==0)=false:=am
 clear k1;go_wp2;go_ret;exact ⟨rfl,(But.set _ _ _ _).trans hb2,5,am,HE.o⟩
structure RC where
 k:Int
 vk:Int
 vi:Int
 vs:ByteArray
 vb:Bool
 t:ByteArray
 s:ByteArray
 A:ZT
 n:Nat
 c:Nat
def RC.cells (r:RC):ZU:=[.int .u8 r.k,.int .u8 r.vk,.int .i64 r.vi,.string r.vs,.bool r.vb,.string r.t,.string r.s,.slice r.A r.n r.c]
def RC.val (r:RC):Value:=.agg #[.int .u8 r.k,.int .u8 r.vk,.int .i64 r.vi,r.vs,r.vb,r.t,r.s,.slice r.A r.n r.c]
def rcL (k i:Int) (s:ZS) (b:Bool):RC:=⟨1,k,i,⟨s.toArray⟩,b,⟨#[]⟩,⟨#[]⟩,none,0,0⟩
def rcC (t s:ZS):RC:=⟨2,0,0,⟨#[]⟩,false,⟨t.toArray⟩,⟨s.toArray⟩,none,0,0⟩
def rcP (k:Int) (s:ZS) (g n:Nat):RC:=⟨k,0,0,⟨#[]⟩,false,⟨#[]⟩,⟨s.toArray⟩,some ⟨g,0,none⟩,n,n⟩
def rc0 (k:Int) (s:ZS):RC:=⟨k,0,0,⟨#[]⟩,false,⟨#[]⟩,⟨s.toArray⟩,none,0,0⟩
def RX (S:Nat->Prop) (w:World):Lp.X->RC->Prop
 | .lit k i s b,r=>r=rcL k i s b
 | .col t s,r=>r=rcC t s
 | .un op x,r=>∃ g r1,r=rcP 3 op g 1∧S g∧w.heap[g]? = some (.cells r1.cells.toArray 60 (0,0))∧RX S w x r1
 | .bin op a b,r=>∃ g r1 r2,r=rcP 4 op g 2∧S g∧w.heap[g]? = some (.cells (r1.cells++r2.cells).toArray 60 (0,0))∧RX S w a r1∧RX S w b r2
 | .isn n x,r=>∃ g r1,r=rcP 5 (if n then fG else []) g 1∧S g∧w.heap[g]? = some (.cells r1.cells.toArray 60 (0,0))∧RX S w x r1
 | .agg op x,r=>∃ g r1,r=rcP 6 op g 1∧S g∧w.heap[g]? = some (.cells r1.cells.toArray 60 (0,0))∧RX S w x r1
 | .cnt,r=>r=rc0 6 aJ
theorem RX.turn {S S':Nat->Prop} {w w':World} (hs:∀ g cs,S g->w.heap[g]? = some (.cells cs 60 (0,0))->S' g∧w'.heap[g]? = some (.cells cs 60 (0,0))):∀ {e:Lp.X} {r:RC},RX S w e r->RX S' w' e r
 | .lit ..,_,h=>h
 | .col ..,_,h=>h
 | .un _ x,_,h=>uj
 | .bin _ a b,_,h=>by obtain ⟨g,r1,r2,h1,h0,h2,h3,h4⟩:=h;exact ⟨g,r1,r2,h1,(hs _ _ h0 h2).1,(hs _ _ h0 h2).2,RX.turn hs h3,RX.turn hs h4⟩
 | .isn _ x,_,h=>uj
 | .agg _ x,_,h=>uj
 | .cnt,_,h=>h
def aLC (B g0:Nat):Nat->Prop:=λg=>B≤g∧g≠g0
theorem RX.mono {S':Nat->Prop} {r:RC} (hS:∀ g,S g->g<w.heap.size->S' g) (h:RX S w e r):RX S' w e r :=
 RX.turn (λg _ h0 hg=>⟨hS g h0 (aG hg),hg⟩) h
theorem RX.below {r:RC} (hb:Below w w w') (h:RX S w e r):RX S w' e r :=
 RX.turn (λ_ _ h0 hg=>⟨h0,aA hg hb⟩) h
theorem uB {cs:ZV} {t:TypeId} (hp:RS w P l d bad) (hg:w.heap[g]? = some (.cells cs t (0,0))) (ht:t≠108):g≠P:=by
 rintro rfl;obtain ⟨A,c,i,h1,_⟩:=hp;rw [hg] at h1;injection h1 with h1;injection h1 with _ h1;exact ht h1
theorem RX.but {r:RC} (hb:But P w w') (hp:RS w P l d bad) (h:RX S w e r):RX S w' e r :=
 RX.turn (λ_ _ h0 hg=>⟨h0,aL hb hg (uB hp hg am)⟩) h
theorem RX.set {g0:Nat} {r:RC} (h:RX (aLC B g0) w e r):RX (aLC B g0) (w.setCell ⟨g0,o,none⟩ v) e r :=
 RX.turn (λg _ h0 hg=>⟨h0,(Below.heap_setCell w ⟨g0,o,none⟩ v g h0.2).trans hg⟩) h
def RPost (P:Nat) (w:World) (d:Nat) (q:Option (Lp.X×ZW)) (e:Ending) (w':World):Prop :=
 But P w w'∧∃ r:RC,e=.returned r.val∧match q with
 | none=>∃ l' d' b',b'≠0∧RS w' P l' d' b'∧d≤d'∧d'≤100000
 | some (x,l')=>RX (λg=>w.heap.size≤g) w' x r∧RS w' P l' d 0
def RBad (P:Nat) (w:World) (d:Nat):Prop:=∃ l' d' b',b'≠0∧RS w P l' d' b'∧d≤d'∧d'≤100000
theorem RPost.no {q:Option (Lp.X×ZW)} (r:RC) (hq:q=none) (hb:But P w w') (h:RBad P w' d):RPost P w d q (.returned r.val) w':=by
 subst hq;exact ⟨hb,r,rfl,h⟩
theorem RPost.yes {q:Option (Lp.X×ZW)} (r:RC) {l':ZW} (hq:q=some (x,l')) (hb:But P w w') (h:RX (λg=>w.heap.size≤g) w' x r) (hp:RS w' P l' d 0):RPost P w d q (.returned r.val) w':=by
 subst hq;exact ⟨hb,r,rfl,h,hp⟩
def rcZ:RC:=⟨0,0,0,⟨#[]⟩,false,⟨#[]⟩,⟨#[]⟩,none,0,0⟩
def RvOk (lev P d n:Nat):Prop :=
 ∀ (w':World) (l':ZW),l'.length≤n->RS w' P l' d 0->Calls prog 85 #[P,.int .i64 (lev:Nat)] w' (RPost P w' d (pX lev d l'))
theorem RvOk.le {lev n m:Nat} (h:RvOk lev P d n) (hm:m≤n):RvOk lev P d m:=λw' l' hl=>h w' l' ac
theorem RPost.pre {q:Option (Lp.X×ZW)} {e:Ending} (hb:But P a w) (h:RPost P w d q e w'):RPost P a d q e w':=by
 obtain ⟨h1,r,h2,h3⟩:=h;refine ⟨hb.trans h1,r,h2, ?_⟩;cases q with
 | none=>exact h3
 | some p=>exact ⟨RX.mono (λg hg _=>Nat.le_trans hb.size hg) h3.1,h3.2⟩
def put8 (w:World) (g:Nat) (r:RC):World :=
 (((((((w.setCell ⟨g,0,none⟩ (.int .u8 r.k)).setCell ⟨g,1,none⟩ (.int .u8 r.vk)).setCell ⟨g,2,none⟩ (.int .i64 r.vi)).setCell ⟨g,3,none⟩ (.string r.vs)).setCell ⟨g,4,none⟩ (.bool r.vb)).setCell ⟨g,5,none⟩ (.string r.t)).setCell ⟨g,6,none⟩ (.string r.s)).setCell ⟨g,7,none⟩ (.slice r.A r.n r.c)
theorem aLH (a0 a1 a2 a3 a4 a5 a6 a7 b0 b1 b2 b3 b4 b5 b6 b7:Value):((((((((#[a0,a1,a2,a3,a4,a5,a6,a7].setIfInBounds 0 b0).setIfInBounds 1 b1).setIfInBounds 2 b2).setIfInBounds 3 b3).setIfInBounds 4 b4).setIfInBounds 5 b5).setIfInBounds 6 b6).setIfInBounds 7 b7)=#[b0,b1,b2,b3,b4,b5,b6,b7]:=aa
theorem aK {r0:RC} {t:TypeId} (r:RC) (h:w.heap[g]? = some (.cells r0.cells.toArray t (0,0))):(put8 w g r).heap[g]? = some (.cells r.cells.toArray t (0,0)):=by
 obtain ⟨a0,a1,a2,a3,a4,a5,a6,a7,a8,a9⟩:=r0;change w.heap[g]? = some (.cells #[.int .u8 a0,.int .u8 a1,.int .i64 a2,a3,a4,a5,a6,.slice a7 a8 a9] t (0,0)) at h;have h1:=heap_setCell_same w g 0 _ _ (.int .u8 r.k) h;have h2:=heap_setCell_same _ g 1 _ _ (.int .u8 r.vk) h1;have h3:=heap_setCell_same _ g 2 _ _ (.int .i64 r.vi) h2;have h4:=heap_setCell_same _ g 3 _ _ (.string r.vs) h3;have h5:=heap_setCell_same _ g 4 _ _ (.bool r.vb) h4;have h6:=heap_setCell_same _ g 5 _ _ (.string r.t) h5;have h7:=heap_setCell_same _ g 6 _ _ (.string r.s) h6;have h8:=heap_setCell_same _ g 7 _ _ (.slice r.A r.n r.c) h7;rw [aLH] at h8;unfold put8;rw [h8];rfl
theorem kQ {k:Nat} {r:RC} (h:k≠g):(put8 w g r).heap[k]? = w.heap[k]? := by
 unfold put8;simp only [λ(w:World) (o:Nat) (v:Value)=>Below.heap_setCell w ⟨g,o,none⟩ v k h]
theorem bP (h:But P a w) (hg:a.heap.size≤g) (o:Nat) (v:Value):But P a (w.setCell ⟨g,o,none⟩ v) :=
 ⟨h.os,h.tape,h.output,by rw [World.size_setCell];exact h.size,λk hk hn=>(Below.heap_setCell w ⟨g,o,none⟩ v k (by show k≠g;omega)).trans (h.block k hk hn)⟩
theorem hH {r:RC} (h:But P a w) (hg:a.heap.size≤g):But P a (put8 w g r):=by
 unfold put8;exact bP (bP (bP (bP (bP (bP (bP (bP h hg _ _) hg _ _) hg _ _) hg _ _) hg _ _) hg _ _) hg _ _) hg _ _
theorem lI {r r1:RC} (hS:∀ k,S k->k≠g) (h:RX S w x r1):RX S (put8 w g r) x r1 :=
 RX.turn (λk _ h0 hg=>⟨h0,(kQ (hS k h0)).trans hg⟩) h
theorem mQ {r:RC} (h:RS w P l d bad) (hP:P<g):RS (put8 w g r) P l d bad:=by
 obtain ⟨A,c,i,h1,h2,h3⟩:=h;refine ⟨A,c,i,(kQ ac).trans h1, ?_,h3⟩;rcases h2 with rfl|⟨b,off,hA,hlt,hc⟩
 ·exact ab
 ·exact .inr ⟨b,off,hA,hlt,λj u hu=>(World.cell?_of_block (w:=w) (kQ uk)).trans (hc j u hu)⟩
def Ge:List ZS:=[[99,114,101,97,116,101],[116,97,98,108,101],[105,110,116],[116,101,120,116],[98,111,111,108],[100,114,111,112],[105,110,100,101,120],[111,110],[105,110,115,101,114,116],[105,110,116,111],[118,97,108,117,101,115],[117,112,100,97,116,101],[115,101,116],[119,104,101,114,101],[100,101,108,101,116,101],[102,114,111,109],[115,101,108,101,99,116],[106,111,105,110],[103,114,111,117,112],[98,121],[111,114,100,101,114],[97,115,99],[100,101,115,99],[108,105,109,105,116],[98,101,103,105,110],[99,111,109,109,105,116],[114,111,108,108,98,97,99,107],[111,114],[97,110,100],[110,111,116],[105,115],[110,117,108,108],[116,114,117,101],[102,97,108,115,101],[99,111,117,110,116],[115,117,109],[109,105,110],[109,97,120],[97,115]]
theorem Wh (s:ZS):Ge.contains s=zT s:=by
 have h1:∀ x∈Ge,x∈Qf:=am
 have h2:∀ x∈Qf,x∈Ge:=am
 unfold zT;rw [Bool.eq_iff_iff,List.contains_iff_mem,List.contains_iff_mem];exact ⟨h1 s,h2 s⟩
theorem lM (w:World) (ws:List ZS) (t:TypeId):WdsAt (w.alloc (.cells (wv ws).toArray t)) w ws:=by
 intro j u hu;rw [β (heap_alloc_new w (.cells (wv ws).toArray t))]
 simpa using hu
theorem Vo (s:ByteArray) (w:World) :
 Calls prog 132 #[s] w λe w'=>e=.returned (.bool (zT s.data.toList))∧Below w w w':=by
 have hb:=(Below.refl w w).alloc (ν _) (.cells (wv Ge).toArray 9);have H:=κ (lM w Ge 9);have hS:=κ (Wh s.data.toList);have hw:(wv Ge).toArray=#[.string ⟨#[99,114,101,97,116,101]⟩,.string ⟨#[116,97,98,108,101]⟩,.string ⟨#[105,110,116]⟩,.string ⟨#[116,101,120,116]⟩,.string ⟨#[98,111,111,108]⟩,.string ⟨#[100,114,111,112]⟩,.string ⟨#[105,110,100,101,120]⟩,.string ⟨#[111,110]⟩,.string ⟨#[105,110,115,101,114,116]⟩,.string ⟨#[105,110,116,111]⟩,.string ⟨#[118,97,108,117,101,115]⟩,.string ⟨#[117,112,100,97,116,101]⟩,.string ⟨#[115,101,116]⟩,.string ⟨#[119,104,101,114,101]⟩,.string ⟨#[100,101,108,101,116,101]⟩,.string ⟨#[102,114,111,109]⟩,.string ⟨#[115,101,108,101,99,116]⟩,.string ⟨#[106,111,105,110]⟩,.string ⟨#[103,114,111,117,112]⟩,.string ⟨#[98,121]⟩,.string ⟨#[111,114,100,101,114]⟩,.string ⟨#[97,115,99]⟩,.string ⟨#[100,101,115,99]⟩,.string ⟨#[108,105,109,105,116]⟩,.string ⟨#[98,101,103,105,110]⟩,.string ⟨#[99,111,109,109,105,116]⟩,.string ⟨#[114,111,108,108,98,97,99,107]⟩,.string ⟨#[111,114]⟩,.string ⟨#[97,110,100]⟩,.string ⟨#[110,111,116]⟩,.string ⟨#[105,115]⟩,.string ⟨#[110,117,108,108]⟩,.string ⟨#[116,114,117,101]⟩,.string ⟨#[102,97,108,115,101]⟩,.string ⟨#[99,111,117,110,116]⟩,.string ⟨#[115,117,109]⟩,.string ⟨#[109,105,110]⟩,.string ⟨#[109,97,120]⟩,.string ⟨#[97,115]⟩]:=rfl;rw [hw] at hb H;clear hw;have hlen:Ge.length=39:=rfl;obtain ⟨ws,hws⟩:∃ ws,Ge=ws:=cw;rw [hws] at H hS hlen;clear hws;go_enter func132,ntmps132;go_wp2_with fail;generalize w.alloc _=W at *
 go_loop [4,7] (λ_ s7=>∃ k:Nat,k≤39∧s7=.int .i64 k∧(ws.take k).contains s.data.toList=false) (λ_ s7=>39-(intOf s7).toNat)
 case atStart=>exact ⟨0,Nat.zero_le _,rfl,rfl⟩
 case round =>
  obtain ⟨k,hk,rfl,hq⟩:=dd
  by_cases hlt:k<39
  ·have hltW:k<ws.length:=ac
   have hc:=H.o k _ (rZ hltW);have hq1:(ws.take (k+1)).contains s.data.toList=(s.data.toList==ws[k]):=by
    rw [List.take_succ_eq_append_getElem hltW,List.contains_eq_any_beq,List.any_append, <-List.contains_eq_any_beq,hq];simp
   have HE:s.data.toList=ws[k]->ws.contains s.data.toList=true:=by
    intro e;rw [e];simp
   generalize ws[k]=t at *
   by_cases he:s.data.toList=t
   ·have HE':=κ (HE he);have e1:(t==s.toList)=true:=di
    clear hq hq1 HE he;go_wp2;go_ret;exact ⟨Bg (by rw [<-hS.o,HE'.o]),hb⟩
   ·have HQ:=dj;have e1:(t==s.toList)=false:=by rw [ByteArray.toList_eq];simpa using Ne.symm he
    clear hq hq1 HE he;go_wp2
    go_round
    case rel=>exact ⟨k+1,ac,de,HQ.o⟩
    case measure=>simp [intOf];omega
  ·have hk2:=dg
   have HQ:=κ (show ws.contains s.data.toList=false by rwa [hk2,List.take_length] at hq);clear hq hk2;go_wp2;go_ret;exact ⟨Bg (by rw [<-hS.o,HQ.o]),hb⟩
theorem lY (s:ZS) (w:World) (u:ZS) (hu:(if s=wOr then uOr else if s=Ox then lE else s)=u) :
 Calls prog 136 #[s] w λe w'=>e=.returned (.string u)∧w=w':=by
 subst hu
 by_cases h1:s=wOr
 ·subst h1;go_enter func136,ntmps136;go_wp2;go_ret;exact cm
 ·by_cases h2:s=Ox
  ·subst h2;go_enter func136,ntmps136;go_wp2;go_ret;exact cm
  ·rw [if_neg h1,if_neg h2];have e1:(s==[111,114])=false:=η h1;have e2:(s==[97,110,100])=false:=η h2;clear h1 h2;go_enter func136,ntmps136;go_wp2;go_ret;exact cm
theorem pH:∀ lev:Nat,∀ s∈bM lev,(if s=wOr then uOr else if s=Ox then lE else s)=upW s:=by
 intro lev;unfold bM
 split<;>decide
theorem Drawn.below (h:Drawn w w'):Below w w w':=by
 obtain ⟨n,rfl⟩:=h;exact ⟨rfl,rfl,rfl,ν _,λ_ _=>rfl⟩
theorem cN {a:Addr} {u:Value} (h:w.cell? a=some u) (hb:Below w w w'):w'.cell? a=some u:=(hb.cell (p:=a) (World.block_lt_of_cell? w a h)).trans h
theorem RS.drew {w:World} {P d:Nat} {bad:Int} {l:ZW} (h:RS w P l d bad):RS w.drew P l d bad:=h
def RNPost (P:Nat) (w:World) (d:Nat) (q:Option (ZS×ZW)) (e:Ending) (w':World):Prop :=
 But P w w'∧match q with
 | none=>e=.returned (.string ⟨#[]⟩)∧RBad P w' d
 | some (n,r)=>e=.returned (.string n)∧RS w' P r d 0
theorem RNPost.no {q:Option (ZS×ZW)} (hq:q=none) (hb:But P w w') (h:RBad P w' d):RNPost P w d q (.returned (.string ⟨#[]⟩)) w':=by
 subst hq;exact ⟨hb,rfl,h⟩
theorem eE (h:RS w P l d bad) (hb:bad≠0) (hd:d≤100000):RBad P w d:=⟨l,d,bad,hb,h,ν _,hd⟩
theorem Qb (P d:Nat) (w:World) (h:RS w P [] d 0) (hd:d≤100000) :
 Calls prog 80 #[P] w (RNPost P w d none):=by
 have H:=ul;have HRS:=da;obtain ⟨A,c,i,h1,h2,h3⟩:=h;have hc0:=cq;have hc1:=ee;have hc3:=β h1 3;have hI:((i+([]:ZW).length:Nat):Int)≤(i:Int):=aa
 obtain ⟨n,hn⟩:∃ n,i+([]:ZW).length=n:=cw;rw [hn] at hc0 hI;have hlt:decide ((n:Int)≤(i:Int))=true:=by simpa using hI
 clear h1 h2 h3 hn;go_enter func80,ntmps80;go_wp2_with fail;go_quiet (fail);go_wp2_with fail;refine (H.o (w.drewN nq) (HRS.o.drawn ⟨nq,rfl⟩)).mono ?_;rintro e w1 ⟨rfl,hb1,hp1⟩;have HE:=rj;clear hb1 hp1;go_wp2;go_ret;exact um
theorem Ko (P d:Nat) (t:Tok) (r:ZW) (w:World) (h:RS w P (t::r) d 0) (hd:d≤100000) (hk:t.k≠1) :
 Calls prog 80 #[P] w (RNPost P w d none):=by
 have H:=κ (λ(w':World) (h':RS w' P (t::r) d 0)=>fH P d 0 4 (t::r) w' h');have HRS:=da;obtain ⟨A,c,i,h1,h2,h3⟩:=h;have hc0:=cq;have hc1:=ee;have hc3:=β h1 3;obtain ⟨b,off,rfl,hlt,k0,k1, -⟩:=ue;obtain ⟨n,hn⟩:∃ n,i+(t::r).length=n:=cw;rw [hn] at hc0;have hin:=ud
 have hinN:=uf
 have hin0:=ug
 have hlt2:=uo
 have hlt3:decide ((n:Int)≤(i:Int))=false:=bl
 have hltN:=uq
 have e2:(t.k==1)=false:=η hk;have e3:(t.k !=1)=true:=ur
 clear h1 h2 h3 hn hk;go_enter func80,ntmps80;go_wp2_with fail;go_quiet (fail);go_wp2_with fail;refine (H.o (w.drewN nq) (HRS.o.drawn ⟨nq,rfl⟩)).mono ?_;rintro e w1 ⟨rfl,hb1,hp1⟩;have HE:=rj;clear hb1 hp1;go_wp2;go_ret;exact um
theorem Kn (P d:Nat) (t:Tok) (r:ZW) (w:World) (h:RS w P (t::r) d 0) (hd:d≤100000) (hk:t.k=1) :
 Calls prog 80 #[P] w (RNPost P w d (bB (t::r))):=by
 have H:=κ (λ(w':World) (h':RS w' P (t::r) d 0) (c:Int)=>fH P d 0 c (t::r) w' h');have HR:=κ ((Vo t.s w.drew).mono λe w' h=>ι h.1 (show Below w w w' from ((Below.refl w w).drew).trans h.2));have hres:(t.s:ByteArray).data.toList=t.s:=rfl;rw [hres] at HR;clear hres;have hQ1:zT t.s=true->bB (t::r)=none:=λh=>by simp [bB,h]
 have hQ2:¬t.s.length≤20->bB (t::r)=none:=λh=>by simp [bB,h]
 have hQ3:zT t.s=false->t.s.length≤20->bB (t::r)=some (t.s,r):=λh h'=>by simp [bB,h,h',hk]
 have HQ:=κ (ι hQ1 (ι hQ2 hQ3));clear hQ1 hQ2 hQ3;have HRS:=da;obtain ⟨A,c,i,h1,h2,h3⟩:=h;have hc0:=cq;have hc1:=ee;have hc3:=β h1 3;have hfz:=ed;obtain ⟨b,off,rfl,hlt,k0,k1, -⟩:=ue;obtain ⟨n,hn⟩:∃ n,i+(t::r).length=n:=cw;rw [hn] at hc0;have hin:=ud
 have hinN:=uf
 have hin0:=ug
 have hlt1:decide ((n:Int)≤(i:Int))=false:=bl
 have hlt2:=uo
 have hltN:=uq
 have e2:=dl
 have e3:(t.k !=1)=false:=ur
 have HK:=κ hk;clear h1 h2 h3 hn hk;go_enter func80,ntmps80;go_wp2_with fail
 go_region_held3 (λw'=>w'.cell? ⟨P,0,none⟩=some (.slice (some ⟨b,off,none⟩) n c)∧w'.cell? ⟨P,1,none⟩=some (.int .i64 i)∧w'.cell? ⟨P,3,none⟩=some (.int .i64 0)∧w'.cell? ⟨b,off+i*3,none⟩=some (.int .u8 t.k)∧w'.cell? ⟨b,off+i*3+1,none⟩=some (.string t.s))
  (first|go_keep|exact hd2)
  ((refine μ HR ?_;rintro e w2 ⟨rfl,hb2⟩;have hd2:w2.cell? ⟨P,0,none⟩=some (.slice (some ⟨b,off,none⟩) n c)∧w2.cell? ⟨P,1,none⟩=some (.int .i64 i)∧w2.cell? ⟨P,3,none⟩=some (.int .i64 0)∧w2.cell? ⟨b,off+i*3,none⟩=some (.int .u8 t.k)∧w2.cell? ⟨b,off+i*3+1,none⟩=some (.string t.s):=⟨(cN hc0 hb2),(cN hc1 hb2),(cN hc3 hb2),(cN k0 hb2),(cN k1 hb2)⟩))
 clear hd2 k0 hc3;cases hre:zT t.s
 ·by_cases h20:t.s.length≤20
  ·have HN:=κ (HQ.o.2.2 hre h20);have h20':¬((20:Int)<((t.s.length:Nat):Int)):=ac
   have d0:=cN hc0 hb2;have d1:=cN hc1 hb2;have d2:=cN k1 hb2;have HP2:=κ (HRS.o.below hb2);have HB2:=κ hb2;have hiI:(i:Int)≤2000:=by
    obtain ⟨A',c',i',q1, -,q3⟩:=HRS.o;have:=β q1 1;rw [hc1] at this;simp at this;simp at q3;omega
   have hfz2:=λj=>(by obtain ⟨A',c',i',q1, -,q3⟩:=HP2.o;exact frozen_of_row w2 P j _ _ q1:w2.frozen? ⟨P,j,none⟩=false);clear hre h20 hc0 hc1 k1 hb2 hfz H HQ;go_wp2_with fail;go_quiet (fail);go_wp2;go_ret;have HP3:=HP2.o.drawn ⟨nq,rfl⟩;obtain ⟨A',c',i',q1,q2,q3⟩:=HP3;have hi':i'=i:=by
    have:=β q1 1;have d1':(w2.drewN nq).cell? ⟨P,1,none⟩=some (.int .i64 i):=d1;rw [d1'] at this;simp at this;omega
   subst hi';have q4:=heap_setCell_same _ P 1 _ _ (.int .i64 ((i':Int)+1)) q1;refine ⟨((But.of HB2.o).trans (Drawn.but ⟨nq,rfl⟩)).trans (But.set _ _ _ _), ?_⟩;rw [HN.o];refine ⟨rfl,A',c',i'+1, ?_,q2.tail.but (But.set _ _ _ _),by simp at q3;omega⟩;rw [show i'+1+r.length=i'+(t::r).length by simp;omega]
   simpa using q4
  ·have HN:=κ (HQ.o.2.1 h20);have h20':((20:Int)<((t.s.length:Nat):Int)):=ac
   have d0:=cN hc0 hb2;have d1:=cN hc1 hb2;have d2:=cN k1 hb2;have HP2:=κ (HRS.o.below hb2);have HB2:=κ hb2;clear hre h20 hc0 hc1 k1 hb2 HQ hfz;go_wp2_with fail;go_quiet (fail);go_wp2_with fail;refine (H.o (w2.drewN nq) (HP2.o.drawn ⟨nq,rfl⟩) 2).mono ?_;rintro e w3 ⟨rfl,hb3,hp3⟩;have HE:=κ (ι hb3 hp3);clear hb3 hp3;go_wp2;go_ret;exact RNPost.no HN.o (((But.of HB2.o).trans (Drawn.but ⟨nq,rfl⟩)).trans HE.o.1) (eE HE.o.2 (jN am) hd)
 ·have HN:=κ (HQ.o.1 hre);have HP2:=κ (HRS.o.below hb2);have HB2:=κ hb2;clear hre hc0 hc1 k1 hb2 HQ;go_wp2_with fail;refine (H.o w2 HP2.o 4).mono ?_;rintro e w3 ⟨rfl,hb3,hp3⟩;have HE:=κ (ι hb3 hp3);clear hb3 hp3;go_wp2;go_ret;exact RNPost.no HN.o ((But.of HB2.o).trans HE.o.1) (eE HE.o.2 (jN am) hd)
theorem qO (P d:Nat) (l:ZW) (w:World) (h:RS w P l d 0) (hd:d≤100000) :
 Calls prog 80 #[P] w (RNPost P w d (bB l)):=by
 cases l with
 | nil=>exact Qb P d w h hd
 | cons t r =>
   by_cases hk:t.k=1
   ·exact Kn P d t r w h hd hk
   ·rw [show bB (t::r)=none by simp [bB,hk]];exact Ko P d t r w h hd hk
def uP (w:World) (q:Option ZS) (e:Ending) (w':World):Prop :=
 e=.returned (.string ⟨(q.getD []).toArray⟩)∧Below w w w'
theorem eZ {q:Option ZS} {s:ZS} (hq:q=if s=[] then none else some s) (hb:Below w w w'):uP w q (.returned (.string s)) w':=by
 subst hq
 by_cases h:s=[]
 ·subst h;exact fg
 ·rw [if_neg h];exact fg
theorem nD:∀ lev:Nat,∀ s∈bM lev,s≠[]:=by
 intro lev;unfold bM
 split<;>decide
theorem aCP (P d:Nat) (l:ZW) (w:World) (h:RS w P l d 0) :
 Calls prog 135 #[P,.int .i64 1] w (uP w (cP 1 l)):=by
 have hb:=(Below.refl w w).alloc (ν _) (.cells (wv (bM 1)).toArray 9);have hW:=ι (lM w (bM 1) 9) (h.below ((Below.refl w w).alloc (ν _) (.cells (wv (bM 1)).toArray 9)));have hF:=(λ(j:Nat) (hk:j<(bM 1).length) (hf:isF (bM 1)[j] l=true) (hu:∀ u∈(bM 1).take j,isF u l=false)=>(show cP 1 l=if (bM 1)[j]=[] then none else some (bM 1)[j] by rw [if_neg (nD _ _ (List.getElem_mem hk))];exact mY (List.getElem?_eq_getElem hk) hf hu));have hN:=(λ(hu:∀ u∈bM 1,isF u l=false)=>(show cP 1 l=if ([]:ZS)=[] then none else some [] from oG hu));rw [show (wv (bM 1)).toArray=#[.string ⟨#[111,114]⟩] from rfl] at hb hW;have hlen:(bM 1).length=1:=rfl;obtain ⟨ws,hws⟩:∃ ws,bM 1=ws:=cw;obtain ⟨q,hq⟩:∃ q,cP 1 l=q:=cw;rw [hws] at hF hN hW hlen;rw [hq] at hF hN |-;have HF:=κ hF;have HN:=κ hN;have HW:=κ hW;have HB:=dm;clear hF hN hW hb hws hq h;go_enter func135,ntmps135;go_wp2_with fail;generalize w.alloc _=W at *
 go_loopw [7,26] (λ_ s26 wr=>∃ j:Nat,j≤1∧s26=.int .i64 j∧Below w w wr∧WdsAt wr w ws∧RS wr P l d 0∧∀ u∈ws.take j,isF u l=false) (λ_ s26 _=>1-(intOf s26).toNat)
 case atStart=>exact ⟨0,Nat.zero_le _,rfl,HB.o,HW.o.1,HW.o.2,λ_ h=>ar⟩
 case round =>
  obtain ⟨j,hj,rfl,hb,hw,hp,hu⟩:=dd
  by_cases hlt:j<1
  ·have hltW:=ut
   have hc:=ux;have HF2:=uw;have HU:=uv;have HS:=uu;generalize ws[j]=s at *;cases hf:isF s l
   ·have HI:=uy;have HU2:=κ (HU.o hf);clear hf hb hw hp hu HF2 HU HF HN;go_wp2_with fail;refine μ HI ?_;rintro e w1 ⟨rfl,hd1⟩;go_wp2
    go_roundw
    case rel=>exact ⟨j+1,ac,de,HS.o.1.trans (hd1.below.mono HS.o.1.size),HS.o.2.1.below hd1.below,HS.o.2.2.drawn hd1,HU2.o⟩
    case measure=>simp [intOf];omega
   ·have HI:=vd;have HF3:=vc;clear hf hb hw hp hu HF2 HU HF HN;go_wp2_with fail;refine μ HI ?_;rintro e w1 ⟨rfl,hd1⟩;go_wp2;go_ret;exact uz
  ·have hj2:=ve
   have HN2:=vg;have HB2:=dm;clear hj2 hu hb hw hp HN HF;go_wp2;go_ret;exact vf
theorem aCO (P d:Nat) (l:ZW) (w:World) (h:RS w P l d 0) :
 Calls prog 135 #[P,.int .i64 2] w (uP w (cP 2 l)):=by
 have hb:=(Below.refl w w).alloc (ν _) (.cells (wv (bM 2)).toArray 9);have hW:=ι (lM w (bM 2) 9) (h.below ((Below.refl w w).alloc (ν _) (.cells (wv (bM 2)).toArray 9)));have hF:=(λ(j:Nat) (hk:j<(bM 2).length) (hf:isF (bM 2)[j] l=true) (hu:∀ u∈(bM 2).take j,isF u l=false)=>(show cP 2 l=if (bM 2)[j]=[] then none else some (bM 2)[j] by rw [if_neg (nD _ _ (List.getElem_mem hk))];exact mY (List.getElem?_eq_getElem hk) hf hu));have hN:=(λ(hu:∀ u∈bM 2,isF u l=false)=>(show cP 2 l=if ([]:ZS)=[] then none else some [] from oG hu));rw [show (wv (bM 2)).toArray=#[.string ⟨#[97,110,100]⟩] from rfl] at hb hW;have hlen:(bM 2).length=1:=rfl;obtain ⟨ws,hws⟩:∃ ws,bM 2=ws:=cw;obtain ⟨q,hq⟩:∃ q,cP 2 l=q:=cw;rw [hws] at hF hN hW hlen;rw [hq] at hF hN |-;have HF:=κ hF;have HN:=κ hN;have HW:=κ hW;have HB:=dm;clear hF hN hW hb hws hq h;go_enter func135,ntmps135;go_wp2_with fail;generalize w.alloc _=W at *
 go_loopw [7,26] (λ_ s26 wr=>∃ j:Nat,j≤1∧s26=.int .i64 j∧Below w w wr∧WdsAt wr w ws∧RS wr P l d 0∧∀ u∈ws.take j,isF u l=false) (λ_ s26 _=>1-(intOf s26).toNat)
 case atStart=>exact ⟨0,Nat.zero_le _,rfl,HB.o,HW.o.1,HW.o.2,λ_ h=>ar⟩
 case round =>
  obtain ⟨j,hj,rfl,hb,hw,hp,hu⟩:=dd
  by_cases hlt:j<1
  ·have hltW:=ut
   have hc:=ux;have HF2:=uw;have HU:=uv;have HS:=uu;generalize ws[j]=s at *;cases hf:isF s l
   ·have HI:=uy;have HU2:=κ (HU.o hf);clear hf hb hw hp hu HF2 HU HF HN;go_wp2_with fail;refine μ HI ?_;rintro e w1 ⟨rfl,hd1⟩;go_wp2
    go_roundw
    case rel=>exact ⟨j+1,ac,de,HS.o.1.trans (hd1.below.mono HS.o.1.size),HS.o.2.1.below hd1.below,HS.o.2.2.drawn hd1,HU2.o⟩
    case measure=>simp [intOf];omega
   ·have HI:=vd;have HF3:=vc;clear hf hb hw hp hu HF2 HU HF HN;go_wp2_with fail;refine μ HI ?_;rintro e w1 ⟨rfl,hd1⟩;go_wp2;go_ret;exact uz
  ·have hj2:=ve
   have HN2:=vg;have HB2:=dm;clear hj2 hu hb hw hp HN HF;go_wp2;go_ret;exact vf
theorem aCN (P d:Nat) (l:ZW) (w:World) (h:RS w P l d 0) :
 Calls prog 135 #[P,.int .i64 4] w (uP w (cP 4 l)):=by
 have hb:=(Below.refl w w).alloc (ν _) (.cells (wv (bM 4)).toArray 9);have hW:=ι (lM w (bM 4) 9) (h.below ((Below.refl w w).alloc (ν _) (.cells (wv (bM 4)).toArray 9)));have hF:=(λ(j:Nat) (hk:j<(bM 4).length) (hf:isF (bM 4)[j] l=true) (hu:∀ u∈(bM 4).take j,isF u l=false)=>(show cP 4 l=if (bM 4)[j]=[] then none else some (bM 4)[j] by rw [if_neg (nD _ _ (List.getElem_mem hk))];exact mY (List.getElem?_eq_getElem hk) hf hu));have hN:=(λ(hu:∀ u∈bM 4,isF u l=false)=>(show cP 4 l=if ([]:ZS)=[] then none else some [] from oG hu));rw [show (wv (bM 4)).toArray=#[.string ⟨#[61]⟩,.string ⟨#[60,62]⟩,.string ⟨#[60]⟩,.string ⟨#[60,61]⟩,.string ⟨#[62]⟩,.string ⟨#[62,61]⟩] from rfl] at hb hW;have hlen:(bM 4).length=6:=rfl;obtain ⟨ws,hws⟩:∃ ws,bM 4=ws:=cw;obtain ⟨q,hq⟩:∃ q,cP 4 l=q:=cw;rw [hws] at hF hN hW hlen;rw [hq] at hF hN |-;have HF:=κ hF;have HN:=κ hN;have HW:=κ hW;have HB:=dm;clear hF hN hW hb hws hq h;go_enter func135,ntmps135;go_wp2_with fail;generalize w.alloc _=W at *
 go_loopw [7,26] (λ_ s26 wr=>∃ j:Nat,j≤6∧s26=.int .i64 j∧Below w w wr∧WdsAt wr w ws∧RS wr P l d 0∧∀ u∈ws.take j,isF u l=false) (λ_ s26 _=>6-(intOf s26).toNat)
 case atStart=>exact ⟨0,Nat.zero_le _,rfl,HB.o,HW.o.1,HW.o.2,λ_ h=>ar⟩
 case round =>
  obtain ⟨j,hj,rfl,hb,hw,hp,hu⟩:=dd
  by_cases hlt:j<6
  ·have hltW:=ut
   have hc:=ux;have HF2:=uw;have HU:=uv;have HS:=uu;generalize ws[j]=s at *;cases hf:isF s l
   ·have HI:=uy;have HU2:=κ (HU.o hf);clear hf hb hw hp hu HF2 HU HF HN;go_wp2_with fail;refine μ HI ?_;rintro e w1 ⟨rfl,hd1⟩;go_wp2
    go_roundw
    case rel=>exact ⟨j+1,ac,de,HS.o.1.trans (hd1.below.mono HS.o.1.size),HS.o.2.1.below hd1.below,HS.o.2.2.drawn hd1,HU2.o⟩
    case measure=>simp [intOf];omega
   ·have HI:=vd;have HF3:=vc;clear hf hb hw hp hu HF2 HU HF HN;go_wp2_with fail;refine μ HI ?_;rintro e w1 ⟨rfl,hd1⟩;go_wp2;go_ret;exact uz
  ·have hj2:=ve
   have HN2:=vg;have HB2:=dm;clear hj2 hu hb hw hp HN HF;go_wp2;go_ret;exact vf
theorem aCM (P d:Nat) (l:ZW) (w:World) (h:RS w P l d 0) :
 Calls prog 135 #[P,.int .i64 5] w (uP w (cP 5 l)):=by
 have hb:=(Below.refl w w).alloc (ν _) (.cells (wv (bM 5)).toArray 9);have hW:=ι (lM w (bM 5) 9) (h.below ((Below.refl w w).alloc (ν _) (.cells (wv (bM 5)).toArray 9)));have hF:=(λ(j:Nat) (hk:j<(bM 5).length) (hf:isF (bM 5)[j] l=true) (hu:∀ u∈(bM 5).take j,isF u l=false)=>(show cP 5 l=if (bM 5)[j]=[] then none else some (bM 5)[j] by rw [if_neg (nD _ _ (List.getElem_mem hk))];exact mY (List.getElem?_eq_getElem hk) hf hu));have hN:=(λ(hu:∀ u∈bM 5,isF u l=false)=>(show cP 5 l=if ([]:ZS)=[] then none else some [] from oG hu));rw [show (wv (bM 5)).toArray=#[.string ⟨#[43]⟩,.string ⟨#[45]⟩] from rfl] at hb hW;have hlen:(bM 5).length=2:=rfl;obtain ⟨ws,hws⟩:∃ ws,bM 5=ws:=cw;obtain ⟨q,hq⟩:∃ q,cP 5 l=q:=cw;rw [hws] at hF hN hW hlen;rw [hq] at hF hN |-;have HF:=κ hF;have HN:=κ hN;have HW:=κ hW;have HB:=dm;clear hF hN hW hb hws hq h;go_enter func135,ntmps135;go_wp2_with fail;generalize w.alloc _=W at *
 go_loopw [7,26] (λ_ s26 wr=>∃ j:Nat,j≤2∧s26=.int .i64 j∧Below w w wr∧WdsAt wr w ws∧RS wr P l d 0∧∀ u∈ws.take j,isF u l=false) (λ_ s26 _=>2-(intOf s26).toNat)
 case atStart=>exact ⟨0,Nat.zero_le _,rfl,HB.o,HW.o.1,HW.o.2,λ_ h=>ar⟩
 case round =>
  obtain ⟨j,hj,rfl,hb,hw,hp,hu⟩:=dd
  by_cases hlt:j<2
  ·have hltW:=ut
   have hc:=ux;have HF2:=uw;have HU:=uv;have HS:=uu;generalize ws[j]=s at *;cases hf:isF s l
   ·have HI:=uy;have HU2:=κ (HU.o hf);clear hf hb hw hp hu HF2 HU HF HN;go_wp2_with fail;refine μ HI ?_;rintro e w1 ⟨rfl,hd1⟩;go_wp2
    go_roundw
    case rel=>exact ⟨j+1,ac,de,HS.o.1.trans (hd1.below.mono HS.o.1.size),HS.o.2.1.below hd1.below,HS.o.2.2.drawn hd1,HU2.o⟩
    case measure=>simp [intOf];omega
   ·have HI:=vd;have HF3:=vc;clear hf hb hw hp hu HF2 HU HF HN;go_wp2_with fail;refine μ HI ?_;rintro e w1 ⟨rfl,hd1⟩;go_wp2;go_ret;exact uz
  ·have hj2:=ve
   have HN2:=vg;have HB2:=dm;clear hj2 hu hb hw hp HN HF;go_wp2;go_ret;exact vf
theorem aCL (P d:Nat) (l:ZW) (w:World) (h:RS w P l d 0) :
 Calls prog 135 #[P,.int .i64 6] w (uP w (cP 6 l)):=by
 have hb:=(Below.refl w w).alloc (ν _) (.cells (wv (bM 6)).toArray 9);have hW:=ι (lM w (bM 6) 9) (h.below ((Below.refl w w).alloc (ν _) (.cells (wv (bM 6)).toArray 9)));have hF:=(λ(j:Nat) (hk:j<(bM 6).length) (hf:isF (bM 6)[j] l=true) (hu:∀ u∈(bM 6).take j,isF u l=false)=>(show cP 6 l=if (bM 6)[j]=[] then none else some (bM 6)[j] by rw [if_neg (nD _ _ (List.getElem_mem hk))];exact mY (List.getElem?_eq_getElem hk) hf hu));have hN:=(λ(hu:∀ u∈bM 6,isF u l=false)=>(show cP 6 l=if ([]:ZS)=[] then none else some [] from oG hu));rw [show (wv (bM 6)).toArray=#[.string ⟨#[42]⟩,.string ⟨#[47]⟩,.string ⟨#[37]⟩] from rfl] at hb hW;have hlen:(bM 6).length=3:=rfl;obtain ⟨ws,hws⟩:∃ ws,bM 6=ws:=cw;obtain ⟨q,hq⟩:∃ q,cP 6 l=q:=cw;rw [hws] at hF hN hW hlen;rw [hq] at hF hN |-;have HF:=κ hF;have HN:=κ hN;have HW:=κ hW;have HB:=dm;clear hF hN hW hb hws hq h;go_enter func135,ntmps135;go_wp2_with fail;generalize w.alloc _=W at *
 go_loopw [7,26] (λ_ s26 wr=>∃ j:Nat,j≤3∧s26=.int .i64 j∧Below w w wr∧WdsAt wr w ws∧RS wr P l d 0∧∀ u∈ws.take j,isF u l=false) (λ_ s26 _=>3-(intOf s26).toNat)
 case atStart=>exact ⟨0,Nat.zero_le _,rfl,HB.o,HW.o.1,HW.o.2,λ_ h=>ar⟩
 case round =>
  obtain ⟨j,hj,rfl,hb,hw,hp,hu⟩:=dd
  by_cases hlt:j<3
  ·have hltW:=ut
   have hc:=ux;have HF2:=uw;have HU:=uv;have HS:=uu;generalize ws[j]=s at *;cases hf:isF s l
   ·have HI:=uy;have HU2:=κ (HU.o hf);clear hf hb hw hp hu HF2 HU HF HN;go_wp2_with fail;refine μ HI ?_;rintro e w1 ⟨rfl,hd1⟩;go_wp2
    go_roundw
    case rel=>exact ⟨j+1,ac,de,HS.o.1.trans (hd1.below.mono HS.o.1.size),HS.o.2.1.below hd1.below,HS.o.2.2.drawn hd1,HU2.o⟩
    case measure=>simp [intOf];omega
   ·have HI:=vd;have HF3:=vc;clear hf hb hw hp hu HF2 HU HF HN;go_wp2_with fail;refine μ HI ?_;rintro e w1 ⟨rfl,hd1⟩;go_wp2;go_ret;exact uz
  ·have hj2:=ve
   have HN2:=vg;have HB2:=dm;clear hj2 hu hb hw hp HN HF;go_wp2;go_ret;exact vf
theorem RS.next (h:RS w P (t::r) d bad) :
 ∃ i:Nat,w.cell? ⟨P,1,none⟩=some (.int .i64 i)∧w.frozen? ⟨P,1,none⟩=false∧(i:Int)≤2000∧RS (w.setCell ⟨P,1,none⟩ (.int .i64 ((i:Int)+1))) P r d bad:=by
 obtain ⟨A,c,i,h1,h2,h3⟩:=h;have hz:=frozen_of_row w P 1 _ _ h1;have q4:=heap_setCell_same w P 1 _ _ (.int .i64 ((i:Int)+1)) h1;refine ⟨i,β h1 1,hz,ac,A,c,i+1, ?_,h2.tail.but (But.set _ _ _ _),by simp at h3;omega⟩;rw [show i+1+r.length=i+(t::r).length by simp;omega]
 simpa using q4
theorem RS.up (h:RS w P l (d+1) bad) :
 w.cell? ⟨P,2,none⟩=some (.int .i64 ((d+1:Nat):Int))∧w.frozen? ⟨P,2,none⟩=false∧RS (w.setCell ⟨P,2,none⟩ (.int .i64 (((d+1:Nat):Int)-1))) P l d bad:=by
 obtain ⟨A,c,i,h1,h2,h3⟩:=h;have hz:=frozen_of_row w P 2 _ _ h1;have q4:=heap_setCell_same w P 2 _ _ (.int .i64 (((d+1:Nat):Int)-1)) h1;refine ⟨β h1 2,hz,A,c,i, ?_,h2.but (But.set _ _ _ _),h3⟩;rw [q4,show ((d+1:Nat):Int)-1=(d:Int) by omega];simp
theorem RBad.up {w:World} {P d:Nat} (h:RBad P w (d+1)) :
 ∃ e:Nat,w.cell? ⟨P,2,none⟩=some (.int .i64 (e:Int))∧w.frozen? ⟨P,2,none⟩=false∧(e:Int)≤100000∧0≤(e:Int)∧RBad P (w.setCell ⟨P,2,none⟩ (.int .i64 ((e:Int)-1))) d:=by
 obtain ⟨l',d',b',hb,hp,h1,h2⟩:=h;obtain ⟨e,rfl⟩:∃ e,d'=e+1:=⟨d'-1,ac⟩;obtain ⟨q1,q2,q3⟩:=hp.up;exact ⟨e+1,q1,q2,ac,ac,l',e,b',hb,q3,ac,ac⟩
theorem RBad.below {w w':World} {P d:Nat} (h:RBad P w d) (hb:Below w w w'):RBad P w' d:=by
 obtain ⟨l',d',b',h0,hp,h1,h2⟩:=h;exact ⟨l',d',b',h0,hp.below hb,h1,h2⟩
structure Two (B P:Nat) (w0 w:World) (r1:RC):Prop where
 b:But P w0 w
 z:∃ r0:RC,w.heap[B]? = some (.cells r0.cells.toArray 60 (0,0))
 x:w.heap[B+1]? = some (.cells r1.cells.toArray 60 (0,0))
theorem Mt (P:Nat) (w:World) (r1:RC):Two w P w ((w.alloc (.cells rcZ.cells.toArray 60)).alloc (.cells r1.cells.toArray 60)) r1:=by
 refine ⟨But.of ((ρ).alloc aa _),⟨rcZ,aB (heap_alloc_new w _) _⟩, ?_⟩;have:=heap_alloc_new (w.alloc (.cells rcZ.cells.toArray 60)) (.cells r1.cells.toArray 60);rwa [World.size_alloc] at this
theorem Two.but {r1:RC} (h:Two B P w0 w r1) (hb:But P w w') (hP:P<B):Two B P w0 w' r1:=by
 obtain ⟨h1,⟨r0,h2⟩,h3⟩:=h;exact vh
theorem Two.cells {B P:Nat} {w0 w:World} {r1:RC} (h:Two B P w0 w r1):(∃ r0:RC,∀ j,w.cell? ⟨B,j,none⟩=r0.cells.toArray[j]?)∧(∀ j,w.cell? ⟨B+1,j,none⟩=r1.cells.toArray[j]?)∧(∀ j,w.frozen? ⟨B,j,none⟩=false)∧(∀ j,w.frozen? ⟨B+1,j,none⟩=false):=by
 obtain ⟨h1,⟨r0,h2⟩,h3⟩:=h;exact vj
theorem Jh (lev:Nat) (op:ZS) (P d:Nat) (l:ZW) (w:World) (h:RS w P l d 0) (hP:P<w) (hd:d+1>40) (hd2:d≤100) :
 Calls prog 133 #[P,.int .i64 (lev:Nat),op] w (RPost P w d none):=by
 have hT:=Mt P w (rc0 3 op);have HD:=κ (lR P d l _ (h.below (((θ).alloc (ν _) (.cells rcZ.cells.toArray 60)).alloc aa (.cells (rc0 3 op).cells.toArray 60))) hd ac);have HT:=κ hT;clear h hT;go_enter func133,ntmps133;go_wp2_with fail;refine μ HD ?_;rintro e w1 ⟨rfl,hb1,b',hb',hp1⟩;have hT1:=HT.o.but hb1 hP;obtain ⟨⟨⟨a0,a1,a2,a3,a4,a5,a6,a7,a8,a9⟩,c0⟩,c1,z0,z1⟩:=hT1.cells;have HE:=κ (ι hT1 (ι hb' hp1));simp only [RC.cells,rc0] at c0 c1;clear hb1 hT1 hb' hp1;obtain ⟨rz,hz⟩:=HE.o.1.z;have hcE:=β (aK (rc0 3 op) hz);have hP:RPost P w d none (.returned (rc0 3 op).val) (put8 w1 w (rc0 3 op)):=RPost.no (rc0 3 op) rfl (hH (r:=rc0 3 op) HE.o.1.b (ν _)) ⟨l,d+1,b',HE.o.2.1,mQ (r:=rc0 3 op) HE.o.2.2 hP,ac,ac⟩;have HPo:=κ hP;clear hz hP;go_wp2;change bodyPost _ _ _ _ _ (put8 w1 w (rc0 3 op));generalize put8 w1 w (rc0 3 op)=WE at *;simp only [RC.cells,rc0] at hcE;exact bodyPost_ret (v:=(rc0 3 op).val) (by simp [results,results133,go_sem,hcE,RC.val,rc0]) rfl HPo.o
theorem RS.far (h:RS w P l d bad) (hP:P<g):RS (w.setCell ⟨g,o,none⟩ v) P l d bad:=by
 obtain ⟨A,c,i,h1,h2,h3⟩:=h;refine ⟨A,c,i,(Below.heap_setCell w ⟨g,o,none⟩ v P (by show P≠g;omega)).trans h1, ?_,h3⟩;rcases h2 with rfl|⟨b,off,hA,hlt,hc⟩
 ·exact ab
 ·exact .inr ⟨b,off,hA,hlt,λj u hu=>(World.cell?_of_block (w:=w) (Below.heap_setCell w ⟨g,o,none⟩ v b uk)).trans (hc j u hu)⟩
theorem RBad.far {w:World} {P d g o:Nat} {v:Value} (h:RBad P w d) (hP:P<g):RBad P (w.setCell ⟨g,o,none⟩ v) d:=by
 obtain ⟨l',d',b',h0,hp,h1,h2⟩:=h;exact ⟨l',d',b',h0,hp.far hP,h1,h2⟩
theorem RBad.put8 {w:World} {P d g:Nat} {r:RC} (h:RBad P w d) (hP:P<g):RBad P (put8 w g r) d:=by
 obtain ⟨l',d',b',h0,hp,h1,h2⟩:=h;exact ⟨l',d',b',h0,mQ hp hP,h1,h2⟩
def aLU (B:Nat):Nat->Prop:=λg=>B+2≤g
theorem RX.far {r:RC} (h:RX S w x r) (hg:∀ k,S k->k<w.heap.size->k≠g):RX S (w.setCell ⟨g,o,none⟩ v) x r :=
 RX.turn (λk _ h0 hk=>⟨h0,(Below.heap_setCell w ⟨g,o,none⟩ v k (hg k h0 (aG hk))).trans hk⟩) h
theorem Two.parts {k:Int} {op:ZS} (h:Two B P w0 w (rc0 k op)) (hB:w0≤B) (g n:Nat):Two B P w0 (w.setCell ⟨B+1,7,none⟩ (.slice (some ⟨g,0,none⟩) n n)) (rcP k op g n):=by
 obtain ⟨h1,⟨r0,h2⟩,h3⟩:=h;refine ⟨bP h1 ac _ _,⟨r0,(Below.heap_setCell w ⟨B+1,7,none⟩ _ B vl).trans h2⟩, ?_⟩;have:=heap_setCell_same w (B+1) 7 _ _ (.slice (some ⟨g,0,none⟩) n n) h3;rw [this];simp [rc0,rcP,RC.cells]
def aGI (op:ZS) (q:Option (Lp.X×ZW)):Option (Lp.X×ZW):=q.map λp=>(.un op p.1,p.2)
theorem Cj (lev:Nat) (op:ZS) (P d:Nat) (t:Tok) (r:ZW) (w:World) (h:RS w P (t::r) d 0) (hP:P<w) (hd:d+1≤40) (HF:RvOk lev P (d+1) r.length) :
 Calls prog 133 #[P,.int .i64 (lev:Nat),op] w (RPost P w d (aGI op (pX lev (d+1) r))):=by
 have hT:=Mt P w (rc0 3 op);have HD:=κ (kD P d (t::r) _ (h.below (((θ).alloc (ν _) (.cells rcZ.cells.toArray 60)).alloc aa (.cells (rc0 3 op).cells.toArray 60))) hd);have HT:=κ hT;clear h hT;go_enter func133,ntmps133;go_wp2_with fail;refine μ HD ?_;rintro e w1 ⟨rfl,hb1,hp1⟩;have hT1:=HT.o.but hb1 hP;obtain ⟨i,n1,n2,n3,n4⟩:=hp1.next;have hT2:=hT1.but (But.set P 1 w1 (.int .i64 ((i:Int)+1))) hP;have HC:=κ (HF _ r (ν _) n4);have HT2:=κ hT2;have HP2:=κ n4;clear hb1 hT1 n4 hT2 hp1;go_wp2_with fail;refine μ HC ?_;rintro e w3 ⟨hb3,⟨k,vk,vi,vs,vb,tt,ss,A,n,c⟩,rfl,hq⟩;simp only [RC.val];have hT3:=HT2.o.but hb3 hP;have hb4:Below w3 w3 (w3.alloc (.cells #[.int .u8 k,.int .u8 vk,vi,vs,vb,tt,ss,.slice A n c] 60)):=ρ;have hT4:=hT3.but (But.of hb4) hP;have hT5:=hT4.parts (ν _) w3 1;have hnew:=heap_alloc_new w3 (.cells #[.int .u8 k,.int .u8 vk,vi,vs,vb,tt,ss,.slice A n c] 60);obtain ⟨-,y1, -,y2⟩:=hT4.cells;simp only [RC.cells,rc0] at y1;have HT5:=κ hT5;have HT3:=κ hT3;have hz3:w+2≤w3.heap.size:=by have:=aG hT3.x;omega
 have HN:=κ hnew;have HB4:=κ hb4;clear hT3 hT4 hT5 hnew hb3 hb4 n1 n2;have HPo:Hd0 (∃ e:Nat,(((w3.alloc (.cells #[.int .u8 k,.int .u8 vk,vi,vs,vb,tt,ss,.slice A n c] 60)).setCell ⟨w+1,7,none⟩ (.slice (some ⟨w3,0,none⟩) 1 1))).cell? ⟨P,2,none⟩=some (.int .i64 (e:Int))∧(((w3.alloc (.cells #[.int .u8 k,.int .u8 vk,vi,vs,vb,tt,ss,.slice A n c] 60)).setCell ⟨w+1,7,none⟩ (.slice (some ⟨w3,0,none⟩) 1 1))).frozen? ⟨P,2,none⟩=false∧(e:Int)≤100000∧0≤(e:Int) ∧
  RPost P w d (aGI op (pX lev (d+1) r)) (.returned (rcP 3 op w3 1).val) (put8 (((w3.alloc (.cells #[.int .u8 k,.int .u8 vk,vi,vs,vb,tt,ss,.slice A n c] 60)).setCell ⟨w+1,7,none⟩ (.slice (some ⟨w3,0,none⟩) 1 1)).setCell ⟨P,2,none⟩ (.int .i64 ((e:Int)-1))) w (rcP 3 op w3 1))):=by
  refine κ ?_;have hBu:=λ(e:Nat)=>(HT5.o.but (But.set P 2 _ (.int .i64 ((e:Int)-1))) hP).b;cases hpx:pX lev (d+1) r with
  | none =>
    rw [hpx] at hq;have hbad:RBad P w3 (d+1):=hq;obtain ⟨e,q1,q2,q3,q4,q5⟩:=((hbad.below HB4.o).far (o:=7) (v:=.slice (some ⟨w3,0,none⟩) 1 1) (show P<w.heap.size+1 by omega)).up;exact ⟨e,q1,q2,q3,q4,RPost.no _ rfl (hH (hBu e) (ν _)) (q5.put8 hP)⟩
  | some p =>
    obtain ⟨x,l'⟩:=p;rw [hpx] at hq;obtain ⟨hx,hp3⟩:=hq;obtain ⟨q1,q2,q5⟩:=((hp3.below HB4.o).far (o:=7) (v:=.slice (some ⟨w3,0,none⟩) 1 1) (show P<w.heap.size+1 by omega)).up;refine ⟨d+1,q1,q2,ac,ac,RPost.yes _ (x:=.un op x) (l':=l') rfl (hH (hBu (d+1)) (ν _)) ?_ (mQ q5 hP)⟩;have hx4:RX (aLU w) _ x _:=RX.mono (λg hg hl=>(show w.heap.size+2≤g from Nat.le_trans (by have:=aG HT2.o.x;omega) hg)) (hx.below HB4.o);have hx5:=(hx4.far (g:=w.heap.size+1) (o:=7) (v:=.slice (some ⟨w3,0,none⟩) 1 1) (λk hk _=>vm)).far (g:=P) (o:=2) (v:=.int .i64 (((d+1:Nat):Int)-1)) (λk hk _=>vm);have hx6:=lI (g:=w) (r:=rcP 3 op w3 1) (λk hk=>by have:w.heap.size+2≤k:=hk;omega) hx5;refine ⟨w3.heap.size,_,rfl,ac, ?_,RX.mono (λg hg _=>by have:w.heap.size+2≤g:=hg;show _≤g;omega) hx6⟩;rw [kQ ac,Below.heap_setCell _ _ _ _ (by show w3.heap.size≠P;omega),Below.heap_setCell _ _ _ _ (by show w3.heap.size≠w.heap.size+1;omega)];exact HN.o
 clear hq HN HB4;obtain ⟨e,q1,q2,q3,q4,q5⟩:=HPo.o;have hT6:=HT5.o.but (But.set P 2 _ (.int .i64 ((e:Int)-1))) hP;obtain ⟨⟨⟨a0,a1,a2,a3,a4,a5,a6,a7,a8,a9⟩,c0⟩,c1,z0,z1⟩:=hT6.cells;obtain ⟨rz,hz⟩:=hT6.z;have hcE:=β (aK (rcP 3 op w3 1) hz);simp only [RC.cells,rcP] at c0 c1;have HPo2:=κ q5;clear hz hT6 q5 HPo HT5 HT2 HP2 HC HD HT HT3;go_wp2;change bodyPost _ _ _ _ _ (put8 _ w (rcP 3 op w3 1));generalize put8 _ w (rcP 3 op w3 1)=WE at *;simp only [RC.cells,rcP] at hcE;exact bodyPost_ret (v:=(rcP 3 op w3 1).val) (by simp [results,results133,go_sem,hcE,RC.val,rcP]) rfl HPo2.o
