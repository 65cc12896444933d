/-
 Contracts. Conditions: those of each.
-/
import Derived.Test.YtkolcimllghnaaaGreatDoorQbGC
import Derived.Deep.RegionWith
import Derived.Deep.RegionHeld3
import Derived.BigRegion
set_option maxRecDepth 100000
set_option maxHeartbeats 8000000
namespace Go.Proofs.YtkolcimllghnaaaGreatDoor
open Lp Go.Proofs.Tryz
open Go.RowKit
def TkR (w:World) (P:Nat) (A:Option Addr) (i:Nat) (l:List Tok):Prop :=
 l=[]∨∃ b off,A=some ⟨b,off,none⟩∧b<P∧∀ j u,(tkv l)[j]? = some u→w.cell? ⟨b,off+i*3+j,none⟩=some u
theorem TkR.but {w w':World} {P i:Nat} {A:Option Addr} {l:List Tok} (h:TkR w P A i l) (hb:But P w w'):TkR w' P A i l:=by
 rcases h with rfl|⟨b,off,hA,hlt,hc⟩
 ·exact .inl rfl
 ·exact .inr ⟨b,off,hA,hlt,fun j u hu=>nJ hb (hc j u hu) (Nat.ne_of_lt hlt)⟩
theorem TkR.front {w:World} {P i:Nat} {A:Option Addr} {t:Tok} {r:List Tok} (h:TkR w P A i (t::r)) :
 ∃ b off,A=some ⟨b,off,none⟩∧b<P∧w.cell? ⟨b,off+i*3,none⟩=some (.int .u8 t.k)∧w.cell? ⟨b,off+i*3+1,none⟩=some (.string ⟨t.s.toArray⟩)∧w.cell? ⟨b,off+i*3+2,none⟩=some (.int .i64 t.n):=by
 rcases h with h|⟨b,off,hA,hlt,hc⟩
 ·cases h
 ·exact ⟨b,off,hA,hlt,hc 0 _ rfl,hc 1 _ rfl,hc 2 _ rfl⟩
theorem TkR.tail {w:World} {P i:Nat} {A:Option Addr} {t:Tok} {r:List Tok} (h:TkR w P A i (t::r)):TkR w P A (i+1) r:=by
 rcases h with h|⟨b,off,hA,hlt,hc⟩
 ·cases h
 ·refine .inr ⟨b,off,hA,hlt,fun j u hu => ?_⟩
  have:=hc (3+j) u (by rw [Nat.add_comm 3 j];exact hu)
  rw [show off+(i+1)*3+j=off+i*3+(3+j) by omega]
  exact this
def RS (w:World) (P:Nat) (l:List Tok) (d:Nat) (bad:Int):Prop :=
 ∃ A c i,w.heap[P]? = some (.cells #[.slice A (i+l.length) c,.int .i64 (i:Nat),.int .i64 d,.int .i64 bad] 108 (0,0))∧TkR w P A i l∧i+l.length≤2000
theorem RS.below {w w':World} {P d:Nat} {bad:Int} {l:List Tok} (h:RS w P l d bad) (hb:Below w.heap.size w w'):RS w' P l d bad:=by
 obtain ⟨A,c,i,h1,h2,h3⟩:=h
 exact ⟨A,c,i,aA h1 hb,h2.but (But.of hb),h3⟩
def Drawn (w w':World):Prop:=∃ n,w'=w.drewN n
theorem bI (P d:Nat) (bad:Int) (l:List Tok) (s:ByteArray) (w:World) (h:RS w P l d bad) (r:Bool) (hr:(decide (bad=0)&&isF s.data.toList l)=r) :
 Calls prog 88 #[.pointer (some ⟨P,0,none⟩),.string s] w fun e w'=>e=.returned (.bool r)∧Drawn w w':=by
 obtain ⟨A,c,i,h1,h2,h3⟩:=h
 have hc0:=β h1 0
 have hc1:=β h1 1
 have hc3:=β h1 3
 by_cases hb:bad=0
 ·have eb:(bad==0)=true:=by rw [hb];rfl
  cases l with
  | nil =>
    have hI:decide ((i:Int)<((i+([]:List Tok).length:Nat):Int))=false:=by simp
    have hr0:r=false:=by rw [←hr,hb];rfl
    subst hr0
    clear h1 h2 hb hr
    go_enter func88,ntmps88
    go_wp2_with fail
    go_quiet (fail)
    go_wp2
    go_ret
    exact ⟨rfl,_,rfl⟩
  | cons t q =>
    obtain ⟨b,off,rfl,hlt,k0,k1, -⟩:=h2.front
    obtain ⟨n,hn⟩:∃ n,i+(t::q).length=n:=⟨_,rfl⟩
    rw [hn] at hc0
    have hin:(i:Int)<(n:Int):=by simp at hn;omega
    have hinN:i<n:=by simp at hn;omega
    have hin0:(0:Int)≤(i:Int):=by omega
    have hr':isF s.data.toList (t::q)=r:=by rw [←hr,hb];rfl
    clear h1 h2 h3 hn hb hr
    by_cases hs:t.s=s.data.toList
    ·have e1:(t.s==s.toList)=true:=by rw [ByteArray.toList_eq,hs];simp
     by_cases hk1:t.k=1
     ·have e2:(t.k==1)=true:=by rw [hk1];rfl
      have hr0:r=true:=by rw [←hr'];simp [isF,hs,hk1]
      subst hr0
      clear hs hk1 hr'
      go_enter func88,ntmps88
      go_wp2_with fail
      go_quiet (fail)
      go_wp2
      go_ret
      exact ⟨rfl,_,rfl⟩
     ·have e2:(t.k==1)=false:=η hk1
      obtain ⟨b4,hb4⟩:∃ b4,(t.k==4)=b4:=⟨_,rfl⟩
      have hr0:r=b4:=by rw [←hr', ←hb4];simp [isF,hs,hk1]
      subst hr0
      clear hs hk1 hr'
      go_enter func88,ntmps88
      go_wp2_with fail
      go_quiet (fail)
      go_wp2
      go_ret
      exact ⟨rfl,_,rfl⟩
    ·have e1:(t.s==s.toList)=false:=by rw [ByteArray.toList_eq];simpa using hs
     have hr0:r=false:=by rw [←hr'];simp [isF,hs]
     subst hr0
     clear hs hr'
     go_enter func88,ntmps88
     go_wp2_with fail
     go_quiet (fail)
     go_wp2
     go_ret
     exact ⟨rfl,_,rfl⟩
 ·have eb:(bad==0)=false:=η hb
  have hr0:r=false:=by rw [←hr];simp [hb]
  subst hr0
  clear h1 h2 hb hr
  go_enter func88,ntmps88
  go_wp2_with fail
  go_quiet (fail)
  go_wp2
  go_ret
  exact ⟨rfl,_,rfl⟩
def qB (bad code:Int):Int:=if bad=0 then code else bad
theorem Drawn.but {P:Nat} {w w':World} (h:Drawn w w'):But P w w':=by
 obtain ⟨n,rfl⟩:=h
 exact ⟨rfl,rfl,rfl,ν _,fun _ _ _=>rfl⟩
theorem RS.drawn {w w':World} {P d:Nat} {bad:Int} {l:List Tok} (h:RS w P l d bad) (hd:Drawn w w'):RS w' P l d bad:=by
 obtain ⟨n,rfl⟩:=hd
 exact h
theorem eL (P d:Nat) (bad code:Int) (l:List Tok) (w:World) (h:RS w P l d bad) :
 Calls prog 35 #[.pointer (some ⟨P,0,none⟩),.int .i64 code] w fun e w'=>e=.returned (.tuple #[])∧But P w w'∧RS w' P l d (qB bad code):=by
 have H:=κ h
 obtain ⟨A,c,i,h1,h2,h3⟩:=h
 have hc3:=β h1 3
 have hfz:=fun j=>frozen_of_row w P j _ _ h1
 have H1:=κ h1
 have H2:=κ h2
 clear h1 h2
 by_cases hb:bad=0
 ·have HQ:=κ (show qB bad code=code from if_pos hb)
  have eb:(bad==0)=true:=by rw [hb];rfl
  clear hb
  go_enter func35,ntmps35
  go_wp2
  go_end0
  refine ⟨rfl,But.set _ _ _ _, ?_⟩
  rw [HQ.out]
  have:=heap_setCell_same w P 3 _ _ (.int .i64 code) H1.out
  exact ⟨A,c,i,by simpa using this,H2.out.but (But.set _ _ _ _),h3⟩
 ·have HQ:=κ (show qB bad code=bad from if_neg hb)
  have eb:(bad==0)=false:=η hb
  clear hb
  go_enter func35,ntmps35
  go_wp2
  go_end0
  refine ⟨rfl,But.refl _ _, ?_⟩
  rw [HQ.out]
  exact H.out
def Sl (P:Nat) (w:World) (l:List Tok) (d:Nat) (bad:Int) (r:Bool) (e:Ending) (w':World):Prop :=
 e=.returned (.bool r)∧But P w w'∧RS w' P (if r then l.tail else l) d bad
theorem aJ (P d:Nat) (bad:Int) (l:List Tok) (s:ByteArray) (w:World) (h:RS w P l d bad) (r:Bool) (hr:(decide (bad=0)&&isF s.data.toList l)=r) :
 Calls prog 34 #[.pointer (some ⟨P,0,none⟩),.string s] w (Sl P w l d bad r):=by
 have HI:=κ (bI P d bad l s w h r hr)
 have H:=κ h
 cases r
 ·clear h hr
  go_enter func34,ntmps34
  go_wp2_with fail
  refine μ HI ?_
  rintro e w1 ⟨rfl,hd⟩
  go_wp2
  go_ret
  exact ⟨rfl,hd.but,H.out.drawn hd⟩
 ·have hf:isF s.data.toList l=true:=by rw [Bool.and_eq_true] at hr;exact hr.2
  obtain ⟨t,q,rfl⟩:=nE hf
  clear h hr hf
  go_enter func34,ntmps34
  go_wp2_with fail
  refine μ HI ?_
  rintro e w1 ⟨rfl,hd⟩
  have hB:=hd.but (P:=P)
  obtain ⟨A,c,i,h1,h2,h3⟩:=H.out.drawn hd
  have hc1:=β h1 1
  have hfz:=fun j=>frozen_of_row w1 P j _ _ h1
  have H1:=κ h1
  have H2:=κ h2.tail
  have hi:(i:Int)≤2000:=by omega
  clear h1 h2 hd
  go_wp2
  go_ret
  have:=heap_setCell_same w1 P 1 _ _ (.int .i64 ((i:Int)+1)) H1.out
  refine ⟨rfl,hB.trans (But.set _ _ _ _),A,c,i+1, ?_,H2.out.but (But.set _ _ _ _),by simp at h3 ⊢;omega⟩
  rw [show i+1+((if true=true then (t::q).tail else t::q):List Tok).length=i+(t::q).length by simp;omega]
  simpa using this
theorem gY {bad code:Int} (hc:code≠0):qB bad code≠0:=by
 unfold qB;split
 ·exact hc
 ·assumption
theorem dB (P d:Nat) (l:List Tok) (s:ByteArray) (w:World) (h:RS w P l d 0) (hf:isF s.data.toList l=true) :
 Calls prog 81 #[.pointer (some ⟨P,0,none⟩),.string s] w fun e w'=>e=.returned (.tuple #[])∧But P w w'∧RS w' P l.tail d 0:=by
 have HI:=κ (aJ P d 0 l s w h true (by rw [hf];rfl))
 clear h hf
 go_enter func81,ntmps81
 go_wp2_with fail
 refine μ HI ?_
 rintro e w1 ⟨rfl,hb1,hp1⟩
 simp only [if_true] at hp1
 go_wp2
 go_end0
 exact ⟨rfl,hb1,hp1⟩
theorem dK (P d:Nat) (bad:Int) (l:List Tok) (s:ByteArray) (w:World) (h:RS w P l d bad) (hf:(decide (bad=0)&&isF s.data.toList l)=false) :
 Calls prog 81 #[.pointer (some ⟨P,0,none⟩),.string s] w fun e w'=>e=.returned (.tuple #[])∧But P w w'∧∃ b',b'≠0∧RS w' P l d b':=by
 have HI:=κ (aJ P d bad l s w h false hf)
 clear h hf
 go_enter func81,ntmps81
 go_wp2_with fail
 refine μ HI ?_
 rintro e w1 ⟨rfl,hb1,hp1⟩
 simp only [φ,if_false] at hp1
 have HC:=κ (eL P d bad 4 l w1 hp1)
 clear hp1
 go_wp2_with fail
 refine μ HC ?_
 rintro e w2 ⟨rfl,hb2,hp2⟩
 have HE:=κ hp2
 clear hp2
 go_wp2
 go_end0
 exact ⟨rfl,hb1.trans hb2,_,gY (by decide),HE.out⟩
theorem iP (P d:Nat) (l:List Tok) (w:World) (h:RS w P l d 0) (hd:d+1≤40) :
 Calls prog 158 #[.pointer (some ⟨P,0,none⟩)] w fun e w'=>e=.returned (.bool true)∧But P w w'∧RS w' P l (d+1) 0:=by
 obtain ⟨A,c,i,h1,h2,h3⟩:=h
 have hc2:=β h1 2
 have hfz:=fun j=>frozen_of_row w P j _ _ h1
 have h1':=heap_setCell_same w P 2 _ _ (.int .i64 ((d:Int)+1)) h1
 have hd2:=β h1' 2
 have hd3:=β h1' 3
 have H1:=κ (show (w.setCell ⟨P,2,none⟩ (.int .i64 ((d:Int)+1))).heap[P]? = some (.cells #[.slice A (i+l.length) c,.int .i64 (i:Nat),.int .i64 (d+1:Nat),.int .i64 0] 108 (0,0)) by simpa using h1')
 have H2:=κ h2
 have hdI:(d:Int)≤100:=by omega
 have h40:¬((40:Int)<(d:Int)+1):=by omega
 clear h1 h1' h2
 go_enter func158,ntmps158
 go_wp2
 go_ret
 exact ⟨rfl,But.set _ _ _ _,A,c,i,H1.out,H2.out.but (But.set _ _ _ _),h3⟩
theorem jY (P d:Nat) (l:List Tok) (w:World) (h:RS w P l d 0) (hd:40<d+1) (hd2:d≤100000) :
 Calls prog 158 #[.pointer (some ⟨P,0,none⟩)] w fun e w'=>e=.returned (.bool false)∧But P w w'∧∃ b',b'≠0∧RS w' P l (d+1) b':=by
 obtain ⟨A,c,i,h1,h2,h3⟩:=h
 have hc2:=β h1 2
 have hfz:=fun j=>frozen_of_row w P j _ _ h1
 have h1':=heap_setCell_same w P 2 _ _ (.int .i64 ((d:Int)+1)) h1
 have hd2':=β h1' 2
 have hp:=(show RS (w.setCell ⟨P,2,none⟩ (.int .i64 ((d:Int)+1))) P l (d+1) 0 from ⟨A,c,i,by simpa using h1',h2.but (But.set _ _ _ _),h3⟩)
 have HC:=κ (eL P (d+1) 0 5 l _ hp)
 have hdI:(d:Int)≤100000:=by omega
 have h40:(40:Int)<(d:Int)+1:=by omega
 clear h1 h1' h2 hp
 go_enter func158,ntmps158
 go_wp2_with fail
 refine μ HC ?_
 rintro e w2 ⟨rfl,hb2,hp2⟩
 have HE:=κ hp2
 obtain ⟨A2,c2,i2,k1, -, -⟩:=hp2
 have hc3:=β k1 3
 have hbad:(qB 0 5==0)=false:=by decide
 clear k1
 go_wp2
 go_ret
 exact ⟨rfl,(But.set _ _ _ _).trans hb2,5,by decide,HE.out⟩
structure RC where
 k:Int
 vk:Int
 vi:Int
 vs:ByteArray
 vb:Bool
 t:ByteArray
 s:ByteArray
 A:Option Addr
 n:Nat
 c:Nat
def RC.cells (r:RC):List Value:=[.int .u8 r.k,.int .u8 r.vk,.int .i64 r.vi,.string r.vs,.bool r.vb,.string r.t,.string r.s,.slice r.A r.n r.c]
def RC.val (r:RC):Value:=.agg #[.int .u8 r.k,.int .u8 r.vk,.int .i64 r.vi,.string r.vs,.bool r.vb,.string r.t,.string r.s,.slice r.A r.n r.c]
def rcL (k i:Int) (s:List UInt8) (b:Bool):RC:=⟨1,k,i,⟨s.toArray⟩,b,⟨#[]⟩,⟨#[]⟩,none,0,0⟩
def rcC (t s:List UInt8):RC:=⟨2,0,0,⟨#[]⟩,false,⟨t.toArray⟩,⟨s.toArray⟩,none,0,0⟩
def rcP (k:Int) (s:List UInt8) (g n:Nat):RC:=⟨k,0,0,⟨#[]⟩,false,⟨#[]⟩,⟨s.toArray⟩,some ⟨g,0,none⟩,n,n⟩
def rc0 (k:Int) (s:List UInt8):RC:=⟨k,0,0,⟨#[]⟩,false,⟨#[]⟩,⟨s.toArray⟩,none,0,0⟩
def RX (S:Nat→Prop) (w:World):Lp.X→RC→Prop
 | .lit k i s b,r=>r=rcL k i s b
 | .col t s,r=>r=rcC t s
 | .un op x,r=>∃ g r1,r=rcP 3 op g 1∧S g∧w.heap[g]? = some (.cells r1.cells.toArray 60 (0,0))∧RX S w x r1
 | .bin op a b,r=>∃ g r1 r2,r=rcP 4 op g 2∧S g∧w.heap[g]? = some (.cells (r1.cells++r2.cells).toArray 60 (0,0))∧RX S w a r1∧RX S w b r2
 | .isn n x,r=>∃ g r1,r=rcP 5 (if n then fW else []) g 1∧S g∧w.heap[g]? = some (.cells r1.cells.toArray 60 (0,0))∧RX S w x r1
 | .agg op x,r=>∃ g r1,r=rcP 6 op g 1∧S g∧w.heap[g]? = some (.cells r1.cells.toArray 60 (0,0))∧RX S w x r1
 | .cnt,r=>r=rc0 6 aU
theorem RX.turn {S S':Nat→Prop} {w w':World} (hs:∀ g cs,S g→w.heap[g]? = some (.cells cs 60 (0,0))→S' g∧w'.heap[g]? = some (.cells cs 60 (0,0))):∀ {e:Lp.X} {r:RC},RX S w e r→RX S' w' e r
 | .lit ..,_,h=>h
 | .col ..,_,h=>h
 | .un _ x,_,h=>by obtain ⟨g,r1,h1,h0,h2,h3⟩:=h;exact ⟨g,r1,h1,(hs _ _ h0 h2).1,(hs _ _ h0 h2).2,RX.turn hs h3⟩
 | .bin _ a b,_,h=>by obtain ⟨g,r1,r2,h1,h0,h2,h3,h4⟩:=h;exact ⟨g,r1,r2,h1,(hs _ _ h0 h2).1,(hs _ _ h0 h2).2,RX.turn hs h3,RX.turn hs h4⟩
 | .isn _ x,_,h=>by obtain ⟨g,r1,h1,h0,h2,h3⟩:=h;exact ⟨g,r1,h1,(hs _ _ h0 h2).1,(hs _ _ h0 h2).2,RX.turn hs h3⟩
 | .agg _ x,_,h=>by obtain ⟨g,r1,h1,h0,h2,h3⟩:=h;exact ⟨g,r1,h1,(hs _ _ h0 h2).1,(hs _ _ h0 h2).2,RX.turn hs h3⟩
 | .cnt,_,h=>h
def aAV (B g0:Nat):Nat→Prop:=fun g=>B≤g∧g≠g0
theorem RX.mono {S S':Nat→Prop} {w:World} {e:Lp.X} {r:RC} (hS:∀ g,S g→g<w.heap.size→S' g) (h:RX S w e r):RX S' w e r :=
 RX.turn (fun g _ h0 hg=>⟨hS g h0 (aL hg),hg⟩) h
theorem RX.below {S:Nat→Prop} {w w':World} {e:Lp.X} {r:RC} (hb:Below w.heap.size w w') (h:RX S w e r):RX S w' e r :=
 RX.turn (fun _ _ h0 hg=>⟨h0,aA hg hb⟩) h
theorem qN {w:World} {P d g:Nat} {bad:Int} {l:List Tok} {cs:Array Value} {t:TypeId} (hp:RS w P l d bad) (hg:w.heap[g]? = some (.cells cs t (0,0))) (ht:t≠108):g≠P:=by
 rintro rfl
 obtain ⟨A,c,i,h1,_⟩:=hp
 rw [hg] at h1
 injection h1 with h1
 injection h1 with _ h1
 exact ht h1
theorem RX.but {S:Nat→Prop} {w w':World} {P d:Nat} {bad:Int} {l:List Tok} {e:Lp.X} {r:RC} (hb:But P w w') (hp:RS w P l d bad) (h:RX S w e r):RX S w' e r :=
 RX.turn (fun _ _ h0 hg=>⟨h0,aO hb hg (qN hp hg (by decide))⟩) h
theorem RX.set {B g0 o:Nat} {w:World} {e:Lp.X} {r:RC} {v:Value} (h:RX (aAV B g0) w e r):RX (aAV B g0) (w.setCell ⟨g0,o,none⟩ v) e r :=
 RX.turn (fun g _ h0 hg=>⟨h0,(Below.heap_setCell w ⟨g0,o,none⟩ v g h0.2).trans hg⟩) h
def RPost (P:Nat) (w:World) (d:Nat) (q:Option (Lp.X×List Tok)) (e:Ending) (w':World):Prop :=
 But P w w'∧∃ r:RC,e=.returned r.val∧match q with
 | none=>∃ l' d' b',b'≠0∧RS w' P l' d' b'∧d≤d'∧d'≤100000
 | some (x,l')=>RX (fun g=>w.heap.size≤g) w' x r∧RS w' P l' d 0
def RBad (P:Nat) (w:World) (d:Nat):Prop:=∃ l' d' b',b'≠0∧RS w P l' d' b'∧d≤d'∧d'≤100000
theorem RPost.no {P d:Nat} {w w':World} {q:Option (Lp.X×List Tok)} (r:RC) (hq:q=none) (hb:But P w w') (h:RBad P w' d):RPost P w d q (.returned r.val) w':=by
 subst hq;exact ⟨hb,r,rfl,h⟩
theorem RPost.yes {P d:Nat} {w w':World} {q:Option (Lp.X×List Tok)} (r:RC) {x:Lp.X} {l':List Tok} (hq:q=some (x,l')) (hb:But P w w') (h:RX (fun g=>w.heap.size≤g) w' x r) (hp:RS w' P l' d 0):RPost P w d q (.returned r.val) w':=by
 subst hq;exact ⟨hb,r,rfl,h,hp⟩
def rcZ:RC:=⟨0,0,0,⟨#[]⟩,false,⟨#[]⟩,⟨#[]⟩,none,0,0⟩
def RvOk (lev P d n:Nat):Prop :=
 ∀ (w':World) (l':List Tok),l'.length≤n→RS w' P l' d 0→Calls prog 85 #[.pointer (some ⟨P,0,none⟩),.int .i64 (lev:Nat)] w' (RPost P w' d (pX lev d l'))
theorem RvOk.le {lev P d n m:Nat} (h:RvOk lev P d n) (hm:m≤n):RvOk lev P d m:=fun w' l' hl=>h w' l' (by omega)
theorem RPost.pre {P d:Nat} {a w w':World} {q:Option (Lp.X×List Tok)} {e:Ending} (hb:But P a w) (h:RPost P w d q e w'):RPost P a d q e w':=by
 obtain ⟨h1,r,h2,h3⟩:=h
 refine ⟨hb.trans h1,r,h2, ?_⟩
 cases q with
 | none=>exact h3
 | some p=>exact ⟨RX.mono (fun g hg _=>Nat.le_trans hb.size hg) h3.1,h3.2⟩
def put8 (w:World) (g:Nat) (r:RC):World :=
 (((((((w.setCell ⟨g,0,none⟩ (.int .u8 r.k)).setCell ⟨g,1,none⟩ (.int .u8 r.vk)).setCell ⟨g,2,none⟩ (.int .i64 r.vi)).setCell ⟨g,3,none⟩ (.string r.vs)).setCell ⟨g,4,none⟩ (.bool r.vb)).setCell ⟨g,5,none⟩ (.string r.t)).setCell ⟨g,6,none⟩ (.string r.s)).setCell ⟨g,7,none⟩ (.slice r.A r.n r.c)
theorem aBA (a0 a1 a2 a3 a4 a5 a6 a7 b0 b1 b2 b3 b4 b5 b6 b7:Value):((((((((#[a0,a1,a2,a3,a4,a5,a6,a7].setIfInBounds 0 b0).setIfInBounds 1 b1).setIfInBounds 2 b2).setIfInBounds 3 b3).setIfInBounds 4 b4).setIfInBounds 5 b5).setIfInBounds 6 b6).setIfInBounds 7 b7)=#[b0,b1,b2,b3,b4,b5,b6,b7]:=by simp
theorem aM {w:World} {g:Nat} {r0:RC} {t:TypeId} (r:RC) (h:w.heap[g]? = some (.cells r0.cells.toArray t (0,0))):(put8 w g r).heap[g]? = some (.cells r.cells.toArray t (0,0)):=by
 obtain ⟨a0,a1,a2,a3,a4,a5,a6,a7,a8,a9⟩:=r0
 change w.heap[g]? = some (.cells #[.int .u8 a0,.int .u8 a1,.int .i64 a2,.string a3,.bool a4,.string a5,.string a6,.slice a7 a8 a9] t (0,0)) at h
 have h1:=heap_setCell_same w g 0 _ _ (.int .u8 r.k) h
 have h2:=heap_setCell_same _ g 1 _ _ (.int .u8 r.vk) h1
 have h3:=heap_setCell_same _ g 2 _ _ (.int .i64 r.vi) h2
 have h4:=heap_setCell_same _ g 3 _ _ (.string r.vs) h3
 have h5:=heap_setCell_same _ g 4 _ _ (.bool r.vb) h4
 have h6:=heap_setCell_same _ g 5 _ _ (.string r.t) h5
 have h7:=heap_setCell_same _ g 6 _ _ (.string r.s) h6
 have h8:=heap_setCell_same _ g 7 _ _ (.slice r.A r.n r.c) h7
 rw [aBA] at h8
 unfold put8
 rw [h8]
 rfl
theorem jC {w:World} {g k:Nat} {r:RC} (h:k≠g):(put8 w g r).heap[k]? = w.heap[k]? := by
 unfold put8
 simp only [fun (w:World) (o:Nat) (v:Value)=>Below.heap_setCell w ⟨g,o,none⟩ v k h]
theorem bK {P:Nat} {a w:World} {g:Nat} (h:But P a w) (hg:a.heap.size≤g) (o:Nat) (v:Value):But P a (w.setCell ⟨g,o,none⟩ v) :=
 ⟨h.os,h.tape,h.output,by rw [World.size_setCell];exact h.size,fun k hk hn=>(Below.heap_setCell w ⟨g,o,none⟩ v k (by show k≠g;omega)).trans (h.block k hk hn)⟩
theorem fY {P:Nat} {a w:World} {g:Nat} {r:RC} (h:But P a w) (hg:a.heap.size≤g):But P a (put8 w g r):=by
 unfold put8
 exact bK (bK (bK (bK (bK (bK (bK (bK h hg _ _) hg _ _) hg _ _) hg _ _) hg _ _) hg _ _) hg _ _) hg _ _
theorem jP {S:Nat→Prop} {g:Nat} {w:World} {r r1:RC} {x:Lp.X} (hS:∀ k,S k→k≠g) (h:RX S w x r1):RX S (put8 w g r) x r1 :=
 RX.turn (fun k _ h0 hg=>⟨h0,(jC (hS k h0)).trans hg⟩) h
theorem kU {w:World} {P d g:Nat} {bad:Int} {l:List Tok} {r:RC} (h:RS w P l d bad) (hP:P<g):RS (put8 w g r) P l d bad:=by
 obtain ⟨A,c,i,h1,h2,h3⟩:=h
 refine ⟨A,c,i,(jC (by omega)).trans h1, ?_,h3⟩
 rcases h2 with rfl|⟨b,off,hA,hlt,hc⟩
 ·exact .inl rfl
 ·exact .inr ⟨b,off,hA,hlt,fun j u hu=>(World.cell?_of_block (w:=w) (jC (by show b≠g;omega))).trans (hc j u hu)⟩
def Ax:List (List UInt8):=[[99,114,101,97,116,101],[116,97,98,108,101],[105,110,116],[116,101,120,116],[98,111,111,108],[100,114,111,112],[105,110,100,101,120],[111,110],[105,110,115,101,114,116],[105,110,116,111],[118,97,108,117,101,115],[117,112,100,97,116,101],[115,101,116],[119,104,101,114,101],[100,101,108,101,116,101],[102,114,111,109],[115,101,108,101,99,116],[106,111,105,110],[103,114,111,117,112],[98,121],[111,114,100,101,114],[97,115,99],[100,101,115,99],[108,105,109,105,116],[98,101,103,105,110],[99,111,109,109,105,116],[114,111,108,108,98,97,99,107],[111,114],[97,110,100],[110,111,116],[105,115],[110,117,108,108],[116,114,117,101],[102,97,108,115,101],[99,111,117,110,116],[115,117,109],[109,105,110],[109,97,120],[97,115]]
theorem Nx (s:List UInt8):Ax.contains s=vR s:=by
 have h1:∀ x∈Ax,x∈Io:=by decide
 have h2:∀ x∈Io,x∈Ax:=by decide
 unfold vR
 rw [Bool.eq_iff_iff,List.contains_iff_mem,List.contains_iff_mem]
 exact ⟨h1 s,h2 s⟩
theorem jT (w:World) (ws:List (List UInt8)) (t:TypeId):WdsAt (w.alloc (.cells (wv ws).toArray t)) w.heap.size ws:=by
 intro j u hu
 rw [β (heap_alloc_new w (.cells (wv ws).toArray t))]
 simpa using hu
theorem Nf (s:ByteArray) (w:World) :
 Calls prog 132 #[.string s] w fun e w'=>e=.returned (.bool (vR s.data.toList))∧Below w.heap.size w w':=by
 have hb:=(Below.refl w.heap.size w).alloc (ν _) (.cells (wv Ax).toArray 9)
 have H:=κ (jT w Ax 9)
 have hS:=κ (Nx s.data.toList)
 have hw:(wv Ax).toArray=#[.string ⟨#[99,114,101,97,116,101]⟩,.string ⟨#[116,97,98,108,101]⟩,.string ⟨#[105,110,116]⟩,.string ⟨#[116,101,120,116]⟩,.string ⟨#[98,111,111,108]⟩,.string ⟨#[100,114,111,112]⟩,.string ⟨#[105,110,100,101,120]⟩,.string ⟨#[111,110]⟩,.string ⟨#[105,110,115,101,114,116]⟩,.string ⟨#[105,110,116,111]⟩,.string ⟨#[118,97,108,117,101,115]⟩,.string ⟨#[117,112,100,97,116,101]⟩,.string ⟨#[115,101,116]⟩,.string ⟨#[119,104,101,114,101]⟩,.string ⟨#[100,101,108,101,116,101]⟩,.string ⟨#[102,114,111,109]⟩,.string ⟨#[115,101,108,101,99,116]⟩,.string ⟨#[106,111,105,110]⟩,.string ⟨#[103,114,111,117,112]⟩,.string ⟨#[98,121]⟩,.string ⟨#[111,114,100,101,114]⟩,.string ⟨#[97,115,99]⟩,.string ⟨#[100,101,115,99]⟩,.string ⟨#[108,105,109,105,116]⟩,.string ⟨#[98,101,103,105,110]⟩,.string ⟨#[99,111,109,109,105,116]⟩,.string ⟨#[114,111,108,108,98,97,99,107]⟩,.string ⟨#[111,114]⟩,.string ⟨#[97,110,100]⟩,.string ⟨#[110,111,116]⟩,.string ⟨#[105,115]⟩,.string ⟨#[110,117,108,108]⟩,.string ⟨#[116,114,117,101]⟩,.string ⟨#[102,97,108,115,101]⟩,.string ⟨#[99,111,117,110,116]⟩,.string ⟨#[115,117,109]⟩,.string ⟨#[109,105,110]⟩,.string ⟨#[109,97,120]⟩,.string ⟨#[97,115]⟩]:=rfl
 rw [hw] at hb H
 clear hw
 have hlen:Ax.length=39:=rfl
 obtain ⟨ws,hws⟩:∃ ws,Ax=ws:=⟨_,rfl⟩
 rw [hws] at H hS hlen
 clear hws
 go_enter func132,ntmps132
 go_wp2_with fail
 generalize w.alloc _=W at *
 go_loop [4,7] (fun _ s7=>∃ k:Nat,k≤39∧s7=.int .i64 k∧(ws.take k).contains s.data.toList=false) (fun _ s7=>39-(intOf s7).toNat)
 case atStart=>exact ⟨0,Nat.zero_le _,rfl,rfl⟩
 case round =>
  obtain ⟨k,hk,rfl,hq⟩:=hrel
  by_cases hlt:k<39
  ·have hltW:k<ws.length:=by omega
   have hc:=H.out k _ (oW hltW)
   have hq1:(ws.take (k+1)).contains s.data.toList=(s.data.toList==ws[k]):=by
    rw [List.take_succ_eq_append_getElem hltW,List.contains_eq_any_beq,List.any_append, ←List.contains_eq_any_beq,hq]
    simp
   have HE:s.data.toList=ws[k]→ws.contains s.data.toList=true:=by
    intro e
    rw [e]
    simp
   generalize ws[k]=t at *
   by_cases he:s.data.toList=t
   ·have HE':=κ (HE he)
    have e1:(t==s.toList)=true:=by rw [ByteArray.toList_eq,he];simp
    clear hq hq1 HE he
    go_wp2
    go_ret
    exact ⟨Aw (by rw [←hS.out,HE'.out]),hb⟩
   ·have HQ:=κ (show (ws.take (k+1)).contains s.data.toList=false by rw [hq1];simpa using he)
    have e1:(t==s.toList)=false:=by rw [ByteArray.toList_eq];simpa using Ne.symm he
    clear hq hq1 HE he
    go_wp2
    go_round
    case rel=>exact ⟨k+1,by omega,by go_num,HQ.out⟩
    case measure=>simp [intOf];omega
  ·have hk2:k=ws.length:=by omega
   have HQ:=κ (show ws.contains s.data.toList=false by rwa [hk2,List.take_length] at hq)
   clear hq hk2
   go_wp2
   go_ret
   exact ⟨Aw (by rw [←hS.out,HQ.out]),hb⟩
theorem kE (s:List UInt8) (w:World) (u:List UInt8) (hu:(if s=wOr then uOr else if s=Hn then jN else s)=u) :
 Calls prog 136 #[.string ⟨s.toArray⟩] w fun e w'=>e=.returned (.string ⟨u.toArray⟩)∧w=w':=by
 subst hu
 by_cases h1:s=wOr
 ·subst h1
  go_enter func136,ntmps136
  go_wp2
  go_ret
  exact ⟨rfl,rfl⟩
 ·by_cases h2:s=Hn
  ·subst h2
   go_enter func136,ntmps136
   go_wp2
   go_ret
   exact ⟨rfl,rfl⟩
  ·rw [if_neg h1,if_neg h2]
   have e1:(s==[111,114])=false:=η h1
   have e2:(s==[97,110,100])=false:=η h2
   clear h1 h2
   go_enter func136,ntmps136
   go_wp2
   go_ret
   exact ⟨rfl,rfl⟩
theorem mW:∀ lev:Nat,∀ s∈bJ lev,(if s=wOr then uOr else if s=Hn then jN else s)=upW s:=by
 intro lev
 unfold bJ
 split<;>decide
theorem Drawn.below {w w':World} (h:Drawn w w'):Below w.heap.size w w':=by
 obtain ⟨n,rfl⟩:=h
 exact ⟨rfl,rfl,rfl,ν _,fun _ _=>rfl⟩
theorem bZ {w w':World} {a:Addr} {u:Value} (h:w.cell? a=some u) (hb:Below w.heap.size w w'):w'.cell? a=some u:=(hb.cell (p:=a) (World.block_lt_of_cell? w a h)).trans h
theorem RS.drew {w:World} {P d:Nat} {bad:Int} {l:List Tok} (h:RS w P l d bad):RS w.drew P l d bad:=h
def RNPost (P:Nat) (w:World) (d:Nat) (q:Option (List UInt8×List Tok)) (e:Ending) (w':World):Prop :=
 But P w w'∧match q with
 | none=>e=.returned (.string ⟨#[]⟩)∧RBad P w' d
 | some (n,r)=>e=.returned (.string ⟨n.toArray⟩)∧RS w' P r d 0
theorem RNPost.no {P d:Nat} {w w':World} {q:Option (List UInt8×List Tok)} (hq:q=none) (hb:But P w w') (h:RBad P w' d):RNPost P w d q (.returned (.string ⟨#[]⟩)) w':=by
 subst hq;exact ⟨hb,rfl,h⟩
theorem dO {P d:Nat} {w:World} {l:List Tok} {bad:Int} (h:RS w P l d bad) (hb:bad≠0) (hd:d≤100000):RBad P w d:=⟨l,d,bad,hb,h,ν _,hd⟩
theorem Ij (P d:Nat) (w:World) (h:RS w P [] d 0) (hd:d≤100000) :
 Calls prog 80 #[.pointer (some ⟨P,0,none⟩)] w (RNPost P w d none):=by
 have H:=κ (fun (w':World) (h':RS w' P [] d 0)=>eL P d 0 4 [] w' h')
 have HRS:=κ h
 obtain ⟨A,c,i,h1,h2,h3⟩:=h
 have hc0:=β h1 0
 have hc1:=β h1 1
 have hc3:=β h1 3
 have hI:((i+([]:List Tok).length:Nat):Int)≤(i:Int):=by simp
 obtain ⟨n,hn⟩:∃ n,i+([]:List Tok).length=n:=⟨_,rfl⟩
 rw [hn] at hc0 hI
 have hlt:decide ((n:Int)≤(i:Int))=true:=by simpa using hI
 clear h1 h2 h3 hn
 go_enter func80,ntmps80
 go_wp2_with fail
 go_quiet (fail)
 go_wp2_with fail
 refine (H.out (w.drewN nq) (HRS.out.drawn ⟨nq,rfl⟩)).mono ?_
 rintro e w1 ⟨rfl,hb1,hp1⟩
 have HE:=κ (ι hb1 hp1)
 clear hb1 hp1
 go_wp2
 go_ret
 exact RNPost.no rfl ((Drawn.but ⟨nq,rfl⟩).trans HE.out.1) (dO HE.out.2 (gY (by decide)) hd)
theorem Eg (P d:Nat) (t:Tok) (r:List Tok) (w:World) (h:RS w P (t::r) d 0) (hd:d≤100000) (hk:t.k≠1) :
 Calls prog 80 #[.pointer (some ⟨P,0,none⟩)] w (RNPost P w d none):=by
 have H:=κ (fun (w':World) (h':RS w' P (t::r) d 0)=>eL P d 0 4 (t::r) w' h')
 have HRS:=κ h
 obtain ⟨A,c,i,h1,h2,h3⟩:=h
 have hc0:=β h1 0
 have hc1:=β h1 1
 have hc3:=β h1 3
 obtain ⟨b,off,rfl,hlt,k0,k1, -⟩:=h2.front
 obtain ⟨n,hn⟩:∃ n,i+(t::r).length=n:=⟨_,rfl⟩
 rw [hn] at hc0
 have hin:(i:Int)<(n:Int):=by simp at hn;omega
 have hinN:i<n:=by simp at hn;omega
 have hin0:(0:Int)≤(i:Int):=by omega
 have hlt2:¬(n:Int)≤(i:Int):=by omega
 have hlt3:decide ((n:Int)≤(i:Int))=false:=by simp;omega
 have hltN:¬n≤i:=by omega
 have e2:(t.k==1)=false:=η hk
 have e3:(t.k !=1)=true:=by rw [bne,e2];rfl
 clear h1 h2 h3 hn hk
 go_enter func80,ntmps80
 go_wp2_with fail
 go_quiet (fail)
 go_wp2_with fail
 refine (H.out (w.drewN nq) (HRS.out.drawn ⟨nq,rfl⟩)).mono ?_
 rintro e w1 ⟨rfl,hb1,hp1⟩
 have HE:=κ (ι hb1 hp1)
 clear hb1 hp1
 go_wp2
 go_ret
 exact RNPost.no rfl ((Drawn.but ⟨nq,rfl⟩).trans HE.out.1) (dO HE.out.2 (gY (by decide)) hd)
theorem Ef (P d:Nat) (t:Tok) (r:List Tok) (w:World) (h:RS w P (t::r) d 0) (hd:d≤100000) (hk:t.k=1) :
 Calls prog 80 #[.pointer (some ⟨P,0,none⟩)] w (RNPost P w d (aZ (t::r))):=by
 have H:=κ (fun (w':World) (h':RS w' P (t::r) d 0) (c:Int)=>eL P d 0 c (t::r) w' h')
 have HR:=κ ((Nf ⟨t.s.toArray⟩ w.drew).mono fun e w' h=>ι h.1 (show Below w.heap.size w w' from ((Below.refl w.heap.size w).drew).trans h.2))
 have hres:(⟨t.s.toArray⟩:ByteArray).data.toList=t.s:=rfl
 rw [hres] at HR
 clear hres
 have hQ1:vR t.s=true→aZ (t::r)=none:=fun h=>by simp [aZ,h]
 have hQ2:¬t.s.length≤20→aZ (t::r)=none:=fun h=>by simp [aZ,h]
 have hQ3:vR t.s=false→t.s.length≤20→aZ (t::r)=some (t.s,r):=fun h h'=>by simp [aZ,h,h',hk]
 have HQ:=κ (ι hQ1 (ι hQ2 hQ3))
 clear hQ1 hQ2 hQ3
 have HRS:=κ h
 obtain ⟨A,c,i,h1,h2,h3⟩:=h
 have hc0:=β h1 0
 have hc1:=β h1 1
 have hc3:=β h1 3
 have hfz:=fun j=>frozen_of_row w P j _ _ h1
 obtain ⟨b,off,rfl,hlt,k0,k1, -⟩:=h2.front
 obtain ⟨n,hn⟩:∃ n,i+(t::r).length=n:=⟨_,rfl⟩
 rw [hn] at hc0
 have hin:(i:Int)<(n:Int):=by simp at hn;omega
 have hinN:i<n:=by simp at hn;omega
 have hin0:(0:Int)≤(i:Int):=by omega
 have hlt1:decide ((n:Int)≤(i:Int))=false:=by simp;omega
 have hlt2:¬(n:Int)≤(i:Int):=by omega
 have hltN:¬n≤i:=by omega
 have e2:(t.k==1)=true:=by rw [hk];rfl
 have e3:(t.k !=1)=false:=by rw [bne,e2];rfl
 have HK:=κ hk
 clear h1 h2 h3 hn hk
 go_enter func80,ntmps80
 go_wp2_with fail
 go_region_held3 (fun w'=>w'.cell? ⟨P,0,none⟩=some (.slice (some ⟨b,off,none⟩) n c)∧w'.cell? ⟨P,1,none⟩=some (.int .i64 i)∧w'.cell? ⟨P,3,none⟩=some (.int .i64 0)∧w'.cell? ⟨b,off+i*3,none⟩=some (.int .u8 t.k)∧w'.cell? ⟨b,off+i*3+1,none⟩=some (.string ⟨t.s.toArray⟩))
  (first|go_keep|exact hd2)
  ((refine μ HR ?_;rintro e w2 ⟨rfl,hb2⟩;have hd2:w2.cell? ⟨P,0,none⟩=some (.slice (some ⟨b,off,none⟩) n c)∧w2.cell? ⟨P,1,none⟩=some (.int .i64 i)∧w2.cell? ⟨P,3,none⟩=some (.int .i64 0)∧w2.cell? ⟨b,off+i*3,none⟩=some (.int .u8 t.k)∧w2.cell? ⟨b,off+i*3+1,none⟩=some (.string ⟨t.s.toArray⟩):=⟨(bZ hc0 hb2),(bZ hc1 hb2),(bZ hc3 hb2),(bZ k0 hb2),(bZ k1 hb2)⟩))
 clear hd2 k0 hc3
 cases hre:vR t.s
 ·by_cases h20:t.s.length≤20
  ·have HN:=κ (HQ.out.2.2 hre h20)
   have h20':¬((20:Int)<((t.s.length:Nat):Int)):=by omega
   have d0:=bZ hc0 hb2
   have d1:=bZ hc1 hb2
   have d2:=bZ k1 hb2
   have HP2:=κ (HRS.out.below hb2)
   have HB2:=κ hb2
   have hiI:(i:Int)≤2000:=by
    obtain ⟨A',c',i',q1, -,q3⟩:=HRS.out
    have:=β q1 1
    rw [hc1] at this
    simp at this
    simp at q3
    omega
   have hfz2:=fun j=>(by obtain ⟨A',c',i',q1, -,q3⟩:=HP2.out;exact frozen_of_row w2 P j _ _ q1:w2.frozen? ⟨P,j,none⟩=false)
   clear hre h20 hc0 hc1 k1 hb2 hfz H HQ
   go_wp2_with fail
   go_quiet (fail)
   go_wp2
   go_ret
   have HP3:=HP2.out.drawn ⟨nq,rfl⟩
   obtain ⟨A',c',i',q1,q2,q3⟩:=HP3
   have hi':i'=i:=by
    have:=β q1 1
    have d1':(w2.drewN nq).cell? ⟨P,1,none⟩=some (.int .i64 i):=d1
    rw [d1'] at this
    simp at this
    omega
   subst hi'
   have q4:=heap_setCell_same _ P 1 _ _ (.int .i64 ((i':Int)+1)) q1
   refine ⟨((But.of HB2.out).trans (Drawn.but ⟨nq,rfl⟩)).trans (But.set _ _ _ _), ?_⟩
   rw [HN.out]
   refine ⟨rfl,A',c',i'+1, ?_,q2.tail.but (But.set _ _ _ _),by simp at q3;omega⟩
   rw [show i'+1+r.length=i'+(t::r).length by simp;omega]
   simpa using q4
  ·have HN:=κ (HQ.out.2.1 h20)
   have h20':((20:Int)<((t.s.length:Nat):Int)):=by omega
   have d0:=bZ hc0 hb2
   have d1:=bZ hc1 hb2
   have d2:=bZ k1 hb2
   have HP2:=κ (HRS.out.below hb2)
   have HB2:=κ hb2
   clear hre h20 hc0 hc1 k1 hb2 HQ hfz
   go_wp2_with fail
   go_quiet (fail)
   go_wp2_with fail
   refine (H.out (w2.drewN nq) (HP2.out.drawn ⟨nq,rfl⟩) 2).mono ?_
   rintro e w3 ⟨rfl,hb3,hp3⟩
   have HE:=κ (ι hb3 hp3)
   clear hb3 hp3
   go_wp2
   go_ret
   exact RNPost.no HN.out (((But.of HB2.out).trans (Drawn.but ⟨nq,rfl⟩)).trans HE.out.1) (dO HE.out.2 (gY (by decide)) hd)
 ·have HN:=κ (HQ.out.1 hre)
  have HP2:=κ (HRS.out.below hb2)
  have HB2:=κ hb2
  clear hre hc0 hc1 k1 hb2 HQ
  go_wp2_with fail
  refine (H.out w2 HP2.out 4).mono ?_
  rintro e w3 ⟨rfl,hb3,hp3⟩
  have HE:=κ (ι hb3 hp3)
  clear hb3 hp3
  go_wp2
  go_ret
  exact RNPost.no HN.out ((But.of HB2.out).trans HE.out.1) (dO HE.out.2 (gY (by decide)) hd)
theorem nT (P d:Nat) (l:List Tok) (w:World) (h:RS w P l d 0) (hd:d≤100000) :
 Calls prog 80 #[.pointer (some ⟨P,0,none⟩)] w (RNPost P w d (aZ l)):=by
 cases l with
 | nil=>exact Ij P d w h hd
 | cons t r =>
   by_cases hk:t.k=1
   ·exact Ef P d t r w h hd hk
   ·rw [show aZ (t::r)=none by simp [aZ,hk]]
    exact Eg P d t r w h hd hk
def rC (w:World) (q:Option (List UInt8)) (e:Ending) (w':World):Prop :=
 e=.returned (.string ⟨(q.getD []).toArray⟩)∧Below w.heap.size w w'
theorem eF {w w':World} {q:Option (List UInt8)} {s:List UInt8} (hq:q=if s=[] then none else some s) (hb:Below w.heap.size w w'):rC w q (.returned (.string ⟨s.toArray⟩)) w':=by
 subst hq
 by_cases h:s=[]
 ·subst h;exact ⟨rfl,hb⟩
 ·rw [if_neg h];exact ⟨rfl,hb⟩
theorem lB:∀ lev:Nat,∀ s∈bJ lev,s≠[]:=by
 intro lev
 unfold bJ
 split<;>decide
theorem Tq (P d:Nat) (l:List Tok) (w:World) (h:RS w P l d 0) :
 Calls prog 135 #[.pointer (some ⟨P,0,none⟩),.int .i64 1] w (rC w (cA 1 l)):=by
 have hb:=(Below.refl w.heap.size w).alloc (ν _) (.cells (wv (bJ 1)).toArray 9)
 have hW:=ι (jT w (bJ 1) 9) (h.below ((Below.refl w.heap.size w).alloc (ν _) (.cells (wv (bJ 1)).toArray 9)))
 have hF:=(fun (j:Nat) (hk:j<(bJ 1).length) (hf:isF (bJ 1)[j] l=true) (hu:∀ u∈(bJ 1).take j,isF u l=false)=>(show cA 1 l=if (bJ 1)[j]=[] then none else some (bJ 1)[j] by rw [if_neg (lB _ _ (List.getElem_mem hk))];exact kY (List.getElem?_eq_getElem hk) hf hu))
 have hN:=(fun (hu:∀ u∈bJ 1,isF u l=false)=>(show cA 1 l=if ([]:List UInt8)=[] then none else some [] from lZ hu))
 rw [show (wv (bJ 1)).toArray=#[.string ⟨#[111,114]⟩] from rfl] at hb hW
 have hlen:(bJ 1).length=1:=rfl
 obtain ⟨ws,hws⟩:∃ ws,bJ 1=ws:=⟨_,rfl⟩
 obtain ⟨q,hq⟩:∃ q,cA 1 l=q:=⟨_,rfl⟩
 rw [hws] at hF hN hW hlen
 rw [hq] at hF hN ⊢
 have HF:=κ hF
 have HN:=κ hN
 have HW:=κ hW
 have HB:=κ hb
 clear hF hN hW hb hws hq h
 go_enter func135,ntmps135
 go_wp2_with fail
 generalize w.alloc _=W at *
 go_loopw [7,26] (fun _ s26 wr=>∃ j:Nat,j≤1∧s26=.int .i64 j∧Below w.heap.size w wr∧WdsAt wr w.heap.size ws∧RS wr P l d 0∧∀ u∈ws.take j,isF u l=false) (fun _ s26 _=>1-(intOf s26).toNat)
 case atStart=>exact ⟨0,Nat.zero_le _,rfl,HB.out,HW.out.1,HW.out.2,fun _ h=>by simp at h⟩
 case round =>
  obtain ⟨j,hj,rfl,hb,hw,hp,hu⟩:=hrel
  by_cases hlt:j<1
  ·have hltW:j<ws.length:=by omega
   have hc:=hw j _ (oW hltW)
   have HF2:=κ (fun hf=>HF.out j hltW hf hu)
   have HU:=κ (fun hf=>gB (p:=fun u=>isF u l) hltW hu hf)
   have HS:=κ (ι hb (ι hw hp))
   generalize ws[j]=s at *
   cases hf:isF s l
   ·have HI:=κ (bI P d 0 l ⟨s.toArray⟩ wr hp false (by rw [show (⟨s.toArray⟩:ByteArray).data.toList=s from rfl,hf];rfl))
    have HU2:=κ (HU.out hf)
    clear hf hb hw hp hu HF2 HU HF HN
    go_wp2_with fail
    refine μ HI ?_
    rintro e w1 ⟨rfl,hd1⟩
    go_wp2
    go_roundw
    case rel=>exact ⟨j+1,by omega,by go_num,HS.out.1.trans (hd1.below.mono HS.out.1.size),HS.out.2.1.below hd1.below,HS.out.2.2.drawn hd1,HU2.out⟩
    case measure=>simp [intOf];omega
   ·have HI:=κ (bI P d 0 l ⟨s.toArray⟩ wr hp true (by rw [show (⟨s.toArray⟩:ByteArray).data.toList=s from rfl,hf];rfl))
    have HF3:=κ (HF2.out hf)
    clear hf hb hw hp hu HF2 HU HF HN
    go_wp2_with fail
    refine μ HI ?_
    rintro e w1 ⟨rfl,hd1⟩
    go_wp2
    go_ret
    exact eF HF3.out (HS.out.1.trans (hd1.below.mono HS.out.1.size))
  ·have hj2:j=ws.length:=by omega
   have HN2:=κ (HN.out (by rwa [hj2,List.take_length] at hu))
   have HB2:=κ hb
   clear hj2 hu hb hw hp HN HF
   go_wp2
   go_ret
   exact eF HN2.out HB2.out
theorem Tp (P d:Nat) (l:List Tok) (w:World) (h:RS w P l d 0) :
 Calls prog 135 #[.pointer (some ⟨P,0,none⟩),.int .i64 2] w (rC w (cA 2 l)):=by
 have hb:=(Below.refl w.heap.size w).alloc (ν _) (.cells (wv (bJ 2)).toArray 9)
 have hW:=ι (jT w (bJ 2) 9) (h.below ((Below.refl w.heap.size w).alloc (ν _) (.cells (wv (bJ 2)).toArray 9)))
 have hF:=(fun (j:Nat) (hk:j<(bJ 2).length) (hf:isF (bJ 2)[j] l=true) (hu:∀ u∈(bJ 2).take j,isF u l=false)=>(show cA 2 l=if (bJ 2)[j]=[] then none else some (bJ 2)[j] by rw [if_neg (lB _ _ (List.getElem_mem hk))];exact kY (List.getElem?_eq_getElem hk) hf hu))
 have hN:=(fun (hu:∀ u∈bJ 2,isF u l=false)=>(show cA 2 l=if ([]:List UInt8)=[] then none else some [] from lZ hu))
 rw [show (wv (bJ 2)).toArray=#[.string ⟨#[97,110,100]⟩] from rfl] at hb hW
 have hlen:(bJ 2).length=1:=rfl
 obtain ⟨ws,hws⟩:∃ ws,bJ 2=ws:=⟨_,rfl⟩
 obtain ⟨q,hq⟩:∃ q,cA 2 l=q:=⟨_,rfl⟩
 rw [hws] at hF hN hW hlen
 rw [hq] at hF hN ⊢
 have HF:=κ hF
 have HN:=κ hN
 have HW:=κ hW
 have HB:=κ hb
 clear hF hN hW hb hws hq h
 go_enter func135,ntmps135
 go_wp2_with fail
 generalize w.alloc _=W at *
 go_loopw [7,26] (fun _ s26 wr=>∃ j:Nat,j≤1∧s26=.int .i64 j∧Below w.heap.size w wr∧WdsAt wr w.heap.size ws∧RS wr P l d 0∧∀ u∈ws.take j,isF u l=false) (fun _ s26 _=>1-(intOf s26).toNat)
 case atStart=>exact ⟨0,Nat.zero_le _,rfl,HB.out,HW.out.1,HW.out.2,fun _ h=>by simp at h⟩
 case round =>
  obtain ⟨j,hj,rfl,hb,hw,hp,hu⟩:=hrel
  by_cases hlt:j<1
  ·have hltW:j<ws.length:=by omega
   have hc:=hw j _ (oW hltW)
   have HF2:=κ (fun hf=>HF.out j hltW hf hu)
   have HU:=κ (fun hf=>gB (p:=fun u=>isF u l) hltW hu hf)
   have HS:=κ (ι hb (ι hw hp))
   generalize ws[j]=s at *
   cases hf:isF s l
   ·have HI:=κ (bI P d 0 l ⟨s.toArray⟩ wr hp false (by rw [show (⟨s.toArray⟩:ByteArray).data.toList=s from rfl,hf];rfl))
    have HU2:=κ (HU.out hf)
    clear hf hb hw hp hu HF2 HU HF HN
    go_wp2_with fail
    refine μ HI ?_
    rintro e w1 ⟨rfl,hd1⟩
    go_wp2
    go_roundw
    case rel=>exact ⟨j+1,by omega,by go_num,HS.out.1.trans (hd1.below.mono HS.out.1.size),HS.out.2.1.below hd1.below,HS.out.2.2.drawn hd1,HU2.out⟩
    case measure=>simp [intOf];omega
   ·have HI:=κ (bI P d 0 l ⟨s.toArray⟩ wr hp true (by rw [show (⟨s.toArray⟩:ByteArray).data.toList=s from rfl,hf];rfl))
    have HF3:=κ (HF2.out hf)
    clear hf hb hw hp hu HF2 HU HF HN
    go_wp2_with fail
    refine μ HI ?_
    rintro e w1 ⟨rfl,hd1⟩
    go_wp2
    go_ret
    exact eF HF3.out (HS.out.1.trans (hd1.below.mono HS.out.1.size))
  ·have hj2:j=ws.length:=by omega
   have HN2:=κ (HN.out (by rwa [hj2,List.take_length] at hu))
   have HB2:=κ hb
   clear hj2 hu hb hw hp HN HF
   go_wp2
   go_ret
   exact eF HN2.out HB2.out
theorem To (P d:Nat) (l:List Tok) (w:World) (h:RS w P l d 0) :
 Calls prog 135 #[.pointer (some ⟨P,0,none⟩),.int .i64 4] w (rC w (cA 4 l)):=by
 have hb:=(Below.refl w.heap.size w).alloc (ν _) (.cells (wv (bJ 4)).toArray 9)
 have hW:=ι (jT w (bJ 4) 9) (h.below ((Below.refl w.heap.size w).alloc (ν _) (.cells (wv (bJ 4)).toArray 9)))
 have hF:=(fun (j:Nat) (hk:j<(bJ 4).length) (hf:isF (bJ 4)[j] l=true) (hu:∀ u∈(bJ 4).take j,isF u l=false)=>(show cA 4 l=if (bJ 4)[j]=[] then none else some (bJ 4)[j] by rw [if_neg (lB _ _ (List.getElem_mem hk))];exact kY (List.getElem?_eq_getElem hk) hf hu))
 have hN:=(fun (hu:∀ u∈bJ 4,isF u l=false)=>(show cA 4 l=if ([]:List UInt8)=[] then none else some [] from lZ hu))
 rw [show (wv (bJ 4)).toArray=#[.string ⟨#[61]⟩,.string ⟨#[60,62]⟩,.string ⟨#[60]⟩,.string ⟨#[60,61]⟩,.string ⟨#[62]⟩,.string ⟨#[62,61]⟩] from rfl] at hb hW
 have hlen:(bJ 4).length=6:=rfl
 obtain ⟨ws,hws⟩:∃ ws,bJ 4=ws:=⟨_,rfl⟩
 obtain ⟨q,hq⟩:∃ q,cA 4 l=q:=⟨_,rfl⟩
 rw [hws] at hF hN hW hlen
 rw [hq] at hF hN ⊢
 have HF:=κ hF
 have HN:=κ hN
 have HW:=κ hW
 have HB:=κ hb
 clear hF hN hW hb hws hq h
 go_enter func135,ntmps135
 go_wp2_with fail
 generalize w.alloc _=W at *
 go_loopw [7,26] (fun _ s26 wr=>∃ j:Nat,j≤6∧s26=.int .i64 j∧Below w.heap.size w wr∧WdsAt wr w.heap.size ws∧RS wr P l d 0∧∀ u∈ws.take j,isF u l=false) (fun _ s26 _=>6-(intOf s26).toNat)
 case atStart=>exact ⟨0,Nat.zero_le _,rfl,HB.out,HW.out.1,HW.out.2,fun _ h=>by simp at h⟩
 case round =>
  obtain ⟨j,hj,rfl,hb,hw,hp,hu⟩:=hrel
  by_cases hlt:j<6
  ·have hltW:j<ws.length:=by omega
   have hc:=hw j _ (oW hltW)
   have HF2:=κ (fun hf=>HF.out j hltW hf hu)
   have HU:=κ (fun hf=>gB (p:=fun u=>isF u l) hltW hu hf)
   have HS:=κ (ι hb (ι hw hp))
   generalize ws[j]=s at *
   cases hf:isF s l
   ·have HI:=κ (bI P d 0 l ⟨s.toArray⟩ wr hp false (by rw [show (⟨s.toArray⟩:ByteArray).data.toList=s from rfl,hf];rfl))
    have HU2:=κ (HU.out hf)
    clear hf hb hw hp hu HF2 HU HF HN
    go_wp2_with fail
    refine μ HI ?_
    rintro e w1 ⟨rfl,hd1⟩
    go_wp2
    go_roundw
    case rel=>exact ⟨j+1,by omega,by go_num,HS.out.1.trans (hd1.below.mono HS.out.1.size),HS.out.2.1.below hd1.below,HS.out.2.2.drawn hd1,HU2.out⟩
    case measure=>simp [intOf];omega
   ·have HI:=κ (bI P d 0 l ⟨s.toArray⟩ wr hp true (by rw [show (⟨s.toArray⟩:ByteArray).data.toList=s from rfl,hf];rfl))
    have HF3:=κ (HF2.out hf)
    clear hf hb hw hp hu HF2 HU HF HN
    go_wp2_with fail
    refine μ HI ?_
    rintro e w1 ⟨rfl,hd1⟩
    go_wp2
    go_ret
    exact eF HF3.out (HS.out.1.trans (hd1.below.mono HS.out.1.size))
  ·have hj2:j=ws.length:=by omega
   have HN2:=κ (HN.out (by rwa [hj2,List.take_length] at hu))
   have HB2:=κ hb
   clear hj2 hu hb hw hp HN HF
   go_wp2
   go_ret
   exact eF HN2.out HB2.out
theorem Tn (P d:Nat) (l:List Tok) (w:World) (h:RS w P l d 0) :
 Calls prog 135 #[.pointer (some ⟨P,0,none⟩),.int .i64 5] w (rC w (cA 5 l)):=by
 have hb:=(Below.refl w.heap.size w).alloc (ν _) (.cells (wv (bJ 5)).toArray 9)
 have hW:=ι (jT w (bJ 5) 9) (h.below ((Below.refl w.heap.size w).alloc (ν _) (.cells (wv (bJ 5)).toArray 9)))
 have hF:=(fun (j:Nat) (hk:j<(bJ 5).length) (hf:isF (bJ 5)[j] l=true) (hu:∀ u∈(bJ 5).take j,isF u l=false)=>(show cA 5 l=if (bJ 5)[j]=[] then none else some (bJ 5)[j] by rw [if_neg (lB _ _ (List.getElem_mem hk))];exact kY (List.getElem?_eq_getElem hk) hf hu))
 have hN:=(fun (hu:∀ u∈bJ 5,isF u l=false)=>(show cA 5 l=if ([]:List UInt8)=[] then none else some [] from lZ hu))
 rw [show (wv (bJ 5)).toArray=#[.string ⟨#[43]⟩,.string ⟨#[45]⟩] from rfl] at hb hW
 have hlen:(bJ 5).length=2:=rfl
 obtain ⟨ws,hws⟩:∃ ws,bJ 5=ws:=⟨_,rfl⟩
 obtain ⟨q,hq⟩:∃ q,cA 5 l=q:=⟨_,rfl⟩
 rw [hws] at hF hN hW hlen
 rw [hq] at hF hN ⊢
 have HF:=κ hF
 have HN:=κ hN
 have HW:=κ hW
 have HB:=κ hb
 clear hF hN hW hb hws hq h
 go_enter func135,ntmps135
 go_wp2_with fail
 generalize w.alloc _=W at *
 go_loopw [7,26] (fun _ s26 wr=>∃ j:Nat,j≤2∧s26=.int .i64 j∧Below w.heap.size w wr∧WdsAt wr w.heap.size ws∧RS wr P l d 0∧∀ u∈ws.take j,isF u l=false) (fun _ s26 _=>2-(intOf s26).toNat)
 case atStart=>exact ⟨0,Nat.zero_le _,rfl,HB.out,HW.out.1,HW.out.2,fun _ h=>by simp at h⟩
 case round =>
  obtain ⟨j,hj,rfl,hb,hw,hp,hu⟩:=hrel
  by_cases hlt:j<2
  ·have hltW:j<ws.length:=by omega
   have hc:=hw j _ (oW hltW)
   have HF2:=κ (fun hf=>HF.out j hltW hf hu)
   have HU:=κ (fun hf=>gB (p:=fun u=>isF u l) hltW hu hf)
   have HS:=κ (ι hb (ι hw hp))
   generalize ws[j]=s at *
   cases hf:isF s l
   ·have HI:=κ (bI P d 0 l ⟨s.toArray⟩ wr hp false (by rw [show (⟨s.toArray⟩:ByteArray).data.toList=s from rfl,hf];rfl))
    have HU2:=κ (HU.out hf)
    clear hf hb hw hp hu HF2 HU HF HN
    go_wp2_with fail
    refine μ HI ?_
    rintro e w1 ⟨rfl,hd1⟩
    go_wp2
    go_roundw
    case rel=>exact ⟨j+1,by omega,by go_num,HS.out.1.trans (hd1.below.mono HS.out.1.size),HS.out.2.1.below hd1.below,HS.out.2.2.drawn hd1,HU2.out⟩
    case measure=>simp [intOf];omega
   ·have HI:=κ (bI P d 0 l ⟨s.toArray⟩ wr hp true (by rw [show (⟨s.toArray⟩:ByteArray).data.toList=s from rfl,hf];rfl))
    have HF3:=κ (HF2.out hf)
    clear hf hb hw hp hu HF2 HU HF HN
    go_wp2_with fail
    refine μ HI ?_
    rintro e w1 ⟨rfl,hd1⟩
    go_wp2
    go_ret
    exact eF HF3.out (HS.out.1.trans (hd1.below.mono HS.out.1.size))
  ·have hj2:j=ws.length:=by omega
   have HN2:=κ (HN.out (by rwa [hj2,List.take_length] at hu))
   have HB2:=κ hb
   clear hj2 hu hb hw hp HN HF
   go_wp2
   go_ret
   exact eF HN2.out HB2.out
theorem Tm (P d:Nat) (l:List Tok) (w:World) (h:RS w P l d 0) :
 Calls prog 135 #[.pointer (some ⟨P,0,none⟩),.int .i64 6] w (rC w (cA 6 l)):=by
 have hb:=(Below.refl w.heap.size w).alloc (ν _) (.cells (wv (bJ 6)).toArray 9)
 have hW:=ι (jT w (bJ 6) 9) (h.below ((Below.refl w.heap.size w).alloc (ν _) (.cells (wv (bJ 6)).toArray 9)))
 have hF:=(fun (j:Nat) (hk:j<(bJ 6).length) (hf:isF (bJ 6)[j] l=true) (hu:∀ u∈(bJ 6).take j,isF u l=false)=>(show cA 6 l=if (bJ 6)[j]=[] then none else some (bJ 6)[j] by rw [if_neg (lB _ _ (List.getElem_mem hk))];exact kY (List.getElem?_eq_getElem hk) hf hu))
 have hN:=(fun (hu:∀ u∈bJ 6,isF u l=false)=>(show cA 6 l=if ([]:List UInt8)=[] then none else some [] from lZ hu))
 rw [show (wv (bJ 6)).toArray=#[.string ⟨#[42]⟩,.string ⟨#[47]⟩,.string ⟨#[37]⟩] from rfl] at hb hW
 have hlen:(bJ 6).length=3:=rfl
 obtain ⟨ws,hws⟩:∃ ws,bJ 6=ws:=⟨_,rfl⟩
 obtain ⟨q,hq⟩:∃ q,cA 6 l=q:=⟨_,rfl⟩
 rw [hws] at hF hN hW hlen
 rw [hq] at hF hN ⊢
 have HF:=κ hF
 have HN:=κ hN
 have HW:=κ hW
 have HB:=κ hb
 clear hF hN hW hb hws hq h
 go_enter func135,ntmps135
 go_wp2_with fail
 generalize w.alloc _=W at *
 go_loopw [7,26] (fun _ s26 wr=>∃ j:Nat,j≤3∧s26=.int .i64 j∧Below w.heap.size w wr∧WdsAt wr w.heap.size ws∧RS wr P l d 0∧∀ u∈ws.take j,isF u l=false) (fun _ s26 _=>3-(intOf s26).toNat)
 case atStart=>exact ⟨0,Nat.zero_le _,rfl,HB.out,HW.out.1,HW.out.2,fun _ h=>by simp at h⟩
 case round =>
  obtain ⟨j,hj,rfl,hb,hw,hp,hu⟩:=hrel
  by_cases hlt:j<3
  ·have hltW:j<ws.length:=by omega
   have hc:=hw j _ (oW hltW)
   have HF2:=κ (fun hf=>HF.out j hltW hf hu)
   have HU:=κ (fun hf=>gB (p:=fun u=>isF u l) hltW hu hf)
   have HS:=κ (ι hb (ι hw hp))
   generalize ws[j]=s at *
   cases hf:isF s l
   ·have HI:=κ (bI P d 0 l ⟨s.toArray⟩ wr hp false (by rw [show (⟨s.toArray⟩:ByteArray).data.toList=s from rfl,hf];rfl))
    have HU2:=κ (HU.out hf)
    clear hf hb hw hp hu HF2 HU HF HN
    go_wp2_with fail
    refine μ HI ?_
    rintro e w1 ⟨rfl,hd1⟩
    go_wp2
    go_roundw
    case rel=>exact ⟨j+1,by omega,by go_num,HS.out.1.trans (hd1.below.mono HS.out.1.size),HS.out.2.1.below hd1.below,HS.out.2.2.drawn hd1,HU2.out⟩
    case measure=>simp [intOf];omega
   ·have HI:=κ (bI P d 0 l ⟨s.toArray⟩ wr hp true (by rw [show (⟨s.toArray⟩:ByteArray).data.toList=s from rfl,hf];rfl))
    have HF3:=κ (HF2.out hf)
    clear hf hb hw hp hu HF2 HU HF HN
    go_wp2_with fail
    refine μ HI ?_
    rintro e w1 ⟨rfl,hd1⟩
    go_wp2
    go_ret
    exact eF HF3.out (HS.out.1.trans (hd1.below.mono HS.out.1.size))
  ·have hj2:j=ws.length:=by omega
   have HN2:=κ (HN.out (by rwa [hj2,List.take_length] at hu))
   have HB2:=κ hb
   clear hj2 hu hb hw hp HN HF
   go_wp2
   go_ret
   exact eF HN2.out HB2.out
theorem RS.next {w:World} {P d:Nat} {bad:Int} {t:Tok} {r:List Tok} (h:RS w P (t::r) d bad) :
 ∃ i:Nat,w.cell? ⟨P,1,none⟩=some (.int .i64 i)∧w.frozen? ⟨P,1,none⟩=false∧(i:Int)≤2000∧RS (w.setCell ⟨P,1,none⟩ (.int .i64 ((i:Int)+1))) P r d bad:=by
 obtain ⟨A,c,i,h1,h2,h3⟩:=h
 have hz:=frozen_of_row w P 1 _ _ h1
 have q4:=heap_setCell_same w P 1 _ _ (.int .i64 ((i:Int)+1)) h1
 refine ⟨i,β h1 1,hz,by omega,A,c,i+1, ?_,h2.tail.but (But.set _ _ _ _),by simp at h3;omega⟩
 rw [show i+1+r.length=i+(t::r).length by simp;omega]
 simpa using q4
theorem RS.up {w:World} {P d:Nat} {bad:Int} {l:List Tok} (h:RS w P l (d+1) bad) :
 w.cell? ⟨P,2,none⟩=some (.int .i64 ((d+1:Nat):Int))∧w.frozen? ⟨P,2,none⟩=false∧RS (w.setCell ⟨P,2,none⟩ (.int .i64 (((d+1:Nat):Int)-1))) P l d bad:=by
 obtain ⟨A,c,i,h1,h2,h3⟩:=h
 have hz:=frozen_of_row w P 2 _ _ h1
 have q4:=heap_setCell_same w P 2 _ _ (.int .i64 (((d+1:Nat):Int)-1)) h1
 refine ⟨β h1 2,hz,A,c,i, ?_,h2.but (But.set _ _ _ _),h3⟩
 rw [q4,show ((d+1:Nat):Int)-1=(d:Int) by omega]
 simp
theorem RBad.up {w:World} {P d:Nat} (h:RBad P w (d+1)) :
 ∃ e:Nat,w.cell? ⟨P,2,none⟩=some (.int .i64 (e:Int))∧w.frozen? ⟨P,2,none⟩=false∧(e:Int)≤100000∧0≤(e:Int)∧RBad P (w.setCell ⟨P,2,none⟩ (.int .i64 ((e:Int)-1))) d:=by
 obtain ⟨l',d',b',hb,hp,h1,h2⟩:=h
 obtain ⟨e,rfl⟩:∃ e,d'=e+1:=⟨d'-1,by omega⟩
 obtain ⟨q1,q2,q3⟩:=hp.up
 exact ⟨e+1,q1,q2,by omega,by omega,l',e,b',hb,q3,by omega,by omega⟩
theorem RBad.below {w w':World} {P d:Nat} (h:RBad P w d) (hb:Below w.heap.size w w'):RBad P w' d:=by
 obtain ⟨l',d',b',h0,hp,h1,h2⟩:=h
 exact ⟨l',d',b',h0,hp.below hb,h1,h2⟩
structure Two (B P:Nat) (w0 w:World) (r1:RC):Prop where
 b:But P w0 w
 z:∃ r0:RC,w.heap[B]? = some (.cells r0.cells.toArray 60 (0,0))
 x:w.heap[B+1]? = some (.cells r1.cells.toArray 60 (0,0))
theorem Ge (P:Nat) (w:World) (r1:RC):Two w.heap.size P w ((w.alloc (.cells rcZ.cells.toArray 60)).alloc (.cells r1.cells.toArray 60)) r1:=by
 refine ⟨But.of ((ρ).alloc (by simp) _),⟨rcZ,aC (heap_alloc_new w _) _⟩, ?_⟩
 have:=heap_alloc_new (w.alloc (.cells rcZ.cells.toArray 60)) (.cells r1.cells.toArray 60)
 rwa [World.size_alloc] at this
theorem Two.but {B P:Nat} {w0 w w':World} {r1:RC} (h:Two B P w0 w r1) (hb:But P w w') (hP:P<B):Two B P w0 w' r1:=by
 obtain ⟨h1,⟨r0,h2⟩,h3⟩:=h
 exact ⟨h1.trans hb,⟨r0,aO hb h2 (by omega)⟩,aO hb h3 (by omega)⟩
theorem Two.cells {B P:Nat} {w0 w:World} {r1:RC} (h:Two B P w0 w r1):(∃ r0:RC,∀ j,w.cell? ⟨B,j,none⟩=r0.cells.toArray[j]?)∧(∀ j,w.cell? ⟨B+1,j,none⟩=r1.cells.toArray[j]?)∧(∀ j,w.frozen? ⟨B,j,none⟩=false)∧(∀ j,w.frozen? ⟨B+1,j,none⟩=false):=by
 obtain ⟨h1,⟨r0,h2⟩,h3⟩:=h
 exact ⟨⟨r0,β h2⟩,β h3,fun j=>frozen_of_row w _ j _ _ h2,fun j=>frozen_of_row w _ j _ _ h3⟩
theorem De (lev:Nat) (op:List UInt8) (P d:Nat) (l:List Tok) (w:World) (h:RS w P l d 0) (hP:P<w.heap.size) (hd:d+1>40) (hd2:d≤100) :
 Calls prog 133 #[.pointer (some ⟨P,0,none⟩),.int .i64 (lev:Nat),.string ⟨op.toArray⟩] w (RPost P w d none):=by
 have hT:=Ge P w (rc0 3 op)
 have HD:=κ (jY P d l _ (h.below (((θ).alloc (ν _) (.cells rcZ.cells.toArray 60)).alloc (by simp) (.cells (rc0 3 op).cells.toArray 60))) hd (by omega))
 have HT:=κ hT
 clear h hT
 go_enter func133,ntmps133
 go_wp2_with fail
 refine μ HD ?_
 rintro e w1 ⟨rfl,hb1,b',hb',hp1⟩
 have hT1:=HT.out.but hb1 hP
 obtain ⟨⟨⟨a0,a1,a2,a3,a4,a5,a6,a7,a8,a9⟩,c0⟩,c1,z0,z1⟩:=hT1.cells
 have HE:=κ (ι hT1 (ι hb' hp1))
 simp only [RC.cells,rc0] at c0 c1
 clear hb1 hT1 hb' hp1
 obtain ⟨rz,hz⟩:=HE.out.1.z
 have hcE:=β (aM (rc0 3 op) hz)
 have hP:RPost P w d none (.returned (rc0 3 op).val) (put8 w1 w.heap.size (rc0 3 op)):=RPost.no (rc0 3 op) rfl (fY (r:=rc0 3 op) HE.out.1.b (ν _)) ⟨l,d+1,b',HE.out.2.1,kU (r:=rc0 3 op) HE.out.2.2 hP,by omega,by omega⟩
 have HPo:=κ hP
 clear hz hP
 go_wp2
 change bodyPost _ _ _ _ _ (put8 w1 w.heap.size (rc0 3 op))
 generalize put8 w1 w.heap.size (rc0 3 op)=WE at *
 simp only [RC.cells,rc0] at hcE
 exact bodyPost_ret (v:=(rc0 3 op).val) (by simp [results,results133,go_sem,hcE,RC.val,rc0]) rfl HPo.out
theorem RS.far {w:World} {P d g o:Nat} {bad:Int} {l:List Tok} {v:Value} (h:RS w P l d bad) (hP:P<g):RS (w.setCell ⟨g,o,none⟩ v) P l d bad:=by
 obtain ⟨A,c,i,h1,h2,h3⟩:=h
 refine ⟨A,c,i,(Below.heap_setCell w ⟨g,o,none⟩ v P (by show P≠g;omega)).trans h1, ?_,h3⟩
 rcases h2 with rfl|⟨b,off,hA,hlt,hc⟩
 ·exact .inl rfl
 ·exact .inr ⟨b,off,hA,hlt,fun j u hu=>(World.cell?_of_block (w:=w) (Below.heap_setCell w ⟨g,o,none⟩ v b (by show b≠g;omega))).trans (hc j u hu)⟩
theorem RBad.far {w:World} {P d g o:Nat} {v:Value} (h:RBad P w d) (hP:P<g):RBad P (w.setCell ⟨g,o,none⟩ v) d:=by
 obtain ⟨l',d',b',h0,hp,h1,h2⟩:=h
 exact ⟨l',d',b',h0,hp.far hP,h1,h2⟩
theorem RBad.put8 {w:World} {P d g:Nat} {r:RC} (h:RBad P w d) (hP:P<g):RBad P (put8 w g r) d:=by
 obtain ⟨l',d',b',h0,hp,h1,h2⟩:=h
 exact ⟨l',d',b',h0,kU hp hP,h1,h2⟩
def aBI (B:Nat):Nat→Prop:=fun g=>B+2≤g
theorem RX.far {S:Nat→Prop} {w:World} {g o:Nat} {v:Value} {x:Lp.X} {r:RC} (h:RX S w x r) (hg:∀ k,S k→k<w.heap.size→k≠g):RX S (w.setCell ⟨g,o,none⟩ v) x r :=
 RX.turn (fun k _ h0 hk=>⟨h0,(Below.heap_setCell w ⟨g,o,none⟩ v k (hg k h0 (aL hk))).trans hk⟩) h
theorem Two.parts {B P:Nat} {w0 w:World} {k:Int} {op:List UInt8} (h:Two B P w0 w (rc0 k op)) (hB:w0.heap.size≤B) (g n:Nat):Two B P w0 (w.setCell ⟨B+1,7,none⟩ (.slice (some ⟨g,0,none⟩) n n)) (rcP k op g n):=by
 obtain ⟨h1,⟨r0,h2⟩,h3⟩:=h
 refine ⟨bK h1 (by omega) _ _,⟨r0,(Below.heap_setCell w ⟨B+1,7,none⟩ _ B (by show B≠B+1;omega)).trans h2⟩, ?_⟩
 have:=heap_setCell_same w (B+1) 7 _ _ (.slice (some ⟨g,0,none⟩) n n) h3
 rw [this]
 simp [rc0,rcP,RC.cells]
def Xc (op:List UInt8) (q:Option (Lp.X×List Tok)):Option (Lp.X×List Tok):=q.map fun p=>(.un op p.1,p.2)
theorem xG (lev:Nat) (op:List UInt8) (P d:Nat) (t:Tok) (r:List Tok) (w:World) (h:RS w P (t::r) d 0) (hP:P<w.heap.size) (hd:d+1≤40) (HF:RvOk lev P (d+1) r.length) :
 Calls prog 133 #[.pointer (some ⟨P,0,none⟩),.int .i64 (lev:Nat),.string ⟨op.toArray⟩] w (RPost P w d (Xc op (pX lev (d+1) r))):=by
 have hT:=Ge P w (rc0 3 op)
 have HD:=κ (iP P d (t::r) _ (h.below (((θ).alloc (ν _) (.cells rcZ.cells.toArray 60)).alloc (by simp) (.cells (rc0 3 op).cells.toArray 60))) hd)
 have HT:=κ hT
 clear h hT
 go_enter func133,ntmps133
 go_wp2_with fail
 refine μ HD ?_
 rintro e w1 ⟨rfl,hb1,hp1⟩
 have hT1:=HT.out.but hb1 hP
 obtain ⟨i,n1,n2,n3,n4⟩:=hp1.next
 have hT2:=hT1.but (But.set P 1 w1 (.int .i64 ((i:Int)+1))) hP
 have HC:=κ (HF _ r (ν _) n4)
 have HT2:=κ hT2
 have HP2:=κ n4
 clear hb1 hT1 n4 hT2 hp1
 go_wp2_with fail
 refine μ HC ?_
 rintro e w3 ⟨hb3,⟨k,vk,vi,vs,vb,tt,ss,A,n,c⟩,rfl,hq⟩
 simp only [RC.val]
 have hT3:=HT2.out.but hb3 hP
 have hb4:Below w3.heap.size w3 (w3.alloc (.cells #[.int .u8 k,.int .u8 vk,.int .i64 vi,.string vs,.bool vb,.string tt,.string ss,.slice A n c] 60)):=ρ
 have hT4:=hT3.but (But.of hb4) hP
 have hT5:=hT4.parts (ν _) w3.heap.size 1
 have hnew:=heap_alloc_new w3 (.cells #[.int .u8 k,.int .u8 vk,.int .i64 vi,.string vs,.bool vb,.string tt,.string ss,.slice A n c] 60)
 obtain ⟨-,y1, -,y2⟩:=hT4.cells
 simp only [RC.cells,rc0] at y1
 have HT5:=κ hT5
 have HT3:=κ hT3
 have hz3:w.heap.size+2≤w3.heap.size:=by have:=aL hT3.x;omega
 have HN:=κ hnew
 have HB4:=κ hb4
 clear hT3 hT4 hT5 hnew hb3 hb4 n1 n2
 have HPo:Hid (∃ e:Nat,(((w3.alloc (.cells #[.int .u8 k,.int .u8 vk,.int .i64 vi,.string vs,.bool vb,.string tt,.string ss,.slice A n c] 60)).setCell ⟨w.heap.size+1,7,none⟩ (.slice (some ⟨w3.heap.size,0,none⟩) 1 1))).cell? ⟨P,2,none⟩=some (.int .i64 (e:Int))∧(((w3.alloc (.cells #[.int .u8 k,.int .u8 vk,.int .i64 vi,.string vs,.bool vb,.string tt,.string ss,.slice A n c] 60)).setCell ⟨w.heap.size+1,7,none⟩ (.slice (some ⟨w3.heap.size,0,none⟩) 1 1))).frozen? ⟨P,2,none⟩=false∧(e:Int)≤100000∧0≤(e:Int) ∧
  RPost P w d (Xc op (pX lev (d+1) r)) (.returned (rcP 3 op w3.heap.size 1).val) (put8 (((w3.alloc (.cells #[.int .u8 k,.int .u8 vk,.int .i64 vi,.string vs,.bool vb,.string tt,.string ss,.slice A n c] 60)).setCell ⟨w.heap.size+1,7,none⟩ (.slice (some ⟨w3.heap.size,0,none⟩) 1 1)).setCell ⟨P,2,none⟩ (.int .i64 ((e:Int)-1))) w.heap.size (rcP 3 op w3.heap.size 1))):=by
  refine κ ?_
  have hBu:=fun (e:Nat)=>(HT5.out.but (But.set P 2 _ (.int .i64 ((e:Int)-1))) hP).b
  cases hpx:pX lev (d+1) r with
  | none =>
    rw [hpx] at hq
    have hbad:RBad P w3 (d+1):=hq
    obtain ⟨e,q1,q2,q3,q4,q5⟩:=((hbad.below HB4.out).far (o:=7) (v:=.slice (some ⟨w3.heap.size,0,none⟩) 1 1) (show P<w.heap.size+1 by omega)).up
    exact ⟨e,q1,q2,q3,q4,RPost.no _ rfl (fY (hBu e) (ν _)) (q5.put8 hP)⟩
  | some p =>
    obtain ⟨x,l'⟩:=p
    rw [hpx] at hq
    obtain ⟨hx,hp3⟩:=hq
    obtain ⟨q1,q2,q5⟩:=((hp3.below HB4.out).far (o:=7) (v:=.slice (some ⟨w3.heap.size,0,none⟩) 1 1) (show P<w.heap.size+1 by omega)).up
    refine ⟨d+1,q1,q2,by omega,by omega,RPost.yes _ (x:=.un op x) (l':=l') rfl (fY (hBu (d+1)) (ν _)) ?_ (kU q5 hP)⟩
    have hx4:RX (aBI w.heap.size) _ x _:=RX.mono (fun g hg hl=>(show w.heap.size+2≤g from Nat.le_trans (by have:=aL HT2.out.x;omega) hg)) (hx.below HB4.out)
    have hx5:=(hx4.far (g:=w.heap.size+1) (o:=7) (v:=.slice (some ⟨w3.heap.size,0,none⟩) 1 1) (fun k hk _=>by show k≠_;have:w.heap.size+2≤k:=hk;omega)).far (g:=P) (o:=2) (v:=.int .i64 (((d+1:Nat):Int)-1)) (fun k hk _=>by show k≠_;have:w.heap.size+2≤k:=hk;omega)
    have hx6:=jP (g:=w.heap.size) (r:=rcP 3 op w3.heap.size 1) (fun k hk=>by have:w.heap.size+2≤k:=hk;omega) hx5
    refine ⟨w3.heap.size,_,rfl,by omega, ?_,RX.mono (fun g hg _=>by have:w.heap.size+2≤g:=hg;show _≤g;omega) hx6⟩
    rw [jC (by omega),Below.heap_setCell _ _ _ _ (by show w3.heap.size≠P;omega),Below.heap_setCell _ _ _ _ (by show w3.heap.size≠w.heap.size+1;omega)]
    exact HN.out
 clear hq HN HB4
 obtain ⟨e,q1,q2,q3,q4,q5⟩:=HPo.out
 have hT6:=HT5.out.but (But.set P 2 _ (.int .i64 ((e:Int)-1))) hP
 obtain ⟨⟨⟨a0,a1,a2,a3,a4,a5,a6,a7,a8,a9⟩,c0⟩,c1,z0,z1⟩:=hT6.cells
 obtain ⟨rz,hz⟩:=hT6.z
 have hcE:=β (aM (rcP 3 op w3.heap.size 1) hz)
 simp only [RC.cells,rcP] at c0 c1
 have HPo2:=κ q5
 clear hz hT6 q5 HPo HT5 HT2 HP2 HC HD HT HT3
 go_wp2
 change bodyPost _ _ _ _ _ (put8 _ w.heap.size (rcP 3 op w3.heap.size 1))
 generalize put8 _ w.heap.size (rcP 3 op w3.heap.size 1)=WE at *
 simp only [RC.cells,rcP] at hcE
 exact bodyPost_ret (v:=(rcP 3 op w3.heap.size 1).val) (by simp [results,results133,go_sem,hcE,RC.val,rcP]) rfl HPo2.out
