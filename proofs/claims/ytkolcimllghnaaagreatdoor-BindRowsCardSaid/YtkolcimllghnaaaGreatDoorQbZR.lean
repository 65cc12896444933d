/-
 Contracts. Conditions: those of each.
-/
import Derived.Test.YtkolcimllghnaaaGreatDoorQbGP
import Derived.Test.YtkolcimllghnaaaGreatDoorQbZI
import Derived.Deep.DeepCutAuto
set_option maxRecDepth 100000
set_option maxHeartbeats 20000000
namespace Go.Proofs.YtkolcimllghnaaaGreatDoor
open Lp Go.Proofs.Tryz
open Go.RowKit
def kO (bad:Int) (l:List Tok):Bool:=decide (bad=0)&&isF dS l
def Wz (P:Nat) (w:World) (n most d:Nat) (bad:Int) (l:List Tok) (e:Ending) (w':World):Prop :=
 But P w w'∧if kO bad l=true then (if most≤n∧0<l.tail.length then e=.returned (.bool false)∧RS w' P l.tail d 2 else e=.returned (.bool true)∧RS w' P l.tail d 0) else e=.returned (.bool false)∧RS w' P l d bad
theorem uC (P d:Nat) (bad:Int) (n most:Nat) (l:List Tok) (w:World) (h:RS w P l d bad) :
 Calls prog 84 #[.pointer (some ⟨P,0,none⟩),.int .i64 n,.int .i64 most] w (Wz P w n most d bad l):=by
 have HP:=κ (aJ P d bad l ⟨#[44]⟩ w h (kO bad l) rfl)
 have HB:=κ (fun (hc:kO bad l=true)=>(show bad=0 from by unfold kO at hc;simp at hc;exact hc.1))
 clear h
 cases hc:kO bad l
 ·rw [hc] at HP
  have HC:=κ hc
  clear hc HB
  go_enter func84,ntmps84
  go_wp2_with fail
  refine μ HP ?_
  rintro e w1 ⟨rfl,hb1,hp1⟩
  have H1:=κ (ι hb1 hp1)
  clear hb1 hp1 HP
  go_wp2
  go_ret
  refine ⟨H1.out.1, ?_⟩
  rw [HC.out]
  exact ⟨rfl,H1.out.2⟩
 ·rw [hc] at HP
  obtain rfl:=HB.out hc
  have HC:=κ hc
  clear hc HB
  go_enter func84,ntmps84
  go_wp2_with fail
  refine μ HP ?_
  rintro e w1 ⟨rfl,hb1,hp1⟩
  simp only [if_true] at hp1
  have H1:=κ (ι hb1 hp1)
  obtain ⟨A,c,i,h1,h2,h3⟩:=hp1
  have c0:w1.cell? ⟨P,0,none⟩=some (.slice A (i+l.tail.length) c):=β h1 0
  have c1:w1.cell? ⟨P,1,none⟩=some (.int .i64 (i:Nat)):=β h1 1
  have c3:w1.cell? ⟨P,3,none⟩=some (.int .i64 0):=β h1 3
  obtain ⟨m,hm2⟩:∃ m,l.tail.length=m:=⟨_,rfl⟩
  have HM:=κ hm2
  rw [hm2] at c0 h3
  clear hb1 h1 h2 HP hm2
  by_cases hnm:most≤n
  ·have e1:((most:Int)≤(n:Int)):=by omega
   have e2:decide ((most:Int)≤(n:Int))=true:=by simp;omega
   by_cases hz:0<m
   ·have e3:((i:Int)<((i+m:Nat):Int)):=by omega
    have e4:decide ((i:Int)<((i+m:Nat):Int))=true:=by simp;omega
    have HF:=κ (fun w' (hd:RS w' P l.tail d 0)=>eL P d 0 2 l.tail w' hd)
    have e5:(i:Int)<(i:Int)+(m:Int):=by omega
    have e6:0<m:=hz
    go_wp2_with fail
    go_quiet (fail)
    go_wp2_with fail
    have hd:Drawn w1 (w1.drewN nq):=⟨nq,rfl⟩
    refine (HF.out _ (H1.out.2.drawn hd)).mono ?_
    rintro e w2 ⟨rfl,hb2,hp2⟩
    have H2:=κ (ι (H1.out.1.trans (hd.but.trans hb2)) hp2)
    obtain ⟨A2,c2,i2,k1,_,_⟩:=hp2
    have c4:w2.cell? ⟨P,3,none⟩=some (.int .i64 2):=β k1 3
    clear hb2 k1 hd c0 c1 c3
    go_wp2
    go_ret
    refine ⟨H2.out.1, ?_⟩
    rw [if_pos HC.out,if_pos ⟨hnm,by rw [HM.out];exact hz⟩]
    exact ⟨rfl,H2.out.2⟩
   ·have e3:decide ((i:Int)<((i+m:Nat):Int))=false:=by simp;omega
    have e4:¬((i:Int)<(i:Int)+(m:Int)):=by omega
    have e5:¬(0<m):=hz
    go_wp2_with fail
    go_quiet (fail)
    have hd:Drawn w1 (w1.drewN nq):=⟨nq,rfl⟩
    have H2:=κ (ι (H1.out.1.trans hd.but) (H1.out.2.drawn hd))
    have c4:(w1.drewN nq).cell? ⟨P,3,none⟩=some (.int .i64 0):=c3
    clear hd
    go_wp2
    go_ret
    refine ⟨H2.out.1, ?_⟩
    rw [if_pos HC.out,if_neg (by rw [HM.out];omega)]
    exact ⟨rfl,H2.out.2⟩
  ·have e1:decide ((most:Int)≤(n:Int))=false:=by simp;omega
   go_wp2_with fail
   go_quiet (fail)
   have hd:Drawn w1 (w1.drewN nq):=⟨nq,rfl⟩
   have H2:=κ (ι (H1.out.1.trans hd.but) (H1.out.2.drawn hd))
   have c4:(w1.drewN nq).cell? ⟨P,3,none⟩=some (.int .i64 0):=c3
   clear hd
   go_wp2
   go_ret
   refine ⟨H2.out.1, ?_⟩
   rw [if_pos HC.out,if_neg (by omega)]
   exact ⟨rfl,H2.out.2⟩
theorem Gk:(prog.info? 60).map (fun i=>(i.zero,i.size,i.bytes))=some (some rcZ.val,8,104):=by kernel_rfl
theorem Fl {bad:Int} {l:List Tok} (h:bad≠0):kO bad l=false:=by simp [kO,h]
theorem uB (P d:Nat) (n most:Nat) (w:World) (h:RBad P w d) :
 Calls prog 84 #[.pointer (some ⟨P,0,none⟩),.int .i64 n,.int .i64 most] w fun e w'=>e=.returned (.bool false)∧But P w w'∧RBad P w' d:=by
 obtain ⟨l',d',b',hb,hp,h1,h2⟩:=h
 refine (uC P d' b' n most l' w hp).mono ?_
 rintro e w' ⟨hbw,hq⟩
 rw [if_neg (by rw [Fl hb];decide)] at hq
 exact ⟨hq.1,hbw,l',d',b',hb,hq.2,h1,h2⟩
theorem Pk (P d most:Nat) (w:World) (h:RBad P w d) :
 Calls prog 83 #[.pointer (some ⟨P,0,none⟩),.int .i64 most] w fun e w'=>(∃ A n c,e=.returned (.slice A n c))∧But P w w'∧RBad P w' d:=by
 obtain ⟨iE,hiE,hz0,hz1,hz2⟩:=info_parts Gk
 have HE:=κ (lP 1 P d w h)
 clear h
 go_enter func83,ntmps83
 go_wp2_with fail
 go_loopg [5] 1 (fun gk s5 wr=>gk=1∧s5=.slice none 0 0∧wr=w)
 case atStart=>exact ⟨rfl,rfl,rfl⟩
 case round =>
  obtain ⟨rfl,rfl,rfl⟩:=hrel
  go_wp2_with fail
  refine μ HE ?_
  rintro e w1 ⟨rfl,hb1,hp1⟩
  have H1:=κ (ι hb1 hp1)
  clear hb1 hp1 HE
  simp only [RC.val,rcZ]
  go_wp2_with (at_builtin;refine bH _ rfl (.tmp 6) (.tmp 9) _ rfl w1.heap.size 60 iE _ 8 104 underlying36 hiE hz0 hz1 hz2 rfl (by omega) none 0 0 [] rfl (World.ownsRow_nil _ _ _ _) _ 1 1 rcZ.cells rfl rfl (bD rcZ.cells (heap_alloc_new _ _)) (by simp [rcZ,RC.cells,Value.oneCell']) (by simp [maxLen]) (by omega) (by simp) ?_;intro A5 c5 w5 _ hb5 _ _)
  have hb15:Below w1.heap.size w1 w5:=((Below.refl w1.heap.size w1).alloc (ν _) _).trans hb5
  have HM:=κ (uB P d 1 most w5 (H1.out.2.below hb15))
  have H5:=κ (H1.out.1.trans (But.of hb15))
  clear hb15 hb5 H1
  refine μ HM ?_
  rintro e w6 ⟨rfl,hb6,hp6⟩
  have H6:=κ (ι (H5.out.trans hb6) hp6)
  clear hb6 hp6 H5 HM
  go_wp2
  go_ret
  exact ⟨⟨_,_,_,rfl⟩,H6.out.1,H6.out.2⟩
def rcv (L:List RC):List Value:=L.flatMap RC.cells
theorem Ty (L M:List RC):rcv (L++M)=rcv L++rcv M:=by simp [rcv]
def RXL (S:Nat→Prop) (w:World):List Lp.X→List RC→Prop
 | [],[]=>True
 | x::xs,r::rs=>RX S w x r∧RXL S w xs rs
 | _,_=>False
theorem RXL.turn {S S':Nat→Prop} {w w':World} (hs:∀ g cs,S g→w.heap[g]? = some (.cells cs 60 (0,0))→S' g∧w'.heap[g]? = some (.cells cs 60 (0,0))):∀ {xs:List Lp.X} {rs:List RC},RXL S w xs rs→RXL S' w' xs rs
 | [],[],_=>trivial
 | [],_::_,h=>h.elim
 | _::_,[],h=>h.elim
 | _::_,_::_,⟨h1,h2⟩=>⟨RX.turn hs h1,RXL.turn hs h2⟩
theorem RXL.app {S:Nat→Prop} {w:World}:∀ {xs:List Lp.X} {rs:List RC} {x:Lp.X} {r:RC},RXL S w xs rs→RX S w x r→RXL S w (xs++[x]) (rs++[r])
 | [],[],_,_,_,h=>⟨h,trivial⟩
 | [],_::_,_,_,h,_=>h.elim
 | _::_,[],_,_,h,_=>h.elim
 | _::_,_::_,_,_,⟨a,b⟩,h=>⟨a,RXL.app b h⟩
def rE (B:Nat) (v:Value) (g:Nat):Prop:=B≤g∧some g≠v.ownBlock
def Xa (P:Nat) (w:World) (q:Option (List Lp.X×List Tok)) (e:Ending) (w':World):Prop :=
 But P w w'∧match q with
 | none=>(∃ A n c,e=.returned (.slice A n c))∧RBad P w' 0
 | some (xs,r)=>∃ A c rs,e=.returned (.slice A xs.length c)∧w'.ownsRow w.heap.size 60 8 (.slice A xs.length c) xs.length (rcv rs)∧RXL (rE w.heap.size (.slice A xs.length c)) w' xs rs∧RS w' P r 0 0
theorem pK {w w':World} {P d B n size:Nat} {bad:Int} {l:List Tok} {e:TypeId} {v:Value} {xs:List Value} (h:w.ownsRow B e size v n xs) (hb:But P w w') (hp:RS w P l d bad) (he:e≠108):w'.ownsRow B e size v n xs:=by
 refine ⟨h.1, ?_⟩
 rcases h.2 with h2|⟨g,cap,cur,h2,h3,h4,h5⟩
 ·exact .inl h2
 ·exact .inr ⟨g,cap,cur,h2,h3,aO hb h4 (qN hp h4 he),h5⟩
theorem Il {P n c c5:Nat} {w0 wr w1 w5:World} {r:List Tok} {A A5:Option Addr} {xs:List Lp.X} {rs:List RC} {x:Lp.X} {rr:RC} {ob:Obj} (hb:But P w0 wr) (hp:RS wr P r 0 0) (hown:wr.ownsRow w0.heap.size 60 8 (.slice A n c) n (rcv rs)) (hx:RXL (rE w0.heap.size (.slice A n c)) wr xs rs)
 (hb1:But P wr w1) (hnew:RX (fun g=>wr.heap.size≤g) w1 x rr) (hk5:gD (w1.alloc ob) w5 (Value.ownBlock (.slice A n c)) (Value.ownBlock (.slice A5 (n+1) c5))) :
 RXL (rE w0.heap.size (.slice A5 (n+1) c5)) w5 (xs++[x]) (rs++[rr]):=by
 refine RXL.app (RXL.turn (fun g cs hS hg => ?_) hx) (RX.turn (fun g cs hS hg => ?_) hnew)
 ·have hg1:=aO hb1 hg (qN hp hg (by decide))
  have:=hk5 g _ (aC hg1 ob) hS.2
  exact ⟨⟨hS.1,this.2⟩,this.1⟩
 ·have hlt:some g≠Value.ownBlock (.slice A n c):=fun e=>by have:=(hown.lt _ e.symm).2;omega
  have:=hk5 g _ (aC hg ob) hlt
  exact ⟨⟨Nat.le_trans hb.size hS,this.2⟩,this.1⟩
theorem RS.low {P d B:Nat} {bad:Int} {l:List Tok} {w w':World} (h:RS w P l d bad) (hP:P<B) (hb:Below B w w'):RS w' P l d bad:=by
 obtain ⟨A,c,i,h1,h2,h3⟩:=h
 refine ⟨A,c,i,(hb.block P hP).trans h1, ?_,h3⟩
 rcases h2 with h2|⟨b,off,hA,hlt,hc⟩
 ·exact .inl h2
 ·exact .inr ⟨b,off,hA,hlt,fun j u hu=>(hb.cell (p:=⟨b,_,none⟩) (Nat.lt_trans hlt hP)).trans (hc j u hu)⟩
theorem RBad.low {P d B:Nat} {w w':World} (h:RBad P w d) (hP:P<B) (hb:Below B w w'):RBad P w' d:=by
 obtain ⟨l',d',b',h1,h2,h3⟩:=h
 exact ⟨l',d',b',h1,h2.low hP hb,h3⟩
theorem But.lowr {P:Nat} {w0 w w':World} (h:But P w0 w) (hb:Below w0.heap.size w w'):But P w0 w' :=
 ⟨hb.os.trans h.os,hb.tape.trans h.tape,hb.output.trans h.output,Nat.le_trans h.size hb.size,fun k hk hn=>(hb.block k hk).trans (h.block k hk hn)⟩
theorem Pm (P most:Nat) (l:List Tok) (w:World) (h:RS w P l 0 0) (hm:most≤100) (h1m:1≤most) :
 Calls prog 83 #[.pointer (some ⟨P,0,none⟩),.int .i64 most] w (Xa P w (cN (pX 1 0) most l)):=by
 obtain ⟨iE,hiE,hz0,hz1,hz2⟩:=info_parts Gk
 have hP0:P<w.heap.size:=h.lt
 go_enter func83,ntmps83
 go_wp2_with fail
 go_loopg [5] (most+1) (fun gk s5 wr=>∃ (acc:List Lp.X) (r:List Tok) (A:Option Addr) (c:Nat) (rs:List RC),acc.length≤most∧gk=most+1-acc.length∧s5=.slice A acc.length c∧(acc.length=most→r=[])∧But P w wr∧wr.ownsRow w.heap.size 60 8 (.slice A acc.length c) acc.length (rcv rs)∧RXL (rE w.heap.size (.slice A acc.length c)) wr acc rs∧RS wr P r 0 0∧cN (pX 1 0) most l=gV (pX 1 0) most (most+1-acc.length) acc r)
 case atStart=>exact ⟨[],l,none,0,[],Nat.zero_le _,rfl,rfl,fun h=>by simp at h;omega,But.refl _ _,World.ownsRow_nil _ _ _ _,trivial,h,rfl⟩
 case round =>
  clear h
  obtain ⟨acc,r,A,c,rs,ha,rfl,rfl,hend,hb,hown,hx,hp,hq⟩:=hrel
  obtain ⟨n,hn⟩:∃ n,acc.length=n:=⟨_,rfl⟩
  have hk:most+1-acc.length=(most-acc.length)+1:=by omega
  rw [hk] at hq
  rw [hn] at hown hx hend hq ha
  have HC:=κ ((yA P r.length 0 (by omega)).e1 wr r (ν _) hp)
  have HR:=κ (ι hb (ι hown (ι hx (ι hp (ι hq (ι hend hn))))))
  have hnI:(0:Int)≤(n:Int):=by omega
  rw [hn]
  clear hq hk hb hown hx hp hend
  go_wp2_with fail
  refine μ HC ?_
  rintro e w1 ⟨hb1,rr,rfl,hr⟩
  have hown1:=pK HR.out.2.1 hb1 HR.out.2.2.2.1 (by decide)
  have hsz:w.heap.size≤w1.heap.size:=Nat.le_trans HR.out.1.size hb1.size
  have hbw1:=HR.out.1.trans hb1
  simp only [RC.val]
  rcases hF:pX 1 0 r with _|⟨x,r1⟩
  ·rw [hF] at hr
   have HQ:=κ (HR.out.2.2.2.2.1.trans (kL hF))
   have HB:=κ (ι hbw1 (show RBad P w1 0 from hr))
   clear hF hr hb1 hbw1 HC
   go_wp2_with (at_builtin;refine bH _ rfl (.tmp 6) (.tmp 9) _ rfl w.heap.size 60 iE _ 8 104 underlying36 hiE hz0 hz1 hz2 rfl (by omega) A n c (rcv rs) rfl (hown1.alloc _) _ 1 1 rr.cells rfl rfl (bD rr.cells (heap_alloc_new _ _)) (by simp [RC.cells,Value.oneCell']) (by simp only [maxLen];omega) (by omega) (by rw [World.size_alloc];omega) ?_;intro A5 c5 w5 ho5 hb5 _ hk5)
   have hb15:Below w.heap.size w1 w5:=((Below.refl w1.heap.size w1).alloc (ν _) _ |>.mono hsz).trans hb5
   have HM:=κ (uB P 0 (n+1) most w5 (HB.out.2.low hP0 hb15))
   have H5:=κ (HB.out.1.lowr hb15)
   clear hb15 hb5 ho5 hk5 hown1
   refine μ HM ?_
   rintro e w6 ⟨rfl,hb6,hp6⟩
   have H6:=κ (ι (H5.out.trans hb6) hp6)
   clear hb6 hp6
   go_wp2
   go_ret
   refine ⟨H6.out.1, ?_⟩
   rw [HQ.out]
   exact ⟨⟨_,_,_,rfl⟩,H6.out.2⟩
  ·rw [hF] at hr
   obtain ⟨hxr,hpr⟩:=hr
   have hnm:n<most:=by
    rcases Nat.lt_or_ge n most with h|h
    ·exact h
    ·have h0:=HR.out.2.2.2.2.2.1 (by omega)
     rw [h0,tQ] at hF
     cases hF
   have HB:=κ (ι hb1 (ι hbw1 (ι hxr (ι hpr hF))))
   clear hF hb1 hbw1 HC hxr hpr
   go_wp2_with (at_builtin;refine bH _ rfl (.tmp 6) (.tmp 9) _ rfl w.heap.size 60 iE _ 8 104 underlying36 hiE hz0 hz1 hz2 rfl (by omega) A n c (rcv rs) rfl (hown1.alloc _) _ 1 1 rr.cells rfl rfl (bD rr.cells (heap_alloc_new _ _)) (by simp [RC.cells,Value.oneCell']) (by simp only [maxLen];omega) (by omega) (by rw [World.size_alloc];omega) ?_;intro A5 c5 w5 ho5 hb5 _ hk5)
   have hb15:Below w.heap.size w1 w5:=((Below.refl w1.heap.size w1).alloc (ν _) _ |>.mono hsz).trans hb5
   have hp5:RS w5 P r1 0 0:=HB.out.2.2.2.1.low hP0 hb15
   have hx5:=Il HR.out.1 HR.out.2.2.2.1 HR.out.2.1 HR.out.2.2.1 HB.out.1 HB.out.2.2.1 hk5
   have ho6:w5.ownsRow w.heap.size 60 8 (.slice A5 (n+1) c5) (n+1) (rcv (rs++[rr])):=by rw [Ty];simpa [rcv] using ho5
   have H5:=κ (ι (HB.out.2.1.lowr hb15) (ι hp5 (ι hx5 (ι ho6 HB.out.2.2.2.2))))
   have HM:=κ (uC P 0 0 (n+1) most r1 w5 hp5)
   clear hb15 hb5 ho5 hk5 hown1 hp5 hx5 ho6 HB
   refine μ HM ?_
   rintro e w6 ⟨hb6,hq6⟩
   have hcb:kO 0 r1=isF dS r1:=by simp [kO]
   rw [hcb] at hq6
   have hown6:=pK H5.out.2.2.2.1 hb6 H5.out.2.1 (by decide)
   have hx6:=RXL.turn (S':=rE w.heap.size (.slice A5 (n+1) c5)) (w':=w6) (fun g cs hS hg=>⟨hS,aO hb6 hg (qN H5.out.2.1 hg (by decide))⟩) H5.out.2.2.1
   have hbw6:=H5.out.1.trans hb6
   have hl6:(acc++[x]).length=n+1:=by rw [List.length_append,HR.out.2.2.2.2.2.2];rfl
   cases hc:isF dS r1
   ·rw [hc] at hq6
    simp only [φ,if_false] at hq6
    obtain ⟨rfl,hp6⟩:=hq6
    have HQ:=κ (HR.out.2.2.2.2.1.trans (lQ H5.out.2.2.2.2 hc))
    have H6:=κ (ι hbw6 (ι hown6 (ι hx6 (ι hp6 hl6))))
    clear hc hcb hown6 hx6 hbw6 hp6 hb6 hl6 HM H5
    go_wp2
    go_ret
    refine ⟨H6.out.1, ?_⟩
    rw [HQ.out]
    exact ⟨A5,c5,rs++[rr],by rw [H6.out.2.2.2.2];rfl,by rw [H6.out.2.2.2.2];exact H6.out.2.1,by rw [H6.out.2.2.2.2];exact H6.out.2.2.1,H6.out.2.2.2.1⟩
   ·rw [hc] at hq6
    simp only [if_true] at hq6
    have htl:=bB hc
    by_cases hz:most≤n+1∧0<r1.tail.length
    ·rw [if_pos hz] at hq6
     obtain ⟨rfl,hp6⟩:=hq6
     have HQ:=κ (HR.out.2.2.2.2.1.trans (kM H5.out.2.2.2.2 hc (by rw [HR.out.2.2.2.2.2.2];omega) (by omega)))
     have H6:=κ (ι hbw6 (show RBad P w6 0 from ⟨_,_,_,by decide,hp6,ν _,by omega⟩))
     clear hc hcb hown6 hx6 hbw6 hp6 hb6 hl6 HM H5 htl
     go_wp2
     go_ret
     refine ⟨H6.out.1, ?_⟩
     rw [HQ.out]
     exact ⟨⟨_,_,_,rfl⟩,H6.out.2⟩
    ·rw [if_neg hz] at hq6
     obtain ⟨rfl,hp6⟩:=hq6
     have HQ:=κ (HR.out.2.2.2.2.1.trans (iL H5.out.2.2.2.2 hc (by rw [HR.out.2.2.2.2.2.2];omega)))
     have hend6:(acc++[x]).length=most→r1.tail=[]:=fun e=>List.eq_nil_of_length_eq_zero (by omega)
     have H6:=κ (ι hbw6 (ι hown6 (ι hx6 (ι hp6 (ι hl6 hend6)))))
     clear hc hcb hown6 hx6 hbw6 hp6 hb6 hl6 hend6 HM H5 htl hz
     go_wp2
     go_roundg (most+1-(n+1))
     case measure=>omega
     case rel=>exact ⟨acc++[x],r1.tail,A5,c5,rs++[rr],by rw [H6.out.2.2.2.2.1];omega,by rw [H6.out.2.2.2.2.1],by rw [H6.out.2.2.2.2.1],H6.out.2.2.2.2.2,H6.out.1,by rw [H6.out.2.2.2.2.1];exact H6.out.2.1,by rw [H6.out.2.2.2.2.1];exact H6.out.2.2.1,H6.out.2.2.2.1,by rw [HQ.out,H6.out.2.2.2.2.1];congr 1;omega⟩
theorem wL (P d:Nat) (bad:Int) (l:List Tok) (w:World) (h:RS w P l d bad) (hf:(decide (bad=0)&&isF Dh l)=false) :
 Calls prog 86 #[.pointer (some ⟨P,0,none⟩)] w fun e w'=>e=.returned (.slice none 0 0)∧But P w w'∧RS w' P l d bad:=by
 have HI:=κ (aJ P d bad l ⟨#[119,104,101,114,101]⟩ w h false hf)
 clear h hf
 go_enter func86,ntmps86
 go_wp2_with fail
 refine μ HI ?_
 rintro e w1 ⟨rfl,hb1,hp1⟩
 have H1:=κ (ι hb1 hp1)
 clear hb1 hp1 HI
 go_wp2
 go_ret
 exact ⟨rfl,H1.out.1,H1.out.2⟩
theorem Ik (P d:Nat) (w:World) (h:RBad P w d) :
 Calls prog 80 #[.pointer (some ⟨P,0,none⟩)] w fun e w'=>e=.returned (.string ⟨#[]⟩)∧But P w w'∧RBad P w' d:=by
 obtain ⟨l,d',b',hb',hp,h1,h2⟩:=h
 have H:=κ (fun (w':World) (h':RS w' P l d' b')=>eL P d' b' 4 l w' h')
 have HRS:=κ hp
 have HD:=κ (ι h1 (ι h2 hb'))
 obtain ⟨A,c,i,k1, -, -⟩:=hp
 have hc3:=β k1 3
 have eb:(b'==0)=false:=η hb'
 have eb2:(b' !=0)=true:=by rw [bne,eb];rfl
 clear k1 h1 h2 hb'
 go_enter func80,ntmps80
 go_wp2_with fail
 go_quiet (fail)
 go_wp2_with fail
 refine (H.out (w.drewN nq) (HRS.out.drawn ⟨nq,rfl⟩)).mono ?_
 rintro e w1 ⟨rfl,hb1,hp1⟩
 have HE:=κ (ι hb1 hp1)
 clear hb1 hp1
 go_wp2
 go_ret
 exact ⟨rfl,(Drawn.but ⟨nq,rfl⟩).trans HE.out.1,l,d',_,by rw [qB,if_neg HD.out.2.2];exact HD.out.2.2,HE.out.2,HD.out.1,HD.out.2.1⟩
def RO (P:Nat) (w:World):Option (List Tok)→Prop
 | none=>RBad P w 0
 | some l=>RS w P l 0 0
theorem RO.low {P B:Nat} {w w':World} {o:Option (List Tok)} (h:RO P w o) (hP:P<B) (hb:Below B w w'):RO P w' o:=by
 cases o with
 | none=>exact RBad.low h hP hb
 | some l=>exact RS.low h hP hb
theorem RO.lt {P:Nat} {w:World} {o:Option (List Tok)} (h:RO P w o):P<w.heap.size:=by
 cases o with
 | none=>obtain ⟨l',d',b', -,hp, -⟩:=h;exact hp.lt
 | some l=>exact RS.lt h
theorem RO.below {P:Nat} {w w':World} {o:Option (List Tok)} (h:RO P w o) (hb:Below w.heap.size w w'):RO P w' o:=h.low h.lt hb
theorem RO.box {w:World} {P g:Nat} {o:Option (List Tok)} {cs:Array Value} {t:TypeId} (hp:RO P w o) (hg:w.heap[g]? = some (.cells cs t (0,0))) (ht:t≠108):g≠P:=by
 cases o with
 | none=>obtain ⟨l',d',b', -,hp, -⟩:=hp;exact qN hp hg ht
 | some l=>exact qN (show RS w P l 0 0 from hp) hg ht
theorem RO.own {w w':World} {P B n size:Nat} {o:Option (List Tok)} {e:TypeId} {v:Value} {xs:List Value} (hp:RO P w o) (h:w.ownsRow B e size v n xs) (hb:But P w w') (he:e≠108):w'.ownsRow B e size v n xs:=by
 cases o with
 | none=>obtain ⟨l',d',b', -,hp, -⟩:=hp;exact pK h hb hp he
 | some l=>exact pK h hb (show RS w P l 0 0 from hp) he
def Ol:Option (List Tok)→Nat
 | none=>0
 | some l=>l.length
theorem RO.len {w:World} {P:Nat} {o:Option (List Tok)} (h:RO P w o):Ol o≤2000:=by
 cases o with
 | none=>exact Nat.zero_le _
 | some l=>obtain ⟨A,c,i, -, -,h3⟩:=(show RS w P l 0 0 from h);show l.length≤2000;omega
def Iu (s:List UInt8):Option (List Tok)→Bool
 | none=>false
 | some l=>isF s l
theorem gK (P:Nat) (o:Option (List Tok)) (s:ByteArray) (w:World) (h:RO P w o) (b:Bool) (hb:Iu s.data.toList o=b) :
 Calls prog 34 #[.pointer (some ⟨P,0,none⟩),.string s] w fun e w'=>e=.returned (.bool b)∧But P w w'∧RO P w' (if b then o.map List.tail else o):=by
 cases o with
 | none =>
   obtain ⟨l,d,bd,h1,h2,h3,h4⟩:=h
   obtain rfl:false=b:=hb
   refine (aJ P d bd l s w h2 false (by simp [h1])).mono ?_
   rintro e w' ⟨k1,k2,k3⟩
   exact ⟨k1,k2,l,d,bd,h1,k3,h3,h4⟩
 | some l =>
   refine (aJ P 0 0 l s w h b (by simpa [Iu] using hb)).mono ?_
   rintro e w' ⟨k1,k2,k3⟩
   cases b<;>exact ⟨k1,k2,k3⟩
theorem tZ (P:Nat) (o:Option (List Tok)) (s:ByteArray) (w:World) (h:RO P w o) :
 Calls prog 81 #[.pointer (some ⟨P,0,none⟩),.string s] w fun e w'=>e=.returned (.tuple #[])∧But P w w'∧RO P w' (o.bind (aE s.data.toList)):=by
 cases o with
 | none =>
   obtain ⟨l,d,bd,h1,h2,h3,h4⟩:=h
   refine (dK P d bd l s w h2 (by simp [h1])).mono ?_
   rintro e w' ⟨k1,k2,b',k3,k4⟩
   exact ⟨k1,k2,l,d,b',k3,k4,h3,h4⟩
 | some l =>
   cases hf:isF s.data.toList l with
   | false =>
     refine (dK P 0 0 l s w h (by simp [hf])).mono ?_
     rintro e w' ⟨k1,k2,b',k3,k4⟩
     refine ⟨k1,k2, ?_⟩
     rw [show (some l).bind (aE s.data.toList)=none by simp [aE,hf]]
     exact ⟨l,0,b',k3,k4,ν _,by omega⟩
   | true =>
     refine (dB P 0 l s w h hf).mono ?_
     rintro e w' ⟨k1,k2,k3⟩
     refine ⟨k1,k2, ?_⟩
     rw [show (some l).bind (aE s.data.toList)=some l.tail by simp [aE,hf]]
     exact k3
theorem Xn (P:Nat) (o:Option (List Tok)) (c:Int) (hc:c≠0) (w:World) (h:RO P w o) :
 Calls prog 35 #[.pointer (some ⟨P,0,none⟩),.int .i64 c] w fun e w'=>e=.returned (.tuple #[])∧But P w w'∧RO P w' none:=by
 obtain ⟨l,d,bd,h2,h4⟩:∃ l d bd,RS w P l d bd∧d≤100000:=by
  cases o with
  | none=>obtain ⟨l,d,bd,h1,h2,h3,h4⟩:=h;exact ⟨l,d,bd,h2,h4⟩
  | some l=>exact ⟨l,0,0,h,by omega⟩
 refine (eL P d bd c l w h2).mono ?_
 rintro e w' ⟨k1,k2,k3⟩
 exact ⟨k1,k2,l,d,_,gY hc,k3,Nat.zero_le _,h4⟩
theorem Gn (P:Nat) (o:Option (List Tok)) (w:World) (h:RO P w o) :
 Calls prog 80 #[.pointer (some ⟨P,0,none⟩)] w fun e w'=>∃ n:List UInt8,e=.returned (.string ⟨n.toArray⟩)∧But P w w'∧RO P w' ((o.bind aZ).map (·.2))∧∀ q,o.bind aZ=some q→q.1=n:=by
 cases o with
 | none =>
   refine (Ik P 0 w h).mono ?_
   rintro e w' ⟨k1,k2,k3⟩
   exact ⟨[],k1,k2,k3,fun q hq=>by cases hq⟩
 | some l =>
   refine (nT P 0 l w h (by omega)).mono ?_
   rintro e w' ⟨k1,k2⟩
   rcases hq:aZ l with _|⟨n,r⟩
   ·rw [hq] at k2
    refine ⟨[],k2.1,k1, ?_,fun q hq'=>by rw [Option.bind_some,hq] at hq';cases hq'⟩
    rw [Option.bind_some,hq]
    exact k2.2
   ·rw [hq] at k2
    refine ⟨n,k2.1,k1, ?_,fun q hq'=>by rw [Option.bind_some,hq] at hq';injection hq' with hq';rw [←hq']⟩
    rw [Option.bind_some,hq]
    exact k2.2
theorem Xo (P:Nat) (o:Option (List Tok)) (w:World) (h:RO P w o) :
 Calls prog 85 #[.pointer (some ⟨P,0,none⟩),.int .i64 1] w fun e w'=>∃ rr:RC,e=.returned rr.val∧But P w w'∧RO P w' ((o.bind (pX 1 0)).map (·.2))∧∀ q,o.bind (pX 1 0)=some q→RX (fun g=>w.heap.size≤g) w' q.1 rr:=by
 cases o with
 | none =>
   refine (lP 1 P 0 w h).mono ?_
   rintro e w' ⟨k1,k2,k3⟩
   exact ⟨rcZ,k1,k2,k3,fun q hq=>by cases hq⟩
 | some l =>
   refine ((yA P l.length 0 (by omega)).e1 w l (ν _) h).mono ?_
   rintro e w' ⟨k1,rr,k2,k3⟩
   rcases hq:pX 1 0 l with _|⟨x,r⟩
   ·rw [hq] at k3
    refine ⟨rr,k2,k1, ?_,fun q hq'=>by rw [Option.bind_some,hq] at hq';cases hq'⟩
    rw [Option.bind_some,hq]
    exact k3
   ·rw [hq] at k3
    refine ⟨rr,k2,k1, ?_,fun q hq'=>by rw [Option.bind_some,hq] at hq';injection hq' with hq';rw [←hq'];exact k3.1⟩
    rw [Option.bind_some,hq]
    exact k3.2
def lW (n most:Nat):Option (List Tok)→Bool×Option (List Tok)
 | none=>(false,none)
 | some l=>if isF dS l then (if most≤n∧0<l.tail.length then (false,none) else (true,some l.tail)) else (false,some l)
theorem Pc (P n most:Nat) (o:Option (List Tok)) (w:World) (h:RO P w o) :
 Calls prog 84 #[.pointer (some ⟨P,0,none⟩),.int .i64 n,.int .i64 most] w fun e w'=>e=.returned (.bool (lW n most o).1)∧But P w w'∧RO P w' (lW n most o).2:=by
 cases o with
 | none=>exact uB P 0 n most w h
 | some l =>
   refine (uC P 0 0 n most l w h).mono ?_
   rintro e w' ⟨k1,k2⟩
   have hcb:kO 0 l=isF dS l:=by simp [kO]
   rw [hcb] at k2
   unfold lW
   by_cases hc:isF dS l=true
   ·simp only [hc,if_true] at k2 ⊢
    by_cases hz:most≤n∧0<l.tail.length
    ·rw [if_pos hz] at k2 ⊢
     exact ⟨k2.1,k1,l.tail,0,2,by decide,k2.2,ν _,by omega⟩
    ·rw [if_neg hz] at k2 ⊢
     exact ⟨k2.1,k1,k2.2⟩
   ·simp only [hc] at k2 ⊢
    exact ⟨k2.1,k1,k2.2⟩
def RLs (B:Nat) (w:World) (xs:List Lp.X) (v:Value):Prop:=∃ A c rs,v=.slice A xs.length c∧w.ownsRow B 60 8 v xs.length (rcv rs)∧RXL (rE B v) w xs rs
theorem Xm (P most:Nat) (o:Option (List Tok)) (w:World) (h:RO P w o) (hm:most≤100) (h1m:1≤most) :
 Calls prog 83 #[.pointer (some ⟨P,0,none⟩),.int .i64 most] w fun e w'=>∃ A n c,e=.returned (.slice A n c)∧But P w w'∧RO P w' ((o.bind (cN (pX 1 0) most)).map (·.2))∧∀ q,o.bind (cN (pX 1 0) most)=some q→RLs w.heap.size w' q.1 (.slice A n c):=by
 cases o with
 | none =>
   refine (Pk P 0 most w h).mono ?_
   rintro e w' ⟨⟨A,n,c,k1⟩,k2,k3⟩
   exact ⟨A,n,c,k1,k2,k3,fun q hq=>by cases hq⟩
 | some l =>
   refine (Pm P most l w h hm h1m).mono ?_
   rintro e w' ⟨k1,k2⟩
   rcases hq:cN (pX 1 0) most l with _|⟨xs,r⟩
   ·rw [hq] at k2
    obtain ⟨⟨A,n,c,k3⟩,k4⟩:=k2
    refine ⟨A,n,c,k3,k1, ?_,fun q hq'=>by rw [Option.bind_some,hq] at hq';cases hq'⟩
    rw [Option.bind_some,hq]
    exact k4
   ·rw [hq] at k2
    obtain ⟨A,c,rs,k3,k4,k5,k6⟩:=k2
    refine ⟨A,_,c,k3,k1, ?_,fun q hq'=>by rw [Option.bind_some,hq] at hq';injection hq' with hq';rw [←hq'];exact ⟨A,c,rs,rfl,k4,k5⟩⟩
    rw [Option.bind_some,hq]
    exact k6
def whO (o:Option (List Tok)):Option (List Tok):=(o.bind whF).map (·.2)
theorem Lf (P:Nat) (o:Option (List Tok)) (w:World) (h:RO P w o) :
 Calls prog 86 #[.pointer (some ⟨P,0,none⟩)] w fun e w'=>(∃ A n c,e=.returned (.slice A n c))∧But P w w'∧RO P w' (whO o):=by
 cases o with
 | none =>
   obtain ⟨l,d,bd,h1,h2,h3,h4⟩:=h
   refine (wL P d bd l w h2 (by simp [h1])).mono ?_
   rintro e w' ⟨k1,k2,k3⟩
   exact ⟨⟨_,_,_,k1⟩,k2,l,d,bd,h1,k3,h3,h4⟩
 | some l =>
   cases hf:isF Dh l with
   | false =>
     refine (wL P 0 0 l w h (by simp [hf])).mono ?_
     rintro e w' ⟨k1,k2,k3⟩
     refine ⟨⟨_,_,_,k1⟩,k2, ?_⟩
     rw [show whO (some l)=some l by unfold whO;rw [Option.bind_some,whF,hf];rfl]
     exact k3
   | true =>
     refine (tD P l w h hf).mono ?_
     rintro e w' ⟨g,rr,k1,k2,k3,k4,k5⟩
     refine ⟨⟨_,_,_,k1⟩,k2, ?_⟩
     rw [show whO (some l)=(pX 1 0 l.tail).map (·.2) by unfold whO;rw [Option.bind_some,whF,if_pos hf,Option.map_map];rfl]
     rcases hq:pX 1 0 l.tail with _|⟨x,r⟩
     ·rw [hq] at k5;exact k5
     ·rw [hq] at k5;exact k5.2
def puts (w:World) (g:Nat):List Value→Nat→World
 | [],_=>w
 | v::vs,k=>puts (w.setCell ⟨g,k,none⟩ v) g vs (k+1)
theorem mY {g j:Nat} (h:j≠g):∀ (vs:List Value) (k:Nat) (w:World),(puts w g vs k).heap[j]? = w.heap[j]?
 | [],_,_=>rfl
 | v::vs,k,w=>(mY h vs (k+1) _).trans (Below.heap_setCell w ⟨g,k,none⟩ v j h)
theorem jB {g B:Nat} (hg:B≤g) {a:World}:∀ (vs:List Value) (k:Nat) (w:World),Below B a w→Below B a (puts w g vs k)
 | [],_,_,h=>h
 | v::vs,k,_,h=>jB hg vs (k+1) _ (h.setCell (p:=⟨g,k,none⟩) hg v)
theorem kH {g:Nat} {t:TypeId}:∀ (vs:List Value) (k:Nat) (w:World) (cs:List Value),w.heap[g]? = some (.cells cs.toArray t (0,0))→cs.length=k+vs.length→(puts w g vs k).heap[g]? = some (.cells (cs.take k++vs).toArray t (0,0))
 | [],k,w,cs,h,hl=>by
   rw [List.append_nil,List.take_of_length_le (by simp at hl;omega)];exact h
 | v::vs,k,w,cs,h,hl=>by
   have h1:=heap_setCell_same w g k _ _ v h
   rw [List.setIfInBounds_toArray] at h1
   have h2:=kH vs (k+1) _ (cs.set k v) h1 (by simp at hl ⊢;omega)
   have hk:k<cs.length:=by simp at hl;omega
   rw [show (cs.set k v).take (k+1)=cs.take k++[v] by
    rw [List.take_succ_eq_append_getElem (by simpa using hk),List.take_set_of_le (ν _)];simp,List.append_assoc] at h2
   exact h2
structure SS (B P:Nat) (w0 w:World) (o:Option (List Tok)) (cs:List Value):Prop where
 b:But P w0 w
 z:w.heap[B]? = some (.cells stZ.toArray 38 (0,0))
 x:w.heap[B+1]? = some (.cells cs.toArray 38 (0,0))
 p:RO P w o
theorem SS.next {B P:Nat} {w0 w w':World} {o o':Option (List Tok)} {cs:List Value} (h:SS B P w0 w o cs) (hb:But P w w') (hp:RO P w' o'):SS B P w0 w' o' cs :=
 ⟨h.b.trans hb,aO hb h.z (h.p.box h.z (by decide)),aO hb h.x (h.p.box h.x (by decide)),hp⟩
theorem RO.puts {P g:Nat} {w:World} {o:Option (List Tok)} (h:RO P w o) (hP:P<g) (vs:List Value) (k:Nat):RO P (puts w g vs k) o:=h.low hP (jB (ν _) vs k w (θ))
theorem But.puts {P g:Nat} {a:World} (hg:a.heap.size≤g):∀ (vs:List Value) (k:Nat) (w:World),But P a w→But P a (puts w g vs k)
 | [],_,_,h=>h
 | v::vs,k,_,h=>But.puts hg vs (k+1) _ (bK h hg k v)
theorem SS.puts {B P:Nat} {w0 w:World} {o:Option (List Tok)} {cs:List Value} (h:SS B P w0 w o cs) (hB:w0.heap.size≤B) (hP:P<B) (vs:List Value) (hl:cs.length=vs.length):SS B P w0 (puts w (B+1) vs 0) o vs :=
 ⟨But.puts (by omega) vs 0 w h.b,(mY (by omega) vs 0 w).trans h.z,by simpa using kH vs 0 w cs h.x (by omega),h.p.puts (by omega) vs 0⟩
theorem SS.set {B P:Nat} {w0 w:World} {o:Option (List Tok)} {cs:List Value} (h:SS B P w0 w o cs) (hB:w0.heap.size≤B) (hP:P<B) (j:Nat) (v:Value):SS B P w0 (w.setCell ⟨B+1,j,none⟩ v) o (cs.set j v):=by
 refine ⟨bK h.b (by omega) _ _,(Below.heap_setCell w ⟨B+1,j,none⟩ v B (by show B≠B+1;omega)).trans h.z, ?_,h.p.low (B:=B+1) (by omega) ((θ).setCell (p:=⟨B+1,j,none⟩) (ν _) v)⟩
 have:=heap_setCell_same w (B+1) j _ _ v h.x
 rwa [List.setIfInBounds_toArray] at this
theorem SS.low {B P B2:Nat} {w0 w w':World} {o:Option (List Tok)} {cs:List Value} (h:SS B P w0 w o cs) (hB:w0.heap.size≤B2) (h2:B+2≤B2) (hP:P<B) (hb:Below B2 w w'):SS B P w0 w' o cs :=
 ⟨h.b.lowr (hb.mono hB),(hb.block B (by omega)).trans h.z,(hb.block (B+1) (by omega)).trans h.x,h.p.low (by omega) hb⟩
theorem SS.new (P:Nat) (w:World) (o:Option (List Tok)) (cs:List Value) (h:RO P w o):SS w.heap.size P w ((w.alloc (.cells stZ.toArray 38)).alloc (.cells cs.toArray 38)) o cs:=by
 have hb:Below w.heap.size w ((w.alloc (.cells stZ.toArray 38)).alloc (.cells cs.toArray 38)):=(ρ).alloc (by simp) _
 refine ⟨But.of hb,aC (heap_alloc_new w _) _, ?_,h.below hb⟩
 have:=heap_alloc_new (w.alloc (.cells stZ.toArray 38)) (.cells cs.toArray 38)
 rwa [World.size_alloc] at this
theorem SS.cells {B P:Nat} {w0 w:World} {o:Option (List Tok)} {cs:List Value} (h:SS B P w0 w o cs):(∀ j,w.cell? ⟨B,j,none⟩=stZ.toArray[j]?)∧(∀ j,w.cell? ⟨B+1,j,none⟩=cs.toArray[j]?)∧(∀ j,w.frozen? ⟨B,j,none⟩=false)∧∀ j,w.frozen? ⟨B+1,j,none⟩=false :=
 ⟨β h.z,β h.x,fun j=>frozen_of_row w _ j _ _ h.z,fun j=>frozen_of_row w _ j _ _ h.x⟩
def RW (P:Nat) (w:World) (n:Nat):Prop:=∃ o,Ol o≤n∧RO P w o
theorem RW.low {P B n:Nat} {w w':World} (h:RW P w n) (hP:P<B) (hb:Below B w w'):RW P w' n:=by
 obtain ⟨o,h1,h2⟩:=h;exact ⟨o,h1,h2.low hP hb⟩
theorem RW.lt {P n:Nat} {w:World} (h:RW P w n):P<w.heap.size:=by obtain ⟨o,h1,h2⟩:=h;exact h2.lt
theorem RW.below {P n:Nat} {w w':World} (h:RW P w n) (hb:Below w.heap.size w w'):RW P w' n:=h.low h.lt hb
theorem RW.mono {P n m:Nat} {w:World} (h:RW P w n) (hm:n≤m):RW P w m:=by obtain ⟨o,h1,h2⟩:=h;exact ⟨o,Nat.le_trans h1 hm,h2⟩
theorem RW.box {w:World} {P g n:Nat} {cs:Array Value} {t:TypeId} (hp:RW P w n) (hg:w.heap[g]? = some (.cells cs t (0,0))) (ht:t≠108):g≠P:=by
 obtain ⟨o,h1,h2⟩:=hp;exact h2.box hg ht
theorem RW.own {w w':World} {P B k size n:Nat} {e:TypeId} {v:Value} {xs:List Value} (hp:RW P w n) (h:w.ownsRow B e size v k xs) (hb:But P w w') (he:e≠108):w'.ownsRow B e size v k xs:=by
 obtain ⟨o,h1,h2⟩:=hp;exact h2.own h hb he
theorem RW.of {P:Nat} {w:World} {o:Option (List Tok)} (h:RO P w o):RW P w 2000:=⟨o,h.len,h⟩
theorem pM {α:Type} {o:Option (List Tok)} {f:List Tok→Option (α×List Tok)} (hf:∀ l x r,f l=some (x,r)→r.length≤l.length):Ol ((o.bind f).map (·.2))≤Ol o:=by
 cases o with
 | none=>exact Nat.zero_le _
 | some l =>
   rw [Option.bind_some]
   rcases h:f l with _|⟨x,r⟩
   ·exact Nat.zero_le _
   ·exact hf l x r h
def WP (P:Nat) (w:World) (n:Nat) (V:Value→Prop) (e:Ending) (w':World):Prop:=∃ v,e=.returned v∧V v∧But P w w'∧RW P w' n
theorem lM {P n:Nat} (s:ByteArray) {w:World} (h:RW P w n):Calls prog 34 #[.pointer (some ⟨P,0,none⟩),.string s] w (WP P w n fun v=>∃ b,v=.bool b):=by
 obtain ⟨o,h1,h2⟩:=h
 refine (gK P o s w h2 _ rfl).mono ?_
 rintro e w' ⟨k1,k2,k3⟩
 refine ⟨_,k1,⟨_,rfl⟩,k2,_, ?_,k3⟩
 cases Iu s.data.toList o
 ·exact h1
 ·cases o with
  | none=>exact h1
  | some l=>exact Nat.le_trans (bL l).length_le h1
theorem mF {P n:Nat} (s:ByteArray) {w:World} (h:RW P w n):Calls prog 81 #[.pointer (some ⟨P,0,none⟩),.string s] w (WP P w n fun v=>v=.tuple #[]):=by
 obtain ⟨o,h1,h2⟩:=h
 refine (tZ P o s w h2).mono ?_
 rintro e w' ⟨k1,k2,k3⟩
 refine ⟨_,k1,rfl,k2,_, ?_,k3⟩
 cases o with
 | none=>exact Nat.zero_le _
 | some l =>
   rw [Option.bind_some]
   rcases hq:aE s.data.toList l with _|r
   ·exact Nat.zero_le _
   ·exact Nat.le_trans (aR hq).length_le h1
theorem Cl {P n:Nat} (c:Int) (hc:c≠0) {w:World} (h:RW P w n):Calls prog 35 #[.pointer (some ⟨P,0,none⟩),.int .i64 c] w (WP P w n fun v=>v=.tuple #[]):=by
 obtain ⟨o,h1,h2⟩:=h
 refine (Xn P o c hc w h2).mono ?_
 rintro e w' ⟨k1,k2,k3⟩
 exact ⟨_,k1,rfl,k2,none,Nat.zero_le _,k3⟩
theorem nB {P n:Nat} {w:World} (h:RW P w n):Calls prog 80 #[.pointer (some ⟨P,0,none⟩)] w (WP P w n fun v=>∃ s,v=.string s):=by
 obtain ⟨o,h1,h2⟩:=h
 refine (Gn P o w h2).mono ?_
 rintro e w' ⟨nm,k1,k2,k3, -⟩
 exact ⟨_,k1,⟨_,rfl⟩,k2,_,Nat.le_trans (pM fun l x r h=>(bU h).length_le) h1,k3⟩
theorem Qn {P n:Nat} {w:World} (h:RW P w n):Calls prog 85 #[.pointer (some ⟨P,0,none⟩),.int .i64 1] w (WP P w n fun v=>∃ rr:RC,v=rr.val):=by
 obtain ⟨o,h1,h2⟩:=h
 refine (Xo P o w h2).mono ?_
 rintro e w' ⟨nm,k1,k2,k3, -⟩
 exact ⟨_,k1,⟨_,rfl⟩,k2,_,Nat.le_trans (pM fun l x r h=>(fS h).length_le) h1,k3⟩
theorem aAK {P n:Nat} (most:Nat) (hm:most≤100) (h1m:1≤most) {w:World} (h:RW P w n):Calls prog 83 #[.pointer (some ⟨P,0,none⟩),.int .i64 most] w (WP P w n fun v=>∃ A k c,v=.slice A k c):=by
 obtain ⟨o,h1,h2⟩:=h
 refine (Xm P most o w h2 hm h1m).mono ?_
 rintro e w' ⟨A,k,c,k1,k2,k3, -⟩
 exact ⟨_,k1,⟨_,_,_,rfl⟩,k2,_,Nat.le_trans (pM fun l x r h=>(jX (yV 1 0) most _ _ _ _ _ h).2.length_le) h1,k3⟩
theorem Sp {l r:List Tok} {x:Option Lp.X} (h:whF l=some (x,r)):r <:+ l:=by
 unfold whF at h
 split at h
 ·obtain ⟨⟨y,r1⟩,h1,h2⟩:=Option.map_eq_some_iff.1 h
  simp only [Prod.mk.injEq] at h2
  rw [←h2.2];exact (fS h1).trans (bL l)
 ·simp only [Option.some.injEq,Prod.mk.injEq] at h
  rw [←h.2];exact List.suffix_refl l
theorem Le {P n:Nat} {w:World} (h:RW P w n):Calls prog 86 #[.pointer (some ⟨P,0,none⟩)] w (WP P w n fun v=>∃ A k c,v=.slice A k c):=by
 obtain ⟨o,h1,h2⟩:=h
 refine (Lf P o w h2).mono ?_
 rintro e w' ⟨⟨A,k,c,k1⟩,k2,k3⟩
 exact ⟨_,k1,⟨_,_,_,rfl⟩,k2,_,Nat.le_trans (pM fun l x r h=>(Sp h).length_le) h1,k3⟩
theorem Pb {P n:Nat} (k most:Nat) {w:World} (h:RW P w n):Calls prog 84 #[.pointer (some ⟨P,0,none⟩),.int .i64 k,.int .i64 most] w fun e w'=>But P w w'∧(e=.returned (.bool false)∧RW P w' n∨e=.returned (.bool true)∧∃ m,m+1=n∧RW P w' m):=by
 obtain ⟨o,h1,h2⟩:=h
 refine (Pc P k most o w h2).mono ?_
 rintro e w' ⟨k1,k2,k3⟩
 refine ⟨k2, ?_⟩
 cases o with
 | none=>exact .inl ⟨k1,none,Nat.zero_le _,k3⟩
 | some l =>
   unfold lW at k1 k3
   by_cases hc:isF dS l=true
   ·simp only [hc,if_true] at k1 k3
    have:=bB hc
    have h1':l.length≤n:=h1
    by_cases hz:most≤k∧0<l.tail.length
    ·rw [if_pos hz] at k1 k3
     exact .inl ⟨k1,none,Nat.zero_le _,k3⟩
    ·rw [if_neg hz] at k1 k3
     exact .inr ⟨k1,n-1,by omega,some l.tail,by show l.tail.length≤n-1;omega,k3⟩
   ·simp only [hc] at k1 k3
    exact .inl ⟨k1,some l,h1,k3⟩
theorem But.box {P g n:Nat} {w w':World} {cs:Array Value} {t:TypeId} (hb:But P w w') (hp:RW P w n) (hg:w.heap[g]? = some (.cells cs t (0,0))) (ht:t≠108):w'.heap[g]? = some (.cells cs t (0,0)):=aO hb hg (hp.box hg ht)
