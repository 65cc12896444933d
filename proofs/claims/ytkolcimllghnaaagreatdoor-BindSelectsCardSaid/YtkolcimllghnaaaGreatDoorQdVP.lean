/-
 Contracts. Conditions: those of each.
-/
import Derived.Test.YtkolcimllghnaaaGreatDoorQdGF
import Derived.Test.YtkolcimllghnaaaGreatDoorQdVD
set_option maxRecDepth 100000
set_option maxHeartbeats 8000000
namespace Go.Proofs.YtkolcimllghnaaaGreatDoor
open Lp Go.Proofs.Tryz
open Go.RowKit
variable{sc:List Tb}{x:Lp.X}{w w':World}
def tS (sc:List Tb) (x:Lp.X):Int:=if (aC sc x false).2=0 then (if fitK (aC sc x false).1 3 then 0 else 8) else (aC sc x false).2
def Ep (sc:List Tb) (x:Lp.X) (w:World) (e:Ending) (w':World):Prop :=
 Below w w w'∧if tS sc x=0 then ∃ g,e=.returned (.tuple #[ptr g,.int .i64 0])∧NT (λk=>w.heap.size≤k) w' sc x g else e=.returned (.tuple #[.pointer none,.int .i64 (tS sc x)])
theorem Tm {E:Int} (h:tS sc x=E) (h0:E≠0) (hb:Below w w w'):Ep sc x w (.returned (.tuple #[.pointer none,.int .i64 E])) w':=by
 subst h;exact ⟨hb,by rw [if_neg h0]⟩
theorem aBR {g:Nat} (h:tS sc x=0) (hb:Below w w w') (hn:NT (λk=>w.heap.size≤k) w' sc x g):Ep sc x w (.returned (.tuple #[ptr g,.int .i64 0])) w' :=
 ⟨hb,by rw [if_pos h];exact ⟨g,rfl,hn⟩⟩
theorem Ah (A:ZT) (c:Nat) (sc:List Tb) (x:Lp.X) (T:TypeId) (g0:Nat) (w:World) (hn:sc.length≤100) (hw:bY sc≤10000) (hx:x.wf) (hp:PX 0 w x (.iface T g0)) (hS:ScM w A sc) :
 Calls prog 46 #[.slice A sc.length c,.iface T g0] w (Ep sc x w):=by
 have HB:=κ (tJ A c sc false x _ w hn hw hx hp hS);clear hn hw hx hp hS;go_enter func46,ntmps46;go_wp2_with fail;refine μ HB ?_;rintro e w1 ⟨hb1,hr⟩;have HB1:=κ hb1
 by_cases hk:(aC sc x false).2=0
 ·rw [if_pos hk] at hr;obtain ⟨g,rfl,hnt⟩:=hr;have HN:=κ hnt;obtain ⟨op,v,a,An,n,cn,hc⟩:=hnt.kind hk;have HF:=κ (yL g op _ v a An n cn 3 w1 hc);have HT:Hd0 (tS sc x=if fitK (aC sc x false).1 3 then 0 else 8):=by show _=_;unfold tS;rw [if_pos hk]
  generalize fitK (aC sc x false).1 3=b at *;clear hnt hc hb1 hk HB;unfold ptr at HF |-;go_wp2_with fail;refine μ HF ?_;rintro e w2 ⟨rfl,rfl⟩;cases b
  ·go_wp2;go_ret2;exact Tm HT.o am HB1.o
  ·go_wp2;go_ret2;exact aBR HT.o HB1.o HN.o
 ·rw [if_neg hk] at hr;subst hr;have HT:Hd0 (tS sc x=(aC sc x false).2):=by show _=_;unfold tS;rw [if_neg hk]
  have HK:=κ hk;have e1:((aC sc x false).2==0)=false:=η hk;generalize (aC sc x false).2=E at *;clear hb1 HB hk;go_wp2;go_ret2;exact Tm HT.o HK.o HB1.o
theorem Af (A:ZT) (n c:Nat) (w:World):Calls prog 46 #[.slice A n c,.nilIface] w λe w'=>e=.returned (.tuple #[.pointer none,.int .i64 0])∧w=w':=by
 go_enter func46,ntmps46;go_wp2;go_ret2;exact cm
def QQ (K:Act->World->Prop):Exit->Act->World->Prop
 | .normal,a,w=>K a w
 | _,_,_=>False
theorem xP {P:Program} {c:Code} {Q:Exit->Act->World->Prop} {a:Act} (h:Code.wp P c (QQ λa w=>Q .normal a w) a w):Code.wp P c Q a w :=
 Code.wp_mono (λe _ _ h=>by cases e<;>first|exact h|exact h.elim) h
def Et (P:Nat) (w:World) (q:Option (ZS×List (List Lp.X)×ZW)) (e:Ending) (w':World):Prop :=
 But P w w'∧match q with
 | none=>∃ c,e=aT c∧c≠0
 | some (t,rows,r)=>∃ gi A c vs,e=.returned (.iface 41 (.pointer (some ⟨gi,0,none⟩)))∧w.heap.size≤gi∧w'.heap[gi]? = some (.cells #[t,.slice A rows.length c] 44 (0,0)) ∧
  w'.ownsRow w 45 1 (.slice A rows.length c) rows.length vs∧RowsX w w' rows vs∧PS w' P r 0
theorem tA {P:Nat} {q:Option (ZS×List (List Lp.X)×ZW)} {c:Int} (hb:But P w w') (hq:q=none) (hc:c≠0):Et P w q (aT c) w':=by
 subst hq;exact mu
theorem aEU:∀ args w,Sem.run prog (callFunc 122 args) w=.ok (.enter 122 args) w:=λ_ _=>rfl
theorem Rv (P bp bx gi:Nat) (t:ZS) (l0 l:ZW) (w0 w:World) (hR0:Resv w0) (hp0:PS w0 P l0 0) (hgi:w0.heap.size≤gi) (hne:gi≠bp) (hnx:gi≠bx) (hi:II P bp bx gi t w0 [] w) (hp:PS w P l 0) (hs:Lsane l) :
 Calls prog 120 #[P,.int .i64 64,.func (.func 122) #[] #[bp,bx]]
  w (EachPost P (II P bp bx gi t w0) (RJ P w0) (dO rB 64 l)) :=
 mE rB Zg aCR 64 ac ac _ aEU #[bp,bx] P (II P bp bx gi t w0) (RJ P w0) (λ_ _ h=>h.but) (λ_ _ h k=>But.trans h k) (λ_ _ _ _ h hp hb=>h.next hp hb)
  (λacc l' w' ha hi hp' hs'=>Vw P bp bx gi 0 t l0 w0 hR0 hp0 hgi hne hnx acc l' w' ha hi hp' hs') l w hi hp hs
theorem Ln (P:Nat) (l:ZW) (w:World) (h:PS w P l 0) (hs:Lsane l) (hR:Resv w) :
 Calls prog 66 #[P] w (Et P w (yH l)):=by
 have hb0:=nk;have hx0:=ns;have HNe:=κ (bQ P 0 Ti l _ (h.below hb0));have H0:=pu;clear h hs hR hb0 hx0;go_enter func66,ntmps66;go_wp2_with fail;rw [World.size_alloc] at HNe;refine μ HNe ?_;rintro e w1 hn;rcases hq1:aD Ti l with _|r1
 ·obtain ⟨rfl,hb1⟩:=hn.no hq1;have HN:=κ (show yH l=none by rw [yH,hq1]);have HB:=κ (H0.o.2.2.2.1.trans hb1);clear hq1 hn HNe hb1;unfold aT;go_wp2;exact ⟨rfl,tA HB.o HN.o am⟩
 ·obtain ⟨rfl,hb1,hp1⟩:=hn.yes hq1;have hbw1:=H0.o.2.2.2.1.trans hb1;have hx1:=pv;have hR1:=H0.o.2.2.1.but H0.o.1 hbw1;have hs1:=H0.o.2.1.sfx (aU hq1);have c1:=oa;have HNm:=κ (eD P 0 r1 w1 hp1 hR1);have H1:=κ (ι hbw1 (ι hx1 (ι hs1 (ι hp1 hq1))));clear hn hq1 hb1 hbw1 hx1 hR1 hs1 hp1 HNe;go_wp2_with fail;refine μ HNm ?_;rintro e w2 ⟨hb2,hq2⟩;rcases hq:bB r1 with _|⟨t,r2⟩
  ·rw [hq] at hq2;obtain ⟨ce,rfl,hce⟩:=hq2;have HN:=κ (show yH l=none by rw [yH,H1.o.2.2.2.2];simp only [hq]);have HB:=pw;clear hq hb2;unfold aT;go_wp2;exact ⟨rfl,tA HB.o HN.o hce⟩
  ·rw [hq] at hq2;obtain ⟨rfl,hp2⟩:=hq2;have hx2:=aM H1.o.2.1 hb2 H1.o.2.2.2.1 am;have hs2:=H1.o.2.2.1.sfx (bZ hq);have hb3:Below w2 w2 ((w2.alloc (.cells #[t,.slice none 0 0] 44)).alloc (.cells #[w2] 41)):=(ρ).alloc aa _;have hg3:=aB (heap_alloc_new w2 (.cells #[t,.slice none 0 0] 44)) (.cells #[w2] 41);have hv3:=bG w2 (.cells #[t,.slice none 0 0] 44) (.cells #[w2] 41);have hbx3:=aA hx2 hb3;have c3:=β hbx3 0;have hz:=(H1.o.1.trans hb2).size;have hlt2:=aG hx2;have HN3:=κ (bQ P 0 Cl r2 _ (hp2.below hb3));have H3:=κ (ι ((H1.o.1.trans hb2).trans (But.of hb3)) (ι hg3 (ι hv3 (ι hbx3 (ι (hp2.below hb3) (ι hs2 (ι hq (ι hz hlt2))))))));clear hq hb2 hp2 hx2 hs2 hb3 hg3 hv3 hbx3 HNm hlt2 hz;rw [World.size_alloc,World.size_alloc] at HN3;go_wp2_with fail;refine μ HN3 ?_;rintro e w4 hn;rcases hq4:aD Cl r2 with _|r3
   ·obtain ⟨rfl,hb4⟩:=hn.no hq4;have HN:=κ (show yH l=none by rw [yH,H1.o.2.2.2.2];simp only [H3.o.2.2.2.2.2.2.1,hq4]);have HB:=κ (H3.o.1.trans hb4);clear hq4 hn HN3 hb4;unfold aT;go_wp2;exact ⟨rfl,tA HB.o HN.o am⟩
   ·obtain ⟨rfl,hb4,hp4⟩:=hn.yes hq4;have hbp4:=py;have hi4:II P w (w2+1) w2 t w [] w4:=⟨H3.o.1.trans hb4,hbp4,aM H3.o.2.2.1 hb4 H3.o.2.2.2.2.1 am,none,0,[],aM H3.o.2.1 hb4 H3.o.2.2.2.2.1 am,World.ownsRow_nil _ _ _ _,trivial⟩;have HE:=κ (Rv P w (w2+1) w2 t l r3 w w4 H0.o.2.2.1 H0.o.1 H3.o.2.2.2.2.2.2.2.1 (Nat.ne_of_gt H3.o.2.2.2.2.2.2.2.2) ac hi4 hp4 (H3.o.2.2.2.2.2.1.sfx (aU hq4)));have c4:=β hbp4 0;have HQ4:=κ hq4;clear hn hq4 hb4 hp4 hbp4 hi4 HN3 c3 c1;go_wp2_with fail;refine μ HE ?_;rintro e w5 hn;rcases hq5:dO rB 64 r3 with _|⟨rows,r4⟩
    ·rw [hq5] at hn;obtain ⟨ce,rfl,hc,hj⟩:=hn;have HN:=κ (show yH l=none by rw [yH,H1.o.2.2.2.2];simp only [H3.o.2.2.2.2.2.2.1,HQ4.o,hq5];rfl);have HB:=κ (ι hc hj);clear hq5 hc hj HE;unfold aT;go_wp2;exact ⟨rfl,tA HB.o.2 HN.o HB.o.1⟩
    ·rw [hq5] at hn;obtain ⟨rfl,hp5,hi5⟩:=hn;have HN:=κ (show yH l=some (t,rows,r4) by rw [yH,H1.o.2.2.2.2];simp only [H3.o.2.2.2.2.2.2.1,HQ4.o,hq5];rfl);obtain ⟨A,c,vs,k1,k2,k3⟩:=hi5.rows;have HB:=κ (ι hi5.but (ι H3.o.2.2.2.2.2.2.2.1 (ι k1 (ι k2 (ι k3 hp5)))));have c5:=β hi5.hbx 0;clear hq5 hp5 hi5 k1 k2 k3 HE;go_wp2;go_ret;refine ⟨HB.o.1, ?_⟩;rw [HN.o];exact ⟨_,A,c,vs,rfl,HB.o.2.1,HB.o.2.2.1,HB.o.2.2.2.1,HB.o.2.2.2.2.1,HB.o.2.2.2.2.2⟩
def aE (l:List dW):List Tb:=l.map (·.1)
theorem ScA.scm {A:ZT} {l:List dW} (h:ScA w A l):ScM w A (aE l):=⟨l,rfl,h.1,λp hp=>(h.2 p hp).2.1⟩
theorem pG (l:List dW):(aE l).length=l.length:=by simp [aE]
