/-
 Contracts. Conditions: those of each.
-/
import Derived.Test.YtkolcimllghnaaaGreatDoorQbZC
set_option maxRecDepth 100000
set_option maxHeartbeats 8000000
namespace Go.Proofs.YtkolcimllghnaaaGreatDoor
open Lp Go.Proofs.Tryz
open Go.RowKit
def rX:List UInt8:=[99,114,101,97,116,101]
def Fz:List UInt8:=[100,114,111,112]
def rW:List UInt8:=[115,101,108,101,99,116]
def Di:List UInt8:=[98,101,103,105,110]
def xK:List UInt8:=[99,111,109,109,105,116]
def qG:List UInt8:=[114,111,108,108,98,97,99,107]
def aBK (t:List UInt8) (rows:List (List Lp.X)) (B:Nat) (w:World) (T:TypeId) (g:Nat):Prop:=T=41∧B≤g∧∃ A c vs,w.heap[g]? = some (.cells #[.string ⟨t.toArray⟩,.slice A rows.length c] 44 (0,0))∧w.ownsRow B 45 1 (.slice A rows.length c) rows.length vs∧RowsX B w rows vs
def aBJ (t:List UInt8) (ss:List (List UInt8×Lp.X)) (B:Nat) (w:World) (T:TypeId) (g:Nat):Prop:=T=61∧B≤g∧∃ A c vs v,w.heap[g]? = some (.cells #[.string ⟨t.toArray⟩,.slice A ss.length c,v] 68 (0,0))∧w.ownsRow B 129 2 (.slice A ss.length c) ss.length vs∧SetsX B w ss vs
def StK (l:List Tok) (B:Nat) (w:World) (T:TypeId) (g:Nat):Prop :=
 if isF cE l then (match gT l.tail with
  | none=>False
  | some p=>aBK p.1 p.2.1 B w T g) else if isF cC l then (match gN l.tail with
  | none=>False
  | some p=>aBJ p.1 p.2.1 B w T g) else nM T=true
def StR (l:List Tok) (q:Option (List Tok)):Prop:=(isF cE l=true→q=(gT l.tail).map fun p=>p.2.2)∧(isF cC l=true→q=(gN l.tail).map fun p=>p.2.2.2)
def StP (P:Nat) (w:World) (l:List Tok) (e:Ending) (w':World):Prop:=∃ q,StR l q∧aAT P w (StK l) q e w'
theorem StP.form {P:Nat} {w w':World} {l:List Tok} {e:Ending} (h:StP P w l e w'):(∃ c,e=aV c)∨∃ T g,e=.returned (.iface T (.pointer (some ⟨g,0,none⟩))):=by
 obtain ⟨q, -, -,h⟩:=h
 cases q with
 | none=>obtain ⟨c,h, -⟩:=h;exact .inl ⟨c,h⟩
 | some r=>obtain ⟨T,g,h, -⟩:=h;exact .inr ⟨T,g,h⟩
theorem wH {P:Nat} {w w1 w':World} {l:List Tok} {e:Ending} (hb:But P w w1) (h1:isF cE l=false) (h2:isF cC l=false) (h:WkPost P w1 e w'):StP P w l e w':=by
 obtain ⟨hb2,h⟩:=h
 rcases h with ⟨c,hc,h0⟩|⟨T,g,r,he,hT,hp, -⟩
 ·exact ⟨none,⟨(fun h=>by rw [h1] at h;cases h),(fun h=>by rw [h2] at h;cases h)⟩,hb.trans hb2,c,hc,h0⟩
 ·exact ⟨some r,⟨(fun h=>by rw [h1] at h;cases h),(fun h=>by rw [h2] at h;cases h)⟩,hb.trans hb2,T,g,he,by rw [StK,h1,h2];exact hT,hp⟩
theorem kJ {w:World} {B B' n size:Nat} {e:TypeId} {v:Value} {xs:List Value} (hB:B'≤B) (h:w.ownsRow B e size v n xs):w.ownsRow B' e size v n xs :=
 ⟨h.1,h.2.imp id fun ⟨g,cap,cur,h1,h2,h3⟩=>⟨g,cap,cur,h1,Nat.le_trans hB h2,h3⟩⟩
theorem RowsX.mono {B B':Nat} (hB:B'≤B) {w:World}:∀ {xs:List (List Lp.X)} {vs:List Value},RowsX B w xs vs→RowsX B' w xs vs
 | [],[],_=>trivial
 | [],_::_,h=>h.elim
 | _::_,[],h=>h.elim
 | _::_,_::_,⟨h1,h2⟩=>⟨h1.mono hB,RowsX.mono hB h2⟩
theorem SetsX.mono {B B':Nat} (hB:B'≤B) {w:World}:∀ {xs:List (List UInt8×Lp.X)} {vs:List Value},SetsX B w xs vs→SetsX B' w xs vs
 | [],[],_=>trivial
 | [],_::_,h=>h.elim
 | _::_,[],h=>h.elim
 | _::_,[_],h=>h.elim
 | _::_,_::_::_,⟨h1,h2,h3⟩=>⟨h1,⟨h2.1,PX.mono hB h2.2⟩,SetsX.mono hB h3⟩
theorem Yd {P:Nat} {w w1 w':World} {l:List Tok} {e:Ending} (hb:But P w w1) (h1:isF cE l=true) (h:zN P w1 (gT l.tail) e w'):StP P w l e w':=by
 have h2:isF cC l=false:=aT h1 (by decide)
 obtain ⟨hb2,h⟩:=h
 refine ⟨_,⟨(fun _=>rfl),(fun h=>by rw [h2] at h;cases h)⟩,hb.trans hb2, ?_⟩
 have hs:=hb.size
 rcases hq:gT l.tail with _|⟨t,rows,r⟩
 ·rw [hq] at h;exact h
 ·rw [hq] at h
  obtain ⟨g,A,c,vs,k1,k2,k3,k4,k5,k6⟩:=h
  refine ⟨_,g,k1, ?_,k6⟩
  simp only [StK,h1,if_true,hq]
  exact ⟨rfl,Nat.le_trans hs k2,A,c,vs,k3,kJ hs k4,k5.mono hs⟩
theorem Yc {P:Nat} {w w1 w':World} {l:List Tok} {e:Ending} (hb:But P w w1) (h2:isF cC l=true) (h:zK P w1 (gN l.tail) e w'):StP P w l e w':=by
 have h1:isF cE l=false:=aT h2 (by decide)
 obtain ⟨hb2,h⟩:=h
 refine ⟨_,⟨(fun h=>by rw [h1] at h;cases h),(fun _=>rfl)⟩,hb.trans hb2, ?_⟩
 have hs:=hb.size
 rcases hq:gN l.tail with _|⟨t,ss,x,r⟩
 ·rw [hq] at h;exact h
 ·rw [hq] at h
  obtain ⟨g,A,c,vs,v,k1,k2,k3,k4,k5,k6⟩:=h
  refine ⟨_,g,k1, ?_,k6⟩
  simp only [StK,h1,h2,if_true,hq]
  exact ⟨rfl,Nat.le_trans hs k2,A,c,vs,v,k3,kJ hs k4,k5.mono hs⟩
theorem Xs {P:Nat} {w w':World} {l:List Tok} {e:Ending} (hs:Lsane l) (h:sG P w (lE l) e w'):WkPost P w e w':=by
 obtain ⟨hb,h⟩:=h
 rcases hq:lE l with _|⟨n,x,r⟩
 ·rw [hq] at h;exact ⟨hb,.inl h⟩
 ·rw [hq] at h
  obtain ⟨g,v,k1, -, -, -,k2⟩:=h
  have hr:r <:+ l:=by
   unfold lE at hq
   rcases h1:aE Fy l with _|r1
   ·rw [h1] at hq;cases hq
   ·rw [h1] at hq
    simp only at hq
    rcases h2:aZ r1 with _|⟨m,r2⟩
    ·rw [h2] at hq;cases hq
    ·rw [h2] at hq
     simp only at hq
     rcases h3:fR r2 with _|⟨y,r3⟩
     ·rw [h3] at hq;cases hq
     ·rw [h3] at hq
      simp only [Option.some.injEq,Prod.mk.injEq] at hq
      obtain ⟨-, -,rfl⟩:=hq
      exact ((Lg h3).trans (bU h2)).trans (aR h1)
  exact ⟨hb,.inr ⟨_,g,r,k1,by decide,k2,hs.sfx hr⟩⟩
theorem Dx {P:Nat} {w w1:World} {l r:List Tok} (T:TypeId) (ob:Obj) (hb:But P w w1) (hp:PS w1 P r 0) (hs:Lsane r) (h1:isF cE l=false) (h2:isF cC l=false) (hT:nM T=true):StP P w l (.returned (.iface T (.pointer (some ⟨w1.heap.size,0,none⟩)))) (w1.alloc ob) :=
 wH hb h1 h2 (WkPost.ok (But.alloc P w1 ob) hT (hp.below ((θ).alloc (ν _) ob)) hs)
theorem Mh (P:Nat) (l:List Tok) (w:World) (h:PS w P l 0) (hs:Lsane l) (hR:Resv w) :
 Calls prog 29 #[.pointer (some ⟨P,0,none⟩)] w (StP P w l):=by
 have I0:=κ (fun (w':World) (b:Bool) (hp:PS w' P l 0) (hb:isF rX l=b)=>bM P 0 l ⟨#[99,114,101,97,116,101]⟩ w' hp b hb)
 have I1:=κ (fun (w':World) (b:Bool) (hp:PS w' P l 0) (hb:isF Fz l=b)=>bM P 0 l ⟨#[100,114,111,112]⟩ w' hp b hb)
 have I2:=κ (fun (w':World) (b:Bool) (hp:PS w' P l 0) (hb:isF cE l=b)=>bM P 0 l ⟨#[105,110,115,101,114,116]⟩ w' hp b hb)
 have I3:=κ (fun (w':World) (b:Bool) (hp:PS w' P l 0) (hb:isF cC l=b)=>bM P 0 l ⟨#[117,112,100,97,116,101]⟩ w' hp b hb)
 have I4:=κ (fun (w':World) (b:Bool) (hp:PS w' P l 0) (hb:isF nP l=b)=>bM P 0 l ⟨#[100,101,108,101,116,101]⟩ w' hp b hb)
 have I5:=κ (fun (w':World) (b:Bool) (hp:PS w' P l 0) (hb:isF rW l=b)=>bM P 0 l ⟨#[115,101,108,101,99,116]⟩ w' hp b hb)
 have I6:=κ (fun (w':World) (b:Bool) (hp:PS w' P l 0) (hb:isF Di l=b)=>bM P 0 l ⟨#[98,101,103,105,110]⟩ w' hp b hb)
 have I7:=κ (fun (w':World) (b:Bool) (hp:PS w' P l 0) (hb:isF xK l=b)=>bM P 0 l ⟨#[99,111,109,109,105,116]⟩ w' hp b hb)
 have C0:=κ (fun (w1:World) (hf:isF rX l=true) (hb:But P w w1) (hp:PS w1 P l.tail 0)=>(show Calls prog 64 #[.pointer (some ⟨P,0,none⟩)] w1 (StP P w l) from (Fj P l.tail w1 hp hs.tl (hR.but h hb)).mono fun _ _ k=>wH hb (aT hf (by decide)) (aT hf (by decide)) k))
 have C1:=κ (fun (w1:World) (hf:isF Fz l=true) (hb:But P w w1) (hp:PS w1 P l.tail 0)=>(show Calls prog 65 #[.pointer (some ⟨P,0,none⟩)] w1 (StP P w l) from (Qz P l.tail w1 hp hs.tl (hR.but h hb)).mono fun _ _ k=>wH hb (aT hf (by decide)) (aT hf (by decide)) k))
 have C2:=κ (fun (w1:World) (hf:isF cE l=true) (hb:But P w w1) (hp:PS w1 P l.tail 0)=>(show Calls prog 66 #[.pointer (some ⟨P,0,none⟩)] w1 (StP P w l) from (Ez P l.tail w1 hp hs.tl (hR.but h hb)).mono fun _ _ k=>Yd hb hf k))
 have C3:=κ (fun (w1:World) (hf:isF cC l=true) (hb:But P w w1) (hp:PS w1 P l.tail 0)=>(show Calls prog 67 #[.pointer (some ⟨P,0,none⟩)] w1 (StP P w l) from (Dk P l.tail w1 hp hs.tl (hR.but h hb)).mono fun _ _ k=>Yc hb hf k))
 have C4:=κ (fun (w1:World) (hf:isF nP l=true) (hb:But P w w1) (hp:PS w1 P l.tail 0)=>(show Calls prog 68 #[.pointer (some ⟨P,0,none⟩)] w1 (StP P w l) from (tF P l.tail w1 hp hs.tl (hR.but h hb)).mono fun _ _ k=>wH hb (aT hf (by decide)) (aT hf (by decide)) (Xs hs.tl k)))
 have C5:=κ (fun (w1:World) (hf:isF rW l=true) (hb:But P w w1) (hp:PS w1 P l.tail 0)=>(show Calls prog 69 #[.pointer (some ⟨P,0,none⟩)] w1 (StP P w l) from (Fm P l.tail w1 hp hs.tl (hR.but h hb)).mono fun _ _ k=>wH hb (aT hf (by decide)) (aT hf (by decide)) k))
 have HN:=κ (fun (w1:World) (hp:PS w1 P l 0)=>bQ P 0 qG l w1 hp)
 have HP:=κ h
 have HB:=κ (But.refl P w)
 have HS:=κ hs
 clear h hs hR
 go_enter func29,ntmps29
 cases hf:isF rX l
 rotate_left
 ·have HF:=κ hf
  have J:=κ (I0.out w true HP.out hf)
  clear hf
  go_wp2_with fail
  refine μ J ?_
  rintro e v ⟨rfl,hb,hp⟩
  simp only [if_true] at hp
  have HC:=κ (C0.out v HF.out (HB.out.trans hb) hp)
  clear hb hp
  go_wp2_with fail
  refine μ HC ?_
  rintro e v2 hx
  have HX:=κ hx
  rcases hx.form with ⟨c,rfl⟩|⟨T,g,rfl⟩
  ·clear hx
   unfold aV
   go_wp2
   exact ⟨rfl,HX.out⟩
  ·clear hx
   go_wp2
   go_ret
   exact HX.out
 have F0:=κ hf
 have J:=κ (I0.out w false HP.out hf)
 clear hf
 go_wp2_with fail
 refine μ J ?_
 rintro e w1 ⟨rfl,hb,hp⟩
 simp only [φ,if_false] at hp
 replace HP:=κ hp
 replace HB:=κ (HB.out.trans hb)
 clear hb hp J
 cases hf:isF Fz l
 rotate_left
 ·have HF:=κ hf
  have J:=κ (I1.out w1 true HP.out hf)
  clear hf
  go_wp2_with fail
  refine μ J ?_
  rintro e v ⟨rfl,hb,hp⟩
  simp only [if_true] at hp
  have HC:=κ (C1.out v HF.out (HB.out.trans hb) hp)
  clear hb hp
  go_wp2_with fail
  refine μ HC ?_
  rintro e v2 hx
  have HX:=κ hx
  rcases hx.form with ⟨c,rfl⟩|⟨T,g,rfl⟩
  ·clear hx
   unfold aV
   go_wp2
   exact ⟨rfl,HX.out⟩
  ·clear hx
   go_wp2
   go_ret
   exact HX.out
 have F1:=κ hf
 have J:=κ (I1.out w1 false HP.out hf)
 clear hf
 go_wp2_with fail
 refine μ J ?_
 rintro e w2 ⟨rfl,hb,hp⟩
 simp only [φ,if_false] at hp
 replace HP:=κ hp
 replace HB:=κ (HB.out.trans hb)
 clear hb hp J
 cases hf:isF cE l
 rotate_left
 ·have HF:=κ hf
  have J:=κ (I2.out w2 true HP.out hf)
  clear hf
  go_wp2_with fail
  refine μ J ?_
  rintro e v ⟨rfl,hb,hp⟩
  simp only [if_true] at hp
  have HC:=κ (C2.out v HF.out (HB.out.trans hb) hp)
  clear hb hp
  go_wp2_with fail
  refine μ HC ?_
  rintro e v2 hx
  have HX:=κ hx
  rcases hx.form with ⟨c,rfl⟩|⟨T,g,rfl⟩
  ·clear hx
   unfold aV
   go_wp2
   exact ⟨rfl,HX.out⟩
  ·clear hx
   go_wp2
   go_ret
   exact HX.out
 have F2:=κ hf
 have J:=κ (I2.out w2 false HP.out hf)
 clear hf
 go_wp2_with fail
 refine μ J ?_
 rintro e w3 ⟨rfl,hb,hp⟩
 simp only [φ,if_false] at hp
 replace HP:=κ hp
 replace HB:=κ (HB.out.trans hb)
 clear hb hp J
 cases hf:isF cC l
 rotate_left
 ·have HF:=κ hf
  have J:=κ (I3.out w3 true HP.out hf)
  clear hf
  go_wp2_with fail
  refine μ J ?_
  rintro e v ⟨rfl,hb,hp⟩
  simp only [if_true] at hp
  have HC:=κ (C3.out v HF.out (HB.out.trans hb) hp)
  clear hb hp
  go_wp2_with fail
  refine μ HC ?_
  rintro e v2 hx
  have HX:=κ hx
  rcases hx.form with ⟨c,rfl⟩|⟨T,g,rfl⟩
  ·clear hx
   unfold aV
   go_wp2
   exact ⟨rfl,HX.out⟩
  ·clear hx
   go_wp2
   go_ret
   exact HX.out
 have F3:=κ hf
 have J:=κ (I3.out w3 false HP.out hf)
 clear hf
 go_wp2_with fail
 refine μ J ?_
 rintro e w4 ⟨rfl,hb,hp⟩
 simp only [φ,if_false] at hp
 replace HP:=κ hp
 replace HB:=κ (HB.out.trans hb)
 clear hb hp J
 cases hf:isF nP l
 rotate_left
 ·have HF:=κ hf
  have J:=κ (I4.out w4 true HP.out hf)
  clear hf
  go_wp2_with fail
  refine μ J ?_
  rintro e v ⟨rfl,hb,hp⟩
  simp only [if_true] at hp
  have HC:=κ (C4.out v HF.out (HB.out.trans hb) hp)
  clear hb hp
  go_wp2_with fail
  refine μ HC ?_
  rintro e v2 hx
  have HX:=κ hx
  rcases hx.form with ⟨c,rfl⟩|⟨T,g,rfl⟩
  ·clear hx
   unfold aV
   go_wp2
   exact ⟨rfl,HX.out⟩
  ·clear hx
   go_wp2
   go_ret
   exact HX.out
 have F4:=κ hf
 have J:=κ (I4.out w4 false HP.out hf)
 clear hf
 go_wp2_with fail
 refine μ J ?_
 rintro e w5 ⟨rfl,hb,hp⟩
 simp only [φ,if_false] at hp
 replace HP:=κ hp
 replace HB:=κ (HB.out.trans hb)
 clear hb hp J
 cases hf:isF rW l
 rotate_left
 ·have HF:=κ hf
  have J:=κ (I5.out w5 true HP.out hf)
  clear hf
  go_wp2_with fail
  refine μ J ?_
  rintro e v ⟨rfl,hb,hp⟩
  simp only [if_true] at hp
  have HC:=κ (C5.out v HF.out (HB.out.trans hb) hp)
  clear hb hp
  go_wp2_with fail
  refine μ HC ?_
  rintro e v2 hx
  have HX:=κ hx
  rcases hx.form with ⟨c,rfl⟩|⟨T,g,rfl⟩
  ·clear hx
   unfold aV
   go_wp2
   exact ⟨rfl,HX.out⟩
  ·clear hx
   go_wp2
   go_ret
   exact HX.out
 have F5:=κ hf
 have J:=κ (I5.out w5 false HP.out hf)
 clear hf
 go_wp2_with fail
 refine μ J ?_
 rintro e w6 ⟨rfl,hb,hp⟩
 simp only [φ,if_false] at hp
 replace HP:=κ hp
 replace HB:=κ (HB.out.trans hb)
 clear hb hp J
 cases hf:isF Di l
 rotate_left
 ·have HF:=κ hf
  have J:=κ (I6.out w6 true HP.out hf)
  clear hf
  go_wp2_with fail
  refine μ J ?_
  rintro e v ⟨rfl,hb,hp⟩
  simp only [if_true] at hp
  have HX:=κ (Dx (l:=l) 163 (.cells #[] 165) (HB.out.trans hb) hp HS.out.tl (aT HF.out (by decide)) (aT HF.out (by decide)) (by decide))
  clear hb hp
  go_wp2
  go_ret
  exact HX.out
 have F6:=κ hf
 have J:=κ (I6.out w6 false HP.out hf)
 clear hf
 go_wp2_with fail
 refine μ J ?_
 rintro e w7 ⟨rfl,hb,hp⟩
 simp only [φ,if_false] at hp
 replace HP:=κ hp
 replace HB:=κ (HB.out.trans hb)
 clear hb hp J
 cases hf:isF xK l
 rotate_left
 ·have HF:=κ hf
  have J:=κ (I7.out w7 true HP.out hf)
  clear hf
  go_wp2_with fail
  refine μ J ?_
  rintro e v ⟨rfl,hb,hp⟩
  simp only [if_true] at hp
  have HX:=κ (Dx (l:=l) 166 (.cells #[] 167) (HB.out.trans hb) hp HS.out.tl (aT HF.out (by decide)) (aT HF.out (by decide)) (by decide))
  clear hb hp
  go_wp2
  go_ret
  exact HX.out
 have F7:=κ hf
 have J:=κ (I7.out w7 false HP.out hf)
 clear hf
 go_wp2_with fail
 refine μ J ?_
 rintro e w8 ⟨rfl,hb,hp⟩
 simp only [φ,if_false] at hp
 replace HP:=κ hp
 replace HB:=κ (HB.out.trans hb)
 clear hb hp J
 have J:=κ (HN.out w8 HP.out)
 go_wp2_with fail
 refine μ J ?_
 rintro e w9 hn
 rcases hq:aE qG l with _|r
 ·obtain ⟨rfl,hb⟩:=hn.no hq
  have HX:=κ (wH (HB.out.trans hb) F2.out F3.out (WkPost.stop (c:=4) (But.refl P w9) (by decide)))
  clear hn hq hb
  unfold aV
  go_wp2
  exact ⟨rfl,HX.out⟩
 ·obtain ⟨rfl,hb,hp⟩:=hn.yes hq
  have HX:=κ (Dx (l:=l) 169 (.cells #[] 170) (HB.out.trans hb) hp (HS.out.sfx (aR hq)) F2.out F3.out (by decide))
  clear hn hq hb hp
  go_wp2
  go_ret
  exact HX.out
inductive Sm where
 | ins (rows:List (List Lp.X))
 | upd (ss:List (List UInt8×Lp.X))
 | oth
def Ad (L:List Tok):Option Sm :=
 if isF cE L then (match gT L.tail with
  | none=>none
  | some p=>if mJ p.2.2=[] then some (.ins p.2.1) else none) else if isF cC L then (match gN L.tail with
  | none=>none
  | some p=>if mJ p.2.2.2=[] then some (.upd p.2.1) else none) else some .oth
def Dw (l:List UInt8):Option Sm:=if (dT l).2=0 then Ad (dT l).1 else none
def aAU (w:World) (q:Option Sm) (e:Ending) (w':World):Prop :=
 Below w.heap.size w w'∧match q with
 | none=>∃ c:Int,c≠0∧e=.returned (.tuple #[.nilIface,.int .i64 c])
 | some (.ins rows)=>∃ g t A c vs,e=.returned (.tuple #[.iface 41 (.pointer (some ⟨g,0,none⟩)),.int .i64 0])∧w'.heap[g]? = some (.cells #[.string t,.slice A rows.length c] 44 (0,0))∧Rds w' A vs∧RowsX w.heap.size w' rows vs
 | some (.upd ss)=>∃ g t A c vs v,e=.returned (.tuple #[.iface 61 (.pointer (some ⟨g,0,none⟩)),.int .i64 0])∧w'.heap[g]? = some (.cells #[.string t,.slice A ss.length c,v] 68 (0,0))∧Rds w' A vs∧SetsX w.heap.size w' ss vs
 | some .oth=>(∃ c:Int,c≠0∧e=.returned (.tuple #[.nilIface,.int .i64 c]))∨∃ T g,nM T=true∧e=.returned (.tuple #[.iface T (.pointer (some ⟨g,0,none⟩)),.int .i64 0])
theorem Er {w w':World} {B n size:Nat} {e:TypeId} {v:Value} {xs:List Value} (hk:Kp B w w') (h:w.ownsRow B e size v n xs):w'.ownsRow B e size v n xs :=
 ⟨h.1,h.2.imp id fun ⟨g,cap,cur,h1,h2,h3,h4⟩=>⟨g,cap,cur,h1,h2,hk _ _ h2 h3,h4⟩⟩
theorem PXs.kp {B:Nat} {w w':World} (hk:Kp B w w'):∀ {xs:List Lp.X} {vs:List Value},PXs B w xs vs→PXs B w' xs vs
 | [],[],_=>trivial
 | [],_::_,h=>h.elim
 | _::_,[],h=>h.elim
 | _::_,_::_,⟨h1,h2,h3⟩=>⟨h1,PX.keepB hk h2,PXs.kp hk h3⟩
theorem RowsX.kp {B:Nat} {w w':World} (hk:Kp B w w'):∀ {xs:List (List Lp.X)} {vs:List Value},RowsX B w xs vs→RowsX B w' xs vs
 | [],[],_=>trivial
 | [],_::_,h=>h.elim
 | _::_,[],h=>h.elim
 | _::_,_::_,⟨⟨A,c,vs,k1,k2,k3⟩,h2⟩=>⟨⟨A,c,vs,k1,Er hk k2,k3.kp hk⟩,RowsX.kp hk h2⟩
theorem SetsX.kp {B:Nat} {w w':World} (hk:Kp B w w'):∀ {xs:List (List UInt8×Lp.X)} {vs:List Value},SetsX B w xs vs→SetsX B w' xs vs
 | [],[],_=>trivial
 | [],_::_,h=>h.elim
 | _::_,[],h=>h.elim
 | _::_,[_],h=>h.elim
 | _::_,_::_::_,⟨h1,h2,h3⟩=>⟨h1,⟨h2.1,PX.keepB hk h2.2⟩,SetsX.kp hk h3⟩
theorem Yb (L:List Tok) (B B':Nat) (w w':World) (T:TypeId) (g:Nat) (hB:B'≤B) (hk:Kp B w w') (h:StK L B w T g):StK L B' w' T g:=by
 unfold StK at h ⊢
 split
 ·rename_i h1
  rw [if_pos h1] at h
  cases hq:gT L.tail with
  | none=>rw [hq] at h;exact h
  | some p =>
    rw [hq] at h
    obtain ⟨k1,k2,A,c,vs,k3,k4,k5⟩:=h
    exact ⟨k1,Nat.le_trans hB k2,A,c,vs,hk _ _ k2 k3,kJ hB (Er hk k4),(k5.kp hk).mono hB⟩
 ·rename_i h1
  rw [if_neg h1] at h
  split
  ·rename_i h2
   rw [if_pos h2] at h
   cases hq:gN L.tail with
   | none=>rw [hq] at h;exact h
   | some p =>
     rw [hq] at h
     obtain ⟨k1,k2,A,c,vs,v,k3,k4,k5⟩:=h
     exact ⟨k1,Nat.le_trans hB k2,A,c,vs,v,hk _ _ k2 k3,kJ hB (Er hk k4),(k5.kp hk).mono hB⟩
  ·rename_i h2
   rwa [if_neg h2] at h
theorem Ub (s:ByteArray) (w:World) (hT:dZ w) (hR:Resv w) (hs:s.size≤9223372036854775807) :
 Calls prog 7 #[.string s] w (aAU w (Dw s.data.toList)):=by
 obtain ⟨L,E,hL⟩:∃ L E,dT s.data.toList=(L,E):=⟨_,_,rfl⟩
 unfold Dw
 rw [hL]
 by_cases hE:E=0
 ·subst hE
  rw [if_pos rfl]
  refine (Bi s w hT hR hs L hL (StK L) (StR L) (Yb L) (fun P w' h hS hR=>Mh P L w' h hS hR)).mono ?_
  rintro e w' ⟨q,⟨hi,hu⟩,hb,h⟩
  refine ⟨hb, ?_⟩
  unfold Ad
  dsimp only
  by_cases h1:isF cE L=true
  ·have hq:=hi h1
   rw [if_pos h1]
   rcases hn:gT L.tail with _|p
   ·rw [hn] at hq
    subst hq
    rcases h with ⟨r,T,g,k1, -⟩|⟨-,h⟩
    ·cases k1
    ·exact h
   ·rw [hn] at hq
    subst hq
    rcases h with ⟨r,T,g,k1,k2,k3,k4⟩|⟨k1,h⟩
    ·injection k1 with k1
     dsimp only
     rw [←k1] at k2
     rw [if_pos (by exact k2)]
     rw [StK,if_pos h1,hn] at k4
     obtain ⟨rfl,k5,A,c,vs,k6,k7,k8⟩:=k4
     exact ⟨g,_,A,c,vs,k3,k6,Rds.own k7,k8⟩
    ·dsimp only
     rw [if_neg (show ¬mJ p.2.2=[] from k1 _ rfl)]
     exact h
  ·rw [if_neg h1]
   by_cases h2:isF cC L=true
   ·have hq:=hu h2
    rw [if_pos h2]
    rcases hn:gN L.tail with _|p
    ·rw [hn] at hq
     subst hq
     rcases h with ⟨r,T,g,k1, -⟩|⟨-,h⟩
     ·cases k1
     ·exact h
    ·rw [hn] at hq
     subst hq
     rcases h with ⟨r,T,g,k1,k2,k3,k4⟩|⟨k1,h⟩
     ·injection k1 with k1
      dsimp only
      rw [←k1] at k2
      rw [if_pos (by exact k2)]
      rw [StK,if_neg h1,if_pos h2,hn] at k4
      obtain ⟨rfl,k5,A,c,vs,v,k6,k7,k8⟩:=k4
      exact ⟨g,_,A,c,vs,v,k3,k6,Rds.own k7,k8⟩
     ·dsimp only
      rw [if_neg (show ¬mJ p.2.2.2=[] from k1 _ rfl)]
      exact h
   ·rw [if_neg h2]
    rcases h with ⟨r,T,g,k1,k2,k3,k4⟩|⟨-,h⟩
    ·rw [StK,if_neg h1,if_neg h2] at k4
     exact .inr ⟨T,g,k4,k3⟩
    ·exact .inl h
 ·rw [if_neg hE]
  refine (wQ s w hT hs L E hL hE).mono ?_
  rintro e w' ⟨h1,h2⟩
  exact ⟨h1,E,hE,h2⟩
end Go.Proofs.YtkolcimllghnaaaGreatDoor

namespace Go.Proofs.YtkolcimllghnaaaGreatDoor.Lp
def Few (l:List Tok):Prop:=(∀ t∈l,qZ t)∧l.length≤2000
theorem Few.sfx {l r:List Tok} (h:Few l) (hr:r <:+ l):Few r:=⟨pN h.1 hr,Nat.le_trans hr.length_le h.2⟩
def XOk (x:X):Prop:=x.wf∧x.size≤2000
def Hg {α:Type} (P:α→Prop) (f:List Tok→Option (α×List Tok)):Prop:=∀ l x r,Few l→f l=some (x,r)→P x∧r <:+ l
theorem Ba:Hg XOk (pX 1 0):=fun l x r hl h=>⟨⟨oG _ _ _ _ _ _ hl.1 h,by have:=iV _ _ _ _ _ _ h;have:=hl.2;omega⟩,fS h⟩
theorem lT {α:Type} {P:α→Prop} {f:List Tok→Option (α×List Tok)} (hf:Hg P f) (most:Nat):∀ (k:Nat) (acc:List α) (l:List Tok) (xs:List α) (r:List Tok),Few l→(∀ x∈acc,P x)→gV f most k acc l=some (xs,r)→((∀ x∈xs,P x)∧xs.length≤acc.length+k)∧r <:+ l
 | 0,_,_,_,_,_,_,h=>by cases h
 | k+1,acc,l,xs,r,hl,ha,h=>by
   rcases hq:f l with _|⟨x,r1⟩
   ·rw [kL hq] at h;cases h
   ·obtain ⟨a1,a2⟩:=hf l x r1 hl hq
    have ha':∀ y∈acc++[x],P y:=fun y hy=>by
     rcases List.mem_append.1 hy with hy|hy
     ·exact ha y hy
     ·rw [List.mem_singleton] at hy;rw [hy];exact a1
    by_cases hc:isF dS r1=true
    ·by_cases hm:acc.length+1=most∧1<r1.length
     ·rw [kM hq hc hm.1 hm.2] at h;cases h
     ·rw [iL hq hc hm] at h
      obtain ⟨b1,b2⟩:=lT hf most k _ _ _ _ ((hl.sfx a2).sfx (bL r1)) ha' h
      refine ⟨⟨b1.1, ?_⟩,(b2.trans (bL r1)).trans a2⟩
      have:=b1.2
      simp only [List.length_append,List.length_cons,List.length_nil] at this
      omega
    ·rw [lQ hq (by simpa using hc)] at h
     injection h with h
     injection h with h1 h2
     subst h1 h2
     exact ⟨⟨ha',by simp only [List.length_append,List.length_cons,List.length_nil];omega⟩,a2⟩
def Fx (xs:List X):Prop:=(∀ x∈xs,XOk x)∧xs.length≤9
theorem Ek:Hg Fx fA:=fun l xs r hl h=>by
 unfold fA at h
 rcases hq:aE lF l with _|r1
 ·rw [hq] at h;cases h
 ·rw [hq] at h
  dsimp only at h
  rcases hq2:cN (pX 1 0) 8 r1 with _|⟨ys,r2⟩
  ·rw [hq2] at h;cases h
  ·rw [hq2] at h
   dsimp only at h
   obtain ⟨r3,h3,h4⟩:=Option.map_eq_some_iff.1 h
   injection h4 with h4 h5
   subst h4 h5
   obtain ⟨a1,a2⟩:=lT Ba 8 9 [] r1 _ _ (hl.sfx (aR hq)) (fun x hx=>by cases hx) hq2
   exact ⟨⟨a1.1,by simpa using a1.2⟩,((aR h3).trans a2).trans (aR hq)⟩
theorem Ej:Hg (fun p:List UInt8×X=>XOk p.2) eS:=fun l x r hl h=>by
 unfold eS at h
 rcases hq:aZ l with _|⟨c,r1⟩
 ·rw [hq] at h;cases h
 ·rw [hq] at h
  dsimp only at h
  rcases hq2:aE wEq r1 with _|r2
  ·rw [hq2] at h;cases h
  ·rw [hq2] at h
   dsimp only at h
   obtain ⟨⟨y,r3⟩,h3,h4⟩:=Option.map_eq_some_iff.1 h
   injection h4 with h4 h5
   subst h4 h5
   have hs:=(aR hq2).trans (bU hq)
   obtain ⟨a1,a2⟩:=Ba _ _ _ (hl.sfx hs) h3
   exact ⟨a1,a2.trans hs⟩
theorem Vg {l r:List Tok} {t:List UInt8} {rows:List (List X)} (hl:Few l) (h:gT l=some (t,rows,r)):(∀ xs∈rows,Fx xs)∧rows.length≤65:=by
 unfold gT at h
 rcases hq:aE oZ l with _|r1
 ·rw [hq] at h;cases h
 ·rw [hq] at h
  dsimp only at h
  rcases hq2:aZ r1 with _|⟨n,r2⟩
  ·rw [hq2] at h;cases h
  ·rw [hq2] at h
   dsimp only at h
   rcases hq3:aE jM r2 with _|r3
   ·rw [hq3] at h;cases h
   ·rw [hq3] at h
    dsimp only at h
    obtain ⟨⟨ys,r4⟩,h3,h4⟩:=Option.map_eq_some_iff.1 h
    injection h4 with h4 h5
    injection h5 with h5 h6
    subst h5
    have hs:=((aR hq3).trans (bU hq2)).trans (aR hq)
    obtain ⟨a1,a2⟩:=lT Ek 64 65 [] _ _ _ (hl.sfx hs) (fun x hx=>by cases hx) h3
    exact ⟨a1.1,by simpa using a1.2⟩
theorem Sr {l:List Tok} {p:List UInt8×List (List UInt8×X)×Option X×List Tok} (hl:Few l) (h:gN l=some p):(∀ s∈p.2.1,XOk s.2)∧p.2.1.length≤9:=by
 unfold gN at h
 rcases hq:aZ l with _|⟨n,r1⟩
 ·rw [hq] at h;cases h
 ·rw [hq] at h
  dsimp only at h
  rcases hq2:aE xI r1 with _|r2
  ·rw [hq2] at h;cases h
  ·rw [hq2] at h
   dsimp only at h
   rcases hq3:cN eS 8 r2 with _|⟨ss,r3⟩
   ·rw [hq3] at h;cases h
   ·rw [hq3] at h
    dsimp only at h
    obtain ⟨q,h3,h4⟩:=Option.map_eq_some_iff.1 h
    subst h4
    have hs:=(aR hq2).trans (bU hq)
    obtain ⟨a1,a2⟩:=lT Ej 8 9 [] _ _ _ (hl.sfx hs) (fun x hx=>by cases hx) hq3
    exact ⟨a1.1,by simpa using a1.2⟩
theorem Qk {l:List UInt8} (h:l.length≤2000):Few (dT l).1:=by
 rw [jZ h]
 refine ⟨pI l.length [] l (ν _) h (fun t ht=>by cases ht), ?_⟩
 have:=mS l.length [] l (ν _)
 simp at this
 omega
end Go.Proofs.YtkolcimllghnaaaGreatDoor.Lp

namespace Go.Proofs.YtkolcimllghnaaaGreatDoor
open Lp
def aBG:Option Sm→Prop
 | some (.ins rows)=>(∀ xs∈rows,Fx xs)∧rows.length≤65
 | some (.upd ss)=>(∀ s∈ss,XOk s.2)∧ss.length≤9
 | _=>True
theorem Tf {l:List UInt8} (h:l.length≤2000):aBG (Dw l):=by
 have hf:=Qk h
 unfold Dw
 split
 ·unfold Ad
  have ht:=hf.sfx (bL _)
  split
  ·rcases hq:gT (dT l).1.tail with _|p
   ·trivial
   ·dsimp only
    split
    ·exact Vg ht hq
    ·trivial
  ·split
   ·rcases hq:gN (dT l).1.tail with _|p
    ·trivial
    ·dsimp only
     split
     ·exact Sr ht hq
     ·trivial
   ·trivial
 ·trivial
