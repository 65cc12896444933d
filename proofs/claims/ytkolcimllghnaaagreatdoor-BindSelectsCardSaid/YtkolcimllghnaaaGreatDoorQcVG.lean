/-
 Contracts. Conditions: those of each.
-/
import Derived.Test.YtkolcimllghnaaaGreatDoorQcSkC
import Derived.Test.YtkolcimllghnaaaGreatDoorQcGE
import Derived.Lib.Strings
import Derived.WalkSmall
import Derived.Lib.LaidU8
import Derived.Lib.LaidTab
import Derived.Lib.AppendIntMem
set_option maxRecDepth 100000
set_option maxHeartbeats 8000000
namespace Go.Proofs.YtkolcimllghnaaaGreatDoor
open Lp Go.Proofs.Tryz
open Go.RowKit
variable{e:Ending}{B P n size:Nat}{v:Value}{w w' w1:World}{xs:ZU}{l:ZW}
def vP:ZS:=[99,114,101,97,116,101]
def Mn:ZS:=[100,114,111,112]
def cO:ZS:=[115,101,108,101,99,116]
def Jm:ZS:=[98,101,103,105,110]
def Co:ZS:=[99,111,109,109,105,116]
def tR:ZS:=[114,111,108,108,98,97,99,107]
theorem PXs.map {B B':Nat} {w w':World} (hx:∀ x v,PX B w x v->PX B' w' x v):∀ {xs:List Lp.X} {vs:ZU},PXs B w xs vs->PXs B' w' xs vs
 | [],[],_=>trivial
 | [],_::_,h=>h.elim
 | _::_,[],h=>h.elim
 | _::_,_::_,⟨h1,h2,h3⟩=>⟨h1,hx _ _ h2,PXs.map hx h3⟩
theorem Fld.map {B B':Nat} {w w':World} {s:Sel} (hx:∀ x v,PX B w x v->PX B' w' x v) (ho:∀ {e n size v xs},w.ownsRow B e size v n xs->w'.ownsRow B' e size v n xs) {j:Nat} {u:Value} (h:Fld B w s j u):Fld B' w' s j u:=by
 have hp:∀ {o v},PXo B w o v->PXo B' w' o v:=λ{o v} h=>by cases o with
  | none=>exact h
  | some x=>exact ⟨h.1,hx _ _ h.2⟩
 match j,h with
 | 0,⟨A,c,vs,e,h1,h2⟩=>exact ⟨A,c,vs,e,ho h1,EL2.mono (λ_ _ _ h=>⟨hx _ _ h.1,h.2⟩) h2⟩
 | 1,_=>trivial
 | 2,_=>trivial
 | 3,h=>exact hp h
 | 4,h=>exact hp h
 | 5,⟨A,c,vs,e,h1,h2⟩=>exact ⟨A,c,vs,e,ho h1,h2.map hx⟩
 | 6,⟨A,c,vs,e,h1,h2⟩=>exact ⟨A,c,vs,e,ho h1,EL2.mono (λ_ _ _ h=>⟨hx _ _ h.1,h.2⟩) h2⟩
 | 7,h=>exact h
 | _+8,_=>trivial
theorem xO {B':Nat} {e:TypeId} (hB:B'<=B) (h:w.ownsRow B e size v n xs):w.ownsRow B' e size v n xs :=
 ⟨h.1,h.2.imp id λ⟨g,cap,cur,h1,h2,h3⟩=>⟨g,cap,cur,h1,Nat.le_trans hB h2,h3⟩⟩
def aLV (s:Sel) (B:Nat) (w:World) (T:TypeId) (g:Nat):Prop:=T=74/\B<=g/\∃ cs:ZV,w.heap[g]? = some (.cells cs 136 (0,0))/\SelC B w s 9 cs
def StK (l:ZW) (B:Nat) (w:World) (T:TypeId) (g:Nat):Prop :=
 if isF cO l then (match mK l.tail with
  | none=>False
  | some p=>aLV p.1 B w T g) else zG T=true
def StR (l:ZW) (q:Option ZW):Prop:=isF cO l=true->q=(mK l.tail).map λp=>p.2
def StP (P:Nat) (w:World) (l:ZW) (e:Ending) (w':World):Prop:=∃ q,StR l q/\aKY P w (StK l) q e w'
theorem StP.form (h:StP P w l e w'):(∃ c,e=aT c)\/∃ T g,e=.returned (.iface T (.pointer (some ⟨g,0,none⟩))):=by
 obtain ⟨q, -, -,h⟩:=h;cases q with
 | none=>obtain ⟨c,h, -⟩:=h;exact .inl ⟨c,h⟩
 | some r=>obtain ⟨T,g,h, -⟩:=h;exact .inr ⟨T,g,h⟩
theorem wY (hb:But P w w1) (h1:isF cO l=false) (h:WkPost P w1 e w'):StP P w l e w':=by
 obtain ⟨hb2,h⟩:=h;rcases h with ⟨c,hc,h0⟩|⟨T,g,r,he,hT,hp⟩
 ·exact ⟨none,(λh=>pu),hb.trans hb2,c,hc,h0⟩
 ·exact ⟨some r,(λh=>pu),hb.trans hb2,T,g,he,by rw [StK,h1];exact hT,hp⟩
theorem aHC {q:Option (ZS×List (List Lp.X)×ZW)} (h:Et P w q e w'):WkPost P w e w':=by
 obtain ⟨hb,h⟩:=h;cases q with
 | none=>exact ⟨hb,.inl h⟩
 | some p =>
   obtain ⟨g,A,c,vs,k1, -, -, -, -,k2⟩:=h;exact pv
theorem aHB {q:Option (ZS×List (ZS×Lp.X)×Option Lp.X×ZW)} (h:Eo P w q e w'):WkPost P w e w':=by
 obtain ⟨hb,h⟩:=h;cases q with
 | none=>exact ⟨hb,.inl h⟩
 | some p =>
   obtain ⟨g,A,c,vs,v,k1, -, -, -, -,k2⟩:=h;exact pv
theorem aHD {q:Option (ZS×Option Lp.X×ZW)} (h:wD P w q e w'):WkPost P w e w':=by
 obtain ⟨hb,h⟩:=h;cases q with
 | none=>exact ⟨hb,.inl h⟩
 | some p =>
   obtain ⟨g,v,k1, -, -, -,k2⟩:=h;exact pv
theorem aHQ (hb:But P w w1) (h1:isF cO l=true) (h:SelPost P w1 (mK l.tail) e w'):StP P w l e w':=by
 obtain ⟨hb2,h⟩:=h;refine ⟨_,λ_=>rfl,hb.trans hb2, ?_⟩;have hs:=hb.size;rcases hq:mK l.tail with _|⟨s,r⟩
 ·rw [hq] at h;exact h
 ·rw [hq] at h;obtain ⟨g,cs,k1,k2,k3,k4,k5⟩:=h;refine ⟨_,g,k1, ?_,k5⟩;simp only [StK,h1,if_true,hq];exact ⟨rfl,Nat.le_trans hs k2,cs,k3,k4.1,λj u hj hu=>(k4.2 j u hj hu).map (λ_ _ h=>h.mono hs) (xO hs)⟩
theorem Kb {r:ZW} (T:TypeId) (ob:Obj) (hb:But P w w1) (hp:PS w1 P r 0) (h1:isF cO l=false) (hT:zG T=true):StP P w l (.returned (.iface T w1)) (w1.alloc ob) :=
 wY hb h1 ⟨But.alloc P w1 ob,.inr ⟨T,_,r,rfl,hT,hp.below ((θ).alloc (ν _) ob)⟩⟩
theorem Un (P:Nat) (l:ZW) (w:World) (h:PS w P l 0) (hs:Lsane l) (hR:Resv w) :
 Calls prog 29 #[P] w (StP P w l):=by
 have I0:=κ (λ(w':World) (b:Bool) (hp:PS w' P l 0) (hb:isF vP l=b)=>bS P 0 l ⟨#[99,114,101,97,116,101]⟩ w' hp b hb);have I1:=κ (λ(w':World) (b:Bool) (hp:PS w' P l 0) (hb:isF Mn l=b)=>bS P 0 l ⟨#[100,114,111,112]⟩ w' hp b hb);have I2:=κ (λ(w':World) (b:Bool) (hp:PS w' P l 0) (hb:isF vO l=b)=>bS P 0 l ⟨#[105,110,115,101,114,116]⟩ w' hp b hb);have I3:=κ (λ(w':World) (b:Bool) (hp:PS w' P l 0) (hb:isF vN l=b)=>bS P 0 l ⟨#[117,112,100,97,116,101]⟩ w' hp b hb);have I4:=κ (λ(w':World) (b:Bool) (hp:PS w' P l 0) (hb:isF qH l=b)=>bS P 0 l ⟨#[100,101,108,101,116,101]⟩ w' hp b hb);have I5:=κ (λ(w':World) (b:Bool) (hp:PS w' P l 0) (hb:isF cO l=b)=>bS P 0 l ⟨#[115,101,108,101,99,116]⟩ w' hp b hb);have I6:=κ (λ(w':World) (b:Bool) (hp:PS w' P l 0) (hb:isF Jm l=b)=>bS P 0 l ⟨#[98,101,103,105,110]⟩ w' hp b hb);have I7:=κ (λ(w':World) (b:Bool) (hp:PS w' P l 0) (hb:isF Co l=b)=>bS P 0 l ⟨#[99,111,109,109,105,116]⟩ w' hp b hb);have C0:=κ (λ(w1:World) (hf:isF vP l=true) (hb:But P w w1) (hp:PS w1 P l.tail 0)=>(show Calls prog 64 #[P] w1 (StP P w l) from (Lv P l.tail w1 hp hs.tl (hR.but h hb)).mono λ_ _ k=>wY hb (cF hf am) k));have C1:=κ (λ(w1:World) (hf:isF Mn l=true) (hb:But P w w1) (hp:PS w1 P l.tail 0)=>(show Calls prog 65 #[P] w1 (StP P w l) from (Zo P l.tail w1 hp hs.tl (hR.but h hb)).mono λ_ _ k=>wY hb (cF hf am) k))
 have C2:=κ (λ(w1:World) (hf:isF vO l=true) (hb:But P w w1) (hp:PS w1 P l.tail 0)=>(show Calls prog 66 #[P] w1 (StP P w l) from (Ln P l.tail w1 hp hs.tl (hR.but h hb)).mono λ_ _ k=>wY hb (cF hf am) (aHC k)));have C3:=κ (λ(w1:World) (hf:isF vN l=true) (hb:But P w w1) (hp:PS w1 P l.tail 0)=>(show Calls prog 67 #[P] w1 (StP P w l) from (Jn P l.tail w1 hp hs.tl (hR.but h hb)).mono λ_ _ k=>wY hb (cF hf am) (aHB k)));have C4:=κ (λ(w1:World) (hf:isF qH l=true) (hb:But P w w1) (hp:PS w1 P l.tail 0)=>(show Calls prog 68 #[P] w1 (StP P w l) from (xC P l.tail w1 hp hs.tl (hR.but h hb)).mono λ_ _ k=>wY hb (cF hf am) (aHD k)));have C5:=κ (λ(w1:World) (hf:isF cO l=true) (hb:But P w w1) (hp:PS w1 P l.tail 0)=>(show Calls prog 69 #[P] w1 (StP P w l) from (Lz P l.tail w1 hp hs.tl (hR.but h hb)).mono λ_ _ k=>aHQ hb hf k));have HN:=κ (λ(w1:World) (hp:PS w1 P l 0)=>bQ P 0 tR l w1 hp);have HP:=db;have HB:=κ (But.refl P w);clear h hs hR;go_enter func29,ntmps29;cases hf:isF vP l
 rotate_left
 ·have HF:=ez;have J:=κ (I0.o w true HP.o hf);clear hf;go_wp2_with fail;refine μ J ?_;rintro e v ⟨rfl,hb,hp⟩;simp only [if_true] at hp;have HC:=κ (C0.o v HF.o (HB.o.trans hb) hp);clear hb hp;go_wp2_with fail;refine μ HC ?_;rintro e v2 hx;have HX:=κ hx;rcases hx.form with ⟨c,rfl⟩|⟨T,g,rfl⟩
  ·clear hx;unfold aT;go_wp2;exact pw
  ·clear hx;go_wp2;go_ret;exact HX.o
 have F0:=ez;have J:=κ (I0.o w false HP.o hf);clear hf;go_wp2_with fail;refine μ J ?_;rintro e w1 ⟨rfl,hb,hp⟩;simp only [φ,if_false] at hp;replace HP:=eh;replace HB:=py;clear hb hp J;cases hf:isF Mn l
 rotate_left
 ·have HF:=ez;have J:=κ (I1.o w1 true HP.o hf);clear hf;go_wp2_with fail;refine μ J ?_;rintro e v ⟨rfl,hb,hp⟩;simp only [if_true] at hp;have HC:=κ (C1.o v HF.o (HB.o.trans hb) hp);clear hb hp;go_wp2_with fail;refine μ HC ?_;rintro e v2 hx;have HX:=κ hx;rcases hx.form with ⟨c,rfl⟩|⟨T,g,rfl⟩
  ·clear hx;unfold aT;go_wp2;exact pw
  ·clear hx;go_wp2;go_ret;exact HX.o
 have F1:=ez;have J:=κ (I1.o w1 false HP.o hf);clear hf;go_wp2_with fail;refine μ J ?_;rintro e w2 ⟨rfl,hb,hp⟩;simp only [φ,if_false] at hp;replace HP:=eh;replace HB:=py;clear hb hp J;cases hf:isF vO l
 rotate_left
 ·have HF:=ez;have J:=κ (I2.o w2 true HP.o hf);clear hf;go_wp2_with fail;refine μ J ?_;rintro e v ⟨rfl,hb,hp⟩;simp only [if_true] at hp;have HC:=κ (C2.o v HF.o (HB.o.trans hb) hp);clear hb hp;go_wp2_with fail;refine μ HC ?_;rintro e v2 hx;have HX:=κ hx;rcases hx.form with ⟨c,rfl⟩|⟨T,g,rfl⟩
  ·clear hx;unfold aT;go_wp2;exact pw
  ·clear hx;go_wp2;go_ret;exact HX.o
 have F2:=ez;have J:=κ (I2.o w2 false HP.o hf);clear hf;go_wp2_with fail;refine μ J ?_;rintro e w3 ⟨rfl,hb,hp⟩;simp only [φ,if_false] at hp;replace HP:=eh;replace HB:=py;clear hb hp J;cases hf:isF vN l
 rotate_left
 ·have HF:=ez;have J:=κ (I3.o w3 true HP.o hf);clear hf;go_wp2_with fail;refine μ J ?_;rintro e v ⟨rfl,hb,hp⟩;simp only [if_true] at hp;have HC:=κ (C3.o v HF.o (HB.o.trans hb) hp);clear hb hp;go_wp2_with fail;refine μ HC ?_;rintro e v2 hx;have HX:=κ hx;rcases hx.form with ⟨c,rfl⟩|⟨T,g,rfl⟩
  ·clear hx;unfold aT;go_wp2;exact pw
  ·clear hx;go_wp2;go_ret;exact HX.o
 have F3:=ez;have J:=κ (I3.o w3 false HP.o hf);clear hf;go_wp2_with fail;refine μ J ?_;rintro e w4 ⟨rfl,hb,hp⟩;simp only [φ,if_false] at hp;replace HP:=eh;replace HB:=py;clear hb hp J;cases hf:isF qH l
 rotate_left
 ·have HF:=ez;have J:=κ (I4.o w4 true HP.o hf);clear hf;go_wp2_with fail;refine μ J ?_;rintro e v ⟨rfl,hb,hp⟩;simp only [if_true] at hp;have HC:=κ (C4.o v HF.o (HB.o.trans hb) hp);clear hb hp;go_wp2_with fail;refine μ HC ?_;rintro e v2 hx;have HX:=κ hx;rcases hx.form with ⟨c,rfl⟩|⟨T,g,rfl⟩
  ·clear hx;unfold aT;go_wp2;exact pw
  ·clear hx;go_wp2;go_ret;exact HX.o
 have F4:=ez;have J:=κ (I4.o w4 false HP.o hf);clear hf;go_wp2_with fail;refine μ J ?_;rintro e w5 ⟨rfl,hb,hp⟩;simp only [φ,if_false] at hp;replace HP:=eh;replace HB:=py;clear hb hp J;cases hf:isF cO l
 rotate_left
 ·have HF:=ez;have J:=κ (I5.o w5 true HP.o hf);clear hf;go_wp2_with fail;refine μ J ?_;rintro e v ⟨rfl,hb,hp⟩;simp only [if_true] at hp;have HC:=κ (C5.o v HF.o (HB.o.trans hb) hp);clear hb hp;go_wp2_with fail;refine μ HC ?_;rintro e v2 hx;have HX:=κ hx;rcases hx.form with ⟨c,rfl⟩|⟨T,g,rfl⟩
  ·clear hx;unfold aT;go_wp2;exact pw
  ·clear hx;go_wp2;go_ret;exact HX.o
 have F5:=ez;have J:=κ (I5.o w5 false HP.o hf);clear hf;go_wp2_with fail;refine μ J ?_;rintro e w6 ⟨rfl,hb,hp⟩;simp only [φ,if_false] at hp;replace HP:=eh;replace HB:=py;clear hb hp J;cases hf:isF Jm l
 rotate_left
 ·have HF:=ez;have J:=κ (I6.o w6 true HP.o hf);clear hf;go_wp2_with fail;refine μ J ?_;rintro e v ⟨rfl,hb,hp⟩;simp only [if_true] at hp;have HX:=κ (Kb (l:=l) 163 (.cells #[] 165) (HB.o.trans hb) hp (cF HF.o am) am);clear hb hp;go_wp2;go_ret;exact HX.o
 have F6:=ez;have J:=κ (I6.o w6 false HP.o hf);clear hf;go_wp2_with fail;refine μ J ?_;rintro e w7 ⟨rfl,hb,hp⟩;simp only [φ,if_false] at hp;replace HP:=eh;replace HB:=py;clear hb hp J;cases hf:isF Co l
 rotate_left
 ·have HF:=ez;have J:=κ (I7.o w7 true HP.o hf);clear hf;go_wp2_with fail;refine μ J ?_;rintro e v ⟨rfl,hb,hp⟩;simp only [if_true] at hp;have HX:=κ (Kb (l:=l) 166 (.cells #[] 167) (HB.o.trans hb) hp (cF HF.o am) am);clear hb hp;go_wp2;go_ret;exact HX.o
 have F7:=ez;have J:=κ (I7.o w7 false HP.o hf);clear hf;go_wp2_with fail;refine μ J ?_;rintro e w8 ⟨rfl,hb,hp⟩;simp only [φ,if_false] at hp;replace HP:=eh;replace HB:=py;clear hb hp J;have J:=κ (HN.o w8 HP.o);go_wp2_with fail;refine μ J ?_;rintro e w9 hn;rcases hq:aD tR l with _|r
 ·obtain ⟨rfl,hb⟩:=eu;have HX:=κ (wY (HB.o.trans hb) F5.o (WkPost.stop (c:=4) (But.refl P w9) am));clear hn hq hb;unfold aT;go_wp2;exact pw
 ·obtain ⟨rfl,hb,hp⟩:=ev;have HX:=κ (Kb (l:=l) 169 (.cells #[] 170) (HB.o.trans hb) hp F5.o am);clear hn hq hb hp;go_wp2;go_ret;exact HX.o
inductive Sm where
 | sel (s:Sel)
 | oth
def Fo (L:ZW):Option Sm :=
 if isF cO L then (match mK L.tail with
  | none=>none
  | some p=>if tE p.2=[] then some (.sel p.1) else none) else some .oth
def Ka (l:ZS):Option Sm:=if (eL l).2=0 then Fo (eL l).1 else none
def aLB (w:World) (q:Option Sm) (e:Ending) (w':World):Prop :=
 Below w w w'/\match q with
 | none=>∃ c:Int,c≠0/\e=.returned (.tuple #[.nilIface,.int .i64 c])
 | some (.sel s)=>∃ g cs,e=.returned (.tuple #[.iface 74 (.pointer (some ⟨g,0,none⟩)),.int .i64 0])/\w'.heap[g]? = some (.cells cs 136 (0,0))/\SelC w w' s 9 cs
 | some .oth=>(∃ c:Int,c≠0/\e=.returned (.tuple #[.nilIface,.int .i64 c]))\/∃ T g,zG T=true/\e=.returned (.tuple #[.iface T (.pointer (some ⟨g,0,none⟩)),.int .i64 0])
theorem aIA {e:TypeId} (hk:Kp B w w') (h:w.ownsRow B e size v n xs):w'.ownsRow B e size v n xs :=
 ⟨h.1,h.2.imp id λ⟨g,cap,cur,h1,h2,h3,h4⟩=>⟨g,cap,cur,h1,h2,hk _ _ h2 h3,h4⟩⟩
theorem aHP (L:ZW) (B B':Nat) (w w':World) (T:TypeId) (g:Nat) (hB:B'<=B) (hk:Kp B w w') (h:StK L B w T g):StK L B' w' T g:=by
 unfold StK at h |-
 split
 ·rename_i h1
  rw [if_pos h1] at h;cases hq:mK L.tail with
  | none=>rw [hq] at h;exact h
  | some p =>
    rw [hq] at h;obtain ⟨k1,k2,cs,k3,k4⟩:=h;exact ⟨k1,Nat.le_trans hB k2,cs,hk _ _ k2 k3,k4.1,λj u hj hu=>(k4.2 j u hj hu).map (λ_ _ h=>(PX.keepB hk h).mono hB) (λh=>xO hB (aIA hk h))⟩
 ·rename_i h1
  rwa [if_neg h1] at h
theorem aDD (s:ByteArray) (w:World) (hT:eQ w) (hR:Resv w) (hs:s.size<=9223372036854775807) :
 Calls prog 7 #[s] w (aLB w (Ka s.data.toList)):=by
 obtain ⟨L,E,hL⟩:∃ L E,eL s.data.toList=(L,E):=⟨_,_,rfl⟩;unfold Ka;rw [hL]
 by_cases hE:E=0
 ·subst hE;rw [if_pos rfl];refine (Gt s w hT hR hs L hL (StK L) (StR L) (aHP L) (λP w' h hS hR=>Un P L w' h hS hR)).mono ?_;rintro e w' ⟨q,hi,hb,h⟩;refine ⟨hb, ?_⟩;unfold Fo
  dsimp only
  by_cases h1:isF cO L=true
  ·have hq:=hi h1;rw [if_pos h1];rcases hn:mK L.tail with _|p
   ·rw [hn] at hq;subst hq;rcases h with ⟨r,T,g,k1, -⟩|⟨-,h⟩
    ·cases k1
    ·exact h
   ·rw [hn] at hq;subst hq;rcases h with ⟨r,T,g,k1,k2,k3,k4⟩|⟨k1,h⟩
    ·injection k1 with k1
     dsimp only
     rw [<-k1] at k2;rw [if_pos (by exact k2)];rw [StK,if_pos h1,hn] at k4;obtain ⟨rfl,k5,cs,k6,k7⟩:=k4;exact ⟨g,cs,k3,k6,k7⟩
    ·dsimp only
     rw [if_neg (show ¬tE p.2=[] from k1 _ rfl)];exact h
  ·rw [if_neg h1];rcases h with ⟨r,T,g,k1,k2,k3,k4⟩|⟨-,h⟩
   ·rw [StK,if_neg h1] at k4;exact .inr ⟨T,g,k4,k3⟩
   ·exact .inl h
 ·rw [if_neg hE];refine (Bm s w hT hs L E hL hE).mono ?_;rintro e w' ⟨h1,h2⟩;exact ⟨h1,E,hE,h2⟩
def Jj (fi:FuncId) (cs:ZV) (w:World) (gs:List Nat) (bs:List Bool):Prop :=
 ∀ (j:Nat) (g:Nat) (b:Bool),gs[j]? = some g->bs[j]? = some b->∀ wr,Below w w wr->Calls prog fi (#[ptr g]++cs) wr λe w'=>e=.returned (.bool b)/\Below wr.heap.size wr w'
theorem Sv (bs:List Bool) {k:Nat} (h:k<bs.length) (h1:(bs.take k).any id=false):(bs.take (k+1)).any id=bs[k]:=by
 rw [List.take_succ_eq_append_getElem h,List.any_append,h1];simp
theorem Dx (fi:FuncId) (hfi:∀ args w,Sem.run prog (callFunc fi args) w=.ok (.enter fi args) w) (cs:ZV) (A:ZT) (c:Nat) (gs:List Nat) (bs:List Bool) (w:World) (hA:Rds w A (gs.map ptr)) (hl:bs.length=gs.length) (hn:gs.length<=1000) (hS:Jj fi cs w gs bs) :
 Calls prog 100 #[.slice A gs.length c,.func (.func fi) #[] cs] w λe w'=>(∃ i:Int,e=.returned (.int .i64 i)/\decide (0<=i)=bs.any id)/\Below w w w':=by
 have HA:=κ hA;have HS:=ma;have hn':(gs.length:Int)<=1000:=ac
 clear hA hS;go_enter func100,ntmps100;go_wp2_with fail
 go_loopw [5,8] (λ_ s8 wr=>∃ k:Nat,k<=gs.length/\s8=.int .i64 k/\Below w w wr/\(bs.take k).any id=false) (λ_ s8 _=>gs.length-(intOf s8).toNat)
 case atStart=>exact ⟨0,Nat.zero_le _,rfl,θ,rfl⟩
 case round =>
  obtain ⟨k,hk,rfl,hb,hq⟩:=de
  by_cases hlt:k<gs.length
  ·have hltb:k<bs.length:=ac
   obtain ⟨b,off,hA2,hcell⟩:=(HA.o.below hb).at_ (show (gs.map ptr)[k]? = some (ptr gs[k]) by rw [List.getElem?_map,List.getElem?_eq_getElem hlt];rfl);have hC:=HS.o k gs[k] bs[k] (List.getElem?_eq_getElem hlt) (List.getElem?_eq_getElem hltb) wr hb;have hany:=Sv bs hltb hq;have HY:=rm;generalize gs[k]=g at *;generalize bs[k]=bb at *;subst hA2;unfold ptr at hcell hC;have HC:=κ hC;have HQ:=κ hany;have HB:=dn;clear hC hany hq hb hltb;go_wp2_with fail;refine μ HC ?_;rintro e w1 ⟨rfl,hb1⟩;have hb2:=HB.o.trans (hb1.mono HB.o.size);cases bb
   ·go_wp2
    go_roundw
    case rel=>exact ⟨k+1,ac,dg,hb2,HQ.o⟩
    case measure=>simp [intOf];omega
   ·have HZ:=κ (HY.o rfl);go_wp2;go_ret;exact ⟨⟨_,rfl,by rw [HZ.o];simp⟩,hb2⟩
  ·have hk2:k=bs.length:=ac
   have HQ:=rp;clear hq hk2;go_wp2;go_ret;exact ⟨⟨-1,rfl,dl⟩,hb⟩
theorem fR (fi:FuncId) (hfi:∀ args w,Sem.run prog (callFunc fi args) w=.ok (.enter fi args) w) (cs:ZV) (A:ZT) (c:Nat) (gs:List Nat) (bs:List Bool) (w:World) (hA:Rds w A (gs.map ptr)) (hl:bs.length=gs.length) (hn:gs.length<=1000) (hS:Jj fi cs w gs bs) :
 Calls prog 52 #[.slice A gs.length c,.func (.func fi) #[] cs] w λe w'=>e=.returned (.bool (bs.any id))/\Below w w w':=by
 have HI:=κ (Dx fi hfi cs A c gs bs w hA hl hn hS);generalize bs.any id=bb at *;clear hA hl hn hS hfi;go_enter func52,ntmps52;go_wp2_with fail;refine μ HI ?_;rintro e w' ⟨⟨i,rfl,hi⟩,hb⟩;go_wp2;go_ret;exact ⟨by first|exact Bg hi|rfl,hb⟩
end Go.Proofs.YtkolcimllghnaaaGreatDoor

namespace Go.Proofs.YtkolcimllghnaaaGreatDoor.Lp
open Go.RowKit
end Go.Proofs.YtkolcimllghnaaaGreatDoor.Lp

namespace Go.Proofs.YtkolcimllghnaaaGreatDoor
open Go.Proofs.Tryz
open Go.RowKit
theorem Uh (x:Int) (w:World):(Instr.typeAssert (.iface 2 (.int .i64 x)) 20 2 true).run prog w=.ok (.tuple #[.int .i64 x,true]) w:=aj
theorem Ug (x:Int) (w:World):(Instr.typeAssert (.iface 2 (.int .i64 x)) 20 9 true).run prog w=.ok (.tuple #[(),false]) w:=aj
theorem Ui (x:Int) (w:World):(Instr.typeAssert (.iface 2 (.int .i64 x)) 20 4 true).run prog w=.ok (.tuple #[false,false]) w:=aj
theorem aGM (x:Int) (w:World):(Instr.typeAssert (.iface 2 (.int .i64 x)) 20 2 false).run prog w=.ok (.int .i64 x) w:=aj
theorem Ub (x:ByteArray) (w:World):(Instr.typeAssert (.iface 9 (.string x)) 20 2 true).run prog w=.ok (.tuple #[.int .i64 0,false]) w:=aj
theorem Ua (x:ByteArray) (w:World):(Instr.typeAssert (.iface 9 (.string x)) 20 9 true).run prog w=.ok (.tuple #[x,true]) w:=aj
theorem Uc (x:ByteArray) (w:World):(Instr.typeAssert (.iface 9 (.string x)) 20 4 true).run prog w=.ok (.tuple #[false,false]) w:=aj
theorem aGL (x:ByteArray) (w:World):(Instr.typeAssert (.iface 9 (.string x)) 20 9 false).run prog w=.ok (.string x) w:=aj
theorem Uk (x:Bool) (w:World):(Instr.typeAssert (.iface 4 (.bool x)) 20 2 true).run prog w=.ok (.tuple #[.int .i64 0,false]) w:=aj
theorem Uj (x:Bool) (w:World):(Instr.typeAssert (.iface 4 (.bool x)) 20 9 true).run prog w=.ok (.tuple #[(),false]) w:=aj
theorem Ul (x:Bool) (w:World):(Instr.typeAssert (.iface 4 (.bool x)) 20 4 true).run prog w=.ok (.tuple #[x,true]) w:=aj
theorem aGN (x:Bool) (w:World):(Instr.typeAssert (.iface 4 (.bool x)) 20 4 false).run prog w=.ok (.bool x) w:=aj
theorem Ue  (w:World):(Instr.typeAssert (.nilIface) 20 2 true).run prog w=.ok (.tuple #[.int .i64 0,false]) w:=aj
theorem Ud  (w:World):(Instr.typeAssert (.nilIface) 20 9 true).run prog w=.ok (.tuple #[(),false]) w:=aj
theorem Uf  (w:World):(Instr.typeAssert (.nilIface) 20 4 true).run prog w=.ok (.tuple #[false,false]) w:=aj
end Go.Proofs.YtkolcimllghnaaaGreatDoor

namespace Go.Proofs.YtkolcimllghnaaaGreatDoor
open Lp Go.Proofs.Tryz
open Go.RowKit Go.Lib
def Pow (w:World):Prop:=Lib.TabIs prog w "internal/strconv.uint64pow10" .u64 Lib.pow10Tab
theorem uF {w w':World} (h:Pow w) (hb:Below w w w'):Pow w':=by
 have hg:prog.globalNamed "internal/strconv.uint64pow10" = some 5:=by kernel_rfl
 refine var?_below hb hg ?_ h;unfold Pow Lib.TabIs World.var? at h;simp only [hg,Option.bind_some] at h
 by_cases hlt:5<w.heap.size
 ·exact hlt
 ·rw [Array.getElem?_eq_none ac] at h;cases h
theorem Ql {W:World} (h:Lib.VarReads prog W "internal/strconv.uint64pow10" (Lib.tabData .u64 Lib.pow10Tab)):Pow W:=by
 obtain ⟨g,t,cs,fuel,p,hg,hty,hvar,hd⟩:=h;obtain rfl:=Option.some.inj ((show prog.globalNamed "internal/strconv.uint64pow10" = some 5 by kernel_rfl).symm.trans hg);obtain rfl:=Option.some.inj ((show (prog.globals[5]?).map (·.type)=some 302 by kernel_rfl).symm.trans hty);unfold Pow Lib.TabIs;rw [hvar, <-Lib.cells_of_tab underlying302 underlying189 (by kernel_rfl) (by kernel_rfl) hd]
def aAH:DataW Unit->ZU
 | .lit (.int k z)=>[.int k z]
 | _=>[]
def aKQ:DataW Unit->ZU
 | .agg l=>l.flatMap aAH
 | d=>aAH d
def Iy:DataW Unit->ZU
 | .agg l=>l.flatMap aKQ
 | d=>aAH d
theorem aER (n:Int) (w:World) (h:inR n) (hP:Pow w) :
 Calls prog 160 #[.int .i64 n,.int .i64 10] w λe w'=>e=.returned (.string ⟨(Lib.itoa n).toArray⟩)/\Below w w w':=by
 unfold inR at h;refine (Tryz.strconv_FormatInt_10 n ac ac w hP).mono ?_;rintro e w' ⟨he,k,os,hw⟩;subst hw;exact ⟨he,Lib.below_grow _ _ (ν _) _ _⟩
theorem aAI (n:Int) (w:World) (h:inR n) (hP:Pow w) :
 Calls prog 138 #[.int .i64 n] w λe w'=>e=.returned (.string ⟨(Lib.itoa n).toArray⟩)/\Below w w w':=by
 go_enter func138,ntmps138;go_wp2_with fail;refine (aER n w h hP).mono ?_;rintro e w' ⟨rfl,hb⟩;go_wp2;go_ret;exact ja
theorem Py (n:Int) (w:World) (h:inR n) :
 Calls prog 93 #[.int .i64 n] w λe w'=>e=.returned (.int .u64 (mag n))/\w=w':=by
 obtain ⟨h1,h2⟩:=h
 by_cases hn:n<0
 ·rw [aEA hn];go_enter func93,ntmps93;go_wp2;go_ret;exact cq
 ·rw [aDZ hn];have hn':0<=n:=ac
  go_enter func93,ntmps93;go_wp2;go_ret;exact cq
theorem Sb (d:Nat) (h:d<10) (T:ZS):(⟨#[48,49,50,51,52,53,54,55,56,57]⟩:ByteArray).extract d (d+1)++(T:ByteArray)=⟨(tG d::T).toArray⟩:=by
 have e:(⟨#[48,49,50,51,52,53,54,55,56,57]⟩:ByteArray).extract d (d+1)=⟨#[tG d]⟩:=by
  rcases (show d=0\/d=1\/d=2\/d=3\/d=4\/d=5\/d=6\/d=7\/d=8\/d=9 by omega) with rfl|rfl|rfl|rfl|rfl|rfl|rfl|rfl|rfl|rfl<;>rfl
 rw [e];apply ByteArray.ext;simp
theorem Hg (T:ZS):(⟨#[45]⟩:ByteArray)++(T:ByteArray)=⟨(45::T).toArray⟩:=by
 apply ByteArray.ext;simp
theorem Sc {M k:Nat} (h:M<10 ^ (20-k)) (hk:k<=20) (hM:0<M):M / 10<10 ^ (20-(k+1))/\k+1<=20:=by
 have hk2:k<20:=by
  apply Nat.lt_of_le_of_ne hk;intro e;subst e;simp at h;omega
 have e:20-k=(20-(k+1))+1:=ac
 rw [e,Nat.pow_succ] at h;exact ⟨ac,hk2⟩
theorem Gj (n:Int) (w:World) (h:inR n) :
 Calls prog 42 #[.int .i64 n] w λe w'=>e=.returned (.string ⟨(Lib.itoa n).toArray⟩)/\w=w':=by
 have hm:=aEB n;have hml:=Xp h;have hsz:=Py n w h;rw [hm] at hsz hml;obtain ⟨U,hU⟩:∃ U,n.natAbs=U:=da;rw [hU] at hsz hml;have HU:=κ hU;have HS:=κ hsz;clear hm hU hsz;go_enter func42,ntmps42;go_wp2_with fail;refine (HS.o).mono ?_;rintro e w' ⟨rfl,rfl⟩;go_wp2_with fail
 go_loopg [3,4] (U+1) (λgk s3 s4 wr=>∃ (T:ZS) (M:Nat),w=wr/\s3=.string ⟨T.toArray⟩/\s4=.int .u64 (M:Int)/\M<=9223372036854775808/\T.length<=20/\Hd0 (M<10 ^ (20-T.length))/\Hd0 (zI U T M)/\Hd0 (gk=M+(if T=[] then 1 else 0)))
 case atStart=>exact ⟨[],U,rfl,rfl,rfl,ac,aa,by (show _<_;simp;omega),Sa U,ej⟩
 case round =>
  obtain ⟨T,M,rfl,rfl,rfl,hM,hTl,HB,HD,HG⟩:=de;have hd0:(0:Int)<=(M:Int) % 10:=ac
  have hd1:(M:Int) % 10+1<=10:=ac
  have hd2:((M:Int) % 10).toNat=M % 10:=ac
  have hd3:((M:Int) % 10+1).toNat=M % 10+1:=ac
  have hp:=Sb (M % 10) ac T
  by_cases hM0:0<M
  ·have HD2:=κ (Ip HD.o (.inl hM0));obtain ⟨hb1,hb2⟩:=Sc HB.o hTl hM0;have HB2:Hd0 (M / 10<10 ^ (20-(tG (M % 10)::T).length)):=by show _<_;rw [List.length_cons];exact hb1
   have hlt:Hd0 (M / 10+0<gk):=by
    show _<_;rw [HG.o];split<;>omega
   have hM1:(0:Int)<(M:Int):=ac
   clear HG HD HB hb1;go_wp2
   go_roundg (M / 10)
   case measure=>have:=hlt.o;omega
   case rel=>exact ⟨tG (M % 10)::T,M / 10,rfl,rfl,rfl,ac,by rw [List.length_cons];exact hb2,HB2,HD2,jk⟩
  ·obtain rfl:M=0:=ac
   by_cases hT:T=[]
   ·subst hT;have HD2:=κ (Ip HD.o (.inr rfl));have hp0:(⟨#[48,49,50,51,52,53,54,55,56,57]⟩:ByteArray).extract 0 1++(⟨#[]⟩:ByteArray)=⟨#[48]⟩:=rfl;have hg:Hd0 (gk=1):=by have:=HG.o;show _=_;simpa using this
    clear HG HD hp;go_wp2
    go_roundg 0
    case measure=>have:=hg.o;omega
    case rel=>exact ⟨[48],0,rfl,rfl,rfl,ac,aa,by (show _<_;simp),HD2,jk⟩
   ·have HE:=κ (aFA HD.o hT);have e1:(T:ByteArray).toList=T:=by rw [ByteArray.toList_eq]
    have hmp:=Hg T;have e2:T.isEmpty=false:=by cases T with|nil=>exact absurd rfl hT|cons=>rfl
    clear HG HD hT hp
    by_cases hn:n<0
    ·have HF:Hd0 ((⟨(45::T).toArray⟩:ByteArray)=⟨(Lib.itoa n).toArray⟩):=by
      show _=_;rw [Lib.itoa,if_pos hn,HU.o,HE.o]
     go_wp2;go_ret;exact ⟨by rw [<-HF.o];rfl,rfl⟩
    ·have HF:Hd0 ((T:ByteArray)=⟨(Lib.itoa n).toArray⟩):=by
      show _=_;rw [Lib.itoa,if_neg hn,show n.toNat=n.natAbs by omega,HU.o,HE.o]
     go_wp2;go_ret;exact ⟨by rw [<-HF.o];rfl,rfl⟩
end Go.Proofs.YtkolcimllghnaaaGreatDoor

namespace Go.Proofs.YtkolcimllghnaaaGreatDoor.Lp
def aGZ (cs:List Col):Prop:=cs.Pairwise λa b=>b.n≠a.n
def Ew (cs:List Col):Prop:=aGZ cs/\∀ u∈cs,1<=u.n.length/\u.n.length<=20
theorem rX {s:ZS}:∀ {cs:List Col} (a:Nat),(∀ d∈cs,d.n≠s)->cJ s a cs=[]
 | [],_,_=>rfl
 | c::cs,a,h=>by
   show (if c.n==s then [(a,c.k)] else [])++cJ s (a+1) cs=[];rw [rX (a+1) λd hd=>h d (by simp [hd])];have:=h c aa;simp [this]
