/-
 Contracts. Conditions: those of each.
-/
import Derived.Test.YtkolcimllghnaaaGreatDoorQdVL
import Derived.Test.YtkolcimllghnaaaGreatDoorQdSkC
set_option maxRecDepth 100000
set_option maxHeartbeats 16000000
namespace Go.Proofs.YtkolcimllghnaaaGreatDoor
open Lp Go.Proofs.Tryz
open Go.RowKit
variable{e:Ending}{xs:List Lp.X}{P i:Nat}{w w' w1:World}{l:ZW}
def vP:ZS:=[99,114,101,97,116,101]
def Mn:ZS:=[100,114,111,112]
def cO:ZS:=[115,101,108,101,99,116]
def Jm:ZS:=[98,101,103,105,110]
def Co:ZS:=[99,111,109,109,105,116]
def tR:ZS:=[114,111,108,108,98,97,99,107]
theorem PXs.map {B B':Nat} {w w':World} (hx:∀ x v,PX B w x v->PX B' w' x v):∀ {xs:List Lp.X} {vs:ZU},PXs B w xs vs->PXs B' w' xs vs
 | [],[],_=>trivial
 | [],_::_,h=>h.elim
 | _::_,[],h=>h.elim
 | _::_,_::_,⟨h1,h2,h3⟩=>⟨h1,hx _ _ h2,PXs.map hx h3⟩
theorem Fld.map {B B':Nat} {w w':World} {s:Sel} (hx:∀ x v,PX B w x v->PX B' w' x v) (ho:∀ {e n size v xs},w.ownsRow B e size v n xs->w'.ownsRow B' e size v n xs) {j:Nat} {u:Value} (h:Fld B w s j u):Fld B' w' s j u:=by
 have hp:∀ {o v},PXo B w o v->PXo B' w' o v:=λ{o v} h=>by cases o with
  | none=>exact h
  | some x=>exact ⟨h.1,hx _ _ h.2⟩
 match j,h with
 | 0,⟨A,c,vs,e,h1,h2⟩=>exact ⟨A,c,vs,e,ho h1,EL2.mono (λ_ _ _ h=>⟨hx _ _ h.1,h.2⟩) h2⟩
 | 1,_=>trivial
 | 2,_=>trivial
 | 3,h=>exact hp h
 | 4,h=>exact hp h
 | 5,⟨A,c,vs,e,h1,h2⟩=>exact ⟨A,c,vs,e,ho h1,h2.map hx⟩
 | 6,⟨A,c,vs,e,h1,h2⟩=>exact ⟨A,c,vs,e,ho h1,EL2.mono (λ_ _ _ h=>⟨hx _ _ h.1,h.2⟩) h2⟩
 | 7,h=>exact h
 | _+8,_=>trivial
theorem xO {B B' n size:Nat} {e:TypeId} {v:Value} {xs:ZU} (hB:B'≤B) (h:w.ownsRow B e size v n xs):w.ownsRow B' e size v n xs :=
 ⟨h.1,h.2.imp id λ⟨g,cap,cur,h1,h2,h3⟩=>⟨g,cap,cur,h1,Nat.le_trans hB h2,h3⟩⟩
def aLV (s:Sel) (B:Nat) (w:World) (T:TypeId) (g:Nat):Prop:=T=74∧B≤g∧∃ cs:ZV,w.heap[g]? = some (.cells cs 136 (0,0))∧SelC B w s 9 cs
def StK (l:ZW) (B:Nat) (w:World) (T:TypeId) (g:Nat):Prop :=
 if isF cO l then (match mK l.tail with
  | none=>False
  | some p=>aLV p.1 B w T g) else zG T=true
def StR (l:ZW) (q:Option ZW):Prop:=isF cO l=true->q=(mK l.tail).map λp=>p.2
def StP (P:Nat) (w:World) (l:ZW) (e:Ending) (w':World):Prop:=∃ q,StR l q∧aKY P w (StK l) q e w'
theorem StP.form (h:StP P w l e w'):(∃ c,e=aT c)∨∃ T g,e=.returned (.iface T (.pointer (some ⟨g,0,none⟩))):=by
 obtain ⟨q, -, -,h⟩:=h;cases q with
 | none=>obtain ⟨c,h, -⟩:=h;exact .inl ⟨c,h⟩
 | some r=>obtain ⟨T,g,h, -⟩:=h;exact .inr ⟨T,g,h⟩
theorem wY (hb:But P w w1) (h1:isF cO l=false) (h:WkPost P w1 e w'):StP P w l e w':=by
 obtain ⟨hb2,h⟩:=h;rcases h with ⟨c,hc,h0⟩|⟨T,g,r,he,hT,hp⟩
 ·exact ⟨none,(λh=>tq),hb.trans hb2,c,hc,h0⟩
 ·exact ⟨some r,(λh=>tq),hb.trans hb2,T,g,he,by rw [StK,h1];exact hT,hp⟩
theorem aHC {q:Option (ZS×List (List Lp.X)×ZW)} (h:Et P w q e w'):WkPost P w e w':=by
 obtain ⟨hb,h⟩:=h;cases q with
 | none=>exact ⟨hb,.inl h⟩
 | some p =>
   obtain ⟨g,A,c,vs,k1, -, -, -, -,k2⟩:=h;exact tu
theorem aHB {q:Option (ZS×List (ZS×Lp.X)×Option Lp.X×ZW)} (h:Eo P w q e w'):WkPost P w e w':=by
 obtain ⟨hb,h⟩:=h;cases q with
 | none=>exact ⟨hb,.inl h⟩
 | some p =>
   obtain ⟨g,A,c,vs,v,k1, -, -, -, -,k2⟩:=h;exact tu
theorem aHD {q:Option (ZS×Option Lp.X×ZW)} (h:wD P w q e w'):WkPost P w e w':=by
 obtain ⟨hb,h⟩:=h;cases q with
 | none=>exact ⟨hb,.inl h⟩
 | some p =>
   obtain ⟨g,v,k1, -, -, -,k2⟩:=h;exact tu
theorem aHQ (hb:But P w w1) (h1:isF cO l=true) (h:SelPost P w1 (mK l.tail) e w'):StP P w l e w':=by
 obtain ⟨hb2,h⟩:=h;refine ⟨_,λ_=>rfl,hb.trans hb2, ?_⟩;have hs:=hb.size;rcases hq:mK l.tail with _|⟨s,r⟩
 ·rw [hq] at h;exact h
 ·rw [hq] at h;obtain ⟨g,cs,k1,k2,k3,k4,k5⟩:=h;refine ⟨_,g,k1, ?_,k5⟩;simp only [StK,h1,if_true,hq];exact ⟨rfl,Nat.le_trans hs k2,cs,k3,k4.1,λj u hj hu=>(k4.2 j u hj hu).map (λ_ _ h=>h.mono hs) (xO hs)⟩
theorem Kb {r:ZW} (T:TypeId) (ob:Obj) (hb:But P w w1) (hp:PS w1 P r 0) (h1:isF cO l=false) (hT:zG T=true):StP P w l (.returned (.iface T w1)) (w1.alloc ob) :=
 wY hb h1 ⟨But.alloc P w1 ob,.inr ⟨T,_,r,rfl,hT,hp.below ((θ).alloc (ν _) ob)⟩⟩
theorem Un (P:Nat) (l:ZW) (w:World) (h:PS w P l 0) (hs:Lsane l) (hR:Resv w) :
 Calls prog 29 #[P] w (StP P w l):=by
 have I0:=κ (λ(w':World) (b:Bool) (hp:PS w' P l 0) (hb:isF vP l=b)=>bS P 0 l ⟨#[99,114,101,97,116,101]⟩ w' hp b hb);have I1:=κ (λ(w':World) (b:Bool) (hp:PS w' P l 0) (hb:isF Mn l=b)=>bS P 0 l ⟨#[100,114,111,112]⟩ w' hp b hb);have I2:=κ (λ(w':World) (b:Bool) (hp:PS w' P l 0) (hb:isF vO l=b)=>bS P 0 l ⟨#[105,110,115,101,114,116]⟩ w' hp b hb);have I3:=κ (λ(w':World) (b:Bool) (hp:PS w' P l 0) (hb:isF vN l=b)=>bS P 0 l ⟨#[117,112,100,97,116,101]⟩ w' hp b hb);have I4:=κ (λ(w':World) (b:Bool) (hp:PS w' P l 0) (hb:isF qH l=b)=>bS P 0 l ⟨#[100,101,108,101,116,101]⟩ w' hp b hb);have I5:=κ (λ(w':World) (b:Bool) (hp:PS w' P l 0) (hb:isF cO l=b)=>bS P 0 l ⟨#[115,101,108,101,99,116]⟩ w' hp b hb);have I6:=κ (λ(w':World) (b:Bool) (hp:PS w' P l 0) (hb:isF Jm l=b)=>bS P 0 l ⟨#[98,101,103,105,110]⟩ w' hp b hb);have I7:=κ (λ(w':World) (b:Bool) (hp:PS w' P l 0) (hb:isF Co l=b)=>bS P 0 l ⟨#[99,111,109,109,105,116]⟩ w' hp b hb);have C0:=κ (λ(w1:World) (hf:isF vP l=true) (hb:But P w w1) (hp:PS w1 P l.tail 0)=>(show Calls prog 64 #[P] w1 (StP P w l) from (Lv P l.tail w1 hp hs.tl (hR.but h hb)).mono λ_ _ k=>wY hb (cF hf am) k));have C1:=κ (λ(w1:World) (hf:isF Mn l=true) (hb:But P w w1) (hp:PS w1 P l.tail 0)=>(show Calls prog 65 #[P] w1 (StP P w l) from (Zo P l.tail w1 hp hs.tl (hR.but h hb)).mono λ_ _ k=>wY hb (cF hf am) k))
 have C2:=κ (λ(w1:World) (hf:isF vO l=true) (hb:But P w w1) (hp:PS w1 P l.tail 0)=>(show Calls prog 66 #[P] w1 (StP P w l) from (Ln P l.tail w1 hp hs.tl (hR.but h hb)).mono λ_ _ k=>wY hb (cF hf am) (aHC k)));have C3:=κ (λ(w1:World) (hf:isF vN l=true) (hb:But P w w1) (hp:PS w1 P l.tail 0)=>(show Calls prog 67 #[P] w1 (StP P w l) from (Jn P l.tail w1 hp hs.tl (hR.but h hb)).mono λ_ _ k=>wY hb (cF hf am) (aHB k)));have C4:=κ (λ(w1:World) (hf:isF qH l=true) (hb:But P w w1) (hp:PS w1 P l.tail 0)=>(show Calls prog 68 #[P] w1 (StP P w l) from (xC P l.tail w1 hp hs.tl (hR.but h hb)).mono λ_ _ k=>wY hb (cF hf am) (aHD k)));have C5:=κ (λ(w1:World) (hf:isF cO l=true) (hb:But P w w1) (hp:PS w1 P l.tail 0)=>(show Calls prog 69 #[P] w1 (StP P w l) from (Lz P l.tail w1 hp hs.tl (hR.but h hb)).mono λ_ _ k=>aHQ hb hf k));have HN:=κ (λ(w1:World) (hp:PS w1 P l 0)=>bQ P 0 tR l w1 hp);have HP:=da;have HB:=κ (But.refl P w);clear h hs hR;go_enter func29,ntmps29;cases hf:isF vP l
 rotate_left
 ·have HF:=mh;have J:=κ (I0.o w true HP.o hf);clear hf;go_wp2_with fail;refine μ J ?_;rintro e v ⟨rfl,hb,hp⟩;simp only [if_true] at hp;have HC:=κ (C0.o v HF.o (HB.o.trans hb) hp);clear hb hp;go_wp2_with fail;refine μ HC ?_;rintro e v2 hx;have HX:=κ hx;rcases hx.form with ⟨c,rfl⟩|⟨T,g,rfl⟩
  ·clear hx;unfold aT;go_wp2;exact tw
  ·clear hx;go_wp2;go_ret;exact HX.o
 have F0:=mh;have J:=κ (I0.o w false HP.o hf);clear hf;go_wp2_with fail;refine μ J ?_;rintro e w1 ⟨rfl,hb,hp⟩;simp only [φ,if_false] at hp;replace HP:=ef;replace HB:=tz;clear hb hp J;cases hf:isF Mn l
 rotate_left
 ·have HF:=mh;have J:=κ (I1.o w1 true HP.o hf);clear hf;go_wp2_with fail;refine μ J ?_;rintro e v ⟨rfl,hb,hp⟩;simp only [if_true] at hp;have HC:=κ (C1.o v HF.o (HB.o.trans hb) hp);clear hb hp;go_wp2_with fail;refine μ HC ?_;rintro e v2 hx;have HX:=κ hx;rcases hx.form with ⟨c,rfl⟩|⟨T,g,rfl⟩
  ·clear hx;unfold aT;go_wp2;exact tw
  ·clear hx;go_wp2;go_ret;exact HX.o
 have F1:=mh;have J:=κ (I1.o w1 false HP.o hf);clear hf;go_wp2_with fail;refine μ J ?_;rintro e w2 ⟨rfl,hb,hp⟩;simp only [φ,if_false] at hp;replace HP:=ef;replace HB:=tz;clear hb hp J;cases hf:isF vO l
 rotate_left
 ·have HF:=mh;have J:=κ (I2.o w2 true HP.o hf);clear hf;go_wp2_with fail;refine μ J ?_;rintro e v ⟨rfl,hb,hp⟩;simp only [if_true] at hp;have HC:=κ (C2.o v HF.o (HB.o.trans hb) hp);clear hb hp;go_wp2_with fail;refine μ HC ?_;rintro e v2 hx;have HX:=κ hx;rcases hx.form with ⟨c,rfl⟩|⟨T,g,rfl⟩
  ·clear hx;unfold aT;go_wp2;exact tw
  ·clear hx;go_wp2;go_ret;exact HX.o
 have F2:=mh;have J:=κ (I2.o w2 false HP.o hf);clear hf;go_wp2_with fail;refine μ J ?_;rintro e w3 ⟨rfl,hb,hp⟩;simp only [φ,if_false] at hp;replace HP:=ef;replace HB:=tz;clear hb hp J;cases hf:isF vN l
 rotate_left
 ·have HF:=mh;have J:=κ (I3.o w3 true HP.o hf);clear hf;go_wp2_with fail;refine μ J ?_;rintro e v ⟨rfl,hb,hp⟩;simp only [if_true] at hp;have HC:=κ (C3.o v HF.o (HB.o.trans hb) hp);clear hb hp;go_wp2_with fail;refine μ HC ?_;rintro e v2 hx;have HX:=κ hx;rcases hx.form with ⟨c,rfl⟩|⟨T,g,rfl⟩
  ·clear hx;unfold aT;go_wp2;exact tw
  ·clear hx;go_wp2;go_ret;exact HX.o
 have F3:=mh;have J:=κ (I3.o w3 false HP.o hf);clear hf;go_wp2_with fail;refine μ J ?_;rintro e w4 ⟨rfl,hb,hp⟩;simp only [φ,if_false] at hp;replace HP:=ef;replace HB:=tz;clear hb hp J;cases hf:isF qH l
 rotate_left
 ·have HF:=mh;have J:=κ (I4.o w4 true HP.o hf);clear hf;go_wp2_with fail;refine μ J ?_;rintro e v ⟨rfl,hb,hp⟩;simp only [if_true] at hp;have HC:=κ (C4.o v HF.o (HB.o.trans hb) hp);clear hb hp;go_wp2_with fail;refine μ HC ?_;rintro e v2 hx;have HX:=κ hx;rcases hx.form with ⟨c,rfl⟩|⟨T,g,rfl⟩
  ·clear hx;unfold aT;go_wp2;exact tw
  ·clear hx;go_wp2;go_ret;exact HX.o
 have F4:=mh;have J:=κ (I4.o w4 false HP.o hf);clear hf;go_wp2_with fail;refine μ J ?_;rintro e w5 ⟨rfl,hb,hp⟩;simp only [φ,if_false] at hp;replace HP:=ef;replace HB:=tz;clear hb hp J;cases hf:isF cO l
 rotate_left
 ·have HF:=mh;have J:=κ (I5.o w5 true HP.o hf);clear hf;go_wp2_with fail;refine μ J ?_;rintro e v ⟨rfl,hb,hp⟩;simp only [if_true] at hp;have HC:=κ (C5.o v HF.o (HB.o.trans hb) hp);clear hb hp;go_wp2_with fail;refine μ HC ?_;rintro e v2 hx;have HX:=κ hx;rcases hx.form with ⟨c,rfl⟩|⟨T,g,rfl⟩
  ·clear hx;unfold aT;go_wp2;exact tw
  ·clear hx;go_wp2;go_ret;exact HX.o
 have F5:=mh;have J:=κ (I5.o w5 false HP.o hf);clear hf;go_wp2_with fail;refine μ J ?_;rintro e w6 ⟨rfl,hb,hp⟩;simp only [φ,if_false] at hp;replace HP:=ef;replace HB:=tz;clear hb hp J;cases hf:isF Jm l
 rotate_left
 ·have HF:=mh;have J:=κ (I6.o w6 true HP.o hf);clear hf;go_wp2_with fail;refine μ J ?_;rintro e v ⟨rfl,hb,hp⟩;simp only [if_true] at hp;have HX:=κ (Kb (l:=l) 163 (.cells #[] 165) (HB.o.trans hb) hp (cF HF.o am) am);clear hb hp;go_wp2;go_ret;exact HX.o
 have F6:=mh;have J:=κ (I6.o w6 false HP.o hf);clear hf;go_wp2_with fail;refine μ J ?_;rintro e w7 ⟨rfl,hb,hp⟩;simp only [φ,if_false] at hp;replace HP:=ef;replace HB:=tz;clear hb hp J;cases hf:isF Co l
 rotate_left
 ·have HF:=mh;have J:=κ (I7.o w7 true HP.o hf);clear hf;go_wp2_with fail;refine μ J ?_;rintro e v ⟨rfl,hb,hp⟩;simp only [if_true] at hp;have HX:=κ (Kb (l:=l) 166 (.cells #[] 167) (HB.o.trans hb) hp (cF HF.o am) am);clear hb hp;go_wp2;go_ret;exact HX.o
 have F7:=mh;have J:=κ (I7.o w7 false HP.o hf);clear hf;go_wp2_with fail;refine μ J ?_;rintro e w8 ⟨rfl,hb,hp⟩;simp only [φ,if_false] at hp;replace HP:=ef;replace HB:=tz;clear hb hp J;have J:=κ (HN.o w8 HP.o);go_wp2_with fail;refine μ J ?_;rintro e w9 hn;rcases hq:aD tR l with _|r
 ·obtain ⟨rfl,hb⟩:=er;have HX:=κ (wY (HB.o.trans hb) F5.o (WkPost.stop (c:=4) (But.refl P w9) am));clear hn hq hb;unfold aT;go_wp2;exact tw
 ·obtain ⟨rfl,hb,hp⟩:=eu;have HX:=κ (Kb (l:=l) 169 (.cells #[] 170) (HB.o.trans hb) hp F5.o am);clear hn hq hb hp;go_wp2;go_ret;exact HX.o
theorem Li:(prog.info? 56).map (λi=>(i.zero,i.size,i.bytes))=some (some (.int .u8 0),1,1):=aj
def Ho (sc:List Tb) (gr:Bool) (xs:List Lp.X):List Int:=xs.map λy=>(aC sc y gr).1
theorem aIL (sc:List Tb) (gr:Bool) (xs:List Lp.X):(Ho sc gr xs).length=xs.length:=by simp [Ho]
theorem aEI (sc:List Tb) (gr:Bool) (h:i<xs.length):kv (Ho sc gr (xs.take i))++[.int .u8 (aC sc xs[i] gr).1]=kv (Ho sc gr (xs.take (i+1))):=by
 rw [List.take_succ_eq_append_getElem h];simp only [kv,Ho,List.map_append,List.map_cons,List.map_nil]
theorem uX (sc:List Tb) (gr:Bool) (h:i<xs.length) (h0:aF sc gr (xs.take i)=0):aF sc gr (xs.take (i+1))=(aC sc xs[i] gr).2:=by
 rw [List.take_succ_eq_append_getElem h,kV _ _ _ _ h0]
theorem Ic (sc:List Tb) (gr:Bool) (h:i<xs.length) (h0:aF sc gr (xs.take i)=0) (h1:(aC sc xs[i] gr).2≠0):aF sc gr xs=(aC sc xs[i] gr).2:=by
 have h2:=uX sc gr h h0;have h3:=mC sc gr (xs.take (i+1)) (xs.drop (i+1)) (by rw [h2];exact h1);rw [List.take_append_drop] at h3;rw [h3,h2]
theorem sY (x:Lp.X):(dR x).length≤2:=by cases x<;>simp [dR]
def Es (A:ZT) (c:Nat) (l:List dW) (x:Lp.X):Prop:=∀ (gr:Bool) (S:Nat->Prop) (w:World) (r:RC),ScA w A l->RX S w x r->Calls prog 38 #[.slice A l.length c,r.val,gr] w (vB (aC (aE l) x gr) w)
theorem fQ {p q:Int×Int} (h:p=q) (hb:Below w w w'):vB p w (.returned (.tuple #[.int .u8 q.1,.int .i64 q.2])) w':=by subst h;exact ⟨rfl,hb⟩
theorem Xc (A:ZT) (c:Nat) (l:List dW) (x:Lp.X) (gr gr2:Bool) (hk:dR x≠[]) (hg:iO x=6∧gr=true∧gr2=false∨iO x≠6∧gr2=gr) (hend:EndK x) (S:Nat->Prop) (w:World) (Ar:ZT) (rs:List RC) (hA:ScA w A l) (hp:Pts S w Ar (dR x) rs) (ho:∀ y∈dR x,Es A c l y) :
 Calls prog 38 #[.slice A l.length c,(rcN (iO x) (rU x) Ar (dR x).length).val,gr] w (vB (aC (aE l) x gr) w):=by
 obtain ⟨iK,hiK,hz0,hz1,hz2⟩:=info_parts Li;have hkx:=Xy (aE l) x hk hg;obtain ⟨R,hR0⟩:∃ R,aC (aE l) x gr=R:=cw;rw [hR0] at hkx |-;have HKX:=κ hkx;clear hkx hR0;have hn2:=sY x;have HE:=κ hend;have key:∀ G:Bool,G=gr2->∀ y∈dR x,∀ (S:Nat->Prop) (w:World) (r:RC),ScA w A l->RX S w y r->Calls prog 38 #[.slice A l.length c,r.val,G] w (vB (aC (aE l) y gr2) w):=by
  rintro G rfl y hy S w r h1 h2;exact ho y hy G S w r h1 h2
 have HO:=κ key;simp only [RC.val,rcN];have hb0:Below w w (w.alloc (.cells #[.int .u8 (iO x),.int .u8 0,.int .i64 0,(),false,(),.string ⟨(rU x).toArray⟩,.slice Ar (dR x).length (dR x).length] 60)):=ρ;have hz:=heap_alloc_new w (.cells #[.int .u8 (iO x),.int .u8 0,.int .i64 0,(),false,(),.string ⟨(rU x).toArray⟩,.slice Ar (dR x).length (dR x).length] 60);have hc:=β hz;have HB:=κ (ι hb0 (ι hz (ι (hA.below hb0) (hp.below hb0))));have h6:((iO x==6)=true∧gr=true∧gr2=false)∨((iO x==6)=false∧gr2=gr):=by
  rcases hg with ⟨h1,h2,h3⟩|⟨h1,h2⟩
  ·exact .inl ⟨beq_iff_eq.2 h1,h2,h3⟩
  ·exact .inr ⟨η h1,h2⟩
 obtain ⟨xs,hxs⟩:∃ xs,dR x=xs:=cw;rw [hxs] at HKX hn2 HO hb0 hz hc HB |-;have HXS:=κ hxs;obtain ⟨k,hkk⟩:∃ k,iO x=k:=cw;rw [hkk] at hb0 hz hc HB h6 |-;have HKK:=κ hkk;obtain ⟨op,hop⟩:∃ op,rU x=op:=cw;rw [hop] at hb0 hz hc HB |-;have HOP:=κ hop;have hnI:=FW
 clear hb0 hz hA hp hk hg hend ho key hxs hkk hop;go_enter func38,ntmps38;rcases h6 with ⟨h6,rfl,hg2⟩|⟨h6,hg2⟩
 case' inl =>
  have HO2:=κ (HO.o false hg2.symm);clear HO hg2
 case' inr =>
  obtain rfl:gr2=gr:=hg2;have HO2:=κ (HO.o gr2 rfl);clear HO
 all_goals
  go_wp2_with fail;generalize (w.alloc (.cells #[.int .u8 k,.int .u8 0,.int .i64 0,(),false,(),op,.slice Ar xs.length xs.length] 60))=W at *;clear hc
  go_loopw [8,10,11,12,22] (λs8 _ _ _ s22 wr=>∃ (i:Nat) (A8:ZT) (c8:Nat),i≤xs.length∧s22=.int .i64 i∧s8=.slice A8 i c8∧aF (aE l) gr2 (xs.take i)=0∧wr.ownsRow W 56 1 (.slice A8 i c8) i (kv (Ho (aE l) gr2 (xs.take i)))∧Below W W wr) (λ_ _ _ _ s22 _=>xs.length-(intOf s22).toNat)
  case atStart=>exact ⟨0,none,0,Nat.zero_le _,rfl,rfl,rfl,World.ownsRow_nil _ _ _ _,θ⟩
  case round =>
   obtain ⟨i,A8,c8,hi,rfl,rfl,hf,hown,hb⟩:=dd;have hkw:=FX
   by_cases hlt:i<xs.length
   ·have HR:=κ (ι hf (ι hown hb));have hpw:=HB.o.2.2.2.below hb;have hri:=FY
    obtain ⟨bR,oR,hAR,q0,q1,q2,q3,q4,q5,q6,q7⟩:=GD;have hrx:=GC;have hok:=HO2.o _ (List.getElem_mem hlt);have HNX:=κ (uX (aE l) gr2 hlt hf);have HST:=κ (Ic (aE l) gr2 hlt hf);have HKS:=κ (aEI (aE l) gr2 hlt);subst hAR;generalize rs[i]=r at *;generalize xs[i]=y at *;obtain ⟨rk,rvk,rvi,rvs,rvb,rt,rs0,rA,rn,rc⟩:=r;have hbx:=GA;have HC:=κ (hok S _ _ ((HB.o.2.2.1.below hb).below hbx) (RX.below hbx hrx));simp only [RC.val] at HC;have HX:=κ (ι (aN hown hbx) (hb.trans (hbx.mono hb.size)));clear hf hown hb hpw hri hrx hok hbx hkw;go_wp2_with fail;refine μ HC ?_;rintro e w9 ⟨rfl,hb9⟩;have hown9:=aN HX.o.1 hb9;have hb9w:=HX.o.2.trans (hb9.mono HX.o.2.size)
    by_cases h2:(aC (aE l) y gr2).2=0
    ·have HN:=κ (HNX.o.trans h2);have HKS2:=κ HKS.o;have hsz:=hb9w.size;rw [h2];generalize (aC (aE l) y gr2).1=p1 at *;have HY:=κ (ι hown9 hb9w);clear hown9 hb9w hb9 q0 q1 q2 q3 q4 q5 q6 q7 HX HC h2 HST HNX;go_wp2_with (at_builtin;refine bJ _ rfl (.tmp 36) (.tmp 38) _ rfl W 56 iK _ 1 1 underlying185 hiK hz0 hz1 hz2 rfl ac _ _ _ _ rfl (HY.o.1.alloc _) _ 1 1 [.int .u8 p1] rfl rfl (dL _ _ _) GF kt ac bl ?_;intro A4 c4 w4 hown4 hb4 hg4 _);have hb5:=(HY.o.2.alloc hsz _).trans hb4;rw [HKS2.o] at hown4;have HZ:=κ (ι hown4 hb5);clear hown4 hb4 hg4 hb5 HY;go_wp2
     go_roundw
     case rel=>exact ⟨i+1,A4,c4,ac,de,by trivial,HN.o,HZ.o.1,HZ.o.2⟩
     case measure=>simp [intOf];omega
    ·have HS:=κ (HST.o h2);have e1:((aC (aE l) y gr2).2 !=0)=true:=GG
     have HQ:=κ (HB.o.1.trans (hb9w.mono HB.o.1.size));have HH2:=κ h2;generalize (aC (aE l) y gr2).2=p2 at *;clear hown9 hb9w hb9 q0 q1 q2 q3 q4 q5 q6 q7 HX HC h2 HST HNX HKS;go_wp2;go_ret2;exact fQ (q:=(0,p2)) (by rw [HKX.o,HS.o,if_neg HH2.o]) HQ.o
   ·have hi2:=ld
    subst hi2;rw [List.take_length] at hf hown;have hR:R=Ij x (Ho (aE l) gr2 xs):=by rw [HKX.o,hf];exact if_pos rfl
    have hkl:=aIL (aE l) gr2 xs;generalize Ho (aE l) gr2 xs=ks at *;have hzr:=aA HB.o.2.1 hb;have hc:=β hzr;have HQ:=κ hkw;have HR:=κ hR;have HL:=κ (show ks.length=(dR x).length by rw [HXS.o];exact hkl);have HW:=κ (ι hown hzr);have hal:=λ(q:Int)=>Ta A8 c8 ks q wr (Rds.own hown) ac;rw [hkl] at hal;have HAL:=κ hal;clear hf hb hkw hR hal hlt;rcases HE.o with ⟨h1,h2⟩|⟨hkn,h1,h2⟩|⟨hkn,h1,h2⟩|⟨hkn,h1,h2⟩|⟨hkn,h1,h0,h2⟩|⟨hkn,h1,h0,h2⟩
    ·obtain rfl:k=5:=by rw [<-HKK.o];exact h1
     have HV:=κ (h2 ks);clear h2 HE hkl hown hzr;go_wp2;go_ret2;exact fQ (q:=(3,0)) GH HQ.o
    ·rw [HKK.o] at hkn;rw [HOP.o] at h1;obtain ⟨k1,k2,k5⟩:=hkn;have HV:=κ (h2 ks HL.o);have HC:=κ (HAL.o 3);clear h2 HE hkl hown hzr;generalize Lp.allK ks 3=b at *;rcases h1 with rfl|rfl|rfl
     all_goals
      simp only [fG,lE,uOr] at *;cases b
      all_goals
       go_wp2_with fail;refine μ HC ?_;rintro e w' ⟨rfl,rfl⟩;go_wp2;go_ret2
       first|exact fQ (q:=(3,0)) GI HQ.o|exact fQ (q:=(0,8)) GI HQ.o
    ·rw [HKK.o] at hkn;rw [HOP.o] at h1;obtain ⟨k1,k2,k5⟩:=hkn;have HV:=κ (h2 ks HL.o);have HC:=κ (HAL.o 1);clear h2 HE hkl hown hzr;generalize Lp.allK ks 1=b at *;simp only [List.mem_cons,List.not_mem_nil,or_false] at h1;rcases h1 with rfl|rfl|rfl|rfl|rfl|rfl
     all_goals
      try simp only [dZ] at *
      cases b
      all_goals
       go_wp2_with fail;refine μ HC ?_;rintro e w' ⟨rfl,rfl⟩;go_wp2;go_ret2
       first|exact fQ (q:=(1,0)) GI HQ.o|exact fQ (q:=(0,8)) GI HQ.o
    ·rw [HKK.o] at hkn;rw [HOP.o] at h1;obtain ⟨k1,k2,k5⟩:=hkn;have HV:=κ (h2 ks);subst h1;simp only [aJ] at *;clear h2 HE hkl hown hzr;go_wp2;go_ret2;exact fQ (q:=(1,0)) GH HQ.o
    ·rw [HKK.o] at hkn;rw [HOP.o] at h1;obtain ⟨k1,k2,k5⟩:=hkn;obtain ⟨a,rfl⟩:=Dr (HL.o.trans h0);have HV:=κ (h2 a);obtain ⟨b,off,hA8,q0⟩:=(Rds.own hown).at_ (Nv (l:=[a]) (i:=0) aa);subst hA8;simp only [Nat.add_zero,List.getElem_cons_zero] at q0;have hx1:xs.length=1:=by simpa using hkl.symm
     clear h2 HE hkl hown hzr HAL;rcases h1 with rfl|rfl
     all_goals
      simp only [fT,fX] at *;go_wp2;go_ret2;exact fQ (q:=(a,0)) GH HQ.o
    ·rw [HKK.o] at hkn;rw [HOP.o] at h1;obtain ⟨k1,k2,k5⟩:=hkn;obtain ⟨a,b,rfl⟩:=Jp (HL.o.trans h0);have HV:=κ (h2 a b);obtain ⟨bb,off,hA8,q0⟩:=(Rds.own hown).at_ (Nv (l:=[a,b]) (i:=0) aa);obtain ⟨bb2,off2,hA82,q1⟩:=(Rds.own hown).at_ (Nv (l:=[a,b]) (i:=1) aa);subst hA8;simp only [Option.some.injEq,Addr.mk.injEq,and_true] at hA82;obtain ⟨rfl,rfl⟩:=hA82;simp only [Nat.add_zero,List.getElem_cons_zero,List.getElem_cons_succ] at q0 q1;have hx1:xs.length=2:=by simpa using hkl.symm
     obtain ⟨o1,o2,o3,o4,o5,o6,o7,o8,o9,o10,o11,o12⟩:=Sf op h1;clear h2 HE hkl hown hzr HAL h1;cases e1:(a==0)
     ·have n1:(a !=0)=true:=kf
      cases e2:(b==0)
      ·have n2:(b !=0)=true:=ur
       cases e3:(a==b)
       ·have n3:(a !=b)=true:=kh
        have HT:=κ (show (if a≠0∧b≠0∧a≠b then ((0,8):Int×Int) else (3,0))=(0,8) from if_pos ⟨ne_of_beq_false e1,ne_of_beq_false e2,ne_of_beq_false e3⟩);go_wp2_with fail
        go_region
        go_wp2;go_ret2;exact fQ (q:=(0,8)) GJ HQ.o.drew
       ·have n3:(a !=b)=false:=kh
        have HT:=κ (show (if a≠0∧b≠0∧a≠b then ((0,8):Int×Int) else (3,0))=(3,0) from if_neg λh=>h.2.2 (eq_of_beq e3));go_wp2_with fail
        go_region
        go_wp2;go_ret2;exact GK
      ·have n2:(b !=0)=false:=ur
       have HT:=κ (show (if a≠0∧b≠0∧a≠b then ((0,8):Int×Int) else (3,0))=(3,0) from if_neg λh=>h.2.1 (eq_of_beq e2));go_wp2_with fail
       go_region
       go_wp2;go_ret2;exact GK
     ·have n1:(a !=0)=false:=kf
      have HT:=κ (show (if a≠0∧b≠0∧a≠b then ((0,8):Int×Int) else (3,0))=(3,0) from if_neg λh=>h.1 (eq_of_beq e1));go_wp2_with fail
      go_region
      go_wp2;go_ret2;exact GK
theorem yE (A:ZT) (c:Nat) (l:List dW) {x:Lp.X} (hx:x.wf) (hk:dR x≠[]) (ho:∀ y∈dR x,Es A c l y) (h6:iO x≠6):Es A c l x:=by
 intro gr S w r hA hr;obtain ⟨Ar,rs,rfl,hp⟩:=Cz hr hk;exact Xc A c l x gr gr hk (.inr ⟨h6,rfl⟩) (Zd hx hk) S w Ar rs hA hp ho
theorem Xz (A:ZT) (n c:Nat) (r:RC) (hr:r.k=6) (w:World) :
 Calls prog 38 #[.slice A n c,r.val,false] w (vB (0,3) w):=by
 obtain ⟨k,vk,vi,vs,vb,t,s,Ar,rn,rc⟩:=r;simp only at hr;subst hr;have HB:=κ (show Below w w (w.alloc (.cells #[.int .u8 6,.int .u8 vk,vi,vs,vb,t,s,.slice Ar rn rc] 60)) from ρ);simp only [RC.val];go_enter func38,ntmps38;go_wp2;go_ret2;exact sm
theorem rW (A:ZT) (c:Nat) (l:List dW) (hn:l.length≤100) (hw:bY (aE l)≤10000):∀ x:Lp.X,x.wf->Es A c l x:=by
 have nil_ne:=GL
 intro x
 induction x with
 | lit k i s b=>intro _ gr S w r hA hr;obtain rfl:r=rcL k i s b:=hr;exact Lf A c l.length k i s b gr w
 | col t s=>intro _ gr S w r hA hr;obtain rfl:r=rcC t s:=hr;exact Lg A c l t s gr w hA hn hw
 | cnt =>
   intro _ gr S w r hA hr;obtain rfl:r=rc0 6 aJ:=hr;exact Lh A c l.length gr w
 | un op x ih=>intro hx;exact yE A c l hx GN (λy hy=>GM) (by show (3:Int)≠6;decide)
 | isn n x ih=>intro hx;exact yE A c l hx GN (λy hy=>by rw [List.mem_singleton.1 hy];exact ih hx) (by show (5:Int)≠6;decide)
 | bin op a b iha ihb =>
   intro hx;refine yE A c l hx GN (λy hy => ?_) (by show (4:Int)≠6;decide);rcases List.mem_cons.1 hy with rfl|hy
   ·exact iha hx.2.1
   ·rw [List.mem_singleton.1 hy];exact ihb hx.2.2
 | agg op x ih =>
   intro hx gr S w r hA hr;obtain ⟨Ar,rs,rfl,hp⟩:=Cz (x:=.agg op x) hr GN;cases gr
   ·exact Xz A l.length c _ rfl w
   ·exact Xc A c l (.agg op x) true false GN (.inl ⟨rfl,rfl,rfl⟩) (Zd hx GN) S w Ar rs hA hp λy hy=>GM
