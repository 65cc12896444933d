/-
 Contracts. Conditions: those of each.
-/
import Derived.Test.YtkolcimllghnaaaGreatDoorQbZH
import Derived.Test.YtkolcimllghnaaaGreatDoorQbZB
import Derived.Test.YtkolcimllghnaaaGreatDoorQbZS
set_option maxRecDepth 100000
set_option maxHeartbeats 40000000
namespace Go.Proofs.YtkolcimllghnaaaGreatDoor
open Lp Go.Proofs.Tryz
open Go.RowKit
theorem Ys {α:Type} {f:List Tok→Option (α×List Tok)} {most k:Nat} {acc:List α} {r:List Tok} (hm:acc.length≤most) (hr:acc.length=most→r=[]) (hf0:f []=none) (h:(lW (acc.length+1) most ((f r).map (·.2))).1=false) :
 (lW (acc.length+1) most ((f r).map (·.2))).2=(gV f most (k+1) acc r).map (·.2)∧∀ p,gV f most (k+1) acc r=some p→∃ x r',f r=some (x,r')∧p.1=acc++[x]:=by
 rcases hq:f r with _|⟨x,r1⟩
 ·rw [hq] at h
  rw [kL hq]
  exact ⟨rfl,fun p hp=>by cases hp⟩
 ·rw [hq] at h
  have hlt:acc.length<most:=by
   rcases Nat.lt_or_ge acc.length most with h1|h1
   ·exact h1
   ·rw [hr (by omega),hf0] at hq;cases hq
  simp only [Option.map_some,lW] at h ⊢
  by_cases hc:isF dS r1=true
  ·have htl:=bB hc
   simp only [hc,if_true] at h ⊢
   by_cases hz:most≤acc.length+1∧0<r1.tail.length
   ·rw [if_pos hz,kM hq hc (by omega) (by omega)]
    exact ⟨rfl,fun p hp=>by cases hp⟩
   ·rw [if_neg hz] at h;cases h
  ·simp only [hc]
   rw [lQ hq (by simpa using hc)]
   exact ⟨rfl,fun p hp=>by injection hp with hp;rw [←hp];exact ⟨x,r1,rfl,rfl⟩⟩
theorem Ur {α:Type} {f:List Tok→Option (α×List Tok)} {most k:Nat} {acc:List α} {r:List Tok} (hm:acc.length≤most) (hr:acc.length=most→r=[]) (hf0:f []=none) (h:(lW (acc.length+1) most ((f r).map (·.2))).1=true) :
 ∃ x r',f r=some (x,r')∧(lW (acc.length+1) most ((f r).map (·.2))).2=some r'.tail∧gV f most (k+1) acc r=gV f most k (acc++[x]) r'.tail∧acc.length+1≤most∧(acc.length+1=most→r'.tail=[]):=by
 rcases hq:f r with _|⟨x,r1⟩
 ·rw [hq] at h;cases h
 ·rw [hq] at h
  have hlt:acc.length<most:=by
   rcases Nat.lt_or_ge acc.length most with h1|h1
   ·exact h1
   ·rw [hr (by omega),hf0] at hq;cases hq
  simp only [Option.map_some,lW] at h ⊢
  by_cases hc:isF dS r1=true
  ·have htl:=bB hc
   simp only [hc,if_true] at h ⊢
   by_cases hz:most≤acc.length+1∧0<r1.tail.length
   ·rw [if_pos hz] at h;cases h
   ·rw [if_neg hz]
    exact ⟨x,r1,rfl,rfl,iL hq hc (by omega),hlt,fun e=>List.eq_nil_of_length_eq_zero (by omega)⟩
  ·simp only [hc] at h;cases h
def uX {α:Type} (f:List Tok→Option (α×List Tok)) (most k:Nat) (acc:List α) (o:Option (List Tok)):Option (List α×List Tok):=o.bind (gV f most k acc)
theorem Gq {α:Type} {f:List Tok→Option (α×List Tok)} {most k:Nat} {acc:List α} {o:Option (List Tok)} (hm:acc.length≤most) (hr:acc.length=most→o=none∨o=some []) (hf0:f []=none) (h:(lW (acc.length+1) most ((o.bind f).map (·.2))).1=false) :
 (lW (acc.length+1) most ((o.bind f).map (·.2))).2=(uX f most (k+1) acc o).map (·.2)∧∀ p,uX f most (k+1) acc o=some p→∃ x r',o.bind f=some (x,r')∧p.1=acc++[x]:=by
 cases o with
 | none=>exact ⟨rfl,fun p hp=>by cases hp⟩
 | some r=>exact Ys hm (fun e=>by rcases hr e with h|h;cases h;injection h) hf0 h
theorem Bq {α:Type} {f:List Tok→Option (α×List Tok)} {most k:Nat} {acc:List α} {o:Option (List Tok)} (hm:acc.length≤most) (hr:acc.length=most→o=none∨o=some []) (hf0:f []=none) (h:(lW (acc.length+1) most ((o.bind f).map (·.2))).1=true) :
 ∃ x r',o.bind f=some (x,r')∧(lW (acc.length+1) most ((o.bind f).map (·.2))).2=some r'.tail∧uX f most (k+1) acc o=uX f most k (acc++[x]) (some r'.tail)∧acc.length+1≤most∧(acc.length+1=most→r'.tail=[]):=by
 cases o with
 | none=>cases h
 | some r=>exact Ur hm (fun e=>by rcases hr e with h|h;cases h;injection h) hf0 h
theorem Nm (o:Option (List Tok)):(((o.bind (aE lF)).bind (cN (pX 1 0) 8)).map (·.2)).bind (aE oD)=(o.bind fA).map (·.2)∧∀ xs,(o.bind fA).map (·.1)=some xs→o≠none∧∃ r,(o.bind (aE lF)).bind (cN (pX 1 0) 8)=some (xs,r):=by
 cases o with
 | none=>exact ⟨rfl,fun xs h=>by cases h⟩
 | some l =>
   rw [Option.bind_some,Option.bind_some]
   unfold fA
   rcases h1:aE lF l with _|r1
   ·exact ⟨rfl,fun xs h=>by cases h⟩
   ·rw [Option.bind_some]
    dsimp only
    rcases h2:cN (pX 1 0) 8 r1 with _|⟨xs,r2⟩
    ·exact ⟨rfl,fun xs h=>by cases h⟩
    ·rw [Option.map_some,Option.bind_some]
     dsimp only
     rcases h3:aE oD r2 with _|r3
     ·exact ⟨rfl,fun xs h=>by cases h⟩
     ·exact ⟨rfl,fun ys h=>by injection h with h;subst h;exact ⟨by simp,r2,rfl⟩⟩
theorem Xh (o:Option (List Tok)):((((o.bind aZ).map (·.2)).bind (aE wEq)).bind (pX 1 0)).map (·.2)=(o.bind eS).map (·.2)∧∀ c x r,o.bind eS=some ((c,x),r)→o≠none∧(∃ r1,o.bind aZ=some (c,r1))∧∃ r2,(((o.bind aZ).map (·.2)).bind (aE wEq)).bind (pX 1 0)=some (x,r2):=by
 cases o with
 | none=>exact ⟨rfl,fun c x r h=>by cases h⟩
 | some l =>
   rw [Option.bind_some,Option.bind_some]
   unfold eS
   rcases h1:aZ l with _|⟨n,r1⟩
   ·exact ⟨rfl,fun c x r h=>by cases h⟩
   ·rw [Option.map_some,Option.bind_some]
    dsimp only
    rcases h2:aE wEq r1 with _|r2
    ·exact ⟨rfl,fun c x r h=>by cases h⟩
    ·rw [Option.bind_some]
     dsimp only
     rcases h3:pX 1 0 r2 with _|⟨y,r3⟩
     ·exact ⟨rfl,fun c x r h=>by cases h⟩
     ·refine ⟨rfl,fun c x r h => ?_⟩
      simp only [Option.map_some,Option.some.injEq,Prod.mk.injEq] at h
      obtain ⟨⟨rfl,rfl⟩,rfl⟩:=h
      exact ⟨by simp,⟨r1,rfl⟩,r3,rfl⟩
theorem aAM (l:List Tok):(gT l).map (fun p=>p.2.2)=(((((aE oZ l).bind aZ).map (·.2)).bind (aE jM)).bind (cN fA 64)).map (·.2)∧∀ p,gT l=some p→((((aE oZ l).bind aZ).map (·.2)).bind (aE jM)).bind (cN fA 64)=some (p.2.1,p.2.2):=by
 unfold gT
 rcases h1:aE oZ l with _|r1
 ·exact ⟨rfl,fun p h=>by cases h⟩
 ·rw [Option.bind_some]
  dsimp only
  rcases h2:aZ r1 with _|⟨n,r2⟩
  ·exact ⟨rfl,fun p h=>by cases h⟩
  ·rw [Option.map_some,Option.bind_some]
   dsimp only
   rcases h3:aE jM r2 with _|r3
   ·exact ⟨rfl,fun p h=>by cases h⟩
   ·rw [Option.bind_some]
    dsimp only
    rcases h4:cN fA 64 r3 with _|⟨rows,r4⟩
    ·exact ⟨rfl,fun p h=>by cases h⟩
    ·exact ⟨rfl,fun p h=>by injection h with h;rw [←h]⟩
theorem Zz (l:List Tok):(gN l).map (fun p=>p.2.2.2)=whO ((((((aZ l).map (·.2)).bind (aE xI)).bind (cN eS 8))).map (·.2))∧∀ p,gN l=some p→∃ r,(((aZ l).map (·.2)).bind (aE xI)).bind (cN eS 8)=some (p.2.1,r):=by
 unfold gN
 rcases h1:aZ l with _|⟨n,r1⟩
 ·exact ⟨rfl,fun p h=>by cases h⟩
 ·rw [Option.map_some,Option.bind_some]
  dsimp only
  rcases h2:aE xI r1 with _|r2
  ·exact ⟨rfl,fun p h=>by cases h⟩
  ·rw [Option.bind_some]
   dsimp only
   rcases h3:cN eS 8 r2 with _|⟨ss,r3⟩
   ·exact ⟨rfl,fun p h=>by cases h⟩
   ·rw [Option.map_some]
    dsimp only
    unfold whO
    rw [Option.bind_some]
    rcases h4:whF r3 with _|⟨x,r4⟩
    ·exact ⟨rfl,fun p h=>by cases h⟩
    ·exact ⟨rfl,fun p h=>by injection h with h;rw [←h];exact ⟨r3,rfl⟩⟩
def exT (t:TypeId):Bool:=t==60
theorem oM {P:Nat} {w w':World} {o:Option (List Tok)} (hb:But P w w') (hp:RO P w o):StaysT exT w w':=fun g cs t h ht=>aO hb h (hp.box h (by rintro rfl;cases ht))
theorem RXL.stays {S:Nat→Prop} {w w':World} {xs:List Lp.X} {rs:List RC} (h:RXL S w xs rs) (hs:StaysT exT w w'):RXL S w' xs rs:=RXL.turn (fun g cs h0 hg=>⟨h0,hs g cs _ hg (by decide)⟩) h
theorem RLs.stays {B:Nat} {w w':World} {xs:List Lp.X} {v:Value} (h:RLs B w xs v) (hs:StaysT exT w w'):RLs B w' xs v:=by
 obtain ⟨A,c,rs,h1,h2,h3⟩:=h
 exact ⟨A,c,rs,h1,jV h2 hs (by decide),h3.stays hs⟩
theorem RLs.mono {B B':Nat} {w:World} {xs:List Lp.X} {v:Value} (h:RLs B w xs v) (hB:B'≤B):RLs B' w xs v:=by
 obtain ⟨A,c,rs,h1,h2,h3⟩:=h
 exact ⟨A,c,rs,h1,kJ hB h2,RXL.turn (fun g cs h0 hg=>⟨⟨Nat.le_trans hB h0.1,h0.2⟩,hg⟩) h3⟩
def RowsR (B:Nat) (w:World):List (List Lp.X)→List Value→Prop
 | [],[]=>True
 | x::xs,v::vs=>RLs B w x v∧RowsR B w xs vs
 | _,_=>False
theorem RowsR.stays {B:Nat} {w w':World} (hs:StaysT exT w w'):∀ {xs:List (List Lp.X)} {vs:List Value},RowsR B w xs vs→RowsR B w' xs vs
 | [],[],_=>trivial
 | [],_::_,h=>h.elim
 | _::_,[],h=>h.elim
 | _::_,_::_,⟨h1,h2⟩=>⟨h1.stays hs,RowsR.stays hs h2⟩
theorem RowsR.app {B:Nat} {w:World}:∀ {xs:List (List Lp.X)} {vs:List Value} {x:List Lp.X} {v:Value},RowsR B w xs vs→RLs B w x v→RowsR B w (xs++[x]) (vs++[v])
 | [],[],_,_,_,h2=>⟨h2,trivial⟩
 | [],_::_,_,_,h,_=>h.elim
 | _::_,[],_,_,h,_=>h.elim
 | _::_,_::_,_,_,⟨a,b⟩,h2=>⟨a,RowsR.app b h2⟩
theorem RowsR.at_ {B:Nat} {w:World}:∀ {xs:List (List Lp.X)} {vs:List Value} {i:Nat} (_:RowsR B w xs vs) (h:i<xs.length),∃ v,vs[i]? = some v∧RLs B w xs[i] v
 | [],_,_,_,h=>by simp at h
 | _::_,[],_,hp,_=>hp.elim
 | _::_,v::_,0,hp,_=>⟨v,rfl,hp.1⟩
 | _::xs,_::vs,i+1,hp,h=>by
   obtain ⟨v,h1,h2⟩:=RowsR.at_ (i:=i) hp.2 (by simpa using h)
   exact ⟨v,by simpa using h1,by simpa using h2⟩
def stI (k:Int) (tb:List UInt8) (A5:Option Addr) (n5 c5:Nat) (A6:Option Addr) (n6 c6:Nat) (A9:Option Addr) (n9 c9:Nat):List Value:=[.int .u8 k,.string ⟨#[]⟩,.string ⟨tb.toArray⟩,.string ⟨#[]⟩,.slice none 0 0,.slice A5 n5 c5,.slice A6 n6 c6,.slice none 0 0,.slice none 0 0,.slice A9 n9 c9,.slice none 0 0,.slice none 0 0,.int .i64 0]
theorem Mi (k:Int) (tb:List UInt8) (A5:Option Addr) (n5 c5:Nat) (A6:Option Addr) (n6 c6:Nat) (A9:Option Addr) (n9 c9:Nat):Cs13 (stI k tb A5 n5 c5 A6 n6 c6 A9 n9 c9):=by
 refine ⟨rfl,fun j v h => ?_⟩
 have hj:j<13:=by
  rcases Nat.lt_or_ge j 13 with h1|h1
  ·exact h1
  ·rw [List.getElem?_eq_none (by exact h1)] at h;cases h
 match j,hj with
 | 0,_=>injection h with h;subst h;exact ⟨fun _=>⟨k,rfl⟩,fun h=>by omega,fun h=>by omega,fun h=>by omega⟩
 | 1,_|2,_|3,_=>injection h with h;subst h;exact oE (by omega) (by omega) _
 | 4,_|5,_|6,_|7,_|8,_|9,_|10,_|11,_=>injection h with h;subst h;exact mM (by omega) (by omega) _ _ _
 | 12,_=>injection h with h;subst h;exact zS _
def InsE (B:Nat) (L:List Tok) (cs:List Value) (w:World):Prop:=∀ p,gT L.tail=some p→cs[0]? = some (.int .u8 5)∧∃ A c vs,cs[5]? = some (.slice A p.2.1.length c)∧w.ownsRow B 36 1 (.slice A p.2.1.length c) p.2.1.length vs∧RowsR B w p.2.1 vs
def UpdE (B:Nat) (L:List Tok) (cs:List Value) (w:World):Prop:=∀ p,gN L.tail=some p→cs[0]? = some (.int .u8 6)∧∃ A c l,cs[6]? = some (.slice A p.2.1.length c)∧w.ownsRow B 72 10 (.slice A p.2.1.length c) p.2.1.length (sv l)∧l.map (·.1)=p.2.1.map (·.1)∧RXL (fun g=>B≤g) w (p.2.1.map (·.2)) (l.map (·.2))
def KnS (P B:Nat) (L:List Tok) (cs:List Value) (w:World):Prop:=(isF cE L=true→RO P w ((gT L.tail).map fun p=>p.2.2)∧InsE B L cs w)∧(isF cC L=true→RO P w ((gN L.tail).map fun p=>p.2.2.2)∧UpdE B L cs w)∧RW P w 2000
def FinS (P:Nat) (L:List Tok) (w0 w:World):Prop:=But P w0 w∧w.heap[w0.heap.size]? = some (.cells stZ.toArray 38 (0,0))∧∃ cs,Cs13 cs∧w.heap[w0.heap.size+1]? = some (.cells cs.toArray 38 (0,0))∧KnS P w0.heap.size L cs w
def Zx (P:Nat) (w0:World) (L:List Tok) (e:Ending) (w:World):Prop:=∃ cs,Cs13 cs∧e=.returned (.agg cs.toArray)∧But P w0 w∧KnS P w0.heap.size L cs w
def nSt (t:TypeId):Bool:=t !=38
theorem Xp {w w':World} (hs:StaysT nSt w w'):StaysT exT w w':=fun k ds t h ht=>hs k ds t h (by unfold exT at ht;rw [eq_of_beq ht];decide)
theorem KnS.turn {P B g:Nat} {L:List Tok} {cs:List Value} {w w':World} (h:KnS P B L cs w) (hP:P<g) (hb:Below g w w') (hs:StaysT nSt w w'):KnS P B L cs w':=by
 refine ⟨fun h1 => ?_,fun h1 => ?_,h.2.2.low hP hb⟩
 ·obtain ⟨k1,k2⟩:=h.1 h1
  refine ⟨k1.low hP hb,fun p hp => ?_⟩
  obtain ⟨k3,A,c,vs,k4,k5,k6⟩:=k2 p hp
  exact ⟨k3,A,c,vs,k4,jV k5 hs (by decide),k6.stays (Xp hs)⟩
 ·obtain ⟨k1,k2⟩:=h.2.1 h1
  refine ⟨k1.low hP hb,fun p hp => ?_⟩
  obtain ⟨k3,A,c,l,k4,k5,k6,k7⟩:=k2 p hp
  exact ⟨k3,A,c,l,k4,jV k5 hs (by decide),k6,k7.stays (Xp hs)⟩
theorem sX {w:World} {g:Nat} {ds:Array Value} (h:w.heap[g]? = some (.cells ds 38 (0,0))) (vs:List Value) (k:Nat):StaysT nSt w (puts w g vs k):=fun j es t hj ht=>(mY (by
 rintro rfl
 rw [h] at hj
 injection hj with hj
 injection hj with _ hj
 rw [←hj] at ht
 cases ht) vs k w).trans hj
theorem KnS.weak {P B:Nat} {L:List Tok} {w:World} (cs:List Value) (h1:isF cE L=false) (h2:isF cC L=false) (h:RW P w 2000):KnS P B L cs w:=⟨(fun h=>by rw [h1] at h;cases h),(fun h=>by rw [h2] at h;cases h),h⟩
theorem FinS.weak {P:Nat} {L:List Tok} {w0 w:World} {K:List Nat} (h1:isF cE L=false) (h2:isF cC L=false) (h:XS P 2000 K w0 w):FinS P L w0 w:=by
 obtain ⟨k1,k2,k3,cs,k4,k5, -⟩:=h
 exact ⟨k1,k3,cs,k4,k5,KnS.weak cs h1 h2 k2⟩
theorem Gi {P:Nat} {L:List Tok} {w0 w:World} {cs:List Value} (hP:P<w0.heap.size) (hc:Cs13 cs) (hb:But P w0 w) (hz:w.heap[w0.heap.size]? = some (.cells stZ.toArray 38 (0,0))) (hk:KnS P w0.heap.size L cs w):Zx P w0 L (.returned (.agg cs.toArray)) (puts w w0.heap.size cs 0)∧(puts w w0.heap.size cs 0).heap[w0.heap.size]? = some (.cells cs.toArray 38 (0,0)):=by
 have h13:=kH cs 0 w stZ hz (by rw [hc.1];rfl)
 rw [List.take_zero,List.nil_append] at h13
 exact ⟨⟨cs,hc,rfl,But.puts (ν _) cs 0 w hb,hk.turn hP (jB (ν _) cs 0 w (θ)) (sX hz cs 0)⟩,h13⟩
def IIS (P:Nat) (t:List UInt8) (w0 w:World) (acc:List (List Lp.X)) (A:Option Addr) (c:Nat) (vs:List Value) (G:Prop) (o:Option (List Tok)):Prop:=But P w0 w∧w.heap[w0.heap.size]? = some (.cells stZ.toArray 38 (0,0))∧w.heap[w0.heap.size+1]? = some (.cells (stI 5 t A acc.length c none 0 0 none 0 0).toArray 38 (0,0))∧w.ownsRow w0.heap.size 36 1 (.slice A acc.length c) acc.length vs∧(G→RowsR w0.heap.size w acc vs)∧RO P w o
theorem IIS.next {P c:Nat} {t:List UInt8} {w0 w w':World} {acc:List (List Lp.X)} {A:Option Addr} {vs:List Value} {G:Prop} {o o':Option (List Tok)} (h:IIS P t w0 w acc A c vs G o) (hb:But P w w') (hp:RO P w' o'):IIS P t w0 w' acc A c vs G o':=by
 obtain ⟨h1,h2,h3,h4,h5,h6⟩:=h
 exact ⟨h1.trans hb,aO hb h2 (h6.box h2 (by decide)),aO hb h3 (h6.box h3 (by decide)),h6.own h4 hb (by decide),fun hg=>(h5 hg).stays (oM hb h6),hp⟩
def IIA (P:Nat) (t:List UInt8) (w0 w:World) (acc:List (List Lp.X)) (q:Option (List Lp.X)) (A:Option Addr) (c:Nat) (vs:List Value) (o:Option (List Tok)):Prop:=But P w0 w∧w.heap[w0.heap.size]? = some (.cells stZ.toArray 38 (0,0))∧w.heap[w0.heap.size+1]? = some (.cells (stI 5 t A (acc.length+1) c none 0 0 none 0 0).toArray 38 (0,0))∧w.ownsRow w0.heap.size 36 1 (.slice A (acc.length+1) c) (acc.length+1) vs∧(∀ xs,q=some xs→RowsR w0.heap.size w (acc++[xs]) vs)∧RO P w o
theorem IIA.next {P c:Nat} {t:List UInt8} {w0 w w':World} {acc:List (List Lp.X)} {q:Option (List Lp.X)} {A:Option Addr} {vs:List Value} {o o':Option (List Tok)} (h:IIA P t w0 w acc q A c vs o) (hb:But P w w') (hp:RO P w' o'):IIA P t w0 w' acc q A c vs o':=by
 obtain ⟨h1,h2,h3,h4,h5,h6⟩:=h
 exact ⟨h1.trans hb,aO hb h2 (h6.box h2 (by decide)),aO hb h3 (h6.box h3 (by decide)),h6.own h4 hb (by decide),fun xs hx=>(h5 xs hx).stays (oM hb h6),hp⟩
theorem IIA.more {P c:Nat} {t:List UInt8} {w0 w:World} {acc:List (List Lp.X)} {q:Option (List Lp.X)} {xs:List Lp.X} {A:Option Addr} {vs:List Value} {G:Prop} {o:Option (List Tok)} (h:IIA P t w0 w acc q A c vs o) (hq:q=some xs):IIS P t w0 w (acc++[xs]) A c vs G o:=by
 obtain ⟨h1,h2,h3,h4,h5,h6⟩:=h
 unfold IIS
 rw [List.length_append]
 exact ⟨h1,h2,h3,h4,fun _=>h5 xs hq,h6⟩
theorem Vh {P c c5 n1 c1:Nat} {t:List UInt8} {w0 w w2 w5:World} {acc:List (List Lp.X)} {A A5 A1:Option Addr} {vs:List Value} {o o2:Option (List Tok)} {q:Option (List Lp.X)} {G:Prop} {ob:Obj} (hP:P<w0.heap.size) (h:IIS P t w0 w acc A c vs G o) (hg:∀ xs,q=some xs→G) (hb2:But P w w2) (hp2:RO P w2 o2) (hl:∀ xs,q=some xs→RLs w.heap.size w2 xs (.slice A1 n1 c1))
 (ho5:w5.ownsRow w0.heap.size 36 1 (.slice A5 (acc.length+1) c5) (acc.length+1) (vs++[.slice A1 n1 c1])) (hb5:Below w0.heap.size (w2.alloc ob) w5) (hk5:gD (w2.alloc ob) w5 (Value.ownBlock (.slice A acc.length c)) (Value.ownBlock (.slice A5 (acc.length+1) c5))) :
 IIA P t w0 (w5.setCell ⟨w0.heap.size+1,5,none⟩ (.slice A5 (acc.length+1) c5)) acc q A5 c5 (vs++[.slice A1 n1 c1]) o2:=by
 have h2:=h.next hb2 hp2
 obtain ⟨k1,k2,k3,k4,k5,k6⟩:=h2
 have hb15:Below w0.heap.size w2 w5:=((Below.refl w2.heap.size w2).alloc (ν _) ob |>.mono k1.size).trans hb5
 have ho2:=k4.alloc ob
 have e2:=(hk5 _ _ (aC k2 ob) (cX ho2 (aC k2 ob) (by decide))).1
 have e3:=(hk5 _ _ (aC k3 ob) (cX ho2 (aC k3 ob) (by decide))).1
 have e4:=heap_setCell_same w5 (w0.heap.size+1) 5 _ _ (.slice A5 (acc.length+1) c5) e3
 rw [List.setIfInBounds_toArray] at e4
 have hs:StaysT exT w2 (w5.setCell ⟨w0.heap.size+1,5,none⟩ (.slice A5 (acc.length+1) c5)):=(StaysT.below ((Below.refl w2.heap.size w2).alloc (ν _) ob)).trans ((StaysT.keeps ho2 (by decide) hk5).trans (StaysT.set e3 (by decide)))
 refine ⟨bK (k1.lowr hb15) (Nat.le_succ _) _ _,(Below.heap_setCell w5 ⟨w0.heap.size+1,5,none⟩ _ _ (by show w0.heap.size≠w0.heap.size+1;omega)).trans e2,e4,jQ ho5 e3 (by decide),fun xs hx => ?_,(k6.low hP hb15).low (B:=w0.heap.size) hP ((θ).setCell (p:=⟨w0.heap.size+1,5,none⟩) (Nat.le_succ _) _)⟩
 exact RowsR.app ((k5 (hg xs hx)).stays hs) (((hl xs hx).mono h.1.size).stays hs)
theorem Bd {g:Nat} {t:TypeId}:∀ (vs zs pre bs:List Value) (w:World),w.heap[g]? = some (.cells (pre++zs++bs).toArray t (0,0))→zs.length=vs.length→(puts w g vs pre.length).heap[g]? = some (.cells (pre++vs++bs).toArray t (0,0))
 | [],zs,pre,bs,w,h,hl=>by
   obtain rfl:=List.eq_nil_of_length_eq_zero hl
   exact h
 | v::vs,a::zs,pre,bs,w,h,hl=>by
   have h1:=heap_setCell_same w g pre.length _ _ v h
   rw [List.setIfInBounds_toArray,show (pre++a::zs++bs).set pre.length v=(pre++[v])++zs++bs by
    rw [List.append_assoc,List.set_append_right (h:=ν _),Nat.sub_self];simp] at h1
   have h2:=Bd vs zs (pre++[v]) bs _ h1 (by simpa using hl)
   rw [List.length_append] at h2
   simpa [puts] using h2
 | _::_,[],_,_,_,_,hl=>by simp at hl
def UIS (P:Nat) (t:List UInt8) (w0 w:World) (acc:List (List UInt8×Lp.X)) (A:Option Addr) (c:Nat) (vs:List Value) (G:Prop) (o:Option (List Tok)):Prop:=But P w0 w∧w.heap[w0.heap.size]? = some (.cells stZ.toArray 38 (0,0))∧w.heap[w0.heap.size+1]? = some (.cells (stI 6 t none 0 0 A acc.length c none 0 0).toArray 38 (0,0))∧w.ownsRow w0.heap.size 72 10 (.slice A acc.length c) acc.length vs∧(G→∃ l,vs=sv l∧l.map (·.1)=acc.map (·.1)∧RXL (fun g=>w0.heap.size≤g) w (acc.map (·.2)) (l.map (·.2)))∧RO P w o
theorem UIS.next {P c:Nat} {t:List UInt8} {w0 w w':World} {acc:List (List UInt8×Lp.X)} {A:Option Addr} {vs:List Value} {G:Prop} {o o':Option (List Tok)} (h:UIS P t w0 w acc A c vs G o) (hb:But P w w') (hp:RO P w' o'):UIS P t w0 w' acc A c vs G o':=by
 obtain ⟨h1,h2,h3,h4,h5,h6⟩:=h
 refine ⟨h1.trans hb,aO hb h2 (h6.box h2 (by decide)),aO hb h3 (h6.box h3 (by decide)),h6.own h4 hb (by decide),fun hg => ?_,hp⟩
 obtain ⟨l,k1,k2,k3⟩:=h5 hg
 exact ⟨l,k1,k2,k3.stays (oM hb h6)⟩
theorem UIS.part {P c g:Nat} {t:List UInt8} {w0 w w':World} {acc:List (List UInt8×Lp.X)} {A:Option Addr} {vs:List Value} {G:Prop} {o:Option (List Tok)} {ds:Array Value} (h:UIS P t w0 w acc A c vs G o) (hP:P<w0.heap.size) (hg:w0.heap.size≤g) (hgs:w.heap[g]? = some (.cells ds 72 (0,0))) (hn:some g≠Value.ownBlock (.slice A acc.length c)) (hb:Below g w w') (hk:∀ j,j≠g→w'.heap[j]? = w.heap[j]?):UIS P t w0 w' acc A c vs G o:=by
 obtain ⟨h1,h2,h3,h4,h5,h6⟩:=h
 have ne:∀ (j:Nat) (es:Array Value) (ty:TypeId),w.heap[j]? = some (.cells es ty (0,0))→ty≠72→j≠g:=by
  rintro j es ty k1 k2 rfl
  rw [hgs] at k1
  injection k1 with k1
  injection k1 with _ k1
  exact k2 k1.symm
 have hs:StaysT exT w w':=fun j es ty hj ht=>(hk j (ne j es ty hj (by rintro rfl;cases ht))).trans hj
 refine ⟨h1.lowr (hb.mono hg),(hk _ (ne _ _ _ h2 (by decide))).trans h2,(hk _ (ne _ _ _ h3 (by decide))).trans h3,⟨h4.1, ?_⟩,fun hG => ?_,h6.low (by omega) hb⟩
 ·rcases h4.2 with k2|⟨g',cap,cur,k2,k3,k4,k5⟩
  ·exact .inl k2
  ·refine .inr ⟨g',cap,cur,k2,k3,(hk g' ?_).trans k4,k5⟩
   rintro rfl
   rw [k2] at hn
   exact hn rfl
 ·obtain ⟨l,k1,k2,k3⟩:=h5 hG
  exact ⟨l,k1,k2,k3.stays hs⟩
theorem Ss {P c c5:Nat} {t cn:List UInt8} {w0 w w5:World} {acc:List (List UInt8×Lp.X)} {A A5:Option Addr} {vs:List Value} {G:Prop} {o:Option (List Tok)} {q:Option (List UInt8×Lp.X)} {rr:RC} {ob:Obj} (hP:P<w0.heap.size) (h:UIS P t w0 w acc A c vs G o) (hg:∀ p,q=some p→G∧p.1=cn∧RX (fun g=>w0.heap.size≤g) w p.2 rr)
 (ho5:w5.ownsRow w0.heap.size 72 10 (.slice A5 (acc.length+1) c5) (acc.length+1) (vs++svc (cn,rr))) (hb5:Below w0.heap.size (w.alloc ob) w5) (hk5:gD (w.alloc ob) w5 (Value.ownBlock (.slice A acc.length c)) (Value.ownBlock (.slice A5 (acc.length+1) c5))) (p:List UInt8×Lp.X) :
 UIS P t w0 (w5.setCell ⟨w0.heap.size+1,6,none⟩ (.slice A5 (acc.length+1) c5)) (acc++[p]) A5 c5 (vs++svc (cn,rr)) (q=some p) o:=by
 obtain ⟨k1,k2,k3,k4,k5,k6⟩:=h
 have hb15:Below w0.heap.size w w5:=((Below.refl w.heap.size w).alloc (ν _) ob |>.mono k1.size).trans hb5
 have ho2:=k4.alloc ob
 have e2:=(hk5 _ _ (aC k2 ob) (cX ho2 (aC k2 ob) (by decide))).1
 have e3:=(hk5 _ _ (aC k3 ob) (cX ho2 (aC k3 ob) (by decide))).1
 have e4:=heap_setCell_same w5 (w0.heap.size+1) 6 _ _ (.slice A5 (acc.length+1) c5) e3
 rw [List.setIfInBounds_toArray] at e4
 have hs:StaysT exT w (w5.setCell ⟨w0.heap.size+1,6,none⟩ (.slice A5 (acc.length+1) c5)):=(StaysT.below ((Below.refl w.heap.size w).alloc (ν _) ob)).trans ((StaysT.keeps ho2 (by decide) hk5).trans (StaysT.set e3 (by decide)))
 unfold UIS
 rw [List.length_append]
 refine ⟨bK (k1.lowr hb15) (Nat.le_succ _) _ _,(Below.heap_setCell w5 ⟨w0.heap.size+1,6,none⟩ _ _ (by show w0.heap.size≠w0.heap.size+1;omega)).trans e2,e4,jQ ho5 e3 (by decide),fun hq => ?_,(k6.low hP hb15).low (B:=w0.heap.size) hP ((θ).setCell (p:=⟨w0.heap.size+1,6,none⟩) (Nat.le_succ _) _)⟩
 obtain ⟨g1,g2,g3⟩:=hg p hq
 obtain ⟨l,l1,l2,l3⟩:=k5 g1
 refine ⟨l++[(cn,rr)],by rw [l1];simp [sv],by rw [List.map_append,List.map_append,l2,List.map_cons,List.map_cons,List.map_nil,List.map_nil,g2], ?_⟩
 rw [List.map_append,List.map_append]
 exact RXL.app (l3.stays hs) (RX.turn (fun g cs h0 hg=>⟨h0,hs g cs _ hg (by decide)⟩) g3)
theorem IIS.drew {P c:Nat} {t:List UInt8} {w0 w:World} {acc:List (List Lp.X)} {A:Option Addr} {vs:List Value} {G:Prop} {o:Option (List Tok)} (h:IIS P t w0 w acc A c vs G o):IIS P t w0 w.drew acc A c vs G o:=by
 obtain ⟨h1,h2,h3,h4,h5,h6⟩:=h
 exact ⟨h1.drew,h2,h3,h4.drew,fun hg=>(h5 hg).stays (show StaysT exT w w.drew from fun _ _ _ h _=>h),h6.low h6.lt (θ).drew⟩
theorem Vf {P c:Nat} {t:List UInt8} {L:List Tok} {w0 w w':World} {acc:List (List Lp.X)} {A:Option Addr} {vs:List Value} {o o3 o4:Option (List Tok)} (hL:isF cE L=true) (h:IIA P t w0 w acc ((o.bind fA).map (·.1)) A c vs o4) (hb:But P w w') (ho3:(((aE oZ L.tail).bind aZ).map (·.2)).bind (aE jM)=o3) (ha:acc.length≤64) (hend:acc.length=64→o=none∨o=some [])
 (hQ:o3.bind (cN fA 64)=uX fA 64 (65-acc.length) acc o) (hm:(lW (acc.length+1) 64 ((o.bind fA).map (·.2))).1=false) (hp:RO P w' (lW (acc.length+1) 64 ((o.bind fA).map (·.2))).2):FinS P L w0 w':=by
 obtain ⟨i1,i2⟩:=aAM L.tail
 rw [ho3,hQ,show 65-acc.length=64-acc.length+1 by omega] at i1 i2
 obtain ⟨m1,m2⟩:=Gq (k:=64-acc.length) ha hend xZ hm
 obtain ⟨k1,k2,k3,k4,k5,k6⟩:=h.next hb hp
 refine ⟨k1,k2,_,Mi 5 t A (acc.length+1) c none 0 0 none 0 0,k3,fun _=>⟨by rw [i1, ←m1];exact hp,fun p hpp => ?_⟩,(fun h2=>by rw [aT hL (by decide)] at h2;cases h2),RW.of hp⟩
 obtain ⟨x,r',e1,e2⟩:=m2 _ (i2 p hpp)
 dsimp only at e2
 have hr:=k5 x (by rw [e1];rfl)
 rw [e2,List.length_append]
 exact ⟨rfl,A,c,vs,rfl,k4,hr⟩
theorem Sq {P c:Nat} {t:List UInt8} {L:List Tok} {w0 w w':World} {ss:List (List UInt8×Lp.X)} {A:Option Addr} {vs:List Value} {G:Prop} {o2 o3 o4:Option (List Tok)} (hP:P<w0.heap.size) (hL:isF cC L=true) (h:UIS P t w0 w ss A c vs G o3) (hb:But P w w') (hp:RO P w' o4) (ho2:((aZ L.tail).map (·.2)).bind (aE xI)=o2) (ho3:o3=(o2.bind (cN eS 8)).map (·.2)) (ho4:o4=whO o3) (hG:∀ p,o2.bind (cN eS 8)=some p→p.1=ss∧G) (A9:Option Addr) (n9 c9:Nat):FinS P L w0 (w'.setCell ⟨w0.heap.size+1,9,none⟩ (.slice A9 n9 c9)):=by
 obtain ⟨i1,i2⟩:=Zz L.tail
 rw [ho2] at i1 i2
 obtain ⟨k1,k2,k3,k4,k5,k6⟩:=h.next hb hp
 have e4:=heap_setCell_same w' (w0.heap.size+1) 9 _ _ (.slice A9 n9 c9) k3
 rw [List.setIfInBounds_toArray] at e4
 have hs:StaysT exT w' (w'.setCell ⟨w0.heap.size+1,9,none⟩ (.slice A9 n9 c9)):=StaysT.set k3 (by decide)
 have hp2:RO P (w'.setCell ⟨w0.heap.size+1,9,none⟩ (.slice A9 n9 c9)) o4:=k6.low (B:=w0.heap.size) hP ((θ).setCell (p:=⟨w0.heap.size+1,9,none⟩) (Nat.le_succ _) _)
 refine ⟨bK k1 (Nat.le_succ _) _ _,(Below.heap_setCell w' ⟨w0.heap.size+1,9,none⟩ _ _ (by show w0.heap.size≠w0.heap.size+1;omega)).trans k2,_,Mi 6 t none 0 0 A ss.length c A9 n9 c9,e4,(fun h2=>by rw [aT hL (by decide)] at h2;cases h2),fun _=>⟨by rw [i1, ←ho3, ←ho4];exact hp2,fun p hpp => ?_⟩,RW.of hp2⟩
 obtain ⟨r,e1⟩:=i2 p hpp
 obtain ⟨g1,g2⟩:=hG _ e1
 dsimp only at g1
 obtain ⟨l,l1,l2,l3⟩:=k5 g2
 rw [g1]
 exact ⟨rfl,A,c,l,rfl,jQ (l1▸k4) k3 (by decide),l2,l3.stays hs⟩
theorem Nn:(prog.info? 36).map (fun i=>(i.zero,i.size,i.bytes))=some (some (.slice none 0 0),1,24):=by kernel_rfl
theorem mR (k:Int) (a b c:ByteArray):Cs13 [.int .u8 k,.string a,.string b,.string c,.slice none 0 0,.slice none 0 0,.slice none 0 0,.slice none 0 0,.slice none 0 0,.slice none 0 0,.slice none 0 0,.slice none 0 0,.int .i64 0]:=by
 refine ⟨rfl,fun j v h => ?_⟩
 have hj:j<13:=by
  rcases Nat.lt_or_ge j 13 with h1|h1
  ·exact h1
  ·rw [List.getElem?_eq_none (by exact h1)] at h;cases h
 match j,hj with
 | 0,_=>injection h with h;subst h;exact ⟨fun _=>⟨k,rfl⟩,fun h=>by omega,fun h=>by omega,fun h=>by omega⟩
 | 1,_|2,_|3,_=>injection h with h;subst h;exact oE (by omega) (by omega) _
 | 4,_|5,_|6,_|7,_|8,_|9,_|10,_|11,_=>injection h with h;subst h;exact mM (by omega) (by omega) _ _ _
 | 12,_=>injection h with h;subst h;exact zS _
theorem tyK (k:Int):Dm 0 (.int .u8 k):=⟨fun _=>⟨k,rfl⟩,fun h=>by omega,fun h=>by omega,fun h=>by omega⟩
theorem Vs (k:Int) (s1 s2 s3:ByteArray) (A4:Option Addr) (n4 c4:Nat) (A5:Option Addr) (n5 c5:Nat) (A6:Option Addr) (n6 c6:Nat) (A7:Option Addr) (n7 c7:Nat) (A8:Option Addr) (n8 c8:Nat) (A9:Option Addr) (n9 c9:Nat) (A10:Option Addr) (n10 c10:Nat) (A11:Option Addr) (n11 c11:Nat) (li:Int):Cs13 [.int .u8 k,.string s1,.string s2,.string s3,.slice A4 n4 c4,.slice A5 n5 c5,.slice A6 n6 c6,.slice A7 n7 c7,.slice A8 n8 c8,.slice A9 n9 c9,.slice A10 n10 c10,.slice A11 n11 c11,.int .i64 li]:=by
 refine ⟨rfl,fun j v h => ?_⟩
 have hj:j<13:=by
  rcases Nat.lt_or_ge j 13 with h1|h1
  ·exact h1
  ·rw [List.getElem?_eq_none (by exact h1)] at h;cases h
 match j,hj with
 | 0,_=>injection h with h;subst h;exact tyK k
 | 1,_|2,_|3,_=>injection h with h;subst h;exact oE (by omega) (by omega) _
 | 4,_|5,_|6,_|7,_|8,_|9,_|10,_|11,_=>injection h with h;subst h;exact mM (by omega) (by omega) _ _ _
 | 12,_=>injection h with h;subst h;exact zS _
theorem XS.puts {P n:Nat} {K:List Nat} {w0 w:World} (h:XS P n K w0 w) (hP:P<w0.heap.size) (vs:List Value) (hc:Cs13 vs):XS P n [] w0 (puts w (w0.heap.size+1) vs 0):=by
 obtain ⟨h1,h2,h3,cs,h4,h5,h6⟩:=h
 have h13:=kH vs 0 w cs h5 (by rw [h4.1,hc.1])
 rw [List.take_zero,List.nil_append] at h13
 exact ⟨But.puts (Nat.le_succ _) vs 0 w h1,h2.low (B:=w0.heap.size) hP (jB (Nat.le_succ _) vs 0 w (θ)),(mY (by omega) vs 0 w).trans h3,vs,hc,h13,fun k hk=>by cases hk⟩
theorem SS.xs {P:Nat} {w0 w:World} {o:Option (List Tok)} (h:SS w0.heap.size P w0 w o stZ):XS P 2000 [] w0 w:=⟨h.b,RW.of h.p,h.z,stZ,mR 0 ⟨#[]⟩ ⟨#[]⟩ ⟨#[]⟩,h.x,fun k hk=>by cases hk⟩
theorem KnS.puts {P:Nat} {L:List Tok} {w0 w:World} {cs vs:List Value} (hP:P<w0.heap.size) (h1:isF cE L=false) (h2:isF cC L=false) (hc:Cs13 vs) (h:XS P 2000 [] w0 w) (hcs:cs=vs):Zx P w0 L (.returned (.agg vs.toArray)) (puts w w0.heap.size cs 0)∧(puts w w0.heap.size cs 0).heap[w0.heap.size]? = some (.cells vs.toArray 38 (0,0)):=by
 subst hcs
 obtain ⟨k1,k2,k3, -⟩:=h
 exact Gi hP hc k1 k3 (KnS.weak cs h1 h2 k2)
theorem Tl (P:Nat) (L:List Tok) (w:World) (h:RS w P L 0 0) :
 Calls prog 33 #[.pointer (some ⟨P,0,none⟩)] w (Zx P w L):=by
 obtain ⟨iR,hiR,hr0,hr1,hr2⟩:=info_parts Nn
 obtain ⟨iE,hiE,hz0,hz1,hz2⟩:=info_parts Bh
 have hP0:P<w.heap.size:=h.lt
 have HS:=κ (SS.new P w (some L) stZ (show RO P w (some L) from h))
 clear h
 go_enter func33,ntmps33
 go_upto_block 0 with fail
 go_cut [] (fun wx=>FinS P L w wx)
 case first =>
  cases hf:isF rX L
  rotate_left
  ·skip
   have HF:=κ hf
   have HC:=κ (gK P (some L) ⟨#[99,114,101,97,116,101]⟩ _ HS.out.p true hf)
   clear hf
   go_wp2_with fail
   refine μ HC ?_
   rintro e v1 ⟨rfl,hb,hp⟩
   simp only [if_true] at hp
   replace HS:=κ (HS.out.next hb hp)
   clear hb hp HC
   have HI:=κ (aT HF.out (u:=cE) (by decide))
   have HU:=κ (aT HF.out (u:=cC) (by decide))
   replace HS:=κ HS.out.xs
   have HC:=κ (lM ⟨#[105,110,100,101,120]⟩ HS.out.2.1)
   go_wp2_with fail
   refine μ HC ?_
   rintro e v2 ⟨v,rfl,⟨b,rfl⟩,hb,hp⟩
   replace HS:=κ (HS.out.next hb hp)
   clear hb hp HC
   cases b
   ·skip
    have HC:=κ (mF ⟨#[116,97,98,108,101]⟩ HS.out.2.1)
    go_wp2_with fail
    refine μ HC ?_
    rintro e v3 ⟨v,rfl,rfl,hb,hp⟩
    replace HS:=κ (HS.out.next hb hp)
    clear hb hp HC
    have HC:=κ (nB HS.out.2.1)
    go_wp2_with fail
    refine μ HC ?_
    rintro e v4 ⟨v,rfl,⟨s,rfl⟩,hb,hp⟩
    replace HS:=κ (HS.out.next hb hp)
    clear hb hp HC
    obtain ⟨f0,f1⟩:=HS.out.at_
    obtain ⟨u0,g0⟩:=f1 0 (by omega)
    obtain ⟨u1,g1⟩:=f1 1 (by omega)
    obtain ⟨u2,g2⟩:=f1 2 (by omega)
    obtain ⟨u3,g3⟩:=f1 3 (by omega)
    obtain ⟨u4,g4⟩:=f1 4 (by omega)
    obtain ⟨u5,g5⟩:=f1 5 (by omega)
    obtain ⟨u6,g6⟩:=f1 6 (by omega)
    obtain ⟨u7,g7⟩:=f1 7 (by omega)
    obtain ⟨u8,g8⟩:=f1 8 (by omega)
    obtain ⟨u9,g9⟩:=f1 9 (by omega)
    obtain ⟨u10,g10⟩:=f1 10 (by omega)
    obtain ⟨u11,g11⟩:=f1 11 (by omega)
    obtain ⟨u12,g12⟩:=f1 12 (by omega)
    replace HS:=κ (HS.out.puts hP0 [.int .u8 1,.string s,.string ⟨#[]⟩,.string ⟨#[]⟩,.slice none 0 0,.slice none 0 0,.slice none 0 0,.slice none 0 0,.slice none 0 0,.slice none 0 0,.slice none 0 0,.slice none 0 0,.int .i64 0] (mR _ _ _ _))
    obtain ⟨V,hV⟩:∃ V,puts v4 (w.heap.size+1) [.int .u8 1,.string s,.string ⟨#[]⟩,.string ⟨#[]⟩,.slice none 0 0,.slice none 0 0,.slice none 0 0,.slice none 0 0,.slice none 0 0,.slice none 0 0,.slice none 0 0,.slice none 0 0,.int .i64 0] 0=V:=⟨_,rfl⟩
    rw [hV] at HS
    simp only [puts,Nat.zero_add,Nat.reduceAdd] at hV
    clear f1
    go_upto_region 14 with fail
    try rw [hV]
    clear hV f0 g0 g1 g2 g3 g4 g5 g6 g7 g8 g9 g10 g11 g12
    have HC:=κ (mF ⟨#[40]⟩ HS.out.2.1)
    go_wp2_with fail
    refine μ HC ?_
    rintro e v5 ⟨v,rfl,rfl,hb,hp⟩
    replace HS:=κ (HS.out.next hb hp)
    clear hb hp HC
    have HC:=κ (Rk _ HS.out.2.1 (by omega))
    go_wp2_with fail
    refine μ HC ?_
    rintro e v6 ⟨v,rfl,⟨A,k,c,rfl⟩,hb,hp⟩
    replace HS:=κ (HS.out.next hb hp)
    clear hb hp HC
    obtain ⟨f0,f1⟩:=HS.out.at_
    obtain ⟨u,f2⟩:=f1 4 (by omega)
    clear f1
    replace HS:=κ (HS.out.set hP0 4 (by decide) (.slice A k c) (mM (by omega) (by omega) _ _ _))
    have HC:=κ (mF ⟨#[41]⟩ HS.out.2.1)
    go_wp2_with fail
    refine μ HC ?_
    rintro e v7 ⟨v,rfl,rfl,hb,hp⟩
    replace HS:=κ (HS.out.next hb hp)
    clear hb hp HC
    clear f0 f2
    go_wp2
    go_meet
    exact FinS.weak HI.out HU.out HS.out
   ·skip
    have HC:=κ (nB HS.out.2.1)
    go_wp2_with fail
    refine μ HC ?_
    rintro e v3 ⟨v,rfl,⟨s,rfl⟩,hb,hp⟩
    replace HS:=κ (HS.out.next hb hp)
    clear hb hp HC
    obtain ⟨f0,f1⟩:=HS.out.at_
    obtain ⟨u0,g0⟩:=f1 0 (by omega)
    obtain ⟨u1,g1⟩:=f1 1 (by omega)
    obtain ⟨u2,g2⟩:=f1 2 (by omega)
    obtain ⟨u3,g3⟩:=f1 3 (by omega)
    obtain ⟨u4,g4⟩:=f1 4 (by omega)
    obtain ⟨u5,g5⟩:=f1 5 (by omega)
    obtain ⟨u6,g6⟩:=f1 6 (by omega)
    obtain ⟨u7,g7⟩:=f1 7 (by omega)
    obtain ⟨u8,g8⟩:=f1 8 (by omega)
    obtain ⟨u9,g9⟩:=f1 9 (by omega)
    obtain ⟨u10,g10⟩:=f1 10 (by omega)
    obtain ⟨u11,g11⟩:=f1 11 (by omega)
    obtain ⟨u12,g12⟩:=f1 12 (by omega)
    replace HS:=κ (HS.out.puts hP0 [.int .u8 3,.string s,.string ⟨#[]⟩,.string ⟨#[]⟩,.slice none 0 0,.slice none 0 0,.slice none 0 0,.slice none 0 0,.slice none 0 0,.slice none 0 0,.slice none 0 0,.slice none 0 0,.int .i64 0] (mR _ _ _ _))
    obtain ⟨V,hV⟩:∃ V,puts v3 (w.heap.size+1) [.int .u8 3,.string s,.string ⟨#[]⟩,.string ⟨#[]⟩,.slice none 0 0,.slice none 0 0,.slice none 0 0,.slice none 0 0,.slice none 0 0,.slice none 0 0,.slice none 0 0,.slice none 0 0,.int .i64 0] 0=V:=⟨_,rfl⟩
    rw [hV] at HS
    simp only [puts,Nat.zero_add,Nat.reduceAdd] at hV
    clear f1
    go_upto_region 6 with fail
    try rw [hV]
    clear hV f0 g0 g1 g2 g3 g4 g5 g6 g7 g8 g9 g10 g11 g12
    have HC:=κ (mF ⟨#[111,110]⟩ HS.out.2.1)
    go_wp2_with fail
    refine μ HC ?_
    rintro e v4 ⟨v,rfl,rfl,hb,hp⟩
    replace HS:=κ (HS.out.next hb hp)
    clear hb hp HC
    have HC:=κ (nB HS.out.2.1)
    go_wp2_with fail
    refine μ HC ?_
    rintro e v5 ⟨v,rfl,⟨s5,rfl⟩,hb,hp⟩
    replace HS:=κ (HS.out.next hb hp)
    clear hb hp HC
    obtain ⟨f0,f1⟩:=HS.out.at_
    obtain ⟨u,f2⟩:=f1 2 (by omega)
    clear f1
    replace HS:=κ (HS.out.set hP0 2 (by decide) (.string s5) (oE (by omega) (by omega) _))
    have HC:=κ (mF ⟨#[40]⟩ HS.out.2.1)
    go_wp2_with fail
    refine μ HC ?_
    rintro e v6 ⟨v,rfl,rfl,hb,hp⟩
    replace HS:=κ (HS.out.next hb hp)
    clear hb hp HC
    clear f0 f2
    have HC:=κ (nB HS.out.2.1)
    go_wp2_with fail
    refine μ HC ?_
    rintro e v7 ⟨v,rfl,⟨s7,rfl⟩,hb,hp⟩
    replace HS:=κ (HS.out.next hb hp)
    clear hb hp HC
    obtain ⟨f0,f1⟩:=HS.out.at_
    obtain ⟨u,f2⟩:=f1 3 (by omega)
    clear f1
    replace HS:=κ (HS.out.set hP0 3 (by decide) (.string s7) (oE (by omega) (by omega) _))
    have HC:=κ (mF ⟨#[41]⟩ HS.out.2.1)
    go_wp2_with fail
    refine μ HC ?_
    rintro e v8 ⟨v,rfl,rfl,hb,hp⟩
    replace HS:=κ (HS.out.next hb hp)
    clear hb hp HC
    clear f0 f2
    obtain ⟨hb0,hp0,hz,cs,hl,hx, -⟩:=HS.out
    have cz:=β hz
    have fz:=fun j=>frozen_of_row _ _ j _ _ hz
    simp only [stZ,stC] at cz fz
    obtain ⟨k,s1,s2,s3,A4,n4,c4,A5,n5,c5,A6,n6,c6,A7,n7,c7,A8,n8,c8,A9,n9,c9,A10,n10,c10,A11,n11,c11,li,rfl⟩:=qR hl
    have cx:=β hx
    have HR:=κ (KnS.puts hP0 HI.out HU.out hl HS.out rfl)
    clear hb0 hp0 hl hx hz HS
    go_wp2
    change bodyPost _ _ _ _ _ (puts v8 w.heap.size [.int .u8 k,.string s1,.string s2,.string s3,.slice A4 n4 c4,.slice A5 n5 c5,.slice A6 n6 c6,.slice A7 n7 c7,.slice A8 n8 c8,.slice A9 n9 c9,.slice A10 n10 c10,.slice A11 n11 c11,.int .i64 li] 0)
    have hR:=HR.out
    generalize puts v8 w.heap.size [.int .u8 k,.string s1,.string s2,.string s3,.slice A4 n4 c4,.slice A5 n5 c5,.slice A6 n6 c6,.slice A7 n7 c7,.slice A8 n8 c8,.slice A9 n9 c9,.slice A10 n10 c10,.slice A11 n11 c11,.int .i64 li] 0=WE at *
    have hcE:=β hR.2
    exact bodyPost_ret (v:=.agg #[.int .u8 k,.string s1,.string s2,.string s3,.slice A4 n4 c4,.slice A5 n5 c5,.slice A6 n6 c6,.slice A7 n7 c7,.slice A8 n8 c8,.slice A9 n9 c9,.slice A10 n10 c10,.slice A11 n11 c11,.int .i64 li]) (by simp [results,results33,go_sem,hcE]) rfl hR.1
  have F0:=κ hf
  have HC:=κ (gK P (some L) ⟨#[99,114,101,97,116,101]⟩ _ HS.out.p false hf)
  clear hf
  go_wp2_with fail
  refine μ HC ?_
  rintro e w0 ⟨rfl,hb,hp⟩
  simp only [φ,if_false] at hp
  replace HS:=κ (HS.out.next hb hp)
  clear hb hp HC
  cases hf:isF Fz L
  rotate_left
  ·skip
   have HF:=κ hf
   have HC:=κ (gK P (some L) ⟨#[100,114,111,112]⟩ _ HS.out.p true hf)
   clear hf
   go_wp2_with fail
   refine μ HC ?_
   rintro e v1 ⟨rfl,hb,hp⟩
   simp only [if_true] at hp
   replace HS:=κ (HS.out.next hb hp)
   clear hb hp HC
   have HI:=κ (aT HF.out (u:=cE) (by decide))
   have HU:=κ (aT HF.out (u:=cC) (by decide))
   replace HS:=κ HS.out.xs
   have HC:=κ (lM ⟨#[105,110,100,101,120]⟩ HS.out.2.1)
   go_wp2_with fail
   refine μ HC ?_
   rintro e v2 ⟨v,rfl,⟨b,rfl⟩,hb,hp⟩
   replace HS:=κ (HS.out.next hb hp)
   clear hb hp HC
   cases b
   ·skip
    have HC:=κ (mF ⟨#[116,97,98,108,101]⟩ HS.out.2.1)
    go_wp2_with fail
    refine μ HC ?_
    rintro e v3 ⟨v,rfl,rfl,hb,hp⟩
    replace HS:=κ (HS.out.next hb hp)
    clear hb hp HC
    have HC:=κ (nB HS.out.2.1)
    go_wp2_with fail
    refine μ HC ?_
    rintro e v4 ⟨v,rfl,⟨s,rfl⟩,hb,hp⟩
    replace HS:=κ (HS.out.next hb hp)
    clear hb hp HC
    obtain ⟨hb0,hp0,hz,cs,hl,hx, -⟩:=HS.out
    have cz:=β hz
    have fz:=fun j=>frozen_of_row _ _ j _ _ hz
    simp only [stZ,stC] at cz fz
    have HR:=κ (KnS.puts hP0 HI.out HU.out (mR 2 s ⟨#[]⟩ ⟨#[]⟩) HS.out rfl)
    clear hb0 hp0 hl hx hz HS
    go_wp2
    change bodyPost _ _ _ _ _ (puts v4 w.heap.size [.int .u8 2,.string s,.string ⟨#[]⟩,.string ⟨#[]⟩,.slice none 0 0,.slice none 0 0,.slice none 0 0,.slice none 0 0,.slice none 0 0,.slice none 0 0,.slice none 0 0,.slice none 0 0,.int .i64 0] 0)
    have hR:=HR.out
    generalize puts v4 w.heap.size [.int .u8 2,.string s,.string ⟨#[]⟩,.string ⟨#[]⟩,.slice none 0 0,.slice none 0 0,.slice none 0 0,.slice none 0 0,.slice none 0 0,.slice none 0 0,.slice none 0 0,.slice none 0 0,.int .i64 0] 0=WE at *
    have hcE:=β hR.2
    exact bodyPost_ret (v:=.agg #[.int .u8 2,.string s,.string ⟨#[]⟩,.string ⟨#[]⟩,.slice none 0 0,.slice none 0 0,.slice none 0 0,.slice none 0 0,.slice none 0 0,.slice none 0 0,.slice none 0 0,.slice none 0 0,.int .i64 0]) (by simp [results,results33,go_sem,hcE]) rfl hR.1
   ·skip
    have HC:=κ (nB HS.out.2.1)
    go_wp2_with fail
    refine μ HC ?_
    rintro e v4 ⟨v,rfl,⟨s,rfl⟩,hb,hp⟩
    replace HS:=κ (HS.out.next hb hp)
    clear hb hp HC
    obtain ⟨hb0,hp0,hz,cs,hl,hx, -⟩:=HS.out
    have cz:=β hz
    have fz:=fun j=>frozen_of_row _ _ j _ _ hz
    simp only [stZ,stC] at cz fz
    have HR:=κ (KnS.puts hP0 HI.out HU.out (mR 4 s ⟨#[]⟩ ⟨#[]⟩) HS.out rfl)
    clear hb0 hp0 hl hx hz HS
    go_wp2
    change bodyPost _ _ _ _ _ (puts v4 w.heap.size [.int .u8 4,.string s,.string ⟨#[]⟩,.string ⟨#[]⟩,.slice none 0 0,.slice none 0 0,.slice none 0 0,.slice none 0 0,.slice none 0 0,.slice none 0 0,.slice none 0 0,.slice none 0 0,.int .i64 0] 0)
    have hR:=HR.out
    generalize puts v4 w.heap.size [.int .u8 4,.string s,.string ⟨#[]⟩,.string ⟨#[]⟩,.slice none 0 0,.slice none 0 0,.slice none 0 0,.slice none 0 0,.slice none 0 0,.slice none 0 0,.slice none 0 0,.slice none 0 0,.int .i64 0] 0=WE at *
    have hcE:=β hR.2
    exact bodyPost_ret (v:=.agg #[.int .u8 4,.string s,.string ⟨#[]⟩,.string ⟨#[]⟩,.slice none 0 0,.slice none 0 0,.slice none 0 0,.slice none 0 0,.slice none 0 0,.slice none 0 0,.slice none 0 0,.slice none 0 0,.int .i64 0]) (by simp [results,results33,go_sem,hcE]) rfl hR.1
  have F1:=κ hf
  have HC:=κ (gK P (some L) ⟨#[100,114,111,112]⟩ _ HS.out.p false hf)
  clear hf
  go_wp2_with fail
  refine μ HC ?_
  rintro e w1 ⟨rfl,hb,hp⟩
  simp only [φ,if_false] at hp
  replace HS:=κ (HS.out.next hb hp)
  clear hb hp HC
  cases hf:isF cE L
  rotate_left
  ·skip
   have HF:=κ hf
   have HC:=κ (gK P (some L) ⟨#[105,110,115,101,114,116]⟩ _ HS.out.p true hf)
   clear hf
   go_wp2_with fail
   refine μ HC ?_
   rintro e v1 ⟨rfl,hb,hp⟩
   simp only [if_true] at hp
   replace HS:=κ (HS.out.next hb hp)
   clear hb hp HC
   have HC:=κ (tZ P _ ⟨#[105,110,116,111]⟩ _ HS.out.p)
   go_wp2_with fail
   refine μ HC ?_
   rintro e v2 ⟨rfl,hb,hp⟩
   replace HS:=κ (HS.out.next hb hp)
   clear hb hp HC
   have HC:=κ (Gn P _ _ HS.out.p)
   go_wp2_with fail
   refine μ HC ?_
   rintro e v3 ⟨t,rfl,hb,hp, -⟩
   replace HS:=κ (HS.out.next hb hp)
   clear hb hp HC
   obtain ⟨-,d1, -,y1⟩:=HS.out.cells
   simp only [stZ,stC] at d1
   replace HS:=κ (HS.out.puts (ν _) hP0 (stI 5 t none 0 0 none 0 0 none 0 0) rfl)
   obtain ⟨V,hV⟩:∃ V,puts v3 (w.heap.size+1) (stI 5 t none 0 0 none 0 0 none 0 0) 0=V:=⟨_,rfl⟩
   rw [hV] at HS
   simp only [puts,stI,Nat.zero_add,Nat.reduceAdd] at hV
   go_upto_region 25 with fail
   try rw [hV]
   clear hV d1 y1
   have HC:=κ (tZ P _ ⟨#[118,97,108,117,101,115]⟩ _ HS.out.p)
   go_wp2_with fail
   refine μ HC ?_
   rintro e v4 ⟨rfl,hb,hp⟩
   replace HS:=κ (HS.out.next hb hp)
   clear hb hp HC
   obtain ⟨o3,ho3⟩:∃ o3,(((aE oZ L.tail).bind aZ).map (·.2)).bind (aE jM)=o3:=⟨_,rfl⟩
   have HI:=κ (show IIS P t w v4 [] none 0 [] (o3≠none) o3 from ⟨HS.out.b,HS.out.z,HS.out.x,World.ownsRow_nil _ _ _ _,fun _=>trivial,by rw [←ho3];exact HS.out.p⟩)
   have HO:=κ ho3
   clear ho3 HS
   go_wp2_with fail
   go_loopg [] 65 (fun gk wr=>∃ (acc:List (List Lp.X)) (A:Option Addr) (c:Nat) (vs:List Value) (o:Option (List Tok)),acc.length≤64∧gk=65-acc.length∧IIS P t w wr acc A c vs (o≠none) o∧(acc.length=64→o=none∨o=some [])∧o3.bind (cN fA 64)=uX fA 64 (65-acc.length) acc o)
   case atStart=>exact ⟨[],none,0,[],o3,Nat.zero_le _,rfl,HI.out,fun h=>by simp at h,rfl⟩
   case round =>
    clear HI
    obtain ⟨acc,A,c,vs,o,ha,rfl,hI,hend,hQ⟩:=hrel
    have HI:=κ hI
    have HQ:=κ (ι hend hQ)
    have HC:=κ (tZ P o ⟨#[40]⟩ _ hI.2.2.2.2.2)
    obtain ⟨i,hi⟩:∃ i,acc.length=i:=⟨_,rfl⟩
    have HA:=κ hi
    have hiI:(i:Int)≤64:=by omega
    have hiN:i≤64:=by omega
    clear hI hend hQ ha
    go_wp2_with fail
    refine μ HC ?_
    rintro e u1 ⟨rfl,hb,hp⟩
    replace HI:=κ (HI.out.next hb hp)
    clear hb hp HC
    have HL:=κ (Xm P 8 _ u1.drew HI.out.drew.2.2.2.2.2 (by omega) (by omega))
    go_upto_region 27 with fail
    go_cut [] (fun wx=>∃ (A5:Option Addr) (c5:Nat) (vs5:List Value),IIA P t w wx acc ((o.bind fA).map (·.1)) A5 c5 vs5 (((o.bind (aE lF)).bind (cN (pX 1 0) 8)).map (·.2)))
    case first =>
     have d5:u1.cell? ⟨w.heap.size+1,5,none⟩=some (.slice A i c):=(β HI.out.2.2.1 5).trans (by rw [hi];rfl)
     have d6:u1.drew.cell? ⟨w.heap.size+1,5,none⟩=some (.slice A i c):=d5
     clear hi
     go_wp2_with fail
     go_region_law (first
      | (go_simp;go_at_call 83;refine μ HL ?_;rintro e u2 ⟨A1,n1,c1,rfl,hb2,hp2,hl2⟩;have hI2:=HI.out.drew.next hb2 hp2;have hw2:=hI2.1.size;have ho2:=hI2.2.2.2.1;rw [HA.out] at ho2;have d0:u2.cell? ⟨w.heap.size+1,5,none⟩=some (.slice A i c):=(β hI2.2.2.1 5).trans (by rw [HA.out];rfl);have d1:∀ o,(u2.alloc o).cell? ⟨w.heap.size+1,5,none⟩=some (.slice A i c):=fun o=>(β (aC hI2.2.2.1 o) 5).trans (by rw [HA.out];rfl))
      | (refine eC _ rfl (.tmp 66) (.tmp 69) _ rfl w.heap.size 36 iR _ 1 24 underlying34 hiR hr0 hr1 hr2 rfl (by omega) A i c vs rfl ?_ _ 1 1 [.slice A1 n1 c1] rfl rfl ?_ ?_ ?_ ?_ ?_ ?_
         ·exact ho2.alloc _
         ·exact bD [.slice A1 n1 c1] (heap_alloc_new _ _)
         ·simp [Value.oneCell']
         ·simp only [maxLen];omega
         ·omega
         ·rw [World.size_alloc];omega
         intro A5 c5 w5 ho5 hb5 hg5 hk5
         have hx5:=(hk5 _ _ (aC hI2.2.2.1 _) (cX ho2 hI2.2.2.1 (by decide))).1
         have e5:w5.cell? ⟨w.heap.size+1,5,none⟩=some (.slice A i c):=(β hx5 5).trans (by rw [HA.out];rfl)
         have f5:=fun j=>frozen_of_row w5 (w.heap.size+1) j _ _ hx5)
      | fail)
     all_goals
      have hZ:=Vh (q:=(o.bind fA).map (·.1)) hP0 HI.out.drew (fun xs hx=>((Nm o).2 xs hx).1) hb2 hp2 (fun xs hx=>by obtain ⟨r,hr⟩:=((Nm o).2 xs hx).2;exact hl2 _ hr) (by rw [HA.out];exact ho5) hb5 (by rw [HA.out];exact hk5)
      rw [HA.out] at hZ
      have HZ:=κ hZ
      clear hZ hb2 hp2 hl2 hI2 ho2 d0 d1 ho5 hb5 hg5 hk5 hx5 e5 f5 d5 d6 HL HI
      go_wp2
      go_meet
      exact ⟨_,_,_,HZ.out⟩
    case rest =>
     clear HI HL
     obtain ⟨A5,c5,vs5,hI⟩:=hcut
     have HI:=κ hI
     have HC:=κ (tZ P _ ⟨#[41]⟩ _ hI.2.2.2.2.2)
     clear hI
     go_wp2_with fail
     refine μ HC ?_
     rintro e u3 ⟨rfl,hb,hp⟩
     replace HI:=κ (HI.out.next hb (show RO P u3 ((o.bind fA).map (·.2)) from (Nm o).1▸hp))
     clear hb hp HC
     have d5:u3.cell? ⟨w.heap.size+1,5,none⟩=some (.slice A5 (i+1) c5):=(β HI.out.2.2.1 5).trans (by rw [HA.out];rfl)
     have HM:=κ (Pc P (i+1) 64 _ _ HI.out.2.2.2.2.2)
     go_wp2_with fail
     refine μ HM ?_
     rintro e u4 ⟨rfl,hb,hp⟩
     cases hm:(lW (i+1) 64 ((o.bind fA).map (·.2))).1
     ·have HZ:=κ (Vf HF.out HI.out hb HO.out (by rw [HA.out];exact hiN) HQ.out.1 HQ.out.2 (by rw [HA.out];exact hm) (by rw [HA.out];exact hp))
      clear hm hb hp HM HI d5
      go_wp2
      go_meet
      exact HZ.out
     ·obtain ⟨x,r',m1,m2,m3,m4,m5⟩:=Bq (k:=64-acc.length) (by rw [HA.out];exact hiN) HQ.out.1 xZ (by rw [HA.out];exact hm)
      have hq:(o.bind fA).map (·.1)=some x:=by rw [m1];rfl
      rw [HA.out] at m2
      rw [m2] at hp
      have HZ:=κ (ι ((HI.out.next hb hp).more (G:=some r'.tail≠none) hq) (ι m4 (ι m5 (HQ.out.2.trans ((show 65-acc.length=64-acc.length+1 by rw [HA.out];omega)▸m3)))))
      clear hm hb hp HM HI d5 m1 m2 m3 m4 m5 hq
      go_wp2
      go_roundg (65-(i+1))
      case measure=>omega
      case rel=>exact ⟨acc++[x],A5,c5,vs5,some r'.tail,by rw [List.length_append];exact HZ.out.2.1,by rw [List.length_append,HA.out];rfl,HZ.out.1,fun h=>.inr (by rw [HZ.out.2.2.1 (by rw [List.length_append] at h;exact h)]),by rw [HZ.out.2.2.2,List.length_append];congr 1;have:=HA.out;simp only [List.length_cons,List.length_nil];omega⟩
  have F2:=κ hf
  have HC:=κ (gK P (some L) ⟨#[105,110,115,101,114,116]⟩ _ HS.out.p false hf)
  clear hf
  go_wp2_with fail
  refine μ HC ?_
  rintro e w2 ⟨rfl,hb,hp⟩
  simp only [φ,if_false] at hp
  replace HS:=κ (HS.out.next hb hp)
  clear hb hp HC
  cases hf:isF cC L
  rotate_left
  ·skip
   have HF:=κ hf
   have HC:=κ (gK P (some L) ⟨#[117,112,100,97,116,101]⟩ _ HS.out.p true hf)
   clear hf
   go_wp2_with fail
   refine μ HC ?_
   rintro e v1 ⟨rfl,hb,hp⟩
   simp only [if_true] at hp
   replace HS:=κ (HS.out.next hb hp)
   clear hb hp HC
   have HC:=κ (Gn P _ _ HS.out.p)
   go_wp2_with fail
   refine μ HC ?_
   rintro e v3 ⟨t,rfl,hb,hp, -⟩
   replace HS:=κ (HS.out.next hb hp)
   clear hb hp HC
   obtain ⟨-,d1, -,y1⟩:=HS.out.cells
   simp only [stZ,stC] at d1
   replace HS:=κ (HS.out.puts (ν _) hP0 (stI 6 t none 0 0 none 0 0 none 0 0) rfl)
   obtain ⟨V,hV⟩:∃ V,puts v3 (w.heap.size+1) (stI 6 t none 0 0 none 0 0 none 0 0) 0=V:=⟨_,rfl⟩
   rw [hV] at HS
   simp only [puts,stI,Nat.zero_add,Nat.reduceAdd] at hV
   go_upto_region 32 with fail
   try rw [hV]
   clear hV d1 y1
   have HC:=κ (tZ P _ ⟨#[115,101,116]⟩ _ HS.out.p)
   go_wp2_with fail
   refine μ HC ?_
   rintro e v4 ⟨rfl,hb,hp⟩
   replace HS:=κ (HS.out.next hb hp)
   clear hb hp HC
   obtain ⟨o2,ho2⟩:∃ o2,((aZ L.tail).map (·.2)).bind (aE xI)=o2:=⟨_,rfl⟩
   have HI:=κ (show UIS P t w v4 [] none 0 [] (o2≠none) o2 from ⟨HS.out.b,HS.out.z,HS.out.x,World.ownsRow_nil _ _ _ _,fun _=>⟨[],rfl,rfl,trivial⟩,by rw [←ho2];exact HS.out.p⟩)
   have HO:=κ ho2
   clear ho2 HS
   go_upto_block 3 with fail
   go_cut [] (fun wx=>∃ (ss:List (List UInt8×Lp.X)) (A:Option Addr) (c:Nat) (vs:List Value) (G:Prop) (o3:Option (List Tok)),UIS P t w wx ss A c vs G o3∧o3=(o2.bind (cN eS 8)).map (·.2)∧∀ p,o2.bind (cN eS 8)=some p→p.1=ss∧G)
   case first =>
    go_wp2_with fail
    go_loopg [4] 9 (fun gk _ wr=>∃ (acc:List (List UInt8×Lp.X)) (A:Option Addr) (c:Nat) (vs:List Value) (G:Prop) (o:Option (List Tok)),acc.length≤8∧gk=9-acc.length∧UIS P t w wr acc A c vs G o∧(o≠none→G)∧(acc.length=8→o=none∨o=some [])∧o2.bind (cN eS 8)=uX eS 8 (9-acc.length) acc o)
    case atStart=>exact ⟨[],none,0,[],_,o2,Nat.zero_le _,rfl,HI.out,id,fun h=>by simp at h,rfl⟩
    case round =>
     clear HI
     obtain ⟨acc,A,c,vs,G,o,ha,rfl,hI,hG,hend,hQ⟩:=hrel
     have HI:=κ hI
     have HQ:=κ (ι hend (ι hQ hG))
     have HC:=κ (Gn P o _ hI.2.2.2.2.2)
     obtain ⟨i,hi⟩:∃ i,acc.length=i:=⟨_,rfl⟩
     have HA:=κ hi
     have hiI:(i:Int)≤8:=by omega
     have hiN:i≤8:=by omega
     clear hI hend hQ ha hG hi
     go_wp2_with fail
     refine μ HC ?_
     rintro e u1 ⟨cn,rfl,hb,hp,hcn⟩
     replace HI:=κ (HI.out.next hb hp)
     have hbA:Below u1.heap.size u1 (u1.alloc (.cells #[.int .u8 0,.int .u8 0,.int .i64 0,.string ⟨#[]⟩,.bool false,.string ⟨#[]⟩,.string ⟨#[]⟩,.slice none 0 0,.string ⟨cn.toArray⟩,.bool false] 72)):=ρ
     have HN:=κ (ι hcn (ι HI.out.1.size (eI HI.out.2.2.2.1 (ν _))))
     replace HI:=κ (HI.out.next (But.of hbA) (HI.out.2.2.2.2.2.below hbA))
     have HX:=κ (heap_alloc_new u1 (.cells #[.int .u8 0,.int .u8 0,.int .i64 0,.string ⟨#[]⟩,.bool false,.string ⟨#[]⟩,.string ⟨#[]⟩,.slice none 0 0,.string ⟨cn.toArray⟩,.bool false] 72))
     have HC:=κ (tZ P _ ⟨#[61]⟩ _ HI.out.2.2.2.2.2)
     clear hb hp hcn hbA
     go_wp2_with fail
     refine μ HC ?_
     rintro e u2 ⟨rfl,hb,hp⟩
     replace HX:=κ (aO hb HX.out (HI.out.2.2.2.2.2.box HX.out (by decide)))
     replace HI:=κ (HI.out.next hb hp)
     clear hb hp HC
     have HC:=κ (Xo P _ _ HI.out.2.2.2.2.2)
     have hzu:=aL HX.out
     go_wp2_with fail
     refine μ HC ?_
     rintro e u3 ⟨⟨rk,rvk,rvi,rvs,rvb,rt,rs,rA,rn,rc⟩,rfl,hb,hp,hrx⟩
     simp only [RC.val]
     replace HX:=κ (aO hb HX.out (HI.out.2.2.2.2.2.box HX.out (by decide)))
     replace HI:=κ (HI.out.next hb hp)
     have hbs:=hb.size
     have cx:=β HX.out
     have fx:=fun j=>frozen_of_row _ _ j _ _ HX.out
     have hpre:=Bd (g:=u1.heap.size) (t:=72) [.int .u8 rk,.int .u8 rvk,.int .i64 rvi,.string rvs,.bool rvb,.string rt,.string rs,.slice rA rn rc] [.int .u8 0,.int .u8 0,.int .i64 0,.string ⟨#[]⟩,.bool false,.string ⟨#[]⟩,.string ⟨#[]⟩,.slice none 0 0] [] [.string ⟨cn.toArray⟩,.bool false] u3 HX.out rfl
     have hbl:=jB (g:=u1.heap.size) (ν _) [.int .u8 rk,.int .u8 rvk,.int .i64 rvi,.string rvs,.bool rvb,.string rt,.string rs,.slice rA rn rc] 0 u3 (Below.refl _ u3)
     have hfar:=fun j (hj:j≠u1.heap.size)=>mY (g:=u1.heap.size) hj [.int .u8 rk,.int .u8 rvk,.int .i64 rvi,.string rvs,.bool rvb,.string rt,.string rs,.slice rA rn rc] 0 u3
     have hIP:=HI.out.part hP0 HN.out.2.1 HX.out HN.out.2.2 hbl hfar
     rw [List.length_nil] at hpre
     obtain ⟨V2,hV⟩:∃ V2,puts u3 u1.heap.size [.int .u8 rk,.int .u8 rvk,.int .i64 rvi,.string rvs,.bool rvb,.string rt,.string rs,.slice rA rn rc] 0=V2:=⟨_,rfl⟩
     rw [hV] at hpre hbl hIP
     have hsz:StaysT exT u3 V2:=fun j es ty hj ht=>by
      rw [←hV]
      refine (hfar j ?_).trans hj
      rintro rfl
      rw [HX.out] at hj
      injection hj with hj
      injection hj with _ hj
      rw [←hj] at ht
      cases ht
     simp only [puts,Nat.zero_add,Nat.reduceAdd] at hV
     have HR:=κ (ι hrx (ι hsz hzu))
     clear hfar
     go_upto_region 36 with fail
     try rw [hV]
     clear hV hb hp hrx hsz hbl cx fx HC
     replace HI:=κ hIP
     replace HX:=κ hpre
     have cg:=β HX.out
     have d6:V2.cell? ⟨w.heap.size+1,6,none⟩=some (.slice A i c):=(β HI.out.2.2.1 6).trans (by rw [HA.out];rfl)
     have ho2:=HI.out.2.2.2.1
     rw [HA.out] at ho2
     have hw2:=HI.out.1.size
     simp only [List.nil_append,List.cons_append] at cg
     clear hpre hIP
     go_upto_region 37 with (at_builtin;refine bH _ rfl (.tmp 97) (.tmp 99) _ rfl w.heap.size 72 iE _ 10 128 underlying35 hiE hz0 hz1 hz2 rfl (by omega) A i c vs rfl (ho2.alloc _) _ 1 1 [.int .u8 rk,.int .u8 rvk,.int .i64 rvi,.string rvs,.bool rvb,.string rt,.string rs,.slice rA rn rc,.string ⟨cn.toArray⟩,.bool false] rfl rfl (bD [.int .u8 rk,.int .u8 rvk,.int .i64 rvi,.string rvs,.bool rvb,.string rt,.string rs,.slice rA rn rc,.string ⟨cn.toArray⟩,.bool false] (heap_alloc_new _ _)) (by simp [Value.oneCell']) (by simp only [maxLen];omega) (by omega) (by rw [World.size_alloc];omega) ?_;intro A5 c5 w5 ho5 hb5 _ hk5;have hx5:=(hk5 _ _ (aC HI.out.2.2.1 _) (cX ho2 HI.out.2.2.1 (by decide))).1;have e5:w5.cell? ⟨w.heap.size+1,6,none⟩=some (.slice A i c):=(β hx5 6).trans (by rw [HA.out];rfl);have f5:=fun j=>frozen_of_row w5 (w.heap.size+1) j _ _ hx5)
     obtain ⟨q,hq⟩:∃ q,(o.bind eS).map (·.1)=q:=⟨_,rfl⟩
     have hgq:∀ p,q=some p→G∧p.1=cn∧RX (fun g=>w.heap.size≤g) V2 p.2 ⟨rk,rvk,rvi,rvs,rvb,rt,rs,rA,rn,rc⟩:=fun p hp=>by
      rw [←hq] at hp
      rcases hs:o.bind eS with _|⟨⟨cc,xx⟩,rr⟩
      ·rw [hs] at hp;cases hp
      ·rw [hs] at hp
       injection hp with hp
       subst hp
       obtain ⟨g1,⟨r1,g2⟩,r2,g3⟩:=(Xh o).2 cc xx rr hs
       refine ⟨HQ.out.2.2 g1,HN.out.1 _ g2,RX.turn (fun g cs h0 hg=>⟨?_,HR.out.2.1 g cs _ hg (by decide)⟩) (HR.out.1 _ g3)⟩
       have h0':u2.heap.size≤g:=h0
       have:=HN.out.2.1
       have:=HR.out.2.2
       show w.heap.size≤g
       omega
     have hZ:=Ss (cn:=cn) (rr:=⟨rk,rvk,rvi,rvs,rvb,rt,rs,rA,rn,rc⟩) hP0 HI.out hgq (by rw [HA.out];exact ho5) hb5 (by rw [HA.out];exact hk5) (q.getD ([],.cnt))
     rw [HA.out] at hZ
     obtain ⟨W6,hW6⟩:∃ W6,w5.setCell ⟨w.heap.size+1,6,none⟩ (.slice A5 (i+1) c5)=W6:=⟨_,rfl⟩
     rw [hW6] at hZ ⊢
     have HI2:=κ hZ
     have HG:=κ hq
     clear hW6 hZ hgq ho5 hb5 hk5 hx5 e5 f5 d6 ho2 cg hq HX HI HR HN hw2 hbs hzu
     have d6:W6.cell? ⟨w.heap.size+1,6,none⟩=some (.slice A5 (i+1) c5):=(β HI2.out.2.2.1 6).trans (by rw [List.length_append,HA.out];rfl)
     have HM:=κ (Pc P (i+1) 8 _ _ (show RO P W6 ((o.bind eS).map (·.2)) from (Xh o).1▸HI2.out.2.2.2.2.2))
     go_wp2_with fail
     refine μ HM ?_
     rintro e u4 ⟨rfl,hb,hp⟩
     cases hm:(lW (i+1) 8 ((o.bind eS).map (·.2))).1
     ·obtain ⟨m1,m2⟩:=Gq (k:=8-acc.length) (by rw [HA.out];exact hiN) HQ.out.1 xU (by rw [HA.out];exact hm)
      have h9:9-acc.length=8-acc.length+1:=by rw [HA.out];omega
      have hQ:=HQ.out.2.1
      rw [h9] at hQ
      have HZ:=κ (ι (HI2.out.next hb hp) (ι (show (lW (i+1) 8 ((o.bind eS).map (·.2))).2=(o2.bind (cN eS 8)).map (·.2) by rw [hQ, ←HA.out];exact m1) (fun p (hpp:o2.bind (cN eS 8)=some p)=>(show p.1=acc++[q.getD ([],.cnt)]∧q=some (q.getD ([],.cnt)) by
       rw [hQ] at hpp
       obtain ⟨x,r',e1,e2⟩:=m2 p hpp
       have hq:=HG.out
       rw [e1] at hq
       rw [←hq]
       exact ⟨e2,rfl⟩))))
      clear hm hb hp HM HI2 d6 m1 m2 hQ h9
      go_wp2
      go_meet
      exact ⟨_,A5,c5,_,_,_,HZ.out.1,HZ.out.2.1,HZ.out.2.2⟩
     ·obtain ⟨x,r',m1,m2,m3,m4,m5⟩:=Bq (k:=8-acc.length) (by rw [HA.out];exact hiN) HQ.out.1 xU (by rw [HA.out];exact hm)
      have hq:=HG.out
      rw [m1] at hq
      have hq':q=some x:=hq.symm
      have hgd:q.getD ([],.cnt)=x:=by rw [hq'];rfl
      rw [HA.out] at m2
      rw [m2] at hp
      have hU:=HI2.out.next hb hp
      rw [hgd] at hU
      have HZ:=κ (ι hU (ι m4 (ι m5 (ι (HQ.out.2.1.trans ((show 9-acc.length=8-acc.length+1 by rw [HA.out];omega)▸m3)) hq'))))
      clear hm hb hp HM HI2 d6 m1 m2 m3 m4 m5 hq hq' hgd hU
      go_wp2
      go_roundg (9-(i+1))
      case measure=>have:=HA.out;omega
      case rel=>exact ⟨acc++[x],A5,c5,_,_,some r'.tail,by rw [List.length_append];exact HZ.out.2.1,by rw [List.length_append,HA.out];rfl,HZ.out.1,fun _=>HZ.out.2.2.2.2,fun h=>.inr (by rw [HZ.out.2.2.1 (by rw [List.length_append] at h;exact h)]),by rw [HZ.out.2.2.2.1,List.length_append];congr 1;have:=HA.out;simp only [List.length_cons,List.length_nil];omega⟩
   case rest =>
    clear HI
    obtain ⟨ss,A,c,vs,G,o3,hI,ho3,hG⟩:=hcut
    have HI:=κ hI
    have HG:=κ (ι ho3 hG)
    have HC:=κ (Lf P o3 _ hI.2.2.2.2.2)
    clear hI ho3 hG
    go_wp2_with fail
    refine μ HC ?_
    rintro e u9 ⟨⟨A9,n9,c9,rfl⟩,hb,hp⟩
    have hN:=HI.out.next hb hp
    have c9':=β hN.2.2.1 9
    have f9:=fun j=>frozen_of_row _ (w.heap.size+1) j _ _ hN.2.2.1
    simp only [stI,γ,δ,ε] at c9'
    have HZ:=κ (Sq hP0 HF.out HI.out hb hp HO.out HG.out.1 rfl HG.out.2 A9 n9 c9)
    clear hb hp hN HI HC
    go_wp2
    go_meet
    exact HZ.out
  have F3:=κ hf
  have HC:=κ (gK P (some L) ⟨#[117,112,100,97,116,101]⟩ _ HS.out.p false hf)
  clear hf
  go_wp2_with fail
  refine μ HC ?_
  rintro e w3 ⟨rfl,hb,hp⟩
  simp only [φ,if_false] at hp
  replace HS:=κ (HS.out.next hb hp)
  clear hb hp HC
  cases hf:isF nP L
  rotate_left
  ·skip
   have HF:=κ hf
   have HC:=κ (gK P (some L) ⟨#[100,101,108,101,116,101]⟩ _ HS.out.p true hf)
   clear hf
   go_wp2_with fail
   refine μ HC ?_
   rintro e v1 ⟨rfl,hb,hp⟩
   simp only [if_true] at hp
   replace HS:=κ (HS.out.next hb hp)
   clear hb hp HC
   have HI:=κ (aT HF.out (u:=cE) (by decide))
   have HU:=κ (aT HF.out (u:=cC) (by decide))
   replace HS:=κ HS.out.xs
   have HC:=κ (mF ⟨#[102,114,111,109]⟩ HS.out.2.1)
   go_wp2_with fail
   refine μ HC ?_
   rintro e v2 ⟨v,rfl,rfl,hb,hp⟩
   replace HS:=κ (HS.out.next hb hp)
   clear hb hp HC
   have HC:=κ (nB HS.out.2.1)
   go_wp2_with fail
   refine μ HC ?_
   rintro e v3 ⟨v,rfl,⟨s,rfl⟩,hb,hp⟩
   replace HS:=κ (HS.out.next hb hp)
   clear hb hp HC
   obtain ⟨f0,f1⟩:=HS.out.at_
   obtain ⟨u0,g0⟩:=f1 0 (by omega)
   obtain ⟨u1,g1⟩:=f1 1 (by omega)
   obtain ⟨u2,g2⟩:=f1 2 (by omega)
   obtain ⟨u3,g3⟩:=f1 3 (by omega)
   obtain ⟨u4,g4⟩:=f1 4 (by omega)
   obtain ⟨u5,g5⟩:=f1 5 (by omega)
   obtain ⟨u6,g6⟩:=f1 6 (by omega)
   obtain ⟨u7,g7⟩:=f1 7 (by omega)
   obtain ⟨u8,g8⟩:=f1 8 (by omega)
   obtain ⟨u9,g9⟩:=f1 9 (by omega)
   obtain ⟨u10,g10⟩:=f1 10 (by omega)
   obtain ⟨u11,g11⟩:=f1 11 (by omega)
   obtain ⟨u12,g12⟩:=f1 12 (by omega)
   replace HS:=κ (HS.out.puts hP0 [.int .u8 7,.string ⟨#[]⟩,.string s,.string ⟨#[]⟩,.slice none 0 0,.slice none 0 0,.slice none 0 0,.slice none 0 0,.slice none 0 0,.slice none 0 0,.slice none 0 0,.slice none 0 0,.int .i64 0] (mR _ _ _ _))
   obtain ⟨V,hV⟩:∃ V,puts v3 (w.heap.size+1) [.int .u8 7,.string ⟨#[]⟩,.string s,.string ⟨#[]⟩,.slice none 0 0,.slice none 0 0,.slice none 0 0,.slice none 0 0,.slice none 0 0,.slice none 0 0,.slice none 0 0,.slice none 0 0,.int .i64 0] 0=V:=⟨_,rfl⟩
   rw [hV] at HS
   simp only [puts,Nat.zero_add,Nat.reduceAdd] at hV
   clear f1
   go_upto_region 42 with fail
   try rw [hV]
   clear hV f0 g0 g1 g2 g3 g4 g5 g6 g7 g8 g9 g10 g11 g12
   have HC:=κ (Le HS.out.2.1)
   go_wp2_with fail
   refine μ HC ?_
   rintro e v4 ⟨v,rfl,⟨A,k,c,rfl⟩,hb,hp⟩
   replace HS:=κ (HS.out.next hb hp)
   clear hb hp HC
   obtain ⟨f0,f1⟩:=HS.out.at_
   obtain ⟨u,f2⟩:=f1 9 (by omega)
   clear f1
   replace HS:=κ (HS.out.set hP0 9 (by decide) (.slice A k c) (mM (by omega) (by omega) _ _ _))
   go_wp2
   go_meet
   exact FinS.weak HI.out HU.out HS.out
  have F4:=κ hf
  have HC:=κ (gK P (some L) ⟨#[100,101,108,101,116,101]⟩ _ HS.out.p false hf)
  clear hf
  go_wp2_with fail
  refine μ HC ?_
  rintro e w4 ⟨rfl,hb,hp⟩
  simp only [φ,if_false] at hp
  replace HS:=κ (HS.out.next hb hp)
  clear hb hp HC
  cases hf:isF rW L
  rotate_left
  ·skip
   have HF:=κ hf
   have HC:=κ (gK P (some L) ⟨#[115,101,108,101,99,116]⟩ _ HS.out.p true hf)
   clear hf
   go_wp2_with fail
   refine μ HC ?_
   rintro e v1 ⟨rfl,hb,hp⟩
   simp only [if_true] at hp
   replace HS:=κ (HS.out.next hb hp)
   clear hb hp HC
   have HI:=κ (aT HF.out (u:=cE) (by decide))
   have HU:=κ (aT HF.out (u:=cC) (by decide))
   replace HS:=κ HS.out.xs
   have HC:=κ (Oc _ HS.out.2.1 (by omega))
   go_wp2_with fail
   refine μ HC ?_
   rintro e v2 ⟨v,rfl,⟨k,s1,s2,s3,A4,n4,c4,A5,n5,c5,A6,n6,c6,A7,n7,c7,A8,n8,c8,A9,n9,c9,A10,n10,c10,A11,n11,c11,li,rfl⟩,hb,hp⟩
   replace HS:=κ (HS.out.next hb hp)
   clear hb hp HC
   obtain ⟨hb0,hp0,hz,cs,hl,hx, -⟩:=HS.out
   have cx:=β hx
   have fx:=fun j=>frozen_of_row _ _ j _ _ hx
   have HR:=κ (HS.out.puts hP0 [.int .u8 k,.string s1,.string s2,.string s3,.slice A4 n4 c4,.slice A5 n5 c5,.slice A6 n6 c6,.slice A7 n7 c7,.slice A8 n8 c8,.slice A9 n9 c9,.slice A10 n10 c10,.slice A11 n11 c11,.int .i64 li] (Vs k s1 s2 s3 A4 n4 c4 A5 n5 c5 A6 n6 c6 A7 n7 c7 A8 n8 c8 A9 n9 c9 A10 n10 c10 A11 n11 c11 li))
   obtain ⟨k',s1',s2',s3',A4',n4',c4',A5',n5',c5',A6',n6',c6',A7',n7',c7',A8',n8',c8',A9',n9',c9',A10',n10',c10',A11',n11',c11',li',rfl⟩:=qR hl
   clear hb0 hp0 hl hx hz HS
   go_wp2
   go_meet
   exact FinS.weak HI.out HU.out HR.out
  have F5:=κ hf
  have HC:=κ (gK P (some L) ⟨#[115,101,108,101,99,116]⟩ _ HS.out.p false hf)
  clear hf
  go_wp2_with fail
  refine μ HC ?_
  rintro e w5 ⟨rfl,hb,hp⟩
  simp only [φ,if_false] at hp
  replace HS:=κ (HS.out.next hb hp)
  clear hb hp HC
  cases hf:isF Di L
  rotate_left
  ·skip
   have HF:=κ hf
   have HC:=κ (gK P (some L) ⟨#[98,101,103,105,110]⟩ _ HS.out.p true hf)
   clear hf
   go_wp2_with fail
   refine μ HC ?_
   rintro e v1 ⟨rfl,hb,hp⟩
   simp only [if_true] at hp
   replace HS:=κ (HS.out.next hb hp)
   clear hb hp HC
   have HI:=κ (aT HF.out (u:=cE) (by decide))
   have HU:=κ (aT HF.out (u:=cC) (by decide))
   replace HS:=κ HS.out.xs
   obtain ⟨f0,f1⟩:=HS.out.at_
   obtain ⟨u,f2⟩:=f1 0 (by omega)
   clear f1
   replace HS:=κ (HS.out.set hP0 0 (by decide) (.int .u8 9) (tyK _))
   go_wp2
   go_meet
   exact FinS.weak HI.out HU.out HS.out
  have F6:=κ hf
  have HC:=κ (gK P (some L) ⟨#[98,101,103,105,110]⟩ _ HS.out.p false hf)
  clear hf
  go_wp2_with fail
  refine μ HC ?_
  rintro e w6 ⟨rfl,hb,hp⟩
  simp only [φ,if_false] at hp
  replace HS:=κ (HS.out.next hb hp)
  clear hb hp HC
  cases hf:isF xK L
  rotate_left
  ·skip
   have HF:=κ hf
   have HC:=κ (gK P (some L) ⟨#[99,111,109,109,105,116]⟩ _ HS.out.p true hf)
   clear hf
   go_wp2_with fail
   refine μ HC ?_
   rintro e v1 ⟨rfl,hb,hp⟩
   simp only [if_true] at hp
   replace HS:=κ (HS.out.next hb hp)
   clear hb hp HC
   have HI:=κ (aT HF.out (u:=cE) (by decide))
   have HU:=κ (aT HF.out (u:=cC) (by decide))
   replace HS:=κ HS.out.xs
   obtain ⟨f0,f1⟩:=HS.out.at_
   obtain ⟨u,f2⟩:=f1 0 (by omega)
   clear f1
   replace HS:=κ (HS.out.set hP0 0 (by decide) (.int .u8 10) (tyK _))
   go_wp2
   go_meet
   exact FinS.weak HI.out HU.out HS.out
  have F7:=κ hf
  have HC:=κ (gK P (some L) ⟨#[99,111,109,109,105,116]⟩ _ HS.out.p false hf)
  clear hf
  go_wp2_with fail
  refine μ HC ?_
  rintro e w7 ⟨rfl,hb,hp⟩
  simp only [φ,if_false] at hp
  replace HS:=κ (HS.out.next hb hp)
  clear hb hp HC
  cases hf:isF qG L
  rotate_left
  ·skip
   have HF:=κ hf
   have HC:=κ (gK P (some L) ⟨#[114,111,108,108,98,97,99,107]⟩ _ HS.out.p true hf)
   clear hf
   go_wp2_with fail
   refine μ HC ?_
   rintro e v1 ⟨rfl,hb,hp⟩
   simp only [if_true] at hp
   replace HS:=κ (HS.out.next hb hp)
   clear hb hp HC
   have HI:=κ (aT HF.out (u:=cE) (by decide))
   have HU:=κ (aT HF.out (u:=cC) (by decide))
   replace HS:=κ HS.out.xs
   obtain ⟨f0,f1⟩:=HS.out.at_
   obtain ⟨u,f2⟩:=f1 0 (by omega)
   clear f1
   replace HS:=κ (HS.out.set hP0 0 (by decide) (.int .u8 11) (tyK _))
   go_wp2
   go_meet
   exact FinS.weak HI.out HU.out HS.out
  have F8:=κ hf
  have HC:=κ (gK P (some L) ⟨#[114,111,108,108,98,97,99,107]⟩ _ HS.out.p false hf)
  clear hf
  go_wp2_with fail
  refine μ HC ?_
  rintro e w8 ⟨rfl,hb,hp⟩
  simp only [φ,if_false] at hp
  replace HS:=κ (HS.out.next hb hp)
  clear hb hp HC
  replace HS:=κ HS.out.xs
  have HI:=F2
  have HU:=F3
  have HC:=κ (Cl 4 (by decide) HS.out.2.1)
  go_wp2_with fail
  refine μ HC ?_
  rintro e v1 ⟨v,rfl,rfl,hb,hp⟩
  replace HS:=κ (HS.out.next hb hp)
  clear hb hp HC
  go_wp2
  go_meet
  exact FinS.weak HI.out HU.out HS.out
 case rest =>
  obtain ⟨hb0,hz,cs,hl,hx,hk⟩:=hcut
  have cz:=β hz
  have fz:=fun j=>frozen_of_row _ _ j _ _ hz
  simp only [stZ,stC] at cz fz
  obtain ⟨k,s1,s2,s3,A4,n4,c4,A5,n5,c5,A6,n6,c6,A7,n7,c7,A8,n8,c8,A9,n9,c9,A10,n10,c10,A11,n11,c11,li,rfl⟩:=qR hl
  have cx:=β hx
  have HR:=κ (Gi hP0 hl hb0 hz hk)
  clear hb0 hk hl hx hz HS
  go_wp2
  change bodyPost _ _ _ _ _ (puts wc w.heap.size [.int .u8 k,.string s1,.string s2,.string s3,.slice A4 n4 c4,.slice A5 n5 c5,.slice A6 n6 c6,.slice A7 n7 c7,.slice A8 n8 c8,.slice A9 n9 c9,.slice A10 n10 c10,.slice A11 n11 c11,.int .i64 li] 0)
  have hR:=HR.out
  generalize puts wc w.heap.size [.int .u8 k,.string s1,.string s2,.string s3,.slice A4 n4 c4,.slice A5 n5 c5,.slice A6 n6 c6,.slice A7 n7 c7,.slice A8 n8 c8,.slice A9 n9 c9,.slice A10 n10 c10,.slice A11 n11 c11,.int .i64 li] 0=WE at *
  have hcE:=β hR.2
  exact bodyPost_ret (v:=.agg #[.int .u8 k,.string s1,.string s2,.string s3,.slice A4 n4 c4,.slice A5 n5 c5,.slice A6 n6 c6,.slice A7 n7 c7,.slice A8 n8 c8,.slice A9 n9 c9,.slice A10 n10 c10,.slice A11 n11 c11,.int .i64 li]) (by simp [results,results33,go_sem,hcE]) rfl hR.1
