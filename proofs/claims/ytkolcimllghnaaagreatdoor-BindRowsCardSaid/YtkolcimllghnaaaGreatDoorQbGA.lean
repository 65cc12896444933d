/-
 Contracts. Conditions: those of each.
-/
import Derived.Test.YtkolcimllghnaaaGreatDoorRows
import Derived.WalkKit
import Derived.WalkSpells
import Derived.WalkLawsBesides
import Derived.Lib.Hide
import Derived.Lib.AppendStr
import Derived.Maps.AppendAt
import Derived.Deep.AppendLies
import Derived.Deep.Onto
import Derived.Laws.BytesArg
import Derived.RowKit
import Derived.IntWalk
import Derived.Laws.RangeAny
import Derived.Below
import Derived.Lib.ValidU
import Derived.Lib.ValidLaws
import Derived.Lib.TrimUEq
import Derived.KernelRfl
set_option maxRecDepth 100000
set_option maxHeartbeats 8000000
namespace Go.Proofs.YtkolcimllghnaaaGreatDoor
open Go.Proofs.Tryz
open Go.RowKit
theorem ν(n:Nat):n≤n:=Nat.le_refl n
theorem ρ{w:World}{o:Obj}:Below w.heap.size w (w.alloc o):=(Below.refl _ _).alloc (Nat.le_refl _) _
theorem θ{B:Nat}{w:World}:Below B w w:=Below.refl _ _
theorem η{α:Type}[BEq α][LawfulBEq α]{a b:α}(h:a ≠ b):(a == b)=false:=beq_eq_false_iff_ne.2 h
theorem γ{α:Type}(l:List α)(i:Nat):l.toArray[i]? = l[i]? := by simp
theorem δ{α:Type}(a:α)(l:List α):(a::l)[0]? = some a := rfl
theorem ε{α:Type}(a:α)(l:List α)(i:Nat):(a::l)[i+1]? = l[i]? := rfl
theorem μ{P:Program}{f:FuncId}{a:Array Value}{w:World}{R Q:Ending→World→Prop}(h:RowKit.Hid (Calls P f a w R))(k:∀ e w',R e w'→Q e w'):Calls P f a w Q:=Calls.mono h k
theorem φ:(false=true)=False:=by simp
theorem κ{p:Prop}(h:p):RowKit.Hid p:=h
theorem ι{a b:Prop}(x:a)(y:b):a∧b:=⟨x,y⟩
def Rds (w:World) (A:Option Addr) (xs:List Value):Prop :=
 xs=[]∨∃ b off,A=some ⟨b,off,none⟩∧∀ j u,xs[j]? = some u→w.cell? ⟨b,off+j,none⟩=some u
section
variable {w w':World} {A:Option Addr} {xs:List Value}
theorem Rds.nil_:Rds w A []:=.inl rfl
theorem Rds.at_ (h:Rds w A xs) {k:Nat} {u:Value} (hk:xs[k]? = some u):∃ b off,A=some ⟨b,off,none⟩∧w.cell? ⟨b,off+k,none⟩=some u:=by
 rcases h with rfl|⟨b,off,hA,hc⟩
 ·simp at hk
 ·exact ⟨b,off,hA,hc k u hk⟩
theorem Rds.below (h:Rds w A xs) (hb:Below w.heap.size w w'):Rds w' A xs:=by
 rcases h with rfl|⟨b,off,hA,hc⟩
 ·exact .inl rfl
 ·exact .inr ⟨b,off,hA,fun j u hu=>(hb.cell (p:=⟨b,off+j,none⟩) (World.block_lt_of_cell? w _ (hc j u hu))).trans (hc j u hu)⟩
theorem Rds.take (h:Rds w A xs) (k:Nat):Rds w A (xs.take k):=by
 rcases h with rfl|⟨b,off,hA,hc⟩
 ·exact .inl (by simp)
 ·refine .inr ⟨b,off,hA,fun j u hu=>hc j u ?_⟩
  rw [List.getElem?_take] at hu
  split at hu
  ·exact hu
  ·cases hu
theorem cK (w:World) (xs:List Value) (t:TypeId):Rds (w.alloc (.cells xs.toArray t)) (some ⟨w.heap.size,0,none⟩) xs:=by
 refine .inr ⟨_,0,rfl,fun j u hu => ?_⟩
 rw [cell_of_row (w.alloc (.cells xs.toArray t)) w.heap.size (0+j) xs.toArray t (0,0) (heap_alloc_new w _)]
 simpa using hu
theorem mX (h:Rds w A xs):Rds w.drew A xs:=h
theorem Bl {B n size:Nat} {e:TypeId} {v:Value} (h:w.ownsRow B e size v n xs):∃ A c,v=.slice A n c∧n≤c:=by
 rcases h.2 with ⟨rfl,rfl⟩|⟨g,cap,cur,rfl,_,_,h1,_⟩
 ·exact ⟨none,0,rfl,ν _⟩
 ·exact ⟨_,cap,rfl,h1⟩
theorem Rds.own {B n c size:Nat} {e:TypeId} (h:w.ownsRow B e size (.slice A n c) n xs):Rds w A xs:=by
 rcases Nat.eq_zero_or_pos n with h0|h0
 ·left;exact List.eq_nil_of_length_eq_zero (by rw [h.1,h0,Nat.zero_mul])
 ·obtain ⟨g,cap,hv,hg,_⟩:=h.form h0
  injection hv with hA _ _
  subst hA
  refine .inr ⟨g,0,rfl,fun j u hu => ?_⟩
  have:=h.cells (g:=g) rfl j u hu
  have e:(⟨g,0,none⟩:Addr).add j=⟨g,0+j,none⟩:=by unfold Addr.add;split<;>simp_all
  rw [e] at this
  exact this
end
theorem cX {w:World} {B n size g:Nat} {e t:TypeId} {v:Value} {xs:List Value} {cs:Array Value} (h:w.ownsRow B e size v n xs) (hg:w.heap[g]? = some (.cells cs t (0,0))) (hne:e≠t):some g≠v.ownBlock:=by
 rcases h.2 with ⟨rfl,_⟩|⟨g',cap,cur,rfl,_,hh,_⟩
 ·simp [Value.ownBlock]
 ·intro he
  have:g=g':=by simpa [Value.ownBlock] using he
  subst this
  rw [hh] at hg
  injection hg with hg
  injection hg with _ ht
  exact hne ht
theorem aL {w:World} {g:Nat} {o:Obj} (h:w.heap[g]? = some o):g<w.heap.size:=(Array.getElem?_eq_some_iff.1 h).1
theorem aC {w:World} {g:Nat} {o:Obj} (h:w.heap[g]? = some o) (o2:Obj):(w.alloc o2).heap[g]? = some o:=(Below.heap_alloc w o2 g (aL h)).trans h
theorem aA {w w2:World} {g:Nat} {o:Obj} (h:w.heap[g]? = some o) (hb:Below w.heap.size w w2):w2.heap[g]? = some o:=(hb.block g (aL h)).trans h
theorem cJ {w:World} {g:Nat} {o:Obj} (h:w.heap[g]? = some o):w.drew.heap[g]? = some o:=h
theorem bN (w:World) (a b:Obj):((w.alloc a).alloc b).heap[w.heap.size+1]? = some b:=by
 have h:=heap_alloc_new (w.alloc a) b
 rw [World.size_alloc] at h
 exact h
theorem Kg {w:World} {g:Nat} {t:TypeId} {cs:Array Value} (h:w.heap[g]? = some (.cells cs t (0,0))):∀ j,w.cell? ⟨g,j,none⟩=cs[j]? := fun j=>cell_of_row w g j cs t (0,0) h
theorem β{w:World}{g:Nat}{t:TypeId}{cs:Array Value}(h:w.heap[g]? = some (.cells cs t (0,0))):∀ j,w.cell? ⟨g,j,none⟩ = cs[j]? := Kg h
def gD (w w':World) (r r':Option Nat):Prop:=∀ g o,w.heap[g]? = some o→some g≠r→w'.heap[g]? = some o∧some g≠r'
theorem Pu {w w':World} {r r':Option Nat} (hg:w.grownBy w' r) (hat:r'=r∨r'=some w.heap.size):gD w w' r r':=by
 intro g o ho hne
 have hlt:=aL ho
 refine ⟨(hg.block g hlt hne).trans ho, ?_⟩
 rcases hat with h|h
 ·rw [h];exact hne
 ·rw [h];intro e;injection e with e;omega
theorem bD {w:World} {g:Nat} {t:TypeId} {fr:Nat×Nat} (cs:List Value) (h:w.heap[g]? = some (.cells cs.toArray t fr)):Rds w (some ⟨g,0,none⟩) cs:=by
 refine .inr ⟨_,0,rfl,fun j u hu => ?_⟩
 rw [cell_of_row w g (0+j) cs.toArray t fr h]
 simpa using hu
theorem stays {w w':World} {r:Option Nat} (hg:w.grownBy w' r) {g:Nat} {o:Obj} (ho:w.heap[g]? = some o) (hne:some g≠r):w'.heap[g]? = some o:=(hg.block g (aL ho) hne).trans ho
theorem eI {w:World} {B n size g:Nat} {e:TypeId} {v:Value} {xs:List Value} (h:w.ownsRow B e size v n xs) (hg:w.heap.size≤g):some g≠v.ownBlock:=by
 intro e
 have:=(h.lt g e.symm).2
 omega
section
variable {P:Program} (w:World)
theorem Am (base:Nat) (t ty e:TypeId) (i:TypeInfo) (size:Nat) (ht:P.underlying t=some (.slice e)) (hi:P.info? e=some i)
 (v:Value) (n:Nat) (xs:List Value) (hown:w.ownsRow base e size v n xs) (c:Nat):(Builtin.append_ #[t,t] ty #[v,.slice none 0 c]).run P w=.ok v w:=by
 rcases hown.2 with ⟨rfl,rfl⟩|⟨g,cap,cur,rfl,_,_,hnc,_⟩
 ·simp [Builtin.append_,run_underlying ht,sizeOf,typeInfo,hi,Builtin.lenOf,Builtin.firstCells]
 ·simp [Builtin.append_,run_underlying ht,sizeOf,typeInfo,hi,Builtin.lenOf,Builtin.firstCells,hnc,storeCells]
theorem Ld {o:Oper} {a:Act} {K:Act→World→Prop} {Q:Exit→Act→World→Prop} (s x:Operand) (t:TypeId)
 (ho:o.op=.call { callee:=.builtin .append,args:=#[s,x],argTypes:=#[t,t] })
 (base:Nat) (e:TypeId) (i:TypeInfo) (z:Value) (size bytes:Nat) (ht:P.underlying t=some (.slice e)) (hi:P.info? e=some i) (hz:i.zero=some z)
 (hsize:i.size=size) (hby:i.bytes=bytes) (hzs:z.cells.size=size) (hsz:0<size)
 (A0:Option Addr) (n c0:Nat) (xs:List Value) (hs:a.eval s=.slice A0 n c0) (hown:w.ownsRow base e size (.slice A0 n c0) n xs)
 (A:Option Addr) (m c:Nat) (news:List Value) (hx:a.eval x=.slice A m c) (hl:news.length=m*size) (hr:Rds w A news) (h1:∀ u∈news,u.oneCell'=true)
 (h63:n+m≤maxLen) (hbytes:(n+m)*bytes≤140737488355328) (hbase:base≤w.heap.size)
 (h:∀ A' c' w',w'.ownsRow base e size (.slice A' (n+m) c') (n+m) (xs++news)→Below base w w'→w.grownBy w' (Value.ownBlock (.slice A0 n c0))→gD w w' (Value.ownBlock (.slice A0 n c0)) (Value.ownBlock (.slice A' (n+m) c'))→K (a.put o.dst (.slice A' (n+m) c')) w'):o.wp P a w K Q:=by
 have fin:∀ v' w',(Builtin.append_ #[t,t] o.type #[.slice A0 n c0,.slice A m c]).run P w=.ok v' w'→w'.ownsRow base e size v' (n+m) (xs++news)→w.grownBy w' (Value.ownBlock (.slice A0 n c0))→(v'.ownBlock=Value.ownBlock (.slice A0 n c0)∨v'.ownBlock=some w.heap.size)→o.wp P a w K Q:=by
  intro v' w' hrun h2 h3 hat
  obtain ⟨A',c',rfl,_⟩:=Bl h2
  unfold Oper.wp execOp
  simp only [ho,resolve,invoke,builtin,Sem.run_bind,Sem.run_pure,Result.andThen_ok,List.map_toArray,List.map_cons,List.map_nil,hs,hx,hrun]
  exact h A' c' w' h2 ((Below.refl base w).grown h3 hbase fun k hk=>(hown.lt k hk).1) h3 (Pu h3 hat)
 rcases A with _|ad
 ·have hn:news=[]:=by
   rcases hr with h0|⟨b,off,h0,_⟩
   ·exact h0
   ·cases h0
  subst hn
  have hm:m=0:=by
   simp only [List.length_nil] at hl
   rcases Nat.mul_eq_zero.1 hl.symm with h0|h0
   ·exact h0
   ·omega
  subst hm
  exact fin _ w (Am w base t o.type e i size ht hi _ n xs hown c) (by simpa using hown) (World.grownBy.refl w _) (.inl rfl)
 ·have hcells:∀ j u,news[j]? = some u→w.cell? (ad.add j)=some u:=by
   intro j u hu
   obtain ⟨b,off,hA,hc⟩:=hr.at_ hu
   injection hA with hA
   subst hA
   have e:(⟨b,off,none⟩:Addr).add j=⟨b,off+j,none⟩:=by unfold Addr.add;split<;>simp_all
   rw [e];exact hc
  obtain ⟨v',w',hrun,h2,h3,_,h5⟩:=run_append_own_at (P:=P) w base t o.type e i z size bytes ht hi hz hsize hby hzs hsz _ n xs hown ad m c news hl hcells h1 h63 hbytes hbase
  exact fin v' w' hrun h2 h3 h5
theorem bH {ops:Array Oper} {rest:List Oper} {o:Oper} {a:Act} {Q:Exit→Act→World→Prop} (hgd:o.guard=none) (s x:Operand) (t:TypeId)
 (ho:o.op=.call { callee:=.builtin .append,args:=#[s,x],argTypes:=#[t,t] })
 (base:Nat) (e:TypeId) (i:TypeInfo) (z:Value) (size bytes:Nat) (ht:P.underlying t=some (.slice e)) (hi:P.info? e=some i) (hz:i.zero=some z)
 (hsize:i.size=size) (hby:i.bytes=bytes) (hzs:z.cells.size=size) (hsz:0<size)
 (A0:Option Addr) (n c0:Nat) (xs:List Value) (hs:a.eval s=.slice A0 n c0) (hown:w.ownsRow base e size (.slice A0 n c0) n xs)
 (A:Option Addr) (m c:Nat) (news:List Value) (hx:a.eval x=.slice A m c) (hl:news.length=m*size) (hr:Rds w A news) (h1:∀ u∈news,u.oneCell'=true)
 (h63:n+m≤maxLen) (hbytes:(n+m)*bytes≤140737488355328) (hbase:base≤w.heap.size)
 (h:∀ A' c' w',w'.ownsRow base e size (.slice A' (n+m) c') (n+m) (xs++news)→Below base w w'→w.grownBy w' (Value.ownBlock (.slice A0 n c0))→gD w w' (Value.ownBlock (.slice A0 n c0)) (Value.ownBlock (.slice A' (n+m) c'))→wpList P ops Q rest (a.put o.dst (.slice A' (n+m) c')) w'):wpList P ops Q (o::rest) a w :=
 wpList_plain hgd fun _ hK=>Ld w s x t ho base e i z size bytes ht hi hz hsize hby hzs hsz A0 n c0 xs hs hown A m c news hx hl hr h1 h63 hbytes hbase fun A' c' w' h2 h3 h4 h5=>hK _ _ (h A' c' w' h2 h3 h4 h5)
theorem eC {ops:Array Oper} {o:Oper} {a:Act} {K:Act→World→Prop} {Q:Exit→Act→World→Prop} {E:Prop} (hgd:o.guard=none) (s x:Operand) (t:TypeId)
 (ho:o.op=.call { callee:=.builtin .append,args:=#[s,x],argTypes:=#[t,t] })
 (base:Nat) (e:TypeId) (i:TypeInfo) (z:Value) (size bytes:Nat) (ht:P.underlying t=some (.slice e)) (hi:P.info? e=some i) (hz:i.zero=some z)
 (hsize:i.size=size) (hby:i.bytes=bytes) (hzs:z.cells.size=size) (hsz:0<size)
 (A0:Option Addr) (n c0:Nat) (xs:List Value) (hs:a.eval s=.slice A0 n c0) (hown:w.ownsRow base e size (.slice A0 n c0) n xs)
 (A:Option Addr) (m c:Nat) (news:List Value) (hx:a.eval x=.slice A m c) (hl:news.length=m*size) (hr:Rds w A news) (h1:∀ u∈news,u.oneCell'=true)
 (h63:n+m≤maxLen) (hbytes:(n+m)*bytes≤140737488355328) (hbase:base≤w.heap.size)
 (h:∀ A' c' w',w'.ownsRow base e size (.slice A' (n+m) c') (n+m) (xs++news)→Below base w w'→w.grownBy w' (Value.ownBlock (.slice A0 n c0))→gD w w' (Value.ownBlock (.slice A0 n c0)) (Value.ownBlock (.slice A' (n+m) c'))→K (a.put o.dst (.slice A' (n+m) c')) w') :
 if Region.wanted o (yielded ops a.tmps)=true then Oper.wp P o a w K Q else E:=by
 have hw:Region.wanted o (yielded ops a.tmps)=true:=by simp [Region.wanted,hgd]
 rw [if_pos hw]
 exact Ld w s x t ho base e i z size bytes ht hi hz hsize hby hzs hsz A0 n c0 xs hs hown A m c news hx hl hr h1 h63 hbytes hbase h
end
def bv (l:List UInt8):List Value:=l.map fun c=>.int .u8 c.toNat
theorem qV (l k:List UInt8):bv (l++k)=bv l++bv k:=by simp [bv]
theorem aAP {l:List UInt8} {k:Nat} (h:k<l.length):(bv l)[k]? = some (.int .u8 l[k].toNat):=by
 simp [bv,List.getElem?_eq_getElem h]
def OwnB (w:World) (B:Nat) (A:Option Addr) (c:Nat) (l:List UInt8):Prop:=w.ownsRow B 5 1 (.slice A l.length c) l.length (bv l)
theorem OwnB.rds {w:World} {B c:Nat} {A:Option Addr} {l:List UInt8} (h:OwnB w B A c l):Rds w A (bv l):=Rds.own h
theorem Cy:(prog.info? 5).map (fun i=>(i.zero,i.size,i.bytes))=some (some (.int .u8 0),1,1):=by kernel_rfl
theorem vA {w:World} {A:Option Addr} {l:List UInt8} (n c:Nat) (hn:n=l.length) (h:Rds w A (bv l)) :
 (convert 176 9 (.slice A n c)).run prog w=.ok (.string ⟨l.toArray⟩) w:=by
 subst hn
 rcases h with h|⟨b,off,rfl,hc⟩
 ·have hl:l=[]:=by simpa [bv] using h
  subst hl
  simp only [List.length_nil]
  rcases A with _|a
  ·exact run_convert_bytes_nil w 176 5 underlying176 underlying5 0 c 9 underlying9
  ·rw [run_convert_bytes_string w 176 9 5 _ 0 c underlying176 underlying5 underlying9,
    run_bytesToString w a 0 c [] (by have:=run_loadCells_list (P:=prog) w a [] (fun j v hj=>by simp at hj);simpa using this)]
   rfl
 ·have:=run_convert_bytes_arg (P:=prog) w 176 5 underlying176 underlying5 b off l.length c (l.map fun x=>(x.toNat:Int)) (by simp)
   (fun i hi=>by rw [hc i _ (aAP hi)];simp [List.getD,List.getElem?_eq_getElem hi]) 9 underlying9
  rw [this]
  simp [strOfNums,Function.comp_def]
end Go.Proofs.YtkolcimllghnaaaGreatDoor

namespace Go.Proofs.YtkolcimllghnaaaGreatDoor.Lp
open Go.RowKit
def inR (x:Int):Prop := -9223372036854775808≤x∧x≤9223372036854775807
instance (x:Int):Decidable (inR x):=by unfold inR;exact inferInstance
theorem aBC (a b:Int):(a==b)=decide (a=b):=by rw [Bool.eq_iff_iff];simp
def val (x:Int):Int:=if inR x then x else 0
def err (x:Int):Int:=if inR x then 0 else 9
def tv (ok:Bool) (n:Int):Int:=if ok then n else 0
def te (ok:Bool):Int:=if ok then 0 else 9
theorem Xd {ok:Bool} {n x:Int} (h:ok=decide (inR x)) (h2:inR x→n=x):tv ok n=val x:=by
 subst h;unfold tv val;by_cases h3:inR x<;>simp [h3];exact h2 h3
theorem Xf {ok:Bool} {x:Int} (h:ok=decide (inR x)):te ok=err x:=by
 subst h;unfold te err;by_cases h3:inR x<;>simp [h3]
theorem oX {x:Int} (h:inR x):wrap64 x=x:=IntWalk.wrap64_in x h
theorem Ca (x:Int):inR (wrap64 x):=by unfold inR wrap64;omega
theorem Lc (x:Int):∃ k:Int,wrap64 x=x+18446744073709551616*k:=by
 refine ⟨-((x+9223372036854775808) / 18446744073709551616), ?_⟩;unfold wrap64;omega
theorem Ww (a b:Int) (ha:inR a) (hb:inR b):(a<wrap64 (a+b)↔0<b)↔inR (a+b):=by
 unfold inR wrap64 at *;omega
theorem Sg (a b:Int) (ha:inR a) (hb:inR b):(decide (a<wrap64 (a+b))==decide (0<b))=decide (inR (a+b)):=by
 rw [Bool.eq_iff_iff,beq_iff_eq,decide_eq_decide,decide_eq_true_iff];exact Ww a b ha hb
def mag (n:Int):Int:=if n<0 then -n else n
theorem Pf {n:Int} (h:inR n):mag n≤9223372036854775808:=by unfold mag inR at *;split<;>omega
theorem Ls (n b:Int) (hb:b≠0):∃ r:Int,n=n.tdiv b*b+r ∧ -(mag b)<r∧r<mag b:=by
 refine ⟨n.tmod b, ?_, ?_, ?_⟩
 ·have:=Int.mul_tdiv_add_tmod n b;rw [Int.mul_comm] at this;exact this.symm
 ·have h:=Int.tmod_lt_of_pos n (b:=mag b) (by unfold mag;split<;>omega)
  have h2:=Int.tmod_lt_of_pos (-n) (b:=mag b) (by unfold mag;split<;>omega)
  have e : n.tmod b = n.tmod (mag b) := by unfold mag;split; · rw [Int.tmod_neg]
                                           ·rfl
  rw [Int.neg_tmod] at h2;rw [e];omega
 ·have h:=Int.tmod_lt_of_pos n (b:=mag b) (by unfold mag;split<;>omega)
  have e : n.tmod b = n.tmod (mag b) := by unfold mag;split; · rw [Int.tmod_neg]
                                           ·rfl
  rw [e];exact h
theorem Lt {n b:Int} (hn:inR n) (h:¬(n = -9223372036854775808∧b = -1)):inR (n.tdiv b):=by
 by_cases hb0:b=0
 ·subst hb0;simp [inR]
 ·have hm:(n.tdiv b).natAbs=n.natAbs / b.natAbs:=Int.natAbs_tdiv n b
  by_cases hb1:b.natAbs=1
  ·have:b=1∨b = -1:=by omega
   rcases this with rfl|rfl
   ·simpa using hn
   ·have:n.tdiv (-1) = -n:=by rw [Int.tdiv_neg];simp
    rw [this];unfold inR at *;omega
  ·have:n.natAbs / b.natAbs≤n.natAbs / 2:=Nat.div_le_div_left (by omega) (by omega)
   unfold inR at *;omega
theorem Uq (a b:Int) (ha:inR a) (hb:inR b) (hb0:b≠0) (h1:¬(a = -1∧b = -9223372036854775808)) (h2:¬(b = -1∧a = -9223372036854775808)) :
 wrap64 ((wrap64 (a*b)).tdiv b)=a↔inR (a*b):=by
 constructor
 ·intro h
  by_cases hx:wrap64 (a*b) = -9223372036854775808∧b = -1
  ·obtain ⟨hx1,rfl⟩:=hx
   rw [hx1] at h
   have:(-9223372036854775808:Int).tdiv (-1)=9223372036854775808:=by decide
   rw [this] at h
   have:wrap64 9223372036854775808 = -9223372036854775808:=by unfold wrap64;decide
   rw [this] at h
   exact absurd ⟨rfl,h.symm⟩ h2
  ·rw [oX (Lt (Ca _) hx)] at h
   obtain ⟨r,hr,hr1,hr2⟩:=Ls (wrap64 (a*b)) b hb0
   rw [h] at hr
   obtain ⟨k,hk⟩:=Lc (a*b)
   have hm:=Pf hb
   have hw:=Ca (a*b)
   have:k=0:=by omega
   rw [this] at hk
   have e:wrap64 (a*b)=a*b:=by omega
   rw [←e];exact hw
 ·intro h
  rw [oX h,Int.mul_tdiv_cancel _ hb0]
  exact oX ha
theorem Oy {a b:Int} (h:a = -1∧b = -9223372036854775808):¬inR (a*b):=by obtain ⟨rfl,rfl⟩:=h;decide
theorem Ox {a b:Int} (h:b = -1∧a = -9223372036854775808):¬inR (a*b):=by obtain ⟨rfl,rfl⟩:=h;decide
theorem Oz (a b:Int) (ha:inR a) (hb:inR b) (hb0:b≠0) :
 (wrap64 ((wrap64 (a*b)).tdiv b)==a && !(a == -1&&b == -9223372036854775808) && !(b == -1&&a == -9223372036854775808))=decide (inR (a*b)):=by
 by_cases h1:a = -1∧b = -9223372036854775808
 ·rw [decide_eq_false (Oy h1)];obtain ⟨rfl,rfl⟩:=h1;simp
 ·by_cases h2:b = -1∧a = -9223372036854775808
  ·rw [decide_eq_false (Ox h2)];obtain ⟨rfl,rfl⟩:=h2;simp
  ·have h:=Uq a b ha hb hb0 h1 h2
   have e1:(a == -1&&b == -9223372036854775808)=false:=by rw [Bool.eq_false_iff];simpa using h1
   have e2:(b == -1&&a == -9223372036854775808)=false:=by rw [Bool.eq_false_iff];simpa using h2
   rw [e1,e2,Bool.eq_iff_iff,decide_eq_true_iff, ←h];simp
def signed (s:Int) (below:Bool):Int:=if below then -s else s
theorem Ux {n:Int} (h:n<0):mag n = -(n+1)+1:=by unfold mag;rw [if_pos h];omega
theorem Uw {n:Int} (h:¬n<0):mag n=n:=if_neg h
theorem xN {x:Int} (h:inR x):val x=x:=if_pos h
theorem rY {x:Int} (h:¬inR x):val x=0:=if_neg h
theorem yU {x:Int} (h:inR x):err x=0:=if_pos h
theorem sE {x:Int} (h:¬inR x):err x=9:=if_neg h
def low (x:Int):Int:=x % 18446744073709551616
theorem Uy (n:Int):mag n=(n.natAbs:Int):=by unfold mag;split<;>omega
def aN (c:UInt8):Bool:=decide (48≤c.toNat)&&decide (c.toNat≤57)
def dvf (n:Int):List UInt8→Int
 | []=>n
 | c::l=>dvf (n*10+((c.toNat:Int)-48)) l
def kR (l:List UInt8):Bool:=l.all aN && !l.isEmpty
def jA (l:List UInt8):Int:=if kR l then val (dvf 0 l) else 0
def kT (l:List UInt8):Int:=if kR l then err (dvf 0 l) else 3
theorem uY (l k:List UInt8):∀ n,dvf n (l++k)=dvf (dvf n l) k:=by
 induction l with
 | nil=>intro n;rfl
 | cons c l ih=>intro n;exact ih _
theorem Cp (n:Int) (l:List UInt8) (c:UInt8):dvf n (l++[c])=dvf n l*10+((c.toNat:Int)-48):=by
 rw [uY];rfl
theorem fZ {c:UInt8} (h:aN c=true):48≤c.toNat∧c.toNat≤57:=by
 simpa [aN] using h
theorem Qy {l:List UInt8} (h:l.all aN=true):∀ n,0≤n→n≤dvf n l:=by
 induction l with
 | nil=>intro n _;exact Int.le_refl _
 | cons c l ih =>
   intro n hn
   simp only [List.all_cons,Bool.and_eq_true] at h
   have hb:=fZ h.1
   have:=ih h.2 (n*10+((c.toNat:Int)-48)) (by omega)
   show n≤dvf (n*10+((c.toNat:Int)-48)) l
   omega
theorem iN {l:List UInt8} (h:l.all aN=true):0≤dvf 0 l:=Qy h 0 (Int.le_refl _)
theorem Ak (s:ByteArray) (pos:Nat) (h:pos<s.size) (hd:aN (s[pos]'h)=true):Utf8.decode s pos=((s[pos]'h).toNat,1):=by
 have:=fZ hd
 exact decode_ascii s pos h (by omega)
theorem Nc (s:ByteArray) (pos:Nat) (h:pos<s.size) (hd:aN (s[pos]'h)=false):(Utf8.decode s pos).1<48∨57<(Utf8.decode s pos).1:=by
 by_cases ha:(s[pos]'h).toNat<128
 ·rw [decode_ascii s pos h ha];simp only [aN,Bool.and_eq_false_iff,decide_eq_false_iff_not] at hd;omega
 ·have:=(decode_high s pos h (by omega)).1;omega
theorem gU (s:ByteArray) (i:Nat) (h:i<s.size):s.data.toList[i]? = some (s[i]'h):=by
 rw [List.getElem?_eq_getElem (by simpa using h)];rfl
theorem gI (s:ByteArray) (k:Nat) (h:k<s.size):s.data.toList.take (k+1)=s.data.toList.take k++[s[k]'h]:=by
 rw [List.take_add_one,gU s k h];rfl
theorem iY (s:ByteArray):s.data.toList.take s.size=s.data.toList:=List.take_of_length_le (by simp)
theorem iO (s:ByteArray) (k:Nat) (h:k<s.size):s.data.toList.drop k=(s[k]'h)::s.data.toList.drop (k+1):=by
 rw [List.drop_eq_getElem_cons (by simpa using h)];rfl
theorem Dd (s:ByteArray) (pos:Nat) (h:pos<s.size) (hd:aN (s[pos]'h)=false):kR s.data.toList=false:=by
 have hm:s[pos]'h∈s.data.toList:=List.mem_of_getElem? (gU s pos h)
 have:s.data.toList.all aN=false:=by
  rw [List.all_eq_false];exact ⟨_,hm,by simp [hd]⟩
 simp [kR,this]
theorem wO {l:List UInt8} (h:kR l=false):jA l=0:=by simp [jA,h]
theorem qP {l:List UInt8} (h:kR l=false):kT l=3:=by simp [kT,h]
theorem lJ {l:List UInt8} (h:kR l=true):jA l=val (dvf 0 l):=by simp [jA,h]
theorem lK {l:List UInt8} (h:kR l=true):kT l=err (dvf 0 l):=by simp [kT,h]
theorem gB (s:ByteArray) (k:Nat) (h:k<s.size) (ha:(s.data.toList.take k).all aN=true) (hd:aN (s[k]'h)=true):(s.data.toList.take (k+1)).all aN=true:=by
 rw [gI s k h];simp [ha,hd]
theorem Se (s:ByteArray) (k:Nat) (h:k<s.size) (ha:s.data.toList.all aN=true):aN (s[k]'h)=true :=
 List.all_eq_true.1 ha _ (List.mem_of_getElem? (gU s k h))
theorem Es (s:ByteArray) (k:Nat) (ha:s.data.toList.all aN=true) (hn:¬inR (dvf 0 (s.data.toList.take k))):¬inR (dvf 0 s.data.toList):=by
 have h1:(s.data.toList.take k).all aN=true:=by
  rw [List.all_eq_true] at *;intro x hx;exact ha x (List.mem_of_mem_take hx)
 have h2:(s.data.toList.drop k).all aN=true:=by
  rw [List.all_eq_true] at *;intro x hx;exact ha x (List.mem_of_mem_drop hx)
 have h3:=iN h1
 have h4:=Qy h2 _ h3
 rw [←uY,List.take_append_drop] at h4
 unfold inR at *;omega
def aS (l:List UInt8):Bool:=Lib.validD l && !l.contains 0
def bX (k i:Int) (s:ByteArray) (b:Bool):Bool :=
 if k=0 then i==0&&s.data.toList.isEmpty && !b
 else if k=1 then s.data.toList.isEmpty && !b
 else if k=2 then i==0 && !b&&decide (s.size≤60)&&aS s.data.toList
 else if k=3 then i==0&&s.data.toList.isEmpty
 else false
theorem Ul (l:List UInt8):aS (0::l)=false:=by simp [aS]
theorem Om (b:UInt8) (l:List UInt8) (h0:b.toNat≠0) (h:b.toNat<128):aS (b::l)=aS l:=by
 have:b≠0:=by rintro rfl;exact h0 rfl
 simp [aS,Lib.validD_cons b l h,Ne.symm this]
def dI (n:Nat):Prop:=128≤n∧n<192
def dQ (r least:Int):Prop:=¬(r<least)∧¬(1114111<r)∧¬(55296≤r∧r<57344)
theorem fM {c:UInt8} (h:128≤c.toNat):¬(0=c):=by rintro rfl;exact absurd h (by decide)
theorem Mj (b:UInt8) (l:List UInt8) (h:128≤b.toNat∧b.toNat<192∨248≤b.toNat):Lib.validD (b::l)=false:=by
 rw [Lib.validD_step _ (by simp),Lib.decodeL_N]
 simp only [List.length_cons,List.getD_cons_zero]
 rw [if_pos]
 have hb:=b.toNat_lt
 unfold Lib.decodeN
 repeat' split
 all_goals first|exact ⟨rfl,rfl⟩|(exfalso;omega)
theorem Yr (b:UInt8) (l:List UInt8) (h:128≤b.toNat∧b.toNat<192∨248≤b.toNat):aS (b::l)=false:=by
 simp [aS,Mj b l h]
theorem aAF (b:UInt8) (l:List UInt8) (h1:192≤b.toNat) (h2:b.toNat<224) :
 (∃ c t,l=c::t∧dI c.toNat∧dQ (((b.toNat:Int)-192)*64+((c.toNat:Int)-128)) 128∧aS (b::l)=aS t) ∨
 ((∀ c t,l=c::t→dI c.toNat→¬dQ (((b.toNat:Int)-192)*64+((c.toNat:Int)-128)) 128)∧aS (b::l)=false):=by
 have hb:=b.toNat_lt
 cases l with
 | nil =>
   right
   refine ⟨by simp, ?_⟩
   simp only [aS,Bool.and_eq_false_iff]
   left
   rw [Lib.validD_step _ (by simp),Lib.decodeL_N,if_pos]
   simp only [List.length_cons,List.length_nil,List.getD_cons_zero]
   unfold Lib.decodeN
   repeat' split
   all_goals first|exact ⟨rfl,rfl⟩|(exfalso;omega)
 | cons c t =>
   have hc:=c.toNat_lt
   by_cases hg:dI c.toNat∧dQ (((b.toNat:Int)-192)*64+((c.toNat:Int)-128)) 128
   ·left
    refine ⟨c,t,rfl,hg.1,hg.2, ?_⟩
    obtain ⟨⟨g1,g2⟩,g3,g4,g5⟩:=hg
    have hd:Lib.decodeL (b::c::t)=(b.toNat % 32*64+c.toNat % 64,2):=by
     rw [Lib.decodeL_N]
     simp only [List.length_cons,List.getD_cons_zero,List.getD_cons_succ]
     unfold Lib.decodeN
     repeat' split
     all_goals first|rfl|(exfalso;omega)
    have hv:Lib.validD (b::c::t)=Lib.validD t:=by
     rw [Lib.validD_step _ (by simp),hd,if_neg (by simp)];rfl
    simp [aS,hv,fM (show 128≤b.toNat by omega),fM g1]
   ·right
    refine ⟨?_, ?_⟩
    ·rintro c' t' e;cases e;intro h1 h2;exact hg ⟨h1,h2⟩
    simp only [aS,Bool.and_eq_false_iff]
    left
    rw [Lib.validD_step _ (by simp),Lib.decodeL_N,if_pos]
    simp only [List.length_cons,List.getD_cons_zero,List.getD_cons_succ]
    unfold Lib.decodeN
    unfold dI dQ at hg
    repeat' split
    all_goals first|exact ⟨rfl,rfl⟩|(exfalso;omega)
theorem aAE (b:UInt8) (l:List UInt8) (h1:224≤b.toNat) (h2:b.toNat<240) :
 (∃ c d t,l=c::d::t∧dI c.toNat∧dI d.toNat∧dQ ((((b.toNat:Int)-224)*64+((c.toNat:Int)-128))*64+((d.toNat:Int)-128)) 2048∧aS (b::l)=aS t) ∨
 ((∀ c d t,l=c::d::t→dI c.toNat→dI d.toNat→¬dQ ((((b.toNat:Int)-224)*64+((c.toNat:Int)-128))*64+((d.toNat:Int)-128)) 2048)∧aS (b::l)=false):=by
 have hb:=b.toNat_lt
 match l with
 | [] =>
   right
   refine ⟨by simp, ?_⟩
   simp only [aS,Bool.and_eq_false_iff]
   left
   rw [Lib.validD_step _ (by simp),Lib.decodeL_N,if_pos]
   simp only [List.length_cons,List.length_nil,List.getD_cons_zero]
   unfold Lib.decodeN
   repeat' split
   all_goals first|exact ⟨rfl,rfl⟩|(exfalso;omega)
 | [c] =>
   right
   refine ⟨by simp, ?_⟩
   simp only [aS,Bool.and_eq_false_iff]
   left
   rw [Lib.validD_step _ (by simp),Lib.decodeL_N,if_pos]
   simp only [List.length_cons,List.length_nil,List.getD_cons_zero]
   unfold Lib.decodeN
   repeat' split
   all_goals first|exact ⟨rfl,rfl⟩|(exfalso;omega)
 | c::d::t =>
   have hc:=c.toNat_lt
   have hd':=d.toNat_lt
   by_cases hg:dI c.toNat∧dI d.toNat∧dQ ((((b.toNat:Int)-224)*64+((c.toNat:Int)-128))*64+((d.toNat:Int)-128)) 2048
   ·left
    refine ⟨c,d,t,rfl,hg.1,hg.2.1,hg.2.2, ?_⟩
    obtain ⟨⟨g1,g2⟩,⟨g6,g7⟩,g3,g4,g5⟩:=hg
    have hd:Lib.decodeL (b::c::d::t)=(b.toNat % 16*4096+c.toNat % 64*64+d.toNat % 64,3):=by
     rw [Lib.decodeL_N]
     simp only [List.length_cons,List.getD_cons_zero,List.getD_cons_succ]
     unfold Lib.decodeN
     repeat' split
     all_goals first|rfl|(exfalso;omega)
    have hv:Lib.validD (b::c::d::t)=Lib.validD t:=by
     rw [Lib.validD_step _ (by simp),hd,if_neg (by simp)];rfl
    simp [aS,hv,fM (show 128≤b.toNat by omega),fM g1,fM g6]
   ·right
    refine ⟨?_, ?_⟩
    ·rintro c' d' t' e;cases e;intro h1 h2 h3;exact hg ⟨h1,h2,h3⟩
    simp only [aS,Bool.and_eq_false_iff]
    left
    rw [Lib.validD_step _ (by simp),Lib.decodeL_N,if_pos]
    simp only [List.length_cons,List.getD_cons_zero,List.getD_cons_succ]
    unfold Lib.decodeN
    unfold dI dQ at hg
    repeat' split
    all_goals first|exact ⟨rfl,rfl⟩|(exfalso;omega)
theorem aAD (b:UInt8) (l:List UInt8) (h1:240≤b.toNat) (h2:b.toNat<248) :
 (∃ c d f t,l=c::d::f::t∧dI c.toNat∧dI d.toNat∧dI f.toNat∧dQ (((((b.toNat:Int)-240)*64+((c.toNat:Int)-128))*64+((d.toNat:Int)-128))*64+((f.toNat:Int)-128)) 65536∧aS (b::l)=aS t) ∨
 ((∀ c d f t,l=c::d::f::t→dI c.toNat→dI d.toNat→dI f.toNat→¬dQ (((((b.toNat:Int)-240)*64+((c.toNat:Int)-128))*64+((d.toNat:Int)-128))*64+((f.toNat:Int)-128)) 65536)∧aS (b::l)=false):=by
 have hb:=b.toNat_lt
 match l with
 | [] =>
   right
   refine ⟨by simp, ?_⟩
   simp only [aS,Bool.and_eq_false_iff]
   left
   rw [Lib.validD_step _ (by simp),Lib.decodeL_N,if_pos]
   simp only [List.length_cons,List.length_nil,List.getD_cons_zero]
   unfold Lib.decodeN
   repeat' split
   all_goals first|exact ⟨rfl,rfl⟩|(exfalso;omega)
 | [c] =>
   right
   refine ⟨by simp, ?_⟩
   simp only [aS,Bool.and_eq_false_iff]
   left
   rw [Lib.validD_step _ (by simp),Lib.decodeL_N,if_pos]
   simp only [List.length_cons,List.length_nil,List.getD_cons_zero]
   unfold Lib.decodeN
   repeat' split
   all_goals first|exact ⟨rfl,rfl⟩|(exfalso;omega)
 | [c,d] =>
   right
   refine ⟨by simp, ?_⟩
   simp only [aS,Bool.and_eq_false_iff]
   left
   rw [Lib.validD_step _ (by simp),Lib.decodeL_N,if_pos]
   simp only [List.length_cons,List.length_nil,List.getD_cons_zero]
   unfold Lib.decodeN
   repeat' split
   all_goals first|exact ⟨rfl,rfl⟩|(exfalso;omega)
 | c::d::f::t =>
   have hc:=c.toNat_lt
   have hd':=d.toNat_lt
   have hf':=f.toNat_lt
   by_cases hg:dI c.toNat∧dI d.toNat∧dI f.toNat∧dQ (((((b.toNat:Int)-240)*64+((c.toNat:Int)-128))*64+((d.toNat:Int)-128))*64+((f.toNat:Int)-128)) 65536
   ·left
    refine ⟨c,d,f,t,rfl,hg.1,hg.2.1,hg.2.2.1,hg.2.2.2, ?_⟩
    obtain ⟨⟨g1,g2⟩,⟨g6,g7⟩,⟨g8,g9⟩,g3,g4,g5⟩:=hg
    have hd:Lib.decodeL (b::c::d::f::t)=(b.toNat % 8*262144+c.toNat % 64*4096+d.toNat % 64*64+f.toNat % 64,4):=by
     rw [Lib.decodeL_N]
     simp only [List.length_cons,List.getD_cons_zero,List.getD_cons_succ]
     unfold Lib.decodeN
     repeat' split
     all_goals first|rfl|(exfalso;omega)
    have hv:Lib.validD (b::c::d::f::t)=Lib.validD t:=by
     rw [Lib.validD_step _ (by simp),hd,if_neg (by simp)];rfl
    simp [aS,hv,fM (show 128≤b.toNat by omega),fM g1,fM g6,fM g8]
   ·right
    refine ⟨?_, ?_⟩
    ·rintro c' d' f' t' e;cases e;intro h1 h2 h3 h4;exact hg ⟨h1,h2,h3,h4⟩
    simp only [aS,Bool.and_eq_false_iff]
    left
    rw [Lib.validD_step _ (by simp),Lib.decodeL_N,if_pos]
    simp only [List.length_cons,List.getD_cons_zero,List.getD_cons_succ]
    unfold Lib.decodeN
    unfold dI dQ at hg
    repeat' split
    all_goals first|exact ⟨rfl,rfl⟩|(exfalso;omega)
theorem eK (s:ByteArray) (k:Nat) (h:k<s.size):s.data.toList.drop k=(s[k]'h)::s.data.toList.drop (k+1):=by
 rw [List.drop_eq_getElem_cons (by simpa using h)];rfl
theorem uH (s:ByteArray) (k:Nat):(s.data.toList.drop k).length=s.size-k:=by simp
theorem Un (s:ByteArray) (k:Nat) (h:s.size≤k):s.data.toList.drop k=[]:=List.drop_eq_nil_of_le (by simpa using h)
theorem at2 (s:ByteArray) (k:Nat) (hk:k<s.size) (h1:192≤(s[k]'hk).toNat) (h2:(s[k]'hk).toNat<224) :
 (s.size≤k+1→aS (s.data.toList.drop k)=false) ∧
 (∀ g1:k+1<s.size,dI (s[k+1]'g1).toNat→dQ ((((s[k]'hk).toNat:Int)-192)*64+(((s[k+1]'g1).toNat:Int)-128)) 128→aS (s.data.toList.drop k)=aS (s.data.toList.drop (k+2))) ∧
 (∀ g1:k+1<s.size,¬(dI (s[k+1]'g1).toNat∧dQ ((((s[k]'hk).toNat:Int)-192)*64+(((s[k+1]'g1).toNat:Int)-128)) 128)→aS (s.data.toList.drop k)=false):=by
 have hs:=aAF _ (s.data.toList.drop (k+1)) h1 h2
 rw [←eK s k hk] at hs
 refine ⟨fun h => ?_,fun g1 h3 h4 => ?_,fun g1 h3 => ?_⟩
 ·rcases hs with ⟨c,t,e,_⟩|h'
  ·have:=congrArg List.length e
   rw [uH,List.length_cons] at this;omega
  ·exact h'.2
 ·rw [eK s (k+1) g1] at hs
  rcases hs with ⟨c,t,e,_,_,h⟩|h'
  ·cases e;exact h
  ·exact absurd h4 (h'.1 _ _ rfl h3)
 ·rw [eK s (k+1) g1] at hs
  rcases hs with ⟨c,t,e,h5,h6,h⟩|h'
  ·cases e;exact absurd ⟨h5,h6⟩ h3
  ·exact h'.2
theorem at3 (s:ByteArray) (k:Nat) (hk:k<s.size) (h1:224≤(s[k]'hk).toNat) (h2:(s[k]'hk).toNat<240) :
 (s.size≤k+2→aS (s.data.toList.drop k)=false) ∧
 (∀ g1:k+2<s.size,dI (s[k+1]'(by omega)).toNat→dI (s[k+2]'g1).toNat→dQ (((((s[k]'hk).toNat:Int)-224)*64+(((s[k+1]'(by omega)).toNat:Int)-128))*64+(((s[k+2]'g1).toNat:Int)-128)) 2048→aS (s.data.toList.drop k)=aS (s.data.toList.drop (k+3))) ∧
 (∀ g1:k+2<s.size,¬(dI (s[k+1]'(by omega)).toNat∧dI (s[k+2]'g1).toNat∧dQ (((((s[k]'hk).toNat:Int)-224)*64+(((s[k+1]'(by omega)).toNat:Int)-128))*64+(((s[k+2]'g1).toNat:Int)-128)) 2048)→aS (s.data.toList.drop k)=false):=by
 have hs:=aAE _ (s.data.toList.drop (k+1)) h1 h2
 rw [←eK s k hk] at hs
 refine ⟨fun h => ?_,fun g1 h3 h4 h5 => ?_,fun g1 h3 => ?_⟩
 ·rcases hs with ⟨c,d,t,e,_⟩|h'
  ·have:=congrArg List.length e
   rw [uH,List.length_cons,List.length_cons] at this;omega
  ·exact h'.2
 ·rw [eK s (k+1) (by omega),eK s (k+1+1) g1] at hs
  rcases hs with ⟨c,d,t,e,_,_,_,h⟩|h'
  ·cases e;exact h
  ·exact absurd h5 (h'.1 _ _ _ rfl h3 h4)
 ·rw [eK s (k+1) (by omega),eK s (k+1+1) g1] at hs
  rcases hs with ⟨c,d,t,e,h5,h6,h7,h⟩|h'
  ·cases e;exact absurd ⟨h5,h6,h7⟩ h3
  ·exact h'.2
theorem at4 (s:ByteArray) (k:Nat) (hk:k<s.size) (h1:240≤(s[k]'hk).toNat) (h2:(s[k]'hk).toNat<248) :
 (s.size≤k+3→aS (s.data.toList.drop k)=false) ∧
 (∀ g1:k+3<s.size,dI (s[k+1]'(by omega)).toNat→dI (s[k+2]'(by omega)).toNat→dI (s[k+3]'g1).toNat→dQ ((((((s[k]'hk).toNat:Int)-240)*64+(((s[k+1]'(by omega)).toNat:Int)-128))*64+(((s[k+2]'(by omega)).toNat:Int)-128))*64+(((s[k+3]'g1).toNat:Int)-128)) 65536→aS (s.data.toList.drop k)=aS (s.data.toList.drop (k+4))) ∧
 (∀ g1:k+3<s.size,¬(dI (s[k+1]'(by omega)).toNat∧dI (s[k+2]'(by omega)).toNat∧dI (s[k+3]'g1).toNat∧dQ ((((((s[k]'hk).toNat:Int)-240)*64+(((s[k+1]'(by omega)).toNat:Int)-128))*64+(((s[k+2]'(by omega)).toNat:Int)-128))*64+(((s[k+3]'g1).toNat:Int)-128)) 65536)→aS (s.data.toList.drop k)=false):=by
 have hs:=aAD _ (s.data.toList.drop (k+1)) h1 h2
 rw [←eK s k hk] at hs
 refine ⟨fun h => ?_,fun g1 h3 h4 h5 h6 => ?_,fun g1 h3 => ?_⟩
 ·rcases hs with ⟨c,d,f,t,e,_⟩|h'
  ·have:=congrArg List.length e
   rw [uH,List.length_cons,List.length_cons,List.length_cons] at this;omega
  ·exact h'.2
 ·rw [eK s (k+1) (by omega),eK s (k+1+1) (by omega),eK s (k+1+1+1) g1] at hs
  rcases hs with ⟨c,d,f,t,e,_,_,_,_,h⟩|h'
  ·cases e;exact h
  ·exact absurd h6 (h'.1 _ _ _ _ rfl h3 h4 h5)
 ·rw [eK s (k+1) (by omega),eK s (k+1+1) (by omega),eK s (k+1+1+1) g1] at hs
  rcases hs with ⟨c,d,f,t,e,h5,h6,h7,h8,h⟩|h'
  ·cases e;exact absurd ⟨h5,h6,h7,h8⟩ h3
  ·exact h'.2
structure Tok where
 k:Int
 s:List UInt8
 n:Int
def Do:Tok:=⟨0,[],0⟩
def Tok.cells (t:Tok):List Value:=[.int .u8 t.k,.string ⟨t.s.toArray⟩,.int .i64 t.n]
def tkv (l:List Tok):List Value:=l.flatMap Tok.cells
def fO (c:UInt8):Bool:=(decide (97≤c.toNat)&&decide (c.toNat≤122))||(decide (65≤c.toNat)&&decide (c.toNat≤90))||decide (c.toNat=95)
def bO (c:UInt8):Bool:=fO c||aN c
def dY (c:UInt8):Bool:=decide (c.toNat=32)||decide (c.toNat=9)||decide (c.toNat=10)||decide (c.toNat=13)
def gR (c:UInt8):UInt8:=if 65≤c.toNat∧c.toNat≤90 then c+32 else c
def Ag:List UInt8:=[40,41,44,59,42,43,45,47,37,61,60,62,46]
def mT (c:UInt8):Bool:=Ag.contains c
def sM (c d:UInt8):Bool:=(decide (c.toNat=60)&&(decide (d.toNat=61)||decide (d.toNat=62)))||(decide (c.toNat=62)&&decide (d.toNat=61))
def txt:List UInt8→Option (List UInt8×Nat)
 | []=>none
 | c::l =>
   if c=39 then
    match l with
    | d::r=>if d=39 then (txt r).map fun p=>(39::p.1,p.2+2) else some ([],1)
    | []=>some ([],1)
   else (txt l).map fun p=>(c::p.1,p.2+1)
def bY:List UInt8→Nat
 | []=>0
 | [c]=>if mT c then 1 else 0
 | c::d::_=>if sM c d then 2 else if mT c then 1 else 0
def jL:Option (List UInt8×Nat)→Tok×Nat×Int
 | none=>(Do,0,4)
 | some (t,n)=>if aS t then (if t.length≤60 then (⟨3,t,0⟩,n+1,0) else (Do,0,2)) else (Do,0,4)
def bE:List UInt8→Tok×Nat×Int
 | []=>(Do,0,4)
 | c::r =>
   if fO c then (⟨1,((c::r).takeWhile bO).map gR,0⟩,((c::r).takeWhile bO).length,0)
   else if aN c then (⟨2,[],jA ((c::r).takeWhile aN)⟩,((c::r).takeWhile aN).length,kT ((c::r).takeWhile aN))
   else if c=39 then jL (txt r)
   else if bY (c::r)=0 then (Do,0,4) else (⟨4,(c::r).take (bY (c::r)),0⟩,bY (c::r),0)
def rQ:Nat→List Tok→List UInt8→List Tok×Int
 | _,acc,[]=>(acc,0)
 | 0,acc,_::_=>(acc,0)
 | f+1,acc,c::r =>
   if dY c then rQ f acc r
   else if (bE (c::r)).2.2=0 then rQ f (acc++[(bE (c::r)).1]) ((c::r).drop (bE (c::r)).2.1)
   else ([],(bE (c::r)).2.2)
def spl (l:List UInt8):List Tok×Int:=rQ l.length [] l
def dT (l:List UInt8):List Tok×Int:=if 2000<l.length then ([],2) else spl l
theorem fJ (p:UInt8→Bool) (l:List UInt8):(l.takeWhile p).length≤l.length:=(List.takeWhile_sublist p).length_le
theorem sL:∀ (k:Nat) (l:List UInt8) (t:List UInt8) (n:Nat),l.length≤k→txt l=some (t,n)→1≤n∧n≤l.length∧t.length<n
 | 0,l,t,n,hk,h=>by
   obtain rfl:l=[]:=List.eq_nil_of_length_eq_zero (by omega)
   cases h
 | k+1,[],t,n,hk,h=>by cases h
 | k+1,c::l,t,n,hk,h=>by
   unfold txt at h
   by_cases hc:c=39
   ·rw [if_pos hc] at h
    match l,h,hk with
    | [],h,_ =>
      simp only [Option.some.injEq,Prod.mk.injEq] at h
      obtain ⟨rfl,rfl⟩:=h
      simp
    | d::r,h,hk =>
      simp only at h
      by_cases hd:d=39
      ·rw [if_pos hd] at h
       obtain ⟨⟨t',n'⟩,h1,h2⟩:=Option.map_eq_some_iff.1 h
       simp only [Prod.mk.injEq] at h2
       obtain ⟨rfl,rfl⟩:=h2
       have:=sL k r t' n' (by simp at hk;omega) h1
       simp;omega
      ·rw [if_neg hd] at h
       simp only [Option.some.injEq,Prod.mk.injEq] at h
       obtain ⟨rfl,rfl⟩:=h
       simp
   ·rw [if_neg hc] at h
    obtain ⟨⟨t',n'⟩,h1,h2⟩:=Option.map_eq_some_iff.1 h
    simp only [Prod.mk.injEq] at h2
    obtain ⟨rfl,rfl⟩:=h2
    have:=sL k l t' n' (by simp at hk;omega) h1
    simp;omega
theorem Ey {c:Prop} [Decidable c] {a b n:Nat} (h1:a≤n) (h2:b≤n):(if c then a else b)≤n:=by by_cases h:c<;>simp [h,h1,h2]
theorem mU (l:List UInt8):bY l≤l.length:=by
 match l with
 | []=>exact ν _
 | [c]=>exact Ey (by simp) (by simp)
 | c::d::r=>exact Ey (by simp) (Ey (by simp) (by simp))
theorem Sy {r:List UInt8} {p:Option (List UInt8×Nat)} (hp:txt r=p) (h:(jL p).2.2=0):1≤(jL p).2.1∧(jL p).2.1≤r.length+1:=by
 cases p with
 | none=>cases h
 | some p =>
   obtain ⟨t,n⟩:=p
   have:=sL _ _ _ _ (ν _) hp
   unfold jL at h ⊢
   by_cases g1:aS t=true
   ·by_cases g2:t.length≤60
    ·simp only [g1,g2,if_true];omega
    ·simp only [g1,g2,if_true,if_false] at h;cases h
   ·simp only [g1] at h;cases h
theorem fE {c:UInt8} (r:List UInt8) (h:fO c=true):bE (c::r)=(⟨1,((c::r).takeWhile bO).map gR,0⟩,((c::r).takeWhile bO).length,0):=by
 simp only [bE,h,if_true]
theorem gL {c:UInt8} (r:List UInt8) (h0:fO c=false) (h:aN c=true):bE (c::r)=(⟨2,[],jA ((c::r).takeWhile aN)⟩,((c::r).takeWhile aN).length,kT ((c::r).takeWhile aN)):=by
 simp only [bE,h0,h,φ,if_false,if_true]
theorem cY (r:List UInt8):bE (39::r)=jL (txt r):=rfl
theorem fF {c:UInt8} (r:List UInt8) (h0:fO c=false) (h1:aN c=false) (h2:c≠39):bE (c::r)=if bY (c::r)=0 then (Do,0,4) else (⟨4,(c::r).take (bY (c::r)),0⟩,bY (c::r),0):=by
 simp only [bE,h0,h1,h2,φ,if_false]
theorem kW {c:UInt8} {r:List UInt8} (h:(bE (c::r)).2.2=0):1≤(bE (c::r)).2.1∧(bE (c::r)).2.1≤r.length+1:=by
 cases h1:fO c
 ·cases h2:aN c
  ·by_cases h3:c=39
   ·subst h3
    rw [cY] at h ⊢
    exact Sy rfl h
   ·rw [fF r h1 h2 h3] at h ⊢
    by_cases g:bY (c::r)=0
    ·rw [if_pos g] at h;cases h
    ·rw [if_neg g]
     have:=mU (c::r)
     simp only [List.length_cons] at this
     exact ⟨by show 1≤bY _;omega,this⟩
  ·rw [gL r h1 h2]
   have h3:=fJ aN (c::r)
   simp only [List.takeWhile_cons,h2,if_true,List.length_cons] at h3 ⊢
   omega
 ·rw [fE r h1]
  have h2:=fJ bO (c::r)
  have h3:bO c=true:=by simp [bO,h1]
  simp only [List.takeWhile_cons,h3,if_true,List.length_cons] at h2 ⊢
  omega
theorem qJ:∀ (f g:Nat) (acc:List Tok) (l:List UInt8),l.length≤f→l.length≤g→rQ f acc l=rQ g acc l
 | f,g,acc,[],_,_=>by simp [rQ]
 | 0,g,acc,c::r,h,_=>by simp at h
 | f+1,0,acc,c::r,_,h=>by simp at h
 | f+1,g+1,acc,c::r,h1,h2=>by
   simp only [List.length_cons] at h1 h2
   unfold rQ
   split
   ·exact qJ f g acc r (by omega) (by omega)
   ·split
    ·rename_i hn
     have:=kW hn
     exact qJ f g _ _ (by rw [List.length_drop,List.length_cons];omega) (by rw [List.length_drop,List.length_cons];omega)
    ·rfl
def dF (acc:List Tok) (l:List UInt8):List Tok×Int:=rQ l.length acc l
theorem iZ (acc:List Tok):dF acc []=(acc,0):=by simp [dF,rQ]
theorem eE (acc:List Tok) {c:UInt8} (r:List UInt8) (h:dY c=true):dF acc (c::r)=dF acc r:=by
 unfold dF;simp [rQ,h]
theorem dE (acc:List Tok) {c:UInt8} {r:List UInt8} (h:dY c=false) (h0:(bE (c::r)).2.2=0):dF acc (c::r)=dF (acc++[(bE (c::r)).1]) ((c::r).drop (bE (c::r)).2.1):=by
 unfold dF
 rw [List.length_cons]
 conv=>lhs;unfold rQ
 simp only [h,φ,if_false,h0,if_true]
 have:=kW h0
 exact qJ _ _ _ _ (by rw [List.length_drop,List.length_cons];omega) (ν _)
theorem dM (acc:List Tok) {c:UInt8} {r:List UInt8} (h:dY c=false) (h0:(bE (c::r)).2.2≠0):dF acc (c::r)=([],(bE (c::r)).2.2):=by
 unfold dF
 rw [List.length_cons]
 unfold rQ
 simp [h,h0]
theorem jZ {l:List UInt8} (h:l.length≤2000):dT l=dF [] l:=by
 unfold dT spl dF;rw [if_neg (by omega)]
theorem qH {l:List UInt8} (h:2000<l.length):dT l=([],2):=by
 unfold dT;rw [if_pos h]
theorem mS:∀ (k:Nat) (acc:List Tok) (l:List UInt8),l.length≤k→(dF acc l).1.length≤acc.length+l.length
 | k,acc,[],_=>by rw [iZ];simp
 | 0,acc,c::r,h=>by simp at h
 | k+1,acc,c::r,h=>by
   simp only [List.length_cons] at h ⊢
   cases hb:dY c
   ·by_cases h0:(bE (c::r)).2.2=0
    ·rw [dE acc hb h0]
     have h1:=kW h0
     have:=mS k (acc++[(bE (c::r)).1]) ((c::r).drop (bE (c::r)).2.1) (by rw [List.length_drop,List.length_cons];omega)
     rw [List.length_drop,List.length_append,List.length_cons] at this
     simp at this;omega
    ·rw [dM acc hb h0];simp
   ·rw [eE acc r hb]
    have:=mS k acc r (by omega)
    omega
theorem lG:∀ (k:Nat) (acc:List Tok) (l:List UInt8),l.length≤k→dF acc l=if (dF [] l).2=0 then (acc++(dF [] l).1,0) else ([],(dF [] l).2)
 | k,acc,[],_=>by rw [iZ,iZ];simp
 | 0,acc,c::r,h=>by simp at h
 | k+1,acc,c::r,h=>by
   simp only [List.length_cons] at h
   cases hb:dY c
   ·by_cases h0:(bE (c::r)).2.2=0
    ·have h1:=kW h0
     have hl:((c::r).drop (bE (c::r)).2.1).length≤k:=by rw [List.length_drop,List.length_cons];omega
     rw [dE acc hb h0,dE [] hb h0,lG k _ _ hl]
     have:=lG k ([]++[(bE (c::r)).1]) _ hl
     rw [this]
     split
     ·simp
     ·rename_i g;simp
    ·rw [dM acc hb h0,dM [] hb h0];simp [h0]
   ·rw [eE acc r hb,eE [] r hb]
    exact lG k acc r (by omega)
inductive X where
 | lit (k i:Int) (s:List UInt8) (b:Bool):X
 | col (t s:List UInt8):X
 | un (op:List UInt8) (x:X):X
 | bin (op:List UInt8) (a b:X):X
 | isn (neg:Bool) (x:X):X
 | agg (op:List UInt8) (x:X):X
 | cnt:X
def X.size:X→Nat
 | .lit .. => 1
 | .col .. => 1
 | .un _ x=>x.size+1
 | .bin _ a b=>a.size+b.size+1
 | .isn _ x=>x.size+1
 | .agg _ x=>x.size+1
 | .cnt=>1
def wOr:List UInt8:=[111,114]
def Hn:List UInt8:=[97,110,100]
def mK:List UInt8:=[110,111,116]
def wIs:List UInt8:=[105,115]
def bS:List UInt8:=[110,117,108,108]
def dJ:List UInt8:=[116,114,117,101]
def cH:List UInt8:=[102,97,108,115,101]
def bF:List UInt8:=[99,111,117,110,116]
def fI:List UInt8:=[115,117,109]
def gM:List UInt8:=[109,105,110]
def iX:List UInt8:=[109,97,120]
def uOr:List UInt8:=[79,82]
def jN:List UInt8:=[65,78,68]
def fW:List UInt8:=[78,79,84]
def aU:List UInt8:=[67,79,85,78,84]
def dN:List UInt8:=[83,85,77]
def eY:List UInt8:=[77,73,78]
def eZ:List UInt8:=[77,65,88]
def isF (s:List UInt8):List Tok→Bool
 | []=>false
 | t::_=>t.s==s&&(t.k==4||t.k==1)
def Io:List (List UInt8):=[Hn,[97,115],[97,115,99],[98,101,103,105,110],[98,111,111,108],[98,121],[99,111,109,109,105,116],bF,[99,114,101,97,116,101],[100,101,108,101,116,101],[100,101,115,99],[100,114,111,112],cH,[102,114,111,109],[103,114,111,117,112],[105,110,100,101,120],[105,110,115,101,114,116],[105,110,116],[105,110,116,111],wIs,[106,111,105,110],[108,105,109,105,116],iX,gM,mK,bS,[111,110],wOr,[111,114,100,101,114],[114,111,108,108,98,97,99,107],[115,101,108,101,99,116],[115,101,116],fI,[116,97,98,108,101],[116,101,120,116],dJ,[117,112,100,97,116,101],[118,97,108,117,101,115],[119,104,101,114,101]]
def vR (w:List UInt8):Bool:=Io.contains w
def aZ:List Tok→Option (List UInt8×List Tok)
 | []=>none
 | t::r=>if t.k=1∧vR t.s=false∧t.s.length≤20 then some (t.s,r) else none
def bJ:Nat→List (List UInt8)
 | 1=>[wOr]
 | 2=>[Hn]
 | 4=>[[61],[60,62],[60],[60,61],[62],[62,61]]
 | 5=>[[43],[45]]
 | 6=>[[42],[47],[37]]
 | _=>[]
def cA (lev:Nat) (l:List Tok):Option (List UInt8):=(bJ lev).find? fun s=>isF s l
def upW (s:List UInt8):List UInt8:=if s=wOr then uOr else if s=Hn then jN else if s=bF then aU else if s=fI then dN else if s=gM then eY else if s=iX then eZ else s
def aE (s:List UInt8) (l:List Tok):Option (List Tok):=if isF s l then some l.tail else none
def kQ (l:List Tok):Option (X×List Tok) :=
 match aZ l with
 | none=>none
 | some (n,r)=>if isF [46] r then (match aZ r.tail with|none=>none|some (m,r2)=>some (.col n m,r2)) else some (.col [] n,r)
def eT (l:List Tok):Option (Bool×List Tok):=if isF mK l then (aE bS l.tail).map fun r=>(true,r) else (aE bS l).map fun r=>(false,r)
mutual
def px:Nat→Nat→Nat→List Tok→Option (X×List Tok)
 | 0,_,_,_=>none
 | f+1,lev,d,l =>
   if lev=3 then (if isF mK l then (if d+1≤40 then (px f 3 (d+1) l.tail).map fun p=>(.un fW p.1,p.2) else none) else px f 4 d l)
   else if lev=7 then (if isF [45] l then (if d+1≤40 then (px f 7 (d+1) l.tail).map fun p=>(.un [45] p.1,p.2) else none) else px f 8 d l)
   else if lev=8 then pa f d l
   else (match px f (lev+1) d l with
   | none=>none
   | some (x,r)=>pl f lev d x false r)
def pl:Nat→Nat→Nat→X→Bool→List Tok→Option (X×List Tok)
 | 0,_,_,_,_,_=>none
 | f+1,lev,d,x,done,l =>
   match (if done then none else cA lev l) with
   | some s=>(match px f (lev+1) d l.tail with
     | none=>none
     | some (y,r)=>pl f lev d (.bin (upW s) x y) (lev==4) r)
   | none=>if lev=4∧isF wIs l=true then (match eT l.tail with
    | none=>none
    | some (n,r)=>pl f lev d (.isn n x) done r) else some (x,l)
def pa:Nat→Nat→List Tok→Option (X×List Tok)
 | 0,_,_=>none
 | _,_,[]=>none
 | f+1,d,t::r =>
   if t.k=2 then some (.lit 1 t.n [] false,r)
   else if t.k=3 then some (.lit 2 0 t.s false,r)
   else if isF bS (t::r) then some (.lit 0 0 [] false,r)
   else if isF dJ (t::r) then some (.lit 3 0 [] true,r)
   else if isF cH (t::r) then some (.lit 3 0 [] false,r)
   else if isF [40] (t::r) then (if d+1≤40 then (match px f 1 (d+1) r with
    | none=>none
    | some (x,r2)=>(aE [41] r2).map fun r3=>(x,r3)) else none)
   else if isF bF (t::r)||isF fI (t::r)||isF gM (t::r)||isF iX (t::r) then (if d+1≤40 then (match aE [40] r with
    | none=>none
    | some r2=>if t.s=bF∧isF [42] r2=true then (aE [41] r2.tail).map fun r3=>(.cnt,r3) else (match px f 1 (d+1) r2 with
      | none=>none
      | some (x,r3)=>(aE [41] r3).map fun r4=>(.agg (upW t.s) x,r4))) else none)
   else kQ (t::r)
end
theorem nE {s:List UInt8} {l:List Tok} (h:isF s l=true):∃ t r,l=t::r:=by
 cases l with
 | nil=>cases h
 | cons t r=>exact ⟨t,r,rfl⟩
theorem bB {s:List UInt8} {l:List Tok} (h:isF s l=true):l.tail.length+1=l.length:=by
 obtain ⟨t,r,rfl⟩:=nE h
 rfl
theorem dH {s:List UInt8} {l r:List Tok} (h:aE s l=some r):r.length+1=l.length:=by
 unfold aE at h
 split at h
 ·rename_i h1;injection h with h;subst h;exact bB h1
 ·cases h
theorem wW {l r:List Tok} {n:List UInt8} (h:aZ l=some (n,r)):r.length+1=l.length:=by
 cases l with
 | nil=>cases h
 | cons t r' =>
   simp only [aZ] at h
   split at h
   ·simp only [Option.some.injEq,Prod.mk.injEq] at h
    rw [←h.2];rfl
   ·cases h
theorem Ct {l r:List Tok} {x:X} (h:kQ l=some (x,r)):r.length<l.length:=by
 unfold kQ at h
 split at h
 ·cases h
 ·rename_i n r1 h1
  have:=wW h1
  split at h
  ·rename_i h2
   have:=bB h2
   split at h
   ·cases h
   ·rename_i m r2 h3
    have:=wW h3
    simp only [Option.some.injEq,Prod.mk.injEq] at h
    rw [←h.2];omega
  ·simp only [Option.some.injEq,Prod.mk.injEq] at h
   rw [←h.2];omega
theorem nW {l r:List Tok} {b:Bool} (h:eT l=some (b,r)):r.length<l.length:=by
 unfold eT at h
 split at h
 ·rename_i h1
  obtain ⟨r1,h2,h3⟩:=Option.map_eq_some_iff.1 h
  have:=dH h2
  have:=bB h1
  simp only [Prod.mk.injEq] at h3
  rw [←h3.2];omega
 ·obtain ⟨r1,h2,h3⟩:=Option.map_eq_some_iff.1 h
  have:=dH h2
  simp only [Prod.mk.injEq] at h3
  rw [←h3.2];omega
theorem gE {lev:Nat} {l:List Tok} {s:List UInt8} (h:cA lev l=some s):l.tail.length+1=l.length:=bB (s:=s) (by have:=List.find?_some h;simpa using this)
mutual
theorem iF:∀ (f lev d:Nat) (l r:List Tok) (x:X),px f lev d l=some (x,r)→r.length<l.length
 | 0,_,_,_,_,_,h=>by simp [px] at h
 | f+1,lev,d,l,r,x,h=>by
   unfold px at h
   split at h
   ·split at h
    ·rename_i h1
     split at h
     ·obtain ⟨⟨y,r1⟩,h2,h3⟩:=Option.map_eq_some_iff.1 h
      have:=iF _ _ _ _ _ _ h2
      have:=bB h1
      simp only [Prod.mk.injEq] at h3
      rw [←h3.2];omega
     ·cases h
    ·exact iF _ _ _ _ _ _ h
   split at h
   ·split at h
    ·rename_i h1
     split at h
     ·obtain ⟨⟨y,r1⟩,h2,h3⟩:=Option.map_eq_some_iff.1 h
      have:=iF _ _ _ _ _ _ h2
      have:=bB h1
      simp only [Prod.mk.injEq] at h3
      rw [←h3.2];omega
     ·cases h
    ·exact iF _ _ _ _ _ _ h
   split at h
   ·exact Yk _ _ _ _ _ h
   ·split at h
    ·cases h
    ·rename_i h1
     have:=iF _ _ _ _ _ _ h1
     have:=Ep _ _ _ _ _ _ _ _ h
     omega
theorem Ep:∀ (f lev d:Nat) (x:X) (done:Bool) (l r:List Tok) (y:X),pl f lev d x done l=some (y,r)→r.length≤l.length
 | 0,_,_,_,_,_,_,_,h=>by simp [pl] at h
 | f+1,lev,d,x,done,l,r,y,h=>by
   unfold pl at h
   split at h
   ·rename_i s h1
    have h1':cA lev l=some s:=by
     split at h1
     ·cases h1
     ·exact h1
    have:=gE h1'
    split at h
    ·cases h
    ·rename_i h2
     have:=iF _ _ _ _ _ _ h2
     have:=Ep _ _ _ _ _ _ _ _ h
     omega
   ·split at h
    ·rename_i h1
     have:=bB h1.2
     split at h
     ·cases h
     ·rename_i h2
      have:=nW h2
      have:=Ep _ _ _ _ _ _ _ _ h
      omega
    ·simp only [Option.some.injEq,Prod.mk.injEq] at h
     rw [←h.2];omega
theorem Yk:∀ (f d:Nat) (l r:List Tok) (x:X),pa f d l=some (x,r)→r.length<l.length
 | 0,_,_,_,_,h=>by simp [pa] at h
 | f+1,d,[],_,_,h=>by simp [pa] at h
 | f+1,d,t::r0,r,x,h=>by
   unfold pa at h
   have fin:∀ {z:X},some (z,r0)=some (x,r)→r.length<(t::r0).length:=by
    intro z e
    simp only [Option.some.injEq,Prod.mk.injEq] at e
    rw [←e.2];simp
   split at h
   ·exact fin h
   split at h
   ·exact fin h
   split at h
   ·exact fin h
   split at h
   ·exact fin h
   split at h
   ·exact fin h
   split at h
   ·split at h
    ·split at h
     ·cases h
     ·rename_i h2
      have:=iF _ _ _ _ _ _ h2
      obtain ⟨r3,h4,h5⟩:=Option.map_eq_some_iff.1 h
      have:=dH h4
      simp only [Prod.mk.injEq] at h5
      rw [←h5.2];simp;omega
    ·cases h
   split at h
   ·split at h
    ·split at h
     ·cases h
     ·rename_i h2
      have:=dH h2
      split at h
      ·rename_i h3
       have:=bB h3.2
       obtain ⟨r3,h4,h5⟩:=Option.map_eq_some_iff.1 h
       have:=dH h4
       simp only [Prod.mk.injEq] at h5
       rw [←h5.2];simp;omega
      ·split at h
       ·cases h
       ·rename_i h3
        have:=iF _ _ _ _ _ _ h3
        obtain ⟨r3,h4,h5⟩:=Option.map_eq_some_iff.1 h
        have:=dH h4
        simp only [Prod.mk.injEq] at h5
        rw [←h5.2];simp;omega
    ·cases h
   exact Ct h
end
end Go.Proofs.YtkolcimllghnaaaGreatDoor.Lp

namespace Go.Proofs.YtkolcimllghnaaaGreatDoor
open Lp
open Go.RowKit
structure But (P:Nat) (w w':World):Prop where
 os:w'.os=w.os
 tape:w'.tape=w.tape
 output:w'.output=w.output
 size:w.heap.size≤w'.heap.size
 block:∀ k,k<w.heap.size→k≠P→w'.heap[k]? = w.heap[k]?
theorem But.refl (P:Nat) (w:World):But P w w:=⟨rfl,rfl,rfl,ν _,fun _ _ _=>rfl⟩
theorem But.trans {P:Nat} {a b c:World} (h:But P a b) (k:But P b c):But P a c :=
 ⟨k.os.trans h.os,k.tape.trans h.tape,k.output.trans h.output,Nat.le_trans h.size k.size,fun i hi hn=>(k.block i (Nat.lt_of_lt_of_le hi h.size) hn).trans (h.block i hi hn)⟩
theorem But.of {P:Nat} {w w':World} (h:Below w.heap.size w w'):But P w w':=⟨h.os,h.tape,h.output,h.size,fun k hk _=>h.block k hk⟩
theorem But.set (P o:Nat) (w:World) (v:Value):But P w (w.setCell ⟨P,o,none⟩ v) :=
 ⟨rfl,rfl,rfl,by simp [World.setCell],fun k _ hn=>Below.heap_setCell w ⟨P,o,none⟩ v k hn⟩
theorem But.alloc (P:Nat) (w:World) (o:Obj):But P w (w.alloc o):=But.of ((θ).alloc (ν _) o)
theorem But.drew {P:Nat} {a w:World} (h:But P a w):But P a w.drew:=⟨h.os,h.tape,h.output,h.size,h.block⟩
theorem But.below {P B:Nat} {w w':World} (h:But P w w') (hB:B≤P) (hP:P≤w.heap.size):Below B w w' :=
 ⟨h.os,h.tape,h.output,h.size,fun k hk=>h.block k (by omega) (by omega)⟩
theorem aO {P g:Nat} {w w':World} {o:Obj} (h:But P w w') (hg:w.heap[g]? = some o) (hn:g≠P):w'.heap[g]? = some o:=(h.block g (aL hg) hn).trans hg
theorem nJ {P:Nat} {w w':World} {a:Addr} {u:Value} (h:But P w w') (hc:w.cell? a=some u) (hn:a.block≠P):w'.cell? a=some u :=
 (World.cell?_of_block (w:=w) (h.block a.block (World.block_lt_of_cell? w a hc) hn)).trans hc
def TkP (w:World) (P:Nat) (A:Option Addr) (l:List Tok):Prop :=
 l=[]∨∃ b off,A=some ⟨b,off,none⟩∧b<P∧∀ j u,(tkv l)[j]? = some u→w.cell? ⟨b,off+j,none⟩=some u
theorem TkP.but {w w':World} {P:Nat} {A:Option Addr} {l:List Tok} (h:TkP w P A l) (hb:But P w w'):TkP w' P A l:=by
 rcases h with rfl|⟨b,off,hA,hlt,hc⟩
 ·exact .inl rfl
 ·exact .inr ⟨b,off,hA,hlt,fun j u hu=>nJ hb (hc j u hu) (Nat.ne_of_lt hlt)⟩
theorem TkP.front {w:World} {P:Nat} {A:Option Addr} {t:Tok} {r:List Tok} (h:TkP w P A (t::r)) :
 ∃ b off,A=some ⟨b,off,none⟩∧b<P∧w.cell? ⟨b,off,none⟩=some (.int .u8 t.k)∧w.cell? ⟨b,off+1,none⟩=some (.string ⟨t.s.toArray⟩)∧w.cell? ⟨b,off+2,none⟩=some (.int .i64 t.n):=by
 rcases h with h|⟨b,off,hA,hlt,hc⟩
 ·cases h
 ·exact ⟨b,off,hA,hlt,hc 0 _ rfl,hc 1 _ rfl,hc 2 _ rfl⟩
theorem TkP.tail {w:World} {P c:Nat} {t:Tok} {r:List Tok} {b off:Nat} (h:TkP w P (some ⟨b,off,none⟩) (t::r)) (_:r.length+1≤c) :
 TkP w P (some ⟨b,off+3,none⟩) r:=by
 rcases h with h|⟨b',off',hA,hlt,hc⟩
 ·cases h
 ·simp only [Option.some.injEq,Addr.mk.injEq,and_true] at hA
  obtain ⟨rfl,rfl⟩:=hA
  exact .inr ⟨b,off+3,rfl,hlt,fun j u hu=>by
   rw [Nat.add_assoc]
   exact hc (3+j) u (by rw [Nat.add_comm 3 j];exact hu)⟩
def PS (w:World) (P:Nat) (l:List Tok) (d:Nat):Prop :=
 ∃ A c,w.heap[P]? = some (.cells #[.slice A l.length c,.int .i64 d] 100 (0,0))∧l.length≤c∧TkP w P A l
theorem PS.below {w w':World} {P d:Nat} {l:List Tok} (h:PS w P l d) (hb:Below w.heap.size w w'):PS w' P l d:=by
 obtain ⟨A,c,h1,h2,h3⟩:=h
 exact ⟨A,c,aA h1 hb,h2,h3.but (But.of hb)⟩
theorem PS.lt {w:World} {P d:Nat} {l:List Tok} (h:PS w P l d):P<w.heap.size:=by
 obtain ⟨A,c,h1,_⟩:=h
 exact aL h1
def rN (t:Tok):Prop:=1≤t.k∧t.k≤4∧(t.k=1→∃ c r,t.s=c::r∧fO c=true)∧(t.k=4→∃ c r,t.s=c::r∧fO c=false)∧t.s.length≤2000
def Lsane (l:List Tok):Prop:=l.length≤2000∧∀ t∈l,rN t
theorem Lsane.tail {t:Tok} {r:List Tok} (h:Lsane (t::r)):Lsane r:=⟨by have:=h.1;simp at this;omega,fun u hu=>h.2 u (List.mem_cons_of_mem _ hu)⟩
theorem Lsane.tl {l:List Tok} (h:Lsane l):Lsane l.tail:=by
 cases l with
 | nil=>exact h
 | cons t r=>exact h.tail
