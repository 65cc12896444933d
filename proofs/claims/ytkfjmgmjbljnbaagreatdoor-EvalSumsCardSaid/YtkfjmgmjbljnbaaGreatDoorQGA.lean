/-
 Contracts and laws, joined: Mem, Plain1, PlainRd, Val, PlainValid, PlainLex, PlainParse, Ps. Conditions: those of each.
-/
import Derived.Test.YtkfjmgmjbljnbaaGreatDoorRows
import Derived.WalkKit
import Derived.WalkSpells
import Derived.WalkLawsBesides
import Derived.Lib.Hide
import Derived.Lib.AppendStr
import Derived.Maps.AppendAt
import Derived.Deep.AppendLies
import Derived.Deep.Onto
import Derived.Laws.BytesArg
import Derived.RowKit
import Derived.IntWalk
import Derived.Laws.RangeAny
import Derived.Below
import Derived.Lib.ValidU
import Derived.Lib.ValidLaws
import Derived.Lib.TrimUEq
import Derived.KernelRfl
set_option maxRecDepth 100000
set_option maxHeartbeats 8000000
namespace Go.Proofs.YtkfjmgmjbljnbaaGreatDoor
open Go.RowKit
theorem κ{p:Prop}(h:p):RowKit.Hid p:=h
theorem ι{a b:Prop}(x:a)(y:b):a∧b:=⟨x,y⟩
def Rds (w:World) (A:Option Addr) (xs:List Value):Prop :=
 xs=[]∨∃ b off,A=some ⟨b,off,none⟩∧∀ j u,xs[j]? = some u→w.cell? ⟨b,off+j,none⟩=some u
section
variable {w w':World} {A:Option Addr} {xs:List Value}
theorem Rds.nil_:Rds w A []:=.inl rfl
theorem Rds.at_ (h:Rds w A xs) {k:Nat} {u:Value} (hk:xs[k]? = some u):∃ b off,A=some ⟨b,off,none⟩∧w.cell? ⟨b,off+k,none⟩=some u:=by
 rcases h with rfl|⟨b,off,hA,hc⟩
 ·simp at hk
 ·exact ⟨b,off,hA,hc k u hk⟩
theorem Rds.below (h:Rds w A xs) (hb:Below w.heap.size w w'):Rds w' A xs:=by
 rcases h with rfl|⟨b,off,hA,hc⟩
 ·exact .inl rfl
 ·exact .inr ⟨b,off,hA,fun j u hu=>(hb.cell (p:=⟨b,off+j,none⟩) (World.block_lt_of_cell? w _ (hc j u hu))).trans (hc j u hu)⟩
theorem Rds.take (h:Rds w A xs) (k:Nat):Rds w A (xs.take k):=by
 rcases h with rfl|⟨b,off,hA,hc⟩
 ·exact .inl (by simp)
 ·refine .inr ⟨b,off,hA,fun j u hu=>hc j u ?_⟩
  rw [List.getElem?_take] at hu
  split at hu
  ·exact hu
  ·cases hu
theorem Rds.drop (h:Rds w A xs) (k:Nat) {cap:Nat} (hc:xs.length≤cap):Rds w (if cap=k then A else A.map (·.add (k*1))) (xs.drop k):=by
 rcases h with rfl|⟨b,off,rfl,hc2⟩
 ·exact .inl (by simp)
 ·by_cases hk:cap=k
  ·exact .inl (List.drop_eq_nil_of_le (by omega))
  ·rw [if_neg hk]
   refine .inr ⟨b,off+k, ?_,fun j u hu => ?_⟩
   ·simp only [Option.map_some,Option.some.injEq,Addr.add,Nat.mul_one]
    by_cases h0:k=0<;>simp [h0]
   ·rw [List.getElem?_drop] at hu
    rw [Nat.add_assoc]
    exact hc2 _ u hu
theorem rds_new (w:World) (xs:List Value) (t:TypeId):Rds (w.alloc (.cells xs.toArray t)) (some ⟨w.heap.size,0,none⟩) xs:=by
 refine .inr ⟨_,0,rfl,fun j u hu => ?_⟩
 rw [cell_of_row (w.alloc (.cells xs.toArray t)) w.heap.size (0+j) xs.toArray t (0,0) (heap_alloc_new w _)]
 simpa using hu
theorem rds_drew (h:Rds w A xs):Rds w.drew A xs:=h
theorem own_form {B n size:Nat} {e:TypeId} {v:Value} (h:w.ownsRow B e size v n xs):∃ A c,v=.slice A n c∧n≤c:=by
 rcases h.2 with ⟨rfl,rfl⟩|⟨g,cap,cur,rfl,_,_,h1,_⟩
 ·exact ⟨none,0,rfl,Nat.le_refl _⟩
 ·exact ⟨_,cap,rfl,h1⟩
theorem Rds.own {B n c size:Nat} {e:TypeId} (h:w.ownsRow B e size (.slice A n c) n xs):Rds w A xs:=by
 rcases Nat.eq_zero_or_pos n with h0|h0
 ·left;exact List.eq_nil_of_length_eq_zero (by rw [h.1,h0,Nat.zero_mul])
 ·obtain ⟨g,cap,hv,hg,_⟩:=h.form h0
  injection hv with hA _ _
  subst hA
  refine .inr ⟨g,0,rfl,fun j u hu => ?_⟩
  have:=h.cells (g:=g) rfl j u hu
  have e:(⟨g,0,none⟩:Addr).add j=⟨g,0+j,none⟩:=by unfold Addr.add;split<;>simp_all
  rw [e] at this
  exact this
end
theorem own_ne {w:World} {B n size g:Nat} {e t:TypeId} {v:Value} {xs:List Value} {cs:Array Value} (h:w.ownsRow B e size v n xs) (hg:w.heap[g]? = some (.cells cs t (0,0))) (hne:e≠t):some g≠v.ownBlock:=by
 rcases h.2 with ⟨rfl,_⟩|⟨g',cap,cur,rfl,_,hh,_⟩
 ·simp [Value.ownBlock]
 ·intro he
  have:g=g':=by simpa [Value.ownBlock] using he
  subst this
  rw [hh] at hg
  injection hg with hg
  injection hg with _ ht
  exact hne ht
theorem heap_lt {w:World} {g:Nat} {o:Obj} (h:w.heap[g]? = some o):g<w.heap.size:=(Array.getElem?_eq_some_iff.1 h).1
theorem box_far {w w2:World} {B n size g:Nat} {e t:TypeId} {v:Value} {xs:List Value} {cs:Array Value} (h:w.ownsRow B e size v n xs) (hg:w.heap[g]? = some (.cells cs t (0,0))) (hne:e≠t) (hb:w.grownBy w2 v.ownBlock) :
 w2.heap[g]? = some (.cells cs t (0,0)):=(hb.block g (heap_lt hg) (own_ne h hg hne)).trans hg
theorem box_alloc {w:World} {g:Nat} {o:Obj} (h:w.heap[g]? = some o) (o2:Obj):(w.alloc o2).heap[g]? = some o:=(Below.heap_alloc w o2 g (heap_lt h)).trans h
theorem box_below {w w2:World} {g:Nat} {o:Obj} (h:w.heap[g]? = some o) (hb:Below w.heap.size w w2):w2.heap[g]? = some o:=(hb.block g (heap_lt h)).trans h
theorem box_drew {w:World} {g:Nat} {o:Obj} (h:w.heap[g]? = some o):w.drew.heap[g]? = some o:=h
theorem heap_new2 (w:World) (a b:Obj):((w.alloc a).alloc b).heap[w.heap.size+1]? = some b:=by
 have h:=heap_alloc_new (w.alloc a) b
 rw [World.size_alloc] at h
 exact h
theorem box_cells {w:World} {g:Nat} {t:TypeId} {cs:Array Value} (h:w.heap[g]? = some (.cells cs t (0,0))):∀ j,w.cell? ⟨g,j,none⟩=cs[j]? := fun j=>cell_of_row w g j cs t (0,0) h
theorem β{w:World}{g:Nat}{t:TypeId}{cs:Array Value}(h:w.heap[g]? = some (.cells cs t (0,0))):∀ j,w.cell? ⟨g,j,none⟩ = cs[j]? := box_cells h
def Keeps (w w':World) (r r':Option Nat):Prop:=∀ g o,w.heap[g]? = some o→some g≠r→w'.heap[g]? = some o∧some g≠r'
theorem keeps_of {w w':World} {r r':Option Nat} (hg:w.grownBy w' r) (hat:r'=r∨r'=some w.heap.size):Keeps w w' r r':=by
 intro g o ho hne
 have hlt:=heap_lt ho
 refine ⟨(hg.block g hlt hne).trans ho, ?_⟩
 rcases hat with h|h
 ·rw [h];exact hne
 ·rw [h];intro e;injection e with e;omega
theorem rds_blk {w:World} {g:Nat} {t:TypeId} {fr:Nat×Nat} (cs:List Value) (h:w.heap[g]? = some (.cells cs.toArray t fr)):Rds w (some ⟨g,0,none⟩) cs:=by
 refine .inr ⟨_,0,rfl,fun j u hu => ?_⟩
 rw [cell_of_row w g (0+j) cs.toArray t fr h]
 simpa using hu
theorem own_old {w:World} {B n size g:Nat} {e:TypeId} {v:Value} {xs:List Value} (h:w.ownsRow B e size v n xs) (hg:w.heap.size≤g):some g≠v.ownBlock:=by
 intro e
 have:=(h.lt g e.symm).2
 omega
section
variable {P:Program} (w:World)
theorem run_app_nil (base:Nat) (t ty e:TypeId) (i:TypeInfo) (size:Nat) (ht:P.underlying t=some (.slice e)) (hi:P.info? e=some i)
 (v:Value) (n:Nat) (xs:List Value) (hown:w.ownsRow base e size v n xs) (c:Nat):(Builtin.append_ #[t,t] ty #[v,.slice none 0 c]).run P w=.ok v w:=by
 rcases hown.2 with ⟨rfl,rfl⟩|⟨g,cap,cur,rfl,_,_,hnc,_⟩
 ·simp [Builtin.append_,run_underlying ht,sizeOf,typeInfo,hi,Builtin.lenOf,Builtin.firstCells]
 ·simp [Builtin.append_,run_underlying ht,sizeOf,typeInfo,hi,Builtin.lenOf,Builtin.firstCells,hnc,storeCells]
theorem wp_app {o:Oper} {a:Act} {K:Act→World→Prop} {Q:Exit→Act→World→Prop} (s x:Operand) (t:TypeId)
 (ho:o.op=.call { callee:=.builtin .append,args:=#[s,x],argTypes:=#[t,t] })
 (base:Nat) (e:TypeId) (i:TypeInfo) (z:Value) (size bytes:Nat) (ht:P.underlying t=some (.slice e)) (hi:P.info? e=some i) (hz:i.zero=some z)
 (hsize:i.size=size) (hby:i.bytes=bytes) (hzs:z.cells.size=size) (hsz:0<size)
 (A0:Option Addr) (n c0:Nat) (xs:List Value) (hs:a.eval s=.slice A0 n c0) (hown:w.ownsRow base e size (.slice A0 n c0) n xs)
 (A:Option Addr) (m c:Nat) (news:List Value) (hx:a.eval x=.slice A m c) (hl:news.length=m*size) (hr:Rds w A news) (h1:∀ u∈news,u.oneCell'=true)
 (h63:n+m≤maxLen) (hbytes:(n+m)*bytes≤140737488355328) (hbase:base≤w.heap.size)
 (h:∀ A' c' w',w'.ownsRow base e size (.slice A' (n+m) c') (n+m) (xs++news)→Below base w w'→w.grownBy w' (Value.ownBlock (.slice A0 n c0))→Keeps w w' (Value.ownBlock (.slice A0 n c0)) (Value.ownBlock (.slice A' (n+m) c'))→K (a.put o.dst (.slice A' (n+m) c')) w'):o.wp P a w K Q:=by
 have fin:∀ v' w',(Builtin.append_ #[t,t] o.type #[.slice A0 n c0,.slice A m c]).run P w=.ok v' w'→w'.ownsRow base e size v' (n+m) (xs++news)→w.grownBy w' (Value.ownBlock (.slice A0 n c0))→(v'.ownBlock=Value.ownBlock (.slice A0 n c0)∨v'.ownBlock=some w.heap.size)→o.wp P a w K Q:=by
  intro v' w' hrun h2 h3 hat
  obtain ⟨A',c',rfl,_⟩:=own_form h2
  unfold Oper.wp execOp
  simp only [ho,resolve,invoke,builtin,Sem.run_bind,Sem.run_pure,Result.andThen_ok,List.map_toArray,List.map_cons,List.map_nil,hs,hx,hrun]
  exact h A' c' w' h2 ((Below.refl base w).grown h3 hbase fun k hk=>(hown.lt k hk).1) h3 (keeps_of h3 hat)
 rcases A with _|ad
 ·have hn:news=[]:=by
   rcases hr with h0|⟨b,off,h0,_⟩
   ·exact h0
   ·cases h0
  subst hn
  have hm:m=0:=by
   simp only [List.length_nil] at hl
   rcases Nat.mul_eq_zero.1 hl.symm with h0|h0
   ·exact h0
   ·omega
  subst hm
  exact fin _ w (run_app_nil w base t o.type e i size ht hi _ n xs hown c) (by simpa using hown) (World.grownBy.refl w _) (.inl rfl)
 ·have hcells:∀ j u,news[j]? = some u→w.cell? (ad.add j)=some u:=by
   intro j u hu
   obtain ⟨b,off,hA,hc⟩:=hr.at_ hu
   injection hA with hA
   subst hA
   have e:(⟨b,off,none⟩:Addr).add j=⟨b,off+j,none⟩:=by unfold Addr.add;split<;>simp_all
   rw [e];exact hc
  obtain ⟨v',w',hrun,h2,h3,_,h5⟩:=run_append_own_at (P:=P) w base t o.type e i z size bytes ht hi hz hsize hby hzs hsz _ n xs hown ad m c news hl hcells h1 h63 hbytes hbase
  exact fin v' w' hrun h2 h3 h5
theorem wpList_app {ops:Array Oper} {rest:List Oper} {o:Oper} {a:Act} {Q:Exit→Act→World→Prop} (hgd:o.guard=none) (s x:Operand) (t:TypeId)
 (ho:o.op=.call { callee:=.builtin .append,args:=#[s,x],argTypes:=#[t,t] })
 (base:Nat) (e:TypeId) (i:TypeInfo) (z:Value) (size bytes:Nat) (ht:P.underlying t=some (.slice e)) (hi:P.info? e=some i) (hz:i.zero=some z)
 (hsize:i.size=size) (hby:i.bytes=bytes) (hzs:z.cells.size=size) (hsz:0<size)
 (A0:Option Addr) (n c0:Nat) (xs:List Value) (hs:a.eval s=.slice A0 n c0) (hown:w.ownsRow base e size (.slice A0 n c0) n xs)
 (A:Option Addr) (m c:Nat) (news:List Value) (hx:a.eval x=.slice A m c) (hl:news.length=m*size) (hr:Rds w A news) (h1:∀ u∈news,u.oneCell'=true)
 (h63:n+m≤maxLen) (hbytes:(n+m)*bytes≤140737488355328) (hbase:base≤w.heap.size)
 (h:∀ A' c' w',w'.ownsRow base e size (.slice A' (n+m) c') (n+m) (xs++news)→Below base w w'→w.grownBy w' (Value.ownBlock (.slice A0 n c0))→Keeps w w' (Value.ownBlock (.slice A0 n c0)) (Value.ownBlock (.slice A' (n+m) c'))→wpList P ops Q rest (a.put o.dst (.slice A' (n+m) c')) w'):wpList P ops Q (o::rest) a w :=
 wpList_plain hgd fun _ hK=>wp_app w s x t ho base e i z size bytes ht hi hz hsize hby hzs hsz A0 n c0 xs hs hown A m c news hx hl hr h1 h63 hbytes hbase fun A' c' w' h2 h3 h4 h5=>hK _ _ (h A' c' w' h2 h3 h4 h5)
theorem step_app {ops:Array Oper} {o:Oper} {a:Act} {K:Act→World→Prop} {Q:Exit→Act→World→Prop} {E:Prop} (hgd:o.guard=none) (s x:Operand) (t:TypeId)
 (ho:o.op=.call { callee:=.builtin .append,args:=#[s,x],argTypes:=#[t,t] })
 (base:Nat) (e:TypeId) (i:TypeInfo) (z:Value) (size bytes:Nat) (ht:P.underlying t=some (.slice e)) (hi:P.info? e=some i) (hz:i.zero=some z)
 (hsize:i.size=size) (hby:i.bytes=bytes) (hzs:z.cells.size=size) (hsz:0<size)
 (A0:Option Addr) (n c0:Nat) (xs:List Value) (hs:a.eval s=.slice A0 n c0) (hown:w.ownsRow base e size (.slice A0 n c0) n xs)
 (A:Option Addr) (m c:Nat) (news:List Value) (hx:a.eval x=.slice A m c) (hl:news.length=m*size) (hr:Rds w A news) (h1:∀ u∈news,u.oneCell'=true)
 (h63:n+m≤maxLen) (hbytes:(n+m)*bytes≤140737488355328) (hbase:base≤w.heap.size)
 (h:∀ A' c' w',w'.ownsRow base e size (.slice A' (n+m) c') (n+m) (xs++news)→Below base w w'→w.grownBy w' (Value.ownBlock (.slice A0 n c0))→Keeps w w' (Value.ownBlock (.slice A0 n c0)) (Value.ownBlock (.slice A' (n+m) c'))→K (a.put o.dst (.slice A' (n+m) c')) w') :
 if Region.wanted o (yielded ops a.tmps)=true then Oper.wp P o a w K Q else E:=by
 have hw:Region.wanted o (yielded ops a.tmps)=true:=by simp [Region.wanted,hgd]
 rw [if_pos hw]
 exact wp_app w s x t ho base e i z size bytes ht hi hz hsize hby hzs hsz A0 n c0 xs hs hown A m c news hx hl hr h1 h63 hbytes hbase h
end
def bv (l:List UInt8):List Value:=l.map fun c=>.int .u8 c.toNat
theorem bv_append (l k:List UInt8):bv (l++k)=bv l++bv k:=by simp [bv]
theorem bv_at {l:List UInt8} {k:Nat} (h:k<l.length):(bv l)[k]? = some (.int .u8 l[k].toNat):=by
 simp [bv,List.getElem?_eq_getElem h]
def OwnB (w:World) (B:Nat) (A:Option Addr) (c:Nat) (l:List UInt8):Prop:=w.ownsRow B 5 1 (.slice A l.length c) l.length (bv l)
theorem OwnB.rds {w:World} {B c:Nat} {A:Option Addr} {l:List UInt8} (h:OwnB w B A c l):Rds w A (bv l):=Rds.own h
theorem byteInfo:(Tryz.prog.info? 5).map (fun i=>(i.zero,i.size,i.bytes))=some (some (.int .u8 0),1,1):=by kernel_rfl
theorem conv_rds {w:World} {A:Option Addr} {l:List UInt8} (n c:Nat) (hn:n=l.length) (h:Rds w A (bv l)) :
 (convert 272 9 (.slice A n c)).run Tryz.prog w=.ok (.string ⟨l.toArray⟩) w:=by
 subst hn
 rcases h with h|⟨b,off,rfl,hc⟩
 ·have hl:l=[]:=by simpa [bv] using h
  subst hl
  simp only [List.length_nil]
  rcases A with _|a
  ·exact run_convert_bytes_nil w 272 5 Tryz.underlying272 Tryz.underlying5 0 c 9 Tryz.underlying9
  ·rw [run_convert_bytes_string w 272 9 5 _ 0 c Tryz.underlying272 Tryz.underlying5 Tryz.underlying9,
    run_bytesToString w a 0 c [] (by have:=run_loadCells_list (P:=Tryz.prog) w a [] (fun j v hj=>by simp at hj);simpa using this)]
   rfl
 ·have:=run_convert_bytes_arg (P:=Tryz.prog) w 272 5 Tryz.underlying272 Tryz.underlying5 b off l.length c (l.map fun x=>(x.toNat:Int)) (by simp)
   (fun i hi=>by rw [hc i _ (bv_at hi)];simp [List.getD,List.getElem?_eq_getElem hi]) 9 Tryz.underlying9
  rw [this]
  simp [strOfNums,Function.comp_def]
end Go.Proofs.YtkfjmgmjbljnbaaGreatDoor
namespace Go.Proofs.YtkfjmgmjbljnbaaGreatDoor.Lp
open Go.RowKit
def inR (x:Int):Prop := -9223372036854775808≤x∧x≤9223372036854775807
instance (x:Int):Decidable (inR x):=by unfold inR;exact inferInstance
theorem beqd (a b:Int):(a==b)=decide (a=b):=by rw [Bool.eq_iff_iff];simp
def val (x:Int):Int:=if inR x then x else 0
def err (x:Int):Int:=if inR x then 0 else 9
def tv (ok:Bool) (n:Int):Int:=if ok then n else 0
def te (ok:Bool):Int:=if ok then 0 else 9
theorem tv_of {ok:Bool} {n x:Int} (h:ok=decide (inR x)) (h2:inR x→n=x):tv ok n=val x:=by
 subst h;unfold tv val;by_cases h3:inR x<;>simp [h3];exact h2 h3
theorem te_of {ok:Bool} {x:Int} (h:ok=decide (inR x)):te ok=err x:=by
 subst h;unfold te err;by_cases h3:inR x<;>simp [h3]
theorem wrap_in {x:Int} (h:inR x):wrap64 x=x:=IntWalk.wrap64_in x h
theorem inR_wrap (x:Int):inR (wrap64 x):=by unfold inR wrap64;omega
theorem wrap_mod (x:Int):∃ k:Int,wrap64 x=x+18446744073709551616*k:=by
 refine ⟨-((x+9223372036854775808) / 18446744073709551616), ?_⟩;unfold wrap64;omega
theorem add_ok' (a b:Int) (ha:inR a) (hb:inR b):(a<wrap64 (a+b)↔0<b)↔inR (a+b):=by
 unfold inR wrap64 at *;omega
theorem add_ok (a b:Int) (ha:inR a) (hb:inR b):(decide (a<wrap64 (a+b))==decide (0<b))=decide (inR (a+b)):=by
 rw [Bool.eq_iff_iff,beq_iff_eq,decide_eq_decide,decide_eq_true_iff];exact add_ok' a b ha hb
theorem sub_ok' (a b:Int) (ha:inR a) (hb:inR b):(wrap64 (a-b)<a↔0<b)↔inR (a-b):=by
 unfold inR wrap64 at *;omega
theorem sub_ok (a b:Int) (ha:inR a) (hb:inR b):(decide (wrap64 (a-b)<a)==decide (0<b))=decide (inR (a-b)):=by
 rw [Bool.eq_iff_iff,beq_iff_eq,decide_eq_decide,decide_eq_true_iff];exact sub_ok' a b ha hb
def zerE (b:Int):Int:=if b=0 then 10 else 0
theorem zerE_no {b:Int} (h:b≠0):zerE b=0:=if_neg h
def modV (a b:Int):Int:=if b=0 then 0 else a.tmod b
theorem modV_neg (a:Int):modV a (-1)=0:=by simp [modV]
theorem modV_no {a b:Int} (h:b≠0):modV a b=a.tmod b:=if_neg h
def divE (a b:Int):Int:=if b=0 then 10 else err (a.tdiv b)
def divV (a b:Int):Int:=if b=0 then 0 else val (a.tdiv b)
def mag (n:Int):Int:=if n<0 then -n else n
theorem mag_nonneg (n:Int):0≤mag n:=by unfold mag;split<;>omega
theorem mag_le {n:Int} (h:inR n):mag n≤9223372036854775808:=by unfold mag inR at *;split<;>omega
theorem tdiv_rem (n b:Int) (hb:b≠0):∃ r:Int,n=n.tdiv b*b+r ∧ -(mag b)<r∧r<mag b:=by
 refine ⟨n.tmod b, ?_, ?_, ?_⟩
 ·have:=Int.mul_tdiv_add_tmod n b;rw [Int.mul_comm] at this;exact this.symm
 ·have h:=Int.tmod_lt_of_pos n (b:=mag b) (by unfold mag;split<;>omega)
  have h2:=Int.tmod_lt_of_pos (-n) (b:=mag b) (by unfold mag;split<;>omega)
  have e : n.tmod b = n.tmod (mag b) := by unfold mag;split; · rw [Int.tmod_neg]
                                           ·rfl
  rw [Int.neg_tmod] at h2;rw [e];omega
 ·have h:=Int.tmod_lt_of_pos n (b:=mag b) (by unfold mag;split<;>omega)
  have e : n.tmod b = n.tmod (mag b) := by unfold mag;split; · rw [Int.tmod_neg]
                                           ·rfl
  rw [e];exact h
theorem tdiv_inR {n b:Int} (hn:inR n) (h:¬(n = -9223372036854775808∧b = -1)):inR (n.tdiv b):=by
 by_cases hb0:b=0
 ·subst hb0;simp [inR]
 ·have hm:(n.tdiv b).natAbs=n.natAbs / b.natAbs:=Int.natAbs_tdiv n b
  by_cases hb1:b.natAbs=1
  ·have:b=1∨b = -1:=by omega
   rcases this with rfl|rfl
   ·simpa using hn
   ·have:n.tdiv (-1) = -n:=by rw [Int.tdiv_neg];simp
    rw [this];unfold inR at *;omega
  ·have:n.natAbs / b.natAbs≤n.natAbs / 2:=Nat.div_le_div_left (by omega) (by omega)
   unfold inR at *;omega
theorem mul_ok' (a b:Int) (ha:inR a) (hb:inR b) (hb0:b≠0) (h1:¬(a = -1∧b = -9223372036854775808)) (h2:¬(b = -1∧a = -9223372036854775808)) :
 wrap64 ((wrap64 (a*b)).tdiv b)=a↔inR (a*b):=by
 constructor
 ·intro h
  by_cases hx:wrap64 (a*b) = -9223372036854775808∧b = -1
  ·obtain ⟨hx1,rfl⟩:=hx
   rw [hx1] at h
   have:(-9223372036854775808:Int).tdiv (-1)=9223372036854775808:=by decide
   rw [this] at h
   have:wrap64 9223372036854775808 = -9223372036854775808:=by unfold wrap64;decide
   rw [this] at h
   exact absurd ⟨rfl,h.symm⟩ h2
  ·rw [wrap_in (tdiv_inR (inR_wrap _) hx)] at h
   obtain ⟨r,hr,hr1,hr2⟩:=tdiv_rem (wrap64 (a*b)) b hb0
   rw [h] at hr
   obtain ⟨k,hk⟩:=wrap_mod (a*b)
   have hm:=mag_le hb
   have hw:=inR_wrap (a*b)
   have:k=0:=by omega
   rw [this] at hk
   have e:wrap64 (a*b)=a*b:=by omega
   rw [←e];exact hw
 ·intro h
  rw [wrap_in h,Int.mul_tdiv_cancel _ hb0]
  exact wrap_in ha
theorem mul_out1 {a b:Int} (h:a = -1∧b = -9223372036854775808):¬inR (a*b):=by obtain ⟨rfl,rfl⟩:=h;decide
theorem mul_out2 {a b:Int} (h:b = -1∧a = -9223372036854775808):¬inR (a*b):=by obtain ⟨rfl,rfl⟩:=h;decide
theorem mul_ok (a b:Int) (ha:inR a) (hb:inR b) (hb0:b≠0) :
 (wrap64 ((wrap64 (a*b)).tdiv b)==a && !(a == -1&&b == -9223372036854775808) && !(b == -1&&a == -9223372036854775808))=decide (inR (a*b)):=by
 by_cases h1:a = -1∧b = -9223372036854775808
 ·rw [decide_eq_false (mul_out1 h1)];obtain ⟨rfl,rfl⟩:=h1;simp
 ·by_cases h2:b = -1∧a = -9223372036854775808
  ·rw [decide_eq_false (mul_out2 h2)];obtain ⟨rfl,rfl⟩:=h2;simp
  ·have h:=mul_ok' a b ha hb hb0 h1 h2
   have e1:(a == -1&&b == -9223372036854775808)=false:=by rw [Bool.eq_false_iff];simpa using h1
   have e2:(b == -1&&a == -9223372036854775808)=false:=by rw [Bool.eq_false_iff];simpa using h2
   rw [e1,e2,Bool.eq_iff_iff,decide_eq_true_iff, ←h];simp
theorem tdiv_out {a b:Int} (h:a = -9223372036854775808∧b = -1):¬inR (a.tdiv b):=by obtain ⟨rfl,rfl⟩:=h;decide
theorem div_ok (a b:Int) (ha:inR a):(a != -9223372036854775808||b != -1)=decide (inR (a.tdiv b)):=by
 by_cases h1:a = -9223372036854775808∧b = -1
 ·rw [decide_eq_false (tdiv_out h1)];obtain ⟨rfl,rfl⟩:=h1;simp
 ·rw [decide_eq_true (tdiv_inR ha h1),Bool.or_eq_true,bne_iff_ne,bne_iff_ne];omega
theorem divV_zero (a:Int):divV a 0=0:=if_pos rfl
theorem divE_zero (a:Int):divE a 0=10:=if_pos rfl
theorem divV_no {a b:Int} (h:b≠0):divV a b=val (a.tdiv b):=if_neg h
theorem divE_no {a b:Int} (h:b≠0):divE a b=err (a.tdiv b):=if_neg h
def signed (s:Int) (below:Bool):Int:=if below then -s else s
def sgOk (s:Int) (below:Bool):Bool:=decide (inR (signed s below))
def sgV (s:Int) (below:Bool):Int:=val (signed s below)
theorem mag_neg {n:Int} (h:n<0):mag n = -(n+1)+1:=by unfold mag;rw [if_pos h];omega
theorem mag_pos {n:Int} (h:¬n<0):mag n=n:=if_neg h
theorem val_in {x:Int} (h:inR x):val x=x:=if_pos h
theorem val_out {x:Int} (h:¬inR x):val x=0:=if_neg h
theorem err_in {x:Int} (h:inR x):err x=0:=if_pos h
theorem err_out {x:Int} (h:¬inR x):err x=9:=if_neg h
theorem sgOk_ff {s:Int} (h:9223372036854775808≤s):sgOk s false=false:=decide_eq_false (show ¬inR s by unfold inR;omega)
theorem sgV_ff {s:Int} (h:9223372036854775808≤s):sgV s false=0:=val_out (show ¬inR s by unfold inR;omega)
theorem sgOk_ft {s:Int} (h0:0≤s) (h:¬9223372036854775808≤s):sgOk s false=true:=decide_eq_true (show inR s by unfold inR;omega)
theorem sgV_ft {s:Int} (h0:0≤s) (h:¬9223372036854775808≤s):sgV s false=s:=val_in (show inR s by unfold inR;omega)
theorem sgOk_tf {s:Int} (h:9223372036854775808<s):sgOk s true=false:=decide_eq_false (show ¬inR (-s) by unfold inR;omega)
theorem sgV_tf {s:Int} (h:9223372036854775808<s):sgV s true=0:=val_out (show ¬inR (-s) by unfold inR;omega)
theorem sgOk_tt {s:Int} (h0:0≤s) (h:¬9223372036854775808<s):sgOk s true=true:=decide_eq_true (show inR (-s) by unfold inR;omega)
theorem sgV_tt {s:Int} (h0:0≤s) (h:¬9223372036854775808<s):sgV s true = -s:=val_in (show inR (-s) by unfold inR;omega)
def low (x:Int):Int:=x % 18446744073709551616
def high (x:Int):Int:=x / 18446744073709551616
theorem low_bd (x:Int):0≤low x∧low x<18446744073709551616:=by unfold low;omega
theorem tv_sg (s:Int) (below:Bool):tv (sgOk s below) (sgV s below)=val (signed s below):=by
 unfold tv sgOk sgV val;by_cases h:inR (signed s below)<;>simp [h]
theorem te_sg (s:Int) (below:Bool):te (sgOk s below)=err (signed s below):=by
 unfold te sgOk err;by_cases h:inR (signed s below)<;>simp [h]
theorem rok (s:Int) (h0:0≤s) (below:Bool):(sgOk (low s) below&&(high s==0))=decide (inR (signed s below)):=by
 rw [Bool.eq_iff_iff];simp only [sgOk,Bool.and_eq_true,decide_eq_true_iff,beq_iff_eq]
 unfold inR signed low high;cases below<;>simp<;>omega
theorem rval (s:Int) (h0:0≤s) (below:Bool) (h:inR (signed s below)):sgV (low s) below=signed s below:=by
 have e:low s=s:=by unfold low inR signed at *;cases below<;>simp at h<;>omega
 unfold sgV;rw [e];unfold val;rw [if_pos h]
theorem add_signed {a b:Int} (h:(decide (a<0)==decide (b<0))=true):signed (mag a+mag b) (decide (a<0))=a+b:=by
 simp only [beq_iff_eq,decide_eq_decide] at h
 unfold signed mag;by_cases ha:a<0
 ·have hb:b<0:=h.1 ha
  simp [ha,hb];omega
 ·have hb:¬b<0:=fun x=>ha (h.2 x)
  simp [ha,hb]
theorem rtv (s:Int) (h0:0≤s) (below:Bool):tv (sgOk (low s) below&&(high s==0)) (sgV (low s) below)=val (signed s below):=tv_of (rok s h0 below) (rval s h0 below)
theorem rte (s:Int) (h0:0≤s) (below:Bool):te (sgOk (low s) below&&(high s==0))=err (signed s below):=te_of (rok s h0 below)
theorem mag_add (a b:Int):0≤mag a+mag b:=by have:=mag_nonneg a;have:=mag_nonneg b;omega
theorem add_signed1 {a b:Int} (h:¬(decide (a<0)==decide (b<0))=true):signed (mag a-mag b) (decide (a<0))=a+b:=by
 simp only [beq_iff_eq,decide_eq_decide] at h
 unfold signed mag;by_cases ha:a<0<;>by_cases hb:b<0<;>simp [ha,hb] at h ⊢ <;> omega
theorem add_signed2 {a b:Int} (h:¬(decide (a<0)==decide (b<0))=true):signed (mag b-mag a) (decide (b<0))=a+b:=by
 simp only [beq_iff_eq,decide_eq_decide] at h
 unfold signed mag;by_cases ha:a<0<;>by_cases hb:b<0<;>simp [ha,hb] at h ⊢ <;> omega
theorem neg_signed (a:Int):signed (mag a) (decide (0<a)) = -a:=by
 unfold signed mag;by_cases ha:a<0<;>by_cases hb:0<a<;>simp [ha,hb]<;>omega
theorem sub_signed {a b:Int} (h:¬(decide (a<0)==decide (b<0))=true):signed (mag a+mag b) (decide (a<0))=a-b:=by
 unfold signed mag;by_cases ha:a<0<;>by_cases hb:b<0<;>simp [ha,hb] at h ⊢ <;> omega
theorem sub_signed1 {a b:Int} (h:(decide (a<0)==decide (b<0))=true):signed (mag a-mag b) (decide (a<0))=a-b:=by
 unfold signed mag;by_cases ha:a<0<;>by_cases hb:b<0<;>simp [ha,hb] at h ⊢ <;> omega
theorem sub_signed2 {a b:Int} (h:(decide (a<0)==decide (b<0))=true):signed (mag b-mag a) (decide (0≤a))=a-b:=by
 unfold signed mag;by_cases ha:a<0<;>by_cases hb:b<0<;>by_cases hc:0≤a<;>simp [ha,hb,hc] at h ⊢ <;> omega
theorem mul_signed (a b:Int):signed (mag a*mag b) (decide (a<0) !=decide (b<0))=a*b:=by
 unfold signed mag
 by_cases ha:a<0<;>by_cases hb:b<0<;>simp [ha,hb,Int.neg_mul,Int.mul_neg]
theorem div_signed (a b:Int):signed (mag a / mag b) (decide (a<0) !=decide (b<0))=a.tdiv b:=by
 rw [←Int.tdiv_eq_ediv_of_nonneg (mag_nonneg a)]
 unfold signed mag
 by_cases ha:a<0<;>by_cases hb:b<0<;>simp [ha,hb,Int.neg_tdiv,Int.tdiv_neg]
theorem mod_signed (a b:Int):signed (mag a % mag b) (decide (a<0))=a.tmod b:=by
 rw [←Int.tmod_eq_emod_of_nonneg (mag_nonneg a)]
 unfold signed mag
 by_cases ha:a<0<;>by_cases hb:b<0<;>simp [ha,hb,Int.neg_tmod,Int.tmod_neg]
theorem mag_pos' {b:Int} (h:b≠0):1≤mag b:=by unfold mag;split<;>omega
theorem mag_div (a b:Int):0≤mag a / mag b∧mag a / mag b≤mag a:=by
 have h:=mag_nonneg a;have h2:=mag_nonneg b
 exact ⟨Int.ediv_nonneg h h2,Int.ediv_le_self _ h⟩
theorem mag_mod (a:Int) {b:Int} (h:b≠0):0≤mag a % mag b∧mag a % mag b<mag b:=by
 have h2:=mag_pos' h
 exact ⟨Int.emod_nonneg _ (by omega),Int.emod_lt_of_pos _ (by omega)⟩
theorem val_mod (a:Int) {b:Int} (hb:b≠0) (hb2:inR b):inR (a.tmod b):=by
 rw [←mod_signed];have h:=mag_mod a hb;have h2:=mag_le hb2
 unfold signed inR;split<;>omega
def isDig (c:UInt8):Bool:=decide (48≤c.toNat)&&decide (c.toNat≤57)
def dvf (n:Int):List UInt8→Int
 | []=>n
 | c::l=>dvf (n*10+((c.toNat:Int)-48)) l
def allD (l:List UInt8):Bool:=l.all isDig && !l.isEmpty
def readV (l:List UInt8):Int:=if allD l then val (dvf 0 l) else 0
def readE (l:List UInt8):Int:=if allD l then err (dvf 0 l) else 3
theorem dvf_append (l k:List UInt8):∀ n,dvf n (l++k)=dvf (dvf n l) k:=by
 induction l with
 | nil=>intro n;rfl
 | cons c l ih=>intro n;exact ih _
theorem dvf_snoc (n:Int) (l:List UInt8) (c:UInt8):dvf n (l++[c])=dvf n l*10+((c.toNat:Int)-48):=by
 rw [dvf_append];rfl
theorem isDig_bd {c:UInt8} (h:isDig c=true):48≤c.toNat∧c.toNat≤57:=by
 simpa [isDig] using h
theorem dvf_ge {l:List UInt8} (h:l.all isDig=true):∀ n,0≤n→n≤dvf n l:=by
 induction l with
 | nil=>intro n _;exact Int.le_refl _
 | cons c l ih =>
   intro n hn
   simp only [List.all_cons,Bool.and_eq_true] at h
   have hb:=isDig_bd h.1
   have:=ih h.2 (n*10+((c.toNat:Int)-48)) (by omega)
   show n≤dvf (n*10+((c.toNat:Int)-48)) l
   omega
theorem dvf_nonneg {l:List UInt8} (h:l.all isDig=true):0≤dvf 0 l:=dvf_ge h 0 (Int.le_refl _)
theorem rune_dig (s:ByteArray) (pos:Nat) (h:pos<s.size) (hd:isDig (s[pos]'h)=true):Utf8.decode s pos=((s[pos]'h).toNat,1):=by
 have:=isDig_bd hd
 exact decode_ascii s pos h (by omega)
theorem rune_not (s:ByteArray) (pos:Nat) (h:pos<s.size) (hd:isDig (s[pos]'h)=false):(Utf8.decode s pos).1<48∨57<(Utf8.decode s pos).1:=by
 by_cases ha:(s[pos]'h).toNat<128
 ·rw [decode_ascii s pos h ha];simp only [isDig,Bool.and_eq_false_iff,decide_eq_false_iff_not] at hd;omega
 ·have:=(decode_high s pos h (by omega)).1;omega
theorem get_data (s:ByteArray) (i:Nat) (h:i<s.size):s.data.toList[i]? = some (s[i]'h):=by
 rw [List.getElem?_eq_getElem (by simpa using h)];rfl
theorem take_snoc (s:ByteArray) (k:Nat) (h:k<s.size):s.data.toList.take (k+1)=s.data.toList.take k++[s[k]'h]:=by
 rw [List.take_add_one,get_data s k h];rfl
theorem take_all (s:ByteArray):s.data.toList.take s.size=s.data.toList:=List.take_of_length_le (by simp)
theorem drop_cons (s:ByteArray) (k:Nat) (h:k<s.size):s.data.toList.drop k=(s[k]'h)::s.data.toList.drop (k+1):=by
 rw [List.drop_eq_getElem_cons (by simpa using h)];rfl
theorem allD_not (s:ByteArray) (pos:Nat) (h:pos<s.size) (hd:isDig (s[pos]'h)=false):allD s.data.toList=false:=by
 have hm:s[pos]'h∈s.data.toList:=List.mem_of_getElem? (get_data s pos h)
 have:s.data.toList.all isDig=false:=by
  rw [List.all_eq_false];exact ⟨_,hm,by simp [hd]⟩
 simp [allD,this]
theorem readV_not {l:List UInt8} (h:allD l=false):readV l=0:=by simp [readV,h]
theorem readE_not {l:List UInt8} (h:allD l=false):readE l=3:=by simp [readE,h]
theorem readV_yes {l:List UInt8} (h:allD l=true):readV l=val (dvf 0 l):=by simp [readV,h]
theorem readE_yes {l:List UInt8} (h:allD l=true):readE l=err (dvf 0 l):=by simp [readE,h]
theorem all_snoc (s:ByteArray) (k:Nat) (h:k<s.size) (ha:(s.data.toList.take k).all isDig=true) (hd:isDig (s[k]'h)=true):(s.data.toList.take (k+1)).all isDig=true:=by
 rw [take_snoc s k h];simp [ha,hd]
theorem all_at (s:ByteArray) (k:Nat) (h:k<s.size) (ha:s.data.toList.all isDig=true):isDig (s[k]'h)=true :=
 List.all_eq_true.1 ha _ (List.mem_of_getElem? (get_data s k h))
theorem out_of (s:ByteArray) (k:Nat) (ha:s.data.toList.all isDig=true) (hn:¬inR (dvf 0 (s.data.toList.take k))):¬inR (dvf 0 s.data.toList):=by
 have h1:(s.data.toList.take k).all isDig=true:=by
  rw [List.all_eq_true] at *;intro x hx;exact ha x (List.mem_of_mem_take hx)
 have h2:(s.data.toList.drop k).all isDig=true:=by
  rw [List.all_eq_true] at *;intro x hx;exact ha x (List.mem_of_mem_drop hx)
 have h3:=dvf_nonneg h1
 have h4:=dvf_ge h2 _ h3
 rw [←dvf_append,List.take_append_drop] at h4
 unfold inR at *;omega
def textOk (l:List UInt8):Bool:=Lib.validD l && !l.contains 0
def rightB (k i:Int) (s:ByteArray) (b:Bool):Bool :=
 if k=0 then i==0&&s.data.toList.isEmpty && !b
 else if k=1 then s.data.toList.isEmpty && !b
 else if k=2 then i==0 && !b&&decide (s.size≤60)&&textOk s.data.toList
 else if k=3 then i==0&&s.data.toList.isEmpty
 else false
theorem ok_zero (l:List UInt8):textOk (0::l)=false:=by simp [textOk]
theorem ok_ascii (b:UInt8) (l:List UInt8) (h0:b.toNat≠0) (h:b.toNat<128):textOk (b::l)=textOk l:=by
 have:b≠0:=by rintro rfl;exact h0 rfl
 simp [textOk,Lib.validD_cons b l h,Ne.symm this]
def cont (n:Nat):Prop:=128≤n∧n<192
def inRune (r least:Int):Prop:=¬(r<least)∧¬(1114111<r)∧¬(55296≤r∧r<57344)
theorem ne_of_big {c:UInt8} (h:128≤c.toNat):¬(0=c):=by rintro rfl;exact absurd h (by decide)
theorem step_bad (b:UInt8) (l:List UInt8) (h:128≤b.toNat∧b.toNat<192∨248≤b.toNat):Lib.validD (b::l)=false:=by
 rw [Lib.validD_step _ (by simp),Lib.decodeL_N]
 simp only [List.length_cons,List.getD_cons_zero]
 rw [if_pos]
 have hb:=b.toNat_lt
 unfold Lib.decodeN
 repeat' split
 all_goals first|exact ⟨rfl,rfl⟩|(exfalso;omega)
theorem ok_bad (b:UInt8) (l:List UInt8) (h:128≤b.toNat∧b.toNat<192∨248≤b.toNat):textOk (b::l)=false:=by
 simp [textOk,step_bad b l h]
theorem step2 (b:UInt8) (l:List UInt8) (h1:192≤b.toNat) (h2:b.toNat<224) :
 (∃ c t,l=c::t∧cont c.toNat∧inRune (((b.toNat:Int)-192)*64+((c.toNat:Int)-128)) 128∧textOk (b::l)=textOk t) ∨
 ((∀ c t,l=c::t→cont c.toNat→¬inRune (((b.toNat:Int)-192)*64+((c.toNat:Int)-128)) 128)∧textOk (b::l)=false):=by
 have hb:=b.toNat_lt
 cases l with
 | nil =>
   right
   refine ⟨by simp, ?_⟩
   simp only [textOk,Bool.and_eq_false_iff]
   left
   rw [Lib.validD_step _ (by simp),Lib.decodeL_N,if_pos]
   simp only [List.length_cons,List.length_nil,List.getD_cons_zero]
   unfold Lib.decodeN
   repeat' split
   all_goals first|exact ⟨rfl,rfl⟩|(exfalso;omega)
 | cons c t =>
   have hc:=c.toNat_lt
   by_cases hg:cont c.toNat∧inRune (((b.toNat:Int)-192)*64+((c.toNat:Int)-128)) 128
   ·left
    refine ⟨c,t,rfl,hg.1,hg.2, ?_⟩
    obtain ⟨⟨g1,g2⟩,g3,g4,g5⟩:=hg
    have hd:Lib.decodeL (b::c::t)=(b.toNat % 32*64+c.toNat % 64,2):=by
     rw [Lib.decodeL_N]
     simp only [List.length_cons,List.getD_cons_zero,List.getD_cons_succ]
     unfold Lib.decodeN
     repeat' split
     all_goals first|rfl|(exfalso;omega)
    have hv:Lib.validD (b::c::t)=Lib.validD t:=by
     rw [Lib.validD_step _ (by simp),hd,if_neg (by simp)];rfl
    simp [textOk,hv,ne_of_big (show 128≤b.toNat by omega),ne_of_big g1]
   ·right
    refine ⟨?_, ?_⟩
    ·rintro c' t' e;cases e;intro h1 h2;exact hg ⟨h1,h2⟩
    simp only [textOk,Bool.and_eq_false_iff]
    left
    rw [Lib.validD_step _ (by simp),Lib.decodeL_N,if_pos]
    simp only [List.length_cons,List.getD_cons_zero,List.getD_cons_succ]
    unfold Lib.decodeN
    unfold cont inRune at hg
    repeat' split
    all_goals first|exact ⟨rfl,rfl⟩|(exfalso;omega)
theorem step3 (b:UInt8) (l:List UInt8) (h1:224≤b.toNat) (h2:b.toNat<240) :
 (∃ c d t,l=c::d::t∧cont c.toNat∧cont d.toNat∧inRune ((((b.toNat:Int)-224)*64+((c.toNat:Int)-128))*64+((d.toNat:Int)-128)) 2048∧textOk (b::l)=textOk t) ∨
 ((∀ c d t,l=c::d::t→cont c.toNat→cont d.toNat→¬inRune ((((b.toNat:Int)-224)*64+((c.toNat:Int)-128))*64+((d.toNat:Int)-128)) 2048)∧textOk (b::l)=false):=by
 have hb:=b.toNat_lt
 match l with
 | [] =>
   right
   refine ⟨by simp, ?_⟩
   simp only [textOk,Bool.and_eq_false_iff]
   left
   rw [Lib.validD_step _ (by simp),Lib.decodeL_N,if_pos]
   simp only [List.length_cons,List.length_nil,List.getD_cons_zero]
   unfold Lib.decodeN
   repeat' split
   all_goals first|exact ⟨rfl,rfl⟩|(exfalso;omega)
 | [c] =>
   right
   refine ⟨by simp, ?_⟩
   simp only [textOk,Bool.and_eq_false_iff]
   left
   rw [Lib.validD_step _ (by simp),Lib.decodeL_N,if_pos]
   simp only [List.length_cons,List.length_nil,List.getD_cons_zero]
   unfold Lib.decodeN
   repeat' split
   all_goals first|exact ⟨rfl,rfl⟩|(exfalso;omega)
 | c::d::t =>
   have hc:=c.toNat_lt
   have hd':=d.toNat_lt
   by_cases hg:cont c.toNat∧cont d.toNat∧inRune ((((b.toNat:Int)-224)*64+((c.toNat:Int)-128))*64+((d.toNat:Int)-128)) 2048
   ·left
    refine ⟨c,d,t,rfl,hg.1,hg.2.1,hg.2.2, ?_⟩
    obtain ⟨⟨g1,g2⟩,⟨g6,g7⟩,g3,g4,g5⟩:=hg
    have hd:Lib.decodeL (b::c::d::t)=(b.toNat % 16*4096+c.toNat % 64*64+d.toNat % 64,3):=by
     rw [Lib.decodeL_N]
     simp only [List.length_cons,List.getD_cons_zero,List.getD_cons_succ]
     unfold Lib.decodeN
     repeat' split
     all_goals first|rfl|(exfalso;omega)
    have hv:Lib.validD (b::c::d::t)=Lib.validD t:=by
     rw [Lib.validD_step _ (by simp),hd,if_neg (by simp)];rfl
    simp [textOk,hv,ne_of_big (show 128≤b.toNat by omega),ne_of_big g1,ne_of_big g6]
   ·right
    refine ⟨?_, ?_⟩
    ·rintro c' d' t' e;cases e;intro h1 h2 h3;exact hg ⟨h1,h2,h3⟩
    simp only [textOk,Bool.and_eq_false_iff]
    left
    rw [Lib.validD_step _ (by simp),Lib.decodeL_N,if_pos]
    simp only [List.length_cons,List.getD_cons_zero,List.getD_cons_succ]
    unfold Lib.decodeN
    unfold cont inRune at hg
    repeat' split
    all_goals first|exact ⟨rfl,rfl⟩|(exfalso;omega)
theorem step4 (b:UInt8) (l:List UInt8) (h1:240≤b.toNat) (h2:b.toNat<248) :
 (∃ c d f t,l=c::d::f::t∧cont c.toNat∧cont d.toNat∧cont f.toNat∧inRune (((((b.toNat:Int)-240)*64+((c.toNat:Int)-128))*64+((d.toNat:Int)-128))*64+((f.toNat:Int)-128)) 65536∧textOk (b::l)=textOk t) ∨
 ((∀ c d f t,l=c::d::f::t→cont c.toNat→cont d.toNat→cont f.toNat→¬inRune (((((b.toNat:Int)-240)*64+((c.toNat:Int)-128))*64+((d.toNat:Int)-128))*64+((f.toNat:Int)-128)) 65536)∧textOk (b::l)=false):=by
 have hb:=b.toNat_lt
 match l with
 | [] =>
   right
   refine ⟨by simp, ?_⟩
   simp only [textOk,Bool.and_eq_false_iff]
   left
   rw [Lib.validD_step _ (by simp),Lib.decodeL_N,if_pos]
   simp only [List.length_cons,List.length_nil,List.getD_cons_zero]
   unfold Lib.decodeN
   repeat' split
   all_goals first|exact ⟨rfl,rfl⟩|(exfalso;omega)
 | [c] =>
   right
   refine ⟨by simp, ?_⟩
   simp only [textOk,Bool.and_eq_false_iff]
   left
   rw [Lib.validD_step _ (by simp),Lib.decodeL_N,if_pos]
   simp only [List.length_cons,List.length_nil,List.getD_cons_zero]
   unfold Lib.decodeN
   repeat' split
   all_goals first|exact ⟨rfl,rfl⟩|(exfalso;omega)
 | [c,d] =>
   right
   refine ⟨by simp, ?_⟩
   simp only [textOk,Bool.and_eq_false_iff]
   left
   rw [Lib.validD_step _ (by simp),Lib.decodeL_N,if_pos]
   simp only [List.length_cons,List.length_nil,List.getD_cons_zero]
   unfold Lib.decodeN
   repeat' split
   all_goals first|exact ⟨rfl,rfl⟩|(exfalso;omega)
 | c::d::f::t =>
   have hc:=c.toNat_lt
   have hd':=d.toNat_lt
   have hf':=f.toNat_lt
   by_cases hg:cont c.toNat∧cont d.toNat∧cont f.toNat∧inRune (((((b.toNat:Int)-240)*64+((c.toNat:Int)-128))*64+((d.toNat:Int)-128))*64+((f.toNat:Int)-128)) 65536
   ·left
    refine ⟨c,d,f,t,rfl,hg.1,hg.2.1,hg.2.2.1,hg.2.2.2, ?_⟩
    obtain ⟨⟨g1,g2⟩,⟨g6,g7⟩,⟨g8,g9⟩,g3,g4,g5⟩:=hg
    have hd:Lib.decodeL (b::c::d::f::t)=(b.toNat % 8*262144+c.toNat % 64*4096+d.toNat % 64*64+f.toNat % 64,4):=by
     rw [Lib.decodeL_N]
     simp only [List.length_cons,List.getD_cons_zero,List.getD_cons_succ]
     unfold Lib.decodeN
     repeat' split
     all_goals first|rfl|(exfalso;omega)
    have hv:Lib.validD (b::c::d::f::t)=Lib.validD t:=by
     rw [Lib.validD_step _ (by simp),hd,if_neg (by simp)];rfl
    simp [textOk,hv,ne_of_big (show 128≤b.toNat by omega),ne_of_big g1,ne_of_big g6,ne_of_big g8]
   ·right
    refine ⟨?_, ?_⟩
    ·rintro c' d' f' t' e;cases e;intro h1 h2 h3 h4;exact hg ⟨h1,h2,h3,h4⟩
    simp only [textOk,Bool.and_eq_false_iff]
    left
    rw [Lib.validD_step _ (by simp),Lib.decodeL_N,if_pos]
    simp only [List.length_cons,List.getD_cons_zero,List.getD_cons_succ]
    unfold Lib.decodeN
    unfold cont inRune at hg
    repeat' split
    all_goals first|exact ⟨rfl,rfl⟩|(exfalso;omega)
theorem at_drop (s:ByteArray) (k:Nat) (h:k<s.size):s.data.toList.drop k=(s[k]'h)::s.data.toList.drop (k+1):=by
 rw [List.drop_eq_getElem_cons (by simpa using h)];rfl
theorem len_drop (s:ByteArray) (k:Nat):(s.data.toList.drop k).length=s.size-k:=by simp
theorem no_drop (s:ByteArray) (k:Nat) (h:s.size≤k):s.data.toList.drop k=[]:=List.drop_eq_nil_of_le (by simpa using h)
theorem at2 (s:ByteArray) (k:Nat) (hk:k<s.size) (h1:192≤(s[k]'hk).toNat) (h2:(s[k]'hk).toNat<224) :
 (s.size≤k+1→textOk (s.data.toList.drop k)=false) ∧
 (∀ g1:k+1<s.size,cont (s[k+1]'g1).toNat→inRune ((((s[k]'hk).toNat:Int)-192)*64+(((s[k+1]'g1).toNat:Int)-128)) 128→textOk (s.data.toList.drop k)=textOk (s.data.toList.drop (k+2))) ∧
 (∀ g1:k+1<s.size,¬(cont (s[k+1]'g1).toNat∧inRune ((((s[k]'hk).toNat:Int)-192)*64+(((s[k+1]'g1).toNat:Int)-128)) 128)→textOk (s.data.toList.drop k)=false):=by
 have hs:=step2 _ (s.data.toList.drop (k+1)) h1 h2
 rw [←at_drop s k hk] at hs
 refine ⟨fun h => ?_,fun g1 h3 h4 => ?_,fun g1 h3 => ?_⟩
 ·rcases hs with ⟨c,t,e,_⟩|h'
  ·have:=congrArg List.length e
   rw [len_drop,List.length_cons] at this;omega
  ·exact h'.2
 ·rw [at_drop s (k+1) g1] at hs
  rcases hs with ⟨c,t,e,_,_,h⟩|h'
  ·cases e;exact h
  ·exact absurd h4 (h'.1 _ _ rfl h3)
 ·rw [at_drop s (k+1) g1] at hs
  rcases hs with ⟨c,t,e,h5,h6,h⟩|h'
  ·cases e;exact absurd ⟨h5,h6⟩ h3
  ·exact h'.2
theorem at3 (s:ByteArray) (k:Nat) (hk:k<s.size) (h1:224≤(s[k]'hk).toNat) (h2:(s[k]'hk).toNat<240) :
 (s.size≤k+2→textOk (s.data.toList.drop k)=false) ∧
 (∀ g1:k+2<s.size,cont (s[k+1]'(by omega)).toNat→cont (s[k+2]'g1).toNat→inRune (((((s[k]'hk).toNat:Int)-224)*64+(((s[k+1]'(by omega)).toNat:Int)-128))*64+(((s[k+2]'g1).toNat:Int)-128)) 2048→textOk (s.data.toList.drop k)=textOk (s.data.toList.drop (k+3))) ∧
 (∀ g1:k+2<s.size,¬(cont (s[k+1]'(by omega)).toNat∧cont (s[k+2]'g1).toNat∧inRune (((((s[k]'hk).toNat:Int)-224)*64+(((s[k+1]'(by omega)).toNat:Int)-128))*64+(((s[k+2]'g1).toNat:Int)-128)) 2048)→textOk (s.data.toList.drop k)=false):=by
 have hs:=step3 _ (s.data.toList.drop (k+1)) h1 h2
 rw [←at_drop s k hk] at hs
 refine ⟨fun h => ?_,fun g1 h3 h4 h5 => ?_,fun g1 h3 => ?_⟩
 ·rcases hs with ⟨c,d,t,e,_⟩|h'
  ·have:=congrArg List.length e
   rw [len_drop,List.length_cons,List.length_cons] at this;omega
  ·exact h'.2
 ·rw [at_drop s (k+1) (by omega),at_drop s (k+1+1) g1] at hs
  rcases hs with ⟨c,d,t,e,_,_,_,h⟩|h'
  ·cases e;exact h
  ·exact absurd h5 (h'.1 _ _ _ rfl h3 h4)
 ·rw [at_drop s (k+1) (by omega),at_drop s (k+1+1) g1] at hs
  rcases hs with ⟨c,d,t,e,h5,h6,h7,h⟩|h'
  ·cases e;exact absurd ⟨h5,h6,h7⟩ h3
  ·exact h'.2
theorem at4 (s:ByteArray) (k:Nat) (hk:k<s.size) (h1:240≤(s[k]'hk).toNat) (h2:(s[k]'hk).toNat<248) :
 (s.size≤k+3→textOk (s.data.toList.drop k)=false) ∧
 (∀ g1:k+3<s.size,cont (s[k+1]'(by omega)).toNat→cont (s[k+2]'(by omega)).toNat→cont (s[k+3]'g1).toNat→inRune ((((((s[k]'hk).toNat:Int)-240)*64+(((s[k+1]'(by omega)).toNat:Int)-128))*64+(((s[k+2]'(by omega)).toNat:Int)-128))*64+(((s[k+3]'g1).toNat:Int)-128)) 65536→textOk (s.data.toList.drop k)=textOk (s.data.toList.drop (k+4))) ∧
 (∀ g1:k+3<s.size,¬(cont (s[k+1]'(by omega)).toNat∧cont (s[k+2]'(by omega)).toNat∧cont (s[k+3]'g1).toNat∧inRune ((((((s[k]'hk).toNat:Int)-240)*64+(((s[k+1]'(by omega)).toNat:Int)-128))*64+(((s[k+2]'(by omega)).toNat:Int)-128))*64+(((s[k+3]'g1).toNat:Int)-128)) 65536)→textOk (s.data.toList.drop k)=false):=by
 have hs:=step4 _ (s.data.toList.drop (k+1)) h1 h2
 rw [←at_drop s k hk] at hs
 refine ⟨fun h => ?_,fun g1 h3 h4 h5 h6 => ?_,fun g1 h3 => ?_⟩
 ·rcases hs with ⟨c,d,f,t,e,_⟩|h'
  ·have:=congrArg List.length e
   rw [len_drop,List.length_cons,List.length_cons,List.length_cons] at this;omega
  ·exact h'.2
 ·rw [at_drop s (k+1) (by omega),at_drop s (k+1+1) (by omega),at_drop s (k+1+1+1) g1] at hs
  rcases hs with ⟨c,d,f,t,e,_,_,_,_,h⟩|h'
  ·cases e;exact h
  ·exact absurd h6 (h'.1 _ _ _ _ rfl h3 h4 h5)
 ·rw [at_drop s (k+1) (by omega),at_drop s (k+1+1) (by omega),at_drop s (k+1+1+1) g1] at hs
  rcases hs with ⟨c,d,f,t,e,h5,h6,h7,h8,h⟩|h'
  ·cases e;exact absurd ⟨h5,h6,h7,h8⟩ h3
  ·exact h'.2
structure Tok where
 k:Int
 s:List UInt8
 n:Int
def tok0:Tok:=⟨0,[],0⟩
def Tok.cells (t:Tok):List Value:=[.int .u8 t.k,.string ⟨t.s.toArray⟩,.int .i64 t.n]
def tkv (l:List Tok):List Value:=l.flatMap Tok.cells
def letB (c:UInt8):Bool:=(decide (97≤c.toNat)&&decide (c.toNat≤122))||(decide (65≤c.toNat)&&decide (c.toNat≤90))||decide (c.toNat=95)
def wordB (c:UInt8):Bool:=letB c||isDig c
def blankB (c:UInt8):Bool:=decide (c.toNat=32)||decide (c.toNat=9)||decide (c.toNat=10)||decide (c.toNat=13)
def lowB (c:UInt8):UInt8:=if 65≤c.toNat∧c.toNat≤90 then c+32 else c
def signs:List UInt8:=[40,41,44,59,42,43,45,47,37,61,60,62,46]
def singB (c:UInt8):Bool:=signs.contains c
def twoB (c d:UInt8):Bool:=(decide (c.toNat=60)&&(decide (d.toNat=61)||decide (d.toNat=62)))||(decide (c.toNat=62)&&decide (d.toNat=61))
def txt:List UInt8→Option (List UInt8×Nat)
 | []=>none
 | c::l =>
   if c=39 then
    match l with
    | d::r=>if d=39 then (txt r).map fun p=>(39::p.1,p.2+2) else some ([],1)
    | []=>some ([],1)
   else (txt l).map fun p=>(c::p.1,p.2+1)
def signN:List UInt8→Nat
 | []=>0
 | [c]=>if singB c then 1 else 0
 | c::d::_=>if twoB c d then 2 else if singB c then 1 else 0
def textT:Option (List UInt8×Nat)→Tok×Nat×Int
 | none=>(tok0,0,4)
 | some (t,n)=>if textOk t then (if t.length≤60 then (⟨3,t,0⟩,n+1,0) else (tok0,0,2)) else (tok0,0,4)
def nextT:List UInt8→Tok×Nat×Int
 | []=>(tok0,0,4)
 | c::r =>
   if letB c then (⟨1,((c::r).takeWhile wordB).map lowB,0⟩,((c::r).takeWhile wordB).length,0)
   else if isDig c then (⟨2,[],readV ((c::r).takeWhile isDig)⟩,((c::r).takeWhile isDig).length,readE ((c::r).takeWhile isDig))
   else if c=39 then textT (txt r)
   else if signN (c::r)=0 then (tok0,0,4) else (⟨4,(c::r).take (signN (c::r)),0⟩,signN (c::r),0)
def splF:Nat→List Tok→List UInt8→List Tok×Int
 | _,acc,[]=>(acc,0)
 | 0,acc,_::_=>(acc,0)
 | f+1,acc,c::r =>
   if blankB c then splF f acc r
   else if (nextT (c::r)).2.2=0 then splF f (acc++[(nextT (c::r)).1]) ((c::r).drop (nextT (c::r)).2.1)
   else ([],(nextT (c::r)).2.2)
def spl (l:List UInt8):List Tok×Int:=splF l.length [] l
def toks (l:List UInt8):List Tok×Int:=if 2000<l.length then ([],2) else spl l
theorem takeWhile_le (p:UInt8→Bool) (l:List UInt8):(l.takeWhile p).length≤l.length:=(List.takeWhile_sublist p).length_le
theorem txt_n:∀ (k:Nat) (l:List UInt8) (t:List UInt8) (n:Nat),l.length≤k→txt l=some (t,n)→1≤n∧n≤l.length∧t.length<n
 | 0,l,t,n,hk,h=>by
   obtain rfl:l=[]:=List.eq_nil_of_length_eq_zero (by omega)
   cases h
 | k+1,[],t,n,hk,h=>by cases h
 | k+1,c::l,t,n,hk,h=>by
   unfold txt at h
   by_cases hc:c=39
   ·rw [if_pos hc] at h
    match l,h,hk with
    | [],h,_ =>
      simp only [Option.some.injEq,Prod.mk.injEq] at h
      obtain ⟨rfl,rfl⟩:=h
      simp
    | d::r,h,hk =>
      simp only at h
      by_cases hd:d=39
      ·rw [if_pos hd] at h
       obtain ⟨⟨t',n'⟩,h1,h2⟩:=Option.map_eq_some_iff.1 h
       simp only [Prod.mk.injEq] at h2
       obtain ⟨rfl,rfl⟩:=h2
       have:=txt_n k r t' n' (by simp at hk;omega) h1
       simp;omega
      ·rw [if_neg hd] at h
       simp only [Option.some.injEq,Prod.mk.injEq] at h
       obtain ⟨rfl,rfl⟩:=h
       simp
   ·rw [if_neg hc] at h
    obtain ⟨⟨t',n'⟩,h1,h2⟩:=Option.map_eq_some_iff.1 h
    simp only [Prod.mk.injEq] at h2
    obtain ⟨rfl,rfl⟩:=h2
    have:=txt_n k l t' n' (by simp at hk;omega) h1
    simp;omega
theorem ite_le {c:Prop} [Decidable c] {a b n:Nat} (h1:a≤n) (h2:b≤n):(if c then a else b)≤n:=by by_cases h:c<;>simp [h,h1,h2]
theorem signN_le (l:List UInt8):signN l≤l.length:=by
 match l with
 | []=>exact Nat.le_refl _
 | [c]=>exact ite_le (by simp) (by simp)
 | c::d::r=>exact ite_le (by simp) (ite_le (by simp) (by simp))
theorem textT_n {r:List UInt8} {p:Option (List UInt8×Nat)} (hp:txt r=p) (h:(textT p).2.2=0):1≤(textT p).2.1∧(textT p).2.1≤r.length+1:=by
 cases p with
 | none=>cases h
 | some p =>
   obtain ⟨t,n⟩:=p
   have:=txt_n _ _ _ _ (Nat.le_refl _) hp
   unfold textT at h ⊢
   by_cases g1:textOk t=true
   ·by_cases g2:t.length≤60
    ·simp only [g1,g2,if_true];omega
    ·simp only [g1,g2,if_true,if_false] at h;cases h
   ·simp only [g1] at h;cases h
theorem nextT_word {c:UInt8} (r:List UInt8) (h:letB c=true):nextT (c::r)=(⟨1,((c::r).takeWhile wordB).map lowB,0⟩,((c::r).takeWhile wordB).length,0):=by
 simp only [nextT,h,if_true]
theorem nextT_num {c:UInt8} (r:List UInt8) (h0:letB c=false) (h:isDig c=true):nextT (c::r)=(⟨2,[],readV ((c::r).takeWhile isDig)⟩,((c::r).takeWhile isDig).length,readE ((c::r).takeWhile isDig)):=by
 simp only [nextT,h0,h,Bool.false_eq_true,if_false,if_true]
theorem nextT_text (r:List UInt8):nextT (39::r)=textT (txt r):=rfl
theorem nextT_sign {c:UInt8} (r:List UInt8) (h0:letB c=false) (h1:isDig c=false) (h2:c≠39):nextT (c::r)=if signN (c::r)=0 then (tok0,0,4) else (⟨4,(c::r).take (signN (c::r)),0⟩,signN (c::r),0):=by
 simp only [nextT,h0,h1,h2,Bool.false_eq_true,if_false]
theorem nextT_n {c:UInt8} {r:List UInt8} (h:(nextT (c::r)).2.2=0):1≤(nextT (c::r)).2.1∧(nextT (c::r)).2.1≤r.length+1:=by
 cases h1:letB c
 ·cases h2:isDig c
  ·by_cases h3:c=39
   ·subst h3
    rw [nextT_text] at h ⊢
    exact textT_n rfl h
   ·rw [nextT_sign r h1 h2 h3] at h ⊢
    by_cases g:signN (c::r)=0
    ·rw [if_pos g] at h;cases h
    ·rw [if_neg g]
     have:=signN_le (c::r)
     simp only [List.length_cons] at this
     exact ⟨by show 1≤signN _;omega,this⟩
  ·rw [nextT_num r h1 h2]
   have h3:=takeWhile_le isDig (c::r)
   simp only [List.takeWhile_cons,h2,if_true,List.length_cons] at h3 ⊢
   omega
 ·rw [nextT_word r h1]
  have h2:=takeWhile_le wordB (c::r)
  have h3:wordB c=true:=by simp [wordB,h1]
  simp only [List.takeWhile_cons,h3,if_true,List.length_cons] at h2 ⊢
  omega
theorem splF_fuel:∀ (f g:Nat) (acc:List Tok) (l:List UInt8),l.length≤f→l.length≤g→splF f acc l=splF g acc l
 | f,g,acc,[],_,_=>by simp [splF]
 | 0,g,acc,c::r,h,_=>by simp at h
 | f+1,0,acc,c::r,_,h=>by simp at h
 | f+1,g+1,acc,c::r,h1,h2=>by
   simp only [List.length_cons] at h1 h2
   unfold splF
   split
   ·exact splF_fuel f g acc r (by omega) (by omega)
   ·split
    ·rename_i hn
     have:=nextT_n hn
     exact splF_fuel f g _ _ (by rw [List.length_drop,List.length_cons];omega) (by rw [List.length_drop,List.length_cons];omega)
    ·rfl
def splA (acc:List Tok) (l:List UInt8):List Tok×Int:=splF l.length acc l
theorem splA_nil (acc:List Tok):splA acc []=(acc,0):=by simp [splA,splF]
theorem splA_blank (acc:List Tok) {c:UInt8} (r:List UInt8) (h:blankB c=true):splA acc (c::r)=splA acc r:=by
 unfold splA;simp [splF,h]
theorem splA_tok (acc:List Tok) {c:UInt8} {r:List UInt8} (h:blankB c=false) (h0:(nextT (c::r)).2.2=0):splA acc (c::r)=splA (acc++[(nextT (c::r)).1]) ((c::r).drop (nextT (c::r)).2.1):=by
 unfold splA
 rw [List.length_cons]
 conv=>lhs;unfold splF
 simp only [h,Bool.false_eq_true,if_false,h0,if_true]
 have:=nextT_n h0
 exact splF_fuel _ _ _ _ (by rw [List.length_drop,List.length_cons];omega) (Nat.le_refl _)
theorem splA_err (acc:List Tok) {c:UInt8} {r:List UInt8} (h:blankB c=false) (h0:(nextT (c::r)).2.2≠0):splA acc (c::r)=([],(nextT (c::r)).2.2):=by
 unfold splA
 rw [List.length_cons]
 unfold splF
 simp [h,h0]
theorem toks_short {l:List UInt8} (h:l.length≤2000):toks l=splA [] l:=by
 unfold toks spl splA;rw [if_neg (by omega)]
theorem toks_long {l:List UInt8} (h:2000<l.length):toks l=([],2):=by
 unfold toks;rw [if_pos h]
theorem splA_len:∀ (k:Nat) (acc:List Tok) (l:List UInt8),l.length≤k→(splA acc l).1.length≤acc.length+l.length
 | k,acc,[],_=>by rw [splA_nil];simp
 | 0,acc,c::r,h=>by simp at h
 | k+1,acc,c::r,h=>by
   simp only [List.length_cons] at h ⊢
   cases hb:blankB c
   ·by_cases h0:(nextT (c::r)).2.2=0
    ·rw [splA_tok acc hb h0]
     have h1:=nextT_n h0
     have:=splA_len k (acc++[(nextT (c::r)).1]) ((c::r).drop (nextT (c::r)).2.1) (by rw [List.length_drop,List.length_cons];omega)
     rw [List.length_drop,List.length_append,List.length_cons] at this
     simp at this;omega
    ·rw [splA_err acc hb h0];simp
   ·rw [splA_blank acc r hb]
    have:=splA_len k acc r (by omega)
    omega
theorem splA_acc:∀ (k:Nat) (acc:List Tok) (l:List UInt8),l.length≤k→splA acc l=if (splA [] l).2=0 then (acc++(splA [] l).1,0) else ([],(splA [] l).2)
 | k,acc,[],_=>by rw [splA_nil,splA_nil];simp
 | 0,acc,c::r,h=>by simp at h
 | k+1,acc,c::r,h=>by
   simp only [List.length_cons] at h
   cases hb:blankB c
   ·by_cases h0:(nextT (c::r)).2.2=0
    ·have h1:=nextT_n h0
     have hl:((c::r).drop (nextT (c::r)).2.1).length≤k:=by rw [List.length_drop,List.length_cons];omega
     rw [splA_tok acc hb h0,splA_tok [] hb h0,splA_acc k _ _ hl]
     have:=splA_acc k ([]++[(nextT (c::r)).1]) _ hl
     rw [this]
     split
     ·simp
     ·rename_i g;simp
    ·rw [splA_err acc hb h0,splA_err [] hb h0];simp [h0]
   ·rw [splA_blank acc r hb,splA_blank [] r hb]
    exact splA_acc k acc r (by omega)
inductive X where
 | lit (k i:Int) (s:List UInt8) (b:Bool):X
 | col (t s:List UInt8):X
 | un (op:List UInt8) (x:X):X
 | bin (op:List UInt8) (a b:X):X
 | isn (neg:Bool) (x:X):X
 | agg (op:List UInt8) (x:X):X
 | cnt:X
def X.size:X→Nat
 | .lit .. => 1
 | .col .. => 1
 | .un _ x=>x.size+1
 | .bin _ a b=>a.size+b.size+1
 | .isn _ x=>x.size+1
 | .agg _ x=>x.size+1
 | .cnt=>1
def wOr:List UInt8:=[111,114]
def wAnd:List UInt8:=[97,110,100]
def wNot:List UInt8:=[110,111,116]
def wIs:List UInt8:=[105,115]
def wNull:List UInt8:=[110,117,108,108]
def wTrue:List UInt8:=[116,114,117,101]
def wFalse:List UInt8:=[102,97,108,115,101]
def wCount:List UInt8:=[99,111,117,110,116]
def wSum:List UInt8:=[115,117,109]
def wMin:List UInt8:=[109,105,110]
def wMax:List UInt8:=[109,97,120]
def uOr:List UInt8:=[79,82]
def uAnd:List UInt8:=[65,78,68]
def uNot:List UInt8:=[78,79,84]
def uCount:List UInt8:=[67,79,85,78,84]
def uSum:List UInt8:=[83,85,77]
def uMin:List UInt8:=[77,73,78]
def uMax:List UInt8:=[77,65,88]
def isF (s:List UInt8):List Tok→Bool
 | []=>false
 | t::_=>t.s==s&&(t.k==4||t.k==1)
def resL:List (List UInt8):=[wAnd,[97,115],[97,115,99],[98,101,103,105,110],[98,111,111,108],[98,121],[99,111,109,109,105,116],wCount,[99,114,101,97,116,101],[100,101,108,101,116,101],[100,101,115,99],[100,114,111,112],wFalse,[102,114,111,109],[103,114,111,117,112],[105,110,100,101,120],[105,110,115,101,114,116],[105,110,116],[105,110,116,111],wIs,[106,111,105,110],[108,105,109,105,116],wMax,wMin,wNot,wNull,[111,110],wOr,[111,114,100,101,114],[114,111,108,108,98,97,99,107],[115,101,108,101,99,116],[115,101,116],wSum,[116,97,98,108,101],[116,101,120,116],wTrue,[117,112,100,97,116,101],[118,97,108,117,101,115],[119,104,101,114,101]]
def resB (w:List UInt8):Bool:=resL.contains w
def nameF:List Tok→Option (List UInt8×List Tok)
 | []=>none
 | t::r=>if t.k=1∧resB t.s=false∧t.s.length≤20 then some (t.s,r) else none
def opsL:Nat→List (List UInt8)
 | 1=>[wOr]
 | 2=>[wAnd]
 | 4=>[[61],[60,62],[60],[60,61],[62],[62,61]]
 | 5=>[[43],[45]]
 | 6=>[[42],[47],[37]]
 | _=>[]
def signF (lev:Nat) (l:List Tok):Option (List UInt8):=(opsL lev).find? fun s=>isF s l
def upW (s:List UInt8):List UInt8:=if s=wOr then uOr else if s=wAnd then uAnd else if s=wCount then uCount else if s=wSum then uSum else if s=wMin then uMin else if s=wMax then uMax else s
def needF (s:List UInt8) (l:List Tok):Option (List Tok):=if isF s l then some l.tail else none
def colF (l:List Tok):Option (X×List Tok) :=
 match nameF l with
 | none=>none
 | some (n,r)=>if isF [46] r then (match nameF r.tail with|none=>none|some (m,r2)=>some (.col n m,r2)) else some (.col [] n,r)
def nullF (l:List Tok):Option (Bool×List Tok):=if isF wNot l then (needF wNull l.tail).map fun r=>(true,r) else (needF wNull l).map fun r=>(false,r)
mutual
def px:Nat→Nat→Nat→List Tok→Option (X×List Tok)
 | 0,_,_,_=>none
 | f+1,lev,d,l =>
   if lev=3 then (if isF wNot l then (if d+1≤40 then (px f 3 (d+1) l.tail).map fun p=>(.un uNot p.1,p.2) else none) else px f 4 d l)
   else if lev=7 then (if isF [45] l then (if d+1≤40 then (px f 7 (d+1) l.tail).map fun p=>(.un [45] p.1,p.2) else none) else px f 8 d l)
   else if lev=8 then pa f d l
   else (match px f (lev+1) d l with
   | none=>none
   | some (x,r)=>pl f lev d x false r)
def pl:Nat→Nat→Nat→X→Bool→List Tok→Option (X×List Tok)
 | 0,_,_,_,_,_=>none
 | f+1,lev,d,x,done,l =>
   match (if done then none else signF lev l) with
   | some s=>(match px f (lev+1) d l.tail with
     | none=>none
     | some (y,r)=>pl f lev d (.bin (upW s) x y) (lev==4) r)
   | none=>if lev=4∧isF wIs l=true then (match nullF l.tail with
    | none=>none
    | some (n,r)=>pl f lev d (.isn n x) done r) else some (x,l)
def pa:Nat→Nat→List Tok→Option (X×List Tok)
 | 0,_,_=>none
 | _,_,[]=>none
 | f+1,d,t::r =>
   if t.k=2 then some (.lit 1 t.n [] false,r)
   else if t.k=3 then some (.lit 2 0 t.s false,r)
   else if isF wNull (t::r) then some (.lit 0 0 [] false,r)
   else if isF wTrue (t::r) then some (.lit 3 0 [] true,r)
   else if isF wFalse (t::r) then some (.lit 3 0 [] false,r)
   else if isF [40] (t::r) then (if d+1≤40 then (match px f 1 (d+1) r with
    | none=>none
    | some (x,r2)=>(needF [41] r2).map fun r3=>(x,r3)) else none)
   else if isF wCount (t::r)||isF wSum (t::r)||isF wMin (t::r)||isF wMax (t::r) then (if d+1≤40 then (match needF [40] r with
    | none=>none
    | some r2=>if t.s=wCount∧isF [42] r2=true then (needF [41] r2.tail).map fun r3=>(.cnt,r3) else (match px f 1 (d+1) r2 with
      | none=>none
      | some (x,r3)=>(needF [41] r3).map fun r4=>(.agg (upW t.s) x,r4))) else none)
   else colF (t::r)
end
theorem isF_ne {s:List UInt8} {l:List Tok} (h:isF s l=true):∃ t r,l=t::r:=by
 cases l with
 | nil=>cases h
 | cons t r=>exact ⟨t,r,rfl⟩
theorem isF_tail {s:List UInt8} {l:List Tok} (h:isF s l=true):l.tail.length+1=l.length:=by
 obtain ⟨t,r,rfl⟩:=isF_ne h
 rfl
theorem needF_len {s:List UInt8} {l r:List Tok} (h:needF s l=some r):r.length+1=l.length:=by
 unfold needF at h
 split at h
 ·rename_i h1;injection h with h;subst h;exact isF_tail h1
 ·cases h
theorem nameF_len {l r:List Tok} {n:List UInt8} (h:nameF l=some (n,r)):r.length+1=l.length:=by
 cases l with
 | nil=>cases h
 | cons t r' =>
   simp only [nameF] at h
   split at h
   ·simp only [Option.some.injEq,Prod.mk.injEq] at h
    rw [←h.2];rfl
   ·cases h
theorem colF_len {l r:List Tok} {x:X} (h:colF l=some (x,r)):r.length<l.length:=by
 unfold colF at h
 split at h
 ·cases h
 ·rename_i n r1 h1
  have:=nameF_len h1
  split at h
  ·rename_i h2
   have:=isF_tail h2
   split at h
   ·cases h
   ·rename_i m r2 h3
    have:=nameF_len h3
    simp only [Option.some.injEq,Prod.mk.injEq] at h
    rw [←h.2];omega
  ·simp only [Option.some.injEq,Prod.mk.injEq] at h
   rw [←h.2];omega
theorem nullF_len {l r:List Tok} {b:Bool} (h:nullF l=some (b,r)):r.length<l.length:=by
 unfold nullF at h
 split at h
 ·rename_i h1
  obtain ⟨r1,h2,h3⟩:=Option.map_eq_some_iff.1 h
  have:=needF_len h2
  have:=isF_tail h1
  simp only [Prod.mk.injEq] at h3
  rw [←h3.2];omega
 ·obtain ⟨r1,h2,h3⟩:=Option.map_eq_some_iff.1 h
  have:=needF_len h2
  simp only [Prod.mk.injEq] at h3
  rw [←h3.2];omega
theorem signF_tail {lev:Nat} {l:List Tok} {s:List UInt8} (h:signF lev l=some s):l.tail.length+1=l.length:=isF_tail (s:=s) (by have:=List.find?_some h;simpa using this)
mutual
theorem px_len:∀ (f lev d:Nat) (l r:List Tok) (x:X),px f lev d l=some (x,r)→r.length<l.length
 | 0,_,_,_,_,_,h=>by simp [px] at h
 | f+1,lev,d,l,r,x,h=>by
   unfold px at h
   split at h
   ·split at h
    ·rename_i h1
     split at h
     ·obtain ⟨⟨y,r1⟩,h2,h3⟩:=Option.map_eq_some_iff.1 h
      have:=px_len _ _ _ _ _ _ h2
      have:=isF_tail h1
      simp only [Prod.mk.injEq] at h3
      rw [←h3.2];omega
     ·cases h
    ·exact px_len _ _ _ _ _ _ h
   split at h
   ·split at h
    ·rename_i h1
     split at h
     ·obtain ⟨⟨y,r1⟩,h2,h3⟩:=Option.map_eq_some_iff.1 h
      have:=px_len _ _ _ _ _ _ h2
      have:=isF_tail h1
      simp only [Prod.mk.injEq] at h3
      rw [←h3.2];omega
     ·cases h
    ·exact px_len _ _ _ _ _ _ h
   split at h
   ·exact pa_len _ _ _ _ _ h
   ·split at h
    ·cases h
    ·rename_i h1
     have:=px_len _ _ _ _ _ _ h1
     have:=pl_len _ _ _ _ _ _ _ _ h
     omega
theorem pl_len:∀ (f lev d:Nat) (x:X) (done:Bool) (l r:List Tok) (y:X),pl f lev d x done l=some (y,r)→r.length≤l.length
 | 0,_,_,_,_,_,_,_,h=>by simp [pl] at h
 | f+1,lev,d,x,done,l,r,y,h=>by
   unfold pl at h
   split at h
   ·rename_i s h1
    have h1':signF lev l=some s:=by
     split at h1
     ·cases h1
     ·exact h1
    have:=signF_tail h1'
    split at h
    ·cases h
    ·rename_i h2
     have:=px_len _ _ _ _ _ _ h2
     have:=pl_len _ _ _ _ _ _ _ _ h
     omega
   ·split at h
    ·rename_i h1
     have:=isF_tail h1.2
     split at h
     ·cases h
     ·rename_i h2
      have:=nullF_len h2
      have:=pl_len _ _ _ _ _ _ _ _ h
      omega
    ·simp only [Option.some.injEq,Prod.mk.injEq] at h
     rw [←h.2];omega
theorem pa_len:∀ (f d:Nat) (l r:List Tok) (x:X),pa f d l=some (x,r)→r.length<l.length
 | 0,_,_,_,_,h=>by simp [pa] at h
 | f+1,d,[],_,_,h=>by simp [pa] at h
 | f+1,d,t::r0,r,x,h=>by
   unfold pa at h
   have fin:∀ {z:X},some (z,r0)=some (x,r)→r.length<(t::r0).length:=by
    intro z e
    simp only [Option.some.injEq,Prod.mk.injEq] at e
    rw [←e.2];simp
   split at h
   ·exact fin h
   split at h
   ·exact fin h
   split at h
   ·exact fin h
   split at h
   ·exact fin h
   split at h
   ·exact fin h
   split at h
   ·split at h
    ·split at h
     ·cases h
     ·rename_i h2
      have:=px_len _ _ _ _ _ _ h2
      obtain ⟨r3,h4,h5⟩:=Option.map_eq_some_iff.1 h
      have:=needF_len h4
      simp only [Prod.mk.injEq] at h5
      rw [←h5.2];simp;omega
    ·cases h
   split at h
   ·split at h
    ·split at h
     ·cases h
     ·rename_i h2
      have:=needF_len h2
      split at h
      ·rename_i h3
       have:=isF_tail h3.2
       obtain ⟨r3,h4,h5⟩:=Option.map_eq_some_iff.1 h
       have:=needF_len h4
       simp only [Prod.mk.injEq] at h5
       rw [←h5.2];simp;omega
      ·split at h
       ·cases h
       ·rename_i h3
        have:=px_len _ _ _ _ _ _ h3
        obtain ⟨r3,h4,h5⟩:=Option.map_eq_some_iff.1 h
        have:=needF_len h4
        simp only [Prod.mk.injEq] at h5
        rw [←h5.2];simp;omega
    ·cases h
   exact colF_len h
end
end Go.Proofs.YtkfjmgmjbljnbaaGreatDoor.Lp
namespace Go.Proofs.YtkfjmgmjbljnbaaGreatDoor
open Go.RowKit
structure But (P:Nat) (w w':World):Prop where
 os:w'.os=w.os
 tape:w'.tape=w.tape
 output:w'.output=w.output
 size:w.heap.size≤w'.heap.size
 block:∀ k,k<w.heap.size→k≠P→w'.heap[k]? = w.heap[k]?
theorem But.refl (P:Nat) (w:World):But P w w:=⟨rfl,rfl,rfl,Nat.le_refl _,fun _ _ _=>rfl⟩
theorem But.trans {P:Nat} {a b c:World} (h:But P a b) (k:But P b c):But P a c :=
 ⟨k.os.trans h.os,k.tape.trans h.tape,k.output.trans h.output,Nat.le_trans h.size k.size,fun i hi hn=>(k.block i (Nat.lt_of_lt_of_le hi h.size) hn).trans (h.block i hi hn)⟩
theorem But.of {P:Nat} {w w':World} (h:Below w.heap.size w w'):But P w w':=⟨h.os,h.tape,h.output,h.size,fun k hk _=>h.block k hk⟩
theorem But.set (P o:Nat) (w:World) (v:Value):But P w (w.setCell ⟨P,o,none⟩ v) :=
 ⟨rfl,rfl,rfl,by simp [World.setCell],fun k _ hn=>Below.heap_setCell w ⟨P,o,none⟩ v k hn⟩
theorem But.alloc (P:Nat) (w:World) (o:Obj):But P w (w.alloc o):=But.of ((Below.refl _ _).alloc (Nat.le_refl _) o)
theorem But.drew {P:Nat} {a w:World} (h:But P a w):But P a w.drew:=⟨h.os,h.tape,h.output,h.size,h.block⟩
theorem But.below {P B:Nat} {w w':World} (h:But P w w') (hB:B≤P) (hP:P≤w.heap.size):Below B w w' :=
 ⟨h.os,h.tape,h.output,h.size,fun k hk=>h.block k (by omega) (by omega)⟩
theorem but_box {P g:Nat} {w w':World} {o:Obj} (h:But P w w') (hg:w.heap[g]? = some o) (hn:g≠P):w'.heap[g]? = some o:=(h.block g (heap_lt hg) hn).trans hg
theorem but_cell {P:Nat} {w w':World} {a:Addr} {u:Value} (h:But P w w') (hc:w.cell? a=some u) (hn:a.block≠P):w'.cell? a=some u :=
 (World.cell?_of_block (w:=w) (h.block a.block (World.block_lt_of_cell? w a hc) hn)).trans hc
def TkP (w:World) (P:Nat) (A:Option Addr) (l:List Lp.Tok):Prop :=
 l=[]∨∃ b off,A=some ⟨b,off,none⟩∧b<P∧∀ j u,(Lp.tkv l)[j]? = some u→w.cell? ⟨b,off+j,none⟩=some u
theorem TkP.but {w w':World} {P:Nat} {A:Option Addr} {l:List Lp.Tok} (h:TkP w P A l) (hb:But P w w'):TkP w' P A l:=by
 rcases h with rfl|⟨b,off,hA,hlt,hc⟩
 ·exact .inl rfl
 ·exact .inr ⟨b,off,hA,hlt,fun j u hu=>but_cell hb (hc j u hu) (Nat.ne_of_lt hlt)⟩
theorem TkP.front {w:World} {P:Nat} {A:Option Addr} {t:Lp.Tok} {r:List Lp.Tok} (h:TkP w P A (t::r)) :
 ∃ b off,A=some ⟨b,off,none⟩∧b<P∧w.cell? ⟨b,off,none⟩=some (.int .u8 t.k)∧w.cell? ⟨b,off+1,none⟩=some (.string ⟨t.s.toArray⟩)∧w.cell? ⟨b,off+2,none⟩=some (.int .i64 t.n):=by
 rcases h with h|⟨b,off,hA,hlt,hc⟩
 ·cases h
 ·exact ⟨b,off,hA,hlt,hc 0 _ rfl,hc 1 _ rfl,hc 2 _ rfl⟩
theorem TkP.tail {w:World} {P c:Nat} {t:Lp.Tok} {r:List Lp.Tok} {b off:Nat} (h:TkP w P (some ⟨b,off,none⟩) (t::r)) (_:r.length+1≤c) :
 TkP w P (some ⟨b,off+3,none⟩) r:=by
 rcases h with h|⟨b',off',hA,hlt,hc⟩
 ·cases h
 ·simp only [Option.some.injEq,Addr.mk.injEq,and_true] at hA
  obtain ⟨rfl,rfl⟩:=hA
  exact .inr ⟨b,off+3,rfl,hlt,fun j u hu=>by
   rw [Nat.add_assoc]
   exact hc (3+j) u (by rw [Nat.add_comm 3 j];exact hu)⟩
def PS (w:World) (P:Nat) (l:List Lp.Tok) (d:Nat):Prop :=
 ∃ A c,w.heap[P]? = some (.cells #[.slice A l.length c,.int .i64 d] 148 (0,0))∧l.length≤c∧TkP w P A l
theorem PS.below {w w':World} {P d:Nat} {l:List Lp.Tok} (h:PS w P l d) (hb:Below w.heap.size w w'):PS w' P l d:=by
 obtain ⟨A,c,h1,h2,h3⟩:=h
 exact ⟨A,c,box_below h1 hb,h2,h3.but (But.of hb)⟩
theorem PS.lt {w:World} {P d:Nat} {l:List Lp.Tok} (h:PS w P l d):P<w.heap.size:=by
 obtain ⟨A,c,h1,_⟩:=h
 exact heap_lt h1
def Tsane (t:Lp.Tok):Prop:=1≤t.k∧t.k≤4∧(t.k=1→∃ c r,t.s=c::r∧Lp.letB c=true)∧(t.k=4→∃ c r,t.s=c::r∧Lp.letB c=false)∧t.s.length≤2000
def Lsane (l:List Lp.Tok):Prop:=l.length≤2000∧∀ t∈l,Tsane t
theorem Lsane.tail {t:Lp.Tok} {r:List Lp.Tok} (h:Lsane (t::r)):Lsane r:=⟨by have:=h.1;simp at this;omega,fun u hu=>h.2 u (List.mem_cons_of_mem _ hu)⟩
theorem Lsane.tl {l:List Lp.Tok} (h:Lsane l):Lsane l.tail:=by
 cases l with
 | nil=>exact h
 | cons t r=>exact h.tail
end Go.Proofs.YtkfjmgmjbljnbaaGreatDoor
