/-
 Contracts. Conditions: those of each.
-/
import Derived.Test.YtkolcimllghnaaaGreatDoorQdGE
import Derived.Test.YtkolcimllghnaaaGreatDoorQdGY
import Derived.Laws.StructEq
import Derived.Test.YtkolcimllghnaaaGreatDoorQdGG
set_option maxRecDepth 100000
set_option maxHeartbeats 8000000
namespace Go.Proofs.YtkolcimllghnaaaGreatDoor
open Lp Go.Proofs.Tryz
open Go.RowKit
variable{sc:List Tb}{x y:Lp.X}{k:Nat}{w:World}
def Jj (fi:FuncId) (cs:ZV) (w:World) (gs:List Nat) (bs:List Bool):Prop :=
 ∀ (j:Nat) (g:Nat) (b:Bool),gs[j]? = some g->bs[j]? = some b->∀ wr,Below w w wr->Calls prog fi (#[ptr g]++cs) wr λe w'=>e=.returned (.bool b)∧Below wr.heap.size wr w'
theorem Sv (bs:List Bool) (h:k<bs.length) (h1:(bs.take k).any id=false):(bs.take (k+1)).any id=bs[k]:=by
 rw [List.take_succ_eq_append_getElem h,List.any_append,h1];simp
theorem Dx (fi:FuncId) (hfi:∀ args w,Sem.run prog (callFunc fi args) w=.ok (.enter fi args) w) (cs:ZV) (A:ZT) (c:Nat) (gs:List Nat) (bs:List Bool) (w:World) (hA:Rds w A (gs.map ptr)) (hl:bs.length=gs.length) (hn:gs.length≤1000) (hS:Jj fi cs w gs bs) :
 Calls prog 100 #[.slice A gs.length c,.func (.func fi) #[] cs] w λe w'=>(∃ i:Int,e=.returned (.int .i64 i)∧decide (0≤i)=bs.any id)∧Below w w w':=by
 have HA:=κ hA;have HS:=lf;have hn':(gs.length:Int)≤1000:=ac
 clear hA hS;go_enter func100,ntmps100;go_wp2_with fail
 go_loopw [5,8] (λ_ s8 wr=>∃ k:Nat,k≤gs.length∧s8=.int .i64 k∧Below w w wr∧(bs.take k).any id=false) (λ_ s8 _=>gs.length-(intOf s8).toNat)
 case atStart=>exact ⟨0,Nat.zero_le _,rfl,θ,rfl⟩
 case round =>
  obtain ⟨k,hk,rfl,hb,hq⟩:=dd
  by_cases hlt:k<gs.length
  ·have hltb:k<bs.length:=ac
   obtain ⟨b,off,hA2,hcell⟩:=(HA.o.below hb).at_ (show (gs.map ptr)[k]? = some (ptr gs[k]) by rw [List.getElem?_map,List.getElem?_eq_getElem hlt];rfl);have hC:=HS.o k gs[k] bs[k] (List.getElem?_eq_getElem hlt) (List.getElem?_eq_getElem hltb) wr hb;have hany:=Sv bs hltb hq;have HY:=lh;generalize gs[k]=g at *;generalize bs[k]=bb at *;subst hA2;unfold ptr at hcell hC;have HC:=κ hC;have HQ:=κ hany;have HB:=dm;clear hC hany hq hb hltb;go_wp2_with fail;refine μ HC ?_;rintro e w1 ⟨rfl,hb1⟩;have hb2:=HB.o.trans (hb1.mono HB.o.size);cases bb
   ·go_wp2
    go_roundw
    case rel=>exact ⟨k+1,ac,de,hb2,HQ.o⟩
    case measure=>simp [intOf];omega
   ·have HZ:=κ (HY.o rfl);go_wp2;go_ret;exact ⟨⟨_,rfl,by rw [HZ.o];simp⟩,hb2⟩
  ·have hk2:k=bs.length:=ac
   have HQ:=lj;clear hq hk2;go_wp2;go_ret;exact ⟨⟨-1,rfl,dk⟩,hb⟩
theorem fR (fi:FuncId) (hfi:∀ args w,Sem.run prog (callFunc fi args) w=.ok (.enter fi args) w) (cs:ZV) (A:ZT) (c:Nat) (gs:List Nat) (bs:List Bool) (w:World) (hA:Rds w A (gs.map ptr)) (hl:bs.length=gs.length) (hn:gs.length≤1000) (hS:Jj fi cs w gs bs) :
 Calls prog 52 #[.slice A gs.length c,.func (.func fi) #[] cs] w λe w'=>e=.returned (.bool (bs.any id))∧Below w w w':=by
 have HI:=κ (Dx fi hfi cs A c gs bs w hA hl hn hS);generalize bs.any id=bb at *;clear hA hl hn hS hfi;go_enter func52,ntmps52;go_wp2_with fail;refine μ HI ?_;rintro e w' ⟨⟨i,rfl,hi⟩,hb⟩;go_wp2;go_ret;exact ⟨by first|exact Bg hi|rfl,hb⟩
def nOp:Lp.X->ZS
 | .lit .. => vF
 | .col .. => lH
 | .un op _=>unN op
 | .bin op _ _=>op
 | .isn n _=>isN n
 | .agg op _=>op
 | .cnt=>rP
def nKd (sc:List Tb):Lp.X->Int
 | .lit k _ _ _=>k
 | .col t s=>match dX sc t s with
   | none=>0
   | some p=>p.2
 | .un op _=>(hY op 0).1
 | .bin op _ _=>Ej op
 | .isn _ _=>3
 | .agg op x=>(kS op (aC sc x false).1).1
 | .cnt=>1
def nV:Lp.X->Lp.V
 | .lit k i s b=>⟨k,i,⟨s.toArray⟩,b⟩
 | _=>nul
def nAt (sc:List Tb):Lp.X->Int
 | .col t s=>match dX sc t s with
   | none=>0
   | some p=>(p.1:Nat)
 | _=>0
def nKs:Lp.X->List Lp.X
 | .un _ x=>[x]
 | .bin _ a b=>[a,b]
 | .isn _ x=>[x]
 | .agg _ x=>[x]
 | _=>[]
theorem Dt (x:Lp.X):(nKs x).length≤2:=by cases x<;>simp [nKs]
theorem vV {S:Nat->Prop} {g:Nat} (h:NT S w sc x g):∃ (A:ZT) (c:Nat) (gs:List Nat),w.heap[g]? = some (.cells (ndv (nOp x) (nKd sc x) (nV x) (nAt sc x) A gs.length c) 120 (0,0))∧gs.length=(nKs x).length∧Rds w A (gs.map ptr)∧∀ (i:Nat) (hx:i<(nKs x).length) (hg:i<gs.length),NT S w sc (nKs x)[i] gs[i]:=by
 have one:∀ {A:ZT} {g1:Nat} {y:Lp.X},NT S w sc y g1->∀ (i:Nat) (hx:i<[y].length) (hg:i<[g1].length),NT S w sc [y][i] [g1][i]:=by
  intro A g1 y hy i h1 h2;obtain rfl:i=0:=fu
  exact hy
 have pr:∀ {A:ZT} {gs:List Nat},Prts S w A gs->Rds w A (gs.map ptr):=by
  rintro A gs ⟨b,off,rfl, -,hc⟩;exact .inr ⟨b,off,rfl,hc⟩
 cases x with
 | lit k i s b=>exact ⟨none,0,[],h.2,rfl,.inl rfl,λi hx=>absurd hx (Nat.not_lt_zero _)⟩
 | cnt=>exact ⟨none,0,[],h.2,rfl,.inl rfl,λi hx=>absurd hx (Nat.not_lt_zero _)⟩
 | col t s =>
   obtain ⟨-,p,h1,h2⟩:=h;refine ⟨none,0,[], ?_,rfl,.inl rfl,λi hx=>absurd hx (Nat.not_lt_zero _)⟩;have e1:nKd sc (.col t s)=p.2:=by simp [nKd,h1]
   have e2:nAt sc (.col t s)=((p.1:Nat):Int):=by simp [nAt,h1]
   rw [e1,e2];exact h2
 | un op x=>obtain ⟨-,A,c,g1,h1,h2,h3⟩:=h;exact mp
 | isn n x=>obtain ⟨-,A,c,g1,h1,h2,h3⟩:=h;exact mp
 | agg op x=>obtain ⟨-,A,c,g1,h1,h2,h3⟩:=h;exact mp
 | bin op a b =>
   obtain ⟨-,A,c,g1,g2,h1,h2,h3,h4⟩:=h;refine ⟨A,c,[g1,g2],h1,rfl,pr h2, ?_⟩;intro i h1 h2
   match i,h1 with
   | 0,_=>exact h3
   | 1,_=>exact h4
def aAZ (f:Lp.X->Lp.X->Bool):List Lp.X->List Lp.X->Bool
 | [],[]=>true
 | x::xs,y::ys=>f x y&&aAZ f xs ys
 | _,_=>false
def Ab (op:ZS):Nat:=if op=vF then 0 else if op=lH then 1 else if op=fG∨op=Pu then 2 else if op∈nH then 3 else if op=sIs∨op=lX then 4 else if op∈kG then 5 else 6
def Sg:Lp.X->Nat
 | .lit .. => 0
 | .col .. => 1
 | .un .. => 2
 | .bin .. => 3
 | .isn .. => 4
 | .agg .. => 5
 | .cnt=>6
theorem aAE (h:x.wf):Ab (nOp x)=Sg x:=by
 have hb:∀ o∈nH,Ab o=3:=am
 have ha:∀ o∈kG,Ab o=5:=am
 cases x with
 | lit=>exact (by decide:Ab vF=0)
 | col=>exact (by decide:Ab lH=1)
 | un op x =>
   rcases h.1 with rfl|rfl
   ·exact (by decide:Ab (unN fG)=2)
   ·exact (by decide:Ab (unN [45])=2)
 | bin op a b=>exact hb op h.1
 | isn n x=>cases n;exact (by decide:Ab (isN false)=4);exact (by decide:Ab (isN true)=4)
 | agg op x=>exact ha op h.1
 | cnt=>exact (by decide:Ab rP=6)
theorem Vj (h:bU sc x y=true):Sg x=Sg y:=by
 cases x<;>cases y<;>first|rfl|(simp [bU] at h)
theorem Ps (sc:List Tb):∀ (x y:Lp.X) (g:Bool),bU sc x y=true->aC sc x g=aC sc y g:=by
 intro x
 induction x with
 | lit k i s b=>intro y g h;cases y<;>simp [bU] at h;simp [aC,h]
 | col t s=>intro y g h;cases y<;>simp [bU] at h;simp [aC,h]
 | un op x ih=>intro y g h;cases y<;>simp [bU] at h;simp [aC,h.1,ih _ g h.2]
 | bin op a b iha ihb=>intro y g h;cases y<;>simp [bU] at h;simp [aC,h.1,iha _ g h.2.1,ihb _ g h.2.2]
 | isn n x ih=>intro y g h;cases y<;>simp [bU] at h;simp [aC,ih _ g h.2]
 | agg op x ih=>intro y g h;cases y<;>simp [bU] at h;simp [aC,h.1,ih _ false h.2]
 | cnt=>intro y g h;cases y<;>simp [bU] at h;rfl
def vEq (u v:Lp.V):Bool:=u.k==v.k&&u.i==v.i&&u.s.data.toList==v.s.data.toList&&u.b==v.b
def aGP (sc:List Tb) (x y:Lp.X):Bool:=nOp x==nOp y&&nKd sc x==nKd sc y&&vEq (nV x) (nV y)&&nAt sc x==nAt sc y&&((nKs x).length==(nKs y).length&&aAZ (bU sc) (nKs x) (nKs y))
theorem aHJ {a b:ZS} (ha:a=fG∨a=[45]) (hb:b=fG∨b=[45]):(unN a==unN b)=(a==b):=by
 rcases ha with rfl|rfl<;>rcases hb with rfl|rfl<;>decide
theorem Pt (hx:x.wf) (hy:y.wf) (kx:eW sc x) (ky:eW sc y):bU sc x y=aGP sc x y:=by
 by_cases hc:Sg x=Sg y
 ·cases x<;>cases y<;>first|(simp [Sg] at hc;done)|skip
  case lit k i s b k' i' s' b' =>
   show (k==k'&&i==i'&&s==s'&&b==b')=(vF==vF&&k==k'&&(k==k'&&i==i'&&s==s'&&b==b')&&(0:Int)==0&&true);simp only [beq_self_eq_true,Bool.true_and,Bool.and_true];cases (k==k')<;>simp
  case col t s t' s' =>
   show (dX sc t s==dX sc t' s')=(lH==lH&&nKd sc (.col t s)==nKd sc (.col t' s')&&vEq nul nul&&nAt sc (.col t s)==nAt sc (.col t' s')&&true);obtain ⟨p,hp⟩:=kx;obtain ⟨q,hq⟩:=ky;simp only [nKd,nAt,hp,hq];obtain ⟨p1,p2⟩:=p;obtain ⟨q1,q2⟩:=q;have e0:vEq nul nul=true:=am
   rw [e0];have e1:((p1:Int)==(q1:Int))=(p1==q1):=by
    by_cases h:p1=q1
    ·subst h;simp
    ·rw [η h,η ac]
   have e2:(some (p1,p2)==some (q1,q2))=(p1==q1&&p2==q2):=rfl;rw [e1,e2];simp only [beq_self_eq_true,Bool.true_and,Bool.and_true];cases (p1==q1)<;>cases (p2==q2)<;>rfl
  case un op a op' a' =>
   show (op==op'&&bU sc a a')=(unN op==unN op'&&(hY op 0).1==(hY op' 0).1&&vEq nul nul&&(0:Int)==0&&(true&&(bU sc a a'&&true)));rw [aHJ hx.1 hy.1,show vEq nul nul=true by decide]
   by_cases h:op=op'
   ·subst h;simp
   ·rw [η h];rfl
  case bin op a b op' a' b' =>
   show (op==op'&&(bU sc a a'&&bU sc b b'))=(op==op'&&Ej op==Ej op'&&vEq nul nul&&(0:Int)==0&&(true&&(bU sc a a'&&(bU sc b b'&&true))));rw [show vEq nul nul=true by decide]
   by_cases h:op=op'
   ·subst h;simp
   ·rw [η h];rfl
  case isn n a n' a' =>
   show (n==n'&&bU sc a a')=(isN n==isN n'&&(3:Int)==3&&vEq nul nul&&(0:Int)==0&&(true&&(bU sc a a'&&true)));rw [show vEq nul nul=true by decide,show (isN n==isN n')=(n==n') by cases n<;>cases n'<;>decide];simp
  case agg op a op' a' =>
   show (op==op'&&bU sc a a')=(op==op'&&(kS op (aC sc a false).1).1==(kS op' (aC sc a' false).1).1&&vEq nul nul&&(0:Int)==0&&(true&&(bU sc a a'&&true)));rw [show vEq nul nul=true by decide]
   by_cases h:op=op'
   ·subst h;cases hs:bU sc a a'
    ·simp
    ·rw [Ps sc a a' false hs];simp
   ·rw [η h];rfl
  case cnt=>exact (by decide:true=(rP==rP&&(1:Int)==1&&vEq nul nul&&(0:Int)==0&&(true&&true)))
 ·have h1:bU sc x y=false:=by
   cases h:bU sc x y
   ·rfl
   ·exact absurd (Vj h) hc
  have h2:(nOp x==nOp y)=false:=η λe=>hc (by rw [<-aAE hx, <-aAE hy,e]);rw [h1];unfold aGP;rw [h2];rfl
theorem sX (sc:List Tb):∀ (x:Lp.X) (g:Bool),(aC sc x g).2=0->eW sc x:=by
 intro x
 induction x with
 | lit=>intro _ _;trivial
 | cnt=>intro _ _;trivial
 | col t s =>
   intro g h;show ∃ p,dX sc t s=some p;unfold aC at h
   split at h
   ·exact absurd h am
   ·rename_i p hp;exact ⟨p,hp⟩
 | un op x ih=>intro g h;exact ih g (gV (show (cY (aC sc x g) (hY op)).2=0 from h)).1
 | bin op a b iha ihb =>
   intro g h;obtain ⟨h1,h2, -⟩:=gV (show (cY (aC sc a g) λk=>cY (aC sc b g) (iZ op k)).2=0 from h);exact ⟨iha g h1,ihb g (gV h2).1⟩
 | isn n x ih=>intro g h;exact ih g (gV (show (cY (aC sc x g) λ_=>((3,0):Int×Int)).2=0 from h)).1
 | agg op x ih =>
   intro g h;cases g
   ·exact absurd h (by decide:¬((3:Int)=0))
   ·exact ih false (gV (show (cY (aC sc x false) (kS op)).2=0 from h)).1
theorem Oy:(prog.fieldsOf 58).toList=[{ name := "Kind", type:=56,offset:=0,embedded:=false,tag := "", pkgPath := "", byteOffset:=0 },{ name := "I", type:=2,offset:=1,embedded:=false,tag := "", pkgPath := "", byteOffset:=8 },{ name := "S", type:=9,offset:=2,embedded:=false,tag := "", pkgPath := "", byteOffset:=16 },{ name := "B", type:=4,offset:=3,embedded:=false,tag := "", pkgPath := "", byteOffset:=32 }]:=by
 unfold Program.fieldsOf;rw [underlying58]
theorem aEX (x y:Operand) (xs ys:ZV) (w:World):(eqGuard .eql 58 x y (.agg xs) (.agg ys)).run prog w=.ok () w:=run_eqGuard_agg w _ _ _ _ _ _ aj
theorem aEW (x1 x2 y1 y2:Int) (x3 y3:ByteArray) (x4 y4:Bool) (w:World):(binOp .eql 58 (.agg #[.int .u8 x1,.int .i64 x2,x3,x4]) (.agg #[.int .u8 y1,.int .i64 y2,y3,y4])).run prog w=.ok (.bool (vEq ⟨x1,x2,x3,x4⟩ ⟨y1,y2,y3,y4⟩)) w:=by
 rw [run_eql_struct,show (10000:Nat)=9998+1+1 from rfl,run_equalIn_struct w (9998+1) 58 _ _ aj aj,Oy];have p1:∀ b c d:Value,(part 56 #[.int .u8 x1,b,c,d] 0).run prog w=.ok (.int .u8 x1) w:=λb c d=>aj
 have p1':∀ b c d:Value,(part 56 #[.int .u8 y1,b,c,d] 0).run prog w=.ok (.int .u8 y1) w:=λb c d=>aj
 have p2:∀ a c d:Value,(part 2 #[a,.int .i64 x2,c,d] 1).run prog w=.ok (.int .i64 x2) w:=λa c d=>aj
 have p2':∀ a c d:Value,(part 2 #[a,.int .i64 y2,c,d] 1).run prog w=.ok (.int .i64 y2) w:=λa c d=>aj
 have p3:∀ a b d:Value,(part 9 #[a,b,x3,d] 2).run prog w=.ok (.string x3) w:=λa b d=>aj
 have p3':∀ a b d:Value,(part 9 #[a,b,y3,d] 2).run prog w=.ok (.string y3) w:=λa b d=>aj
 have p4:∀ a b c:Value,(part 4 #[a,b,c,x4] 3).run prog w=.ok (.bool x4) w:=λa b c=>aj
 have p4':∀ a b c:Value,(part 4 #[a,b,c,y4] 3).run prog w=.ok (.bool y4) w:=λa b c=>aj
 have q1:=run_equalIn_int w 9998 56 .u8 .u8 x1 y1 underlying56;have q2:=run_equalIn_int w 9998 2 .i64 .i64 x2 y2 underlying2;have q3:=run_equalIn_string w 9998 9 x3 y3 underlying9;have q4:=run_equalIn_bool' w 9998 4 x4 y4 underlying4;generalize (9998+1:Nat)=d at *;have n1:("Kind" ≠ "_"):=by decide
 have n2:("I" ≠ "_"):=by decide
 have n3:("S" ≠ "_"):=by decide
 have n4:("B" ≠ "_"):=by decide
 rw [ByteArray.toList_eq,ByteArray.toList_eq] at q3;simp only [vEq];generalize (x1==y1)=r1 at *;generalize (x2==y2)=r2 at *;generalize (x3.data.toList==y3.data.toList)=r3 at *;generalize (x4==y4)=r4 at *;cases r1<;>cases r2<;>cases r3<;>cases r4<;>simp [Op.eqFields,p1,p1',p2,p2',p3,p3',p4,p4',q1,q2,q3,q4]
def aKZ (fi:FuncId) (w:World) (gs gs2:List Nat) (bs:List Bool):Prop :=
 ∀ (j:Nat) (g g2:Nat) (b:Bool),gs[j]? = some g->gs2[j]? = some g2->bs[j]? = some b->∀ m,Calls prog fi #[ptr g,ptr g2] (w.drewN m) λe w'=>e=.returned (.bool b)∧∃ n,w'=w.drewN n
theorem Sy (bs:List Bool) (h:k<bs.length) (h1:(bs.take k).all id=true):(bs.take (k+1)).all id=bs[k]:=by
 rw [List.take_succ_eq_append_getElem h,List.all_append,h1];simp
theorem qP {A:ZT} {xs:ZU} (h:Rds w A xs) (m:Nat):Rds (w.drewN m) A xs:=h
theorem Wt {n:Nat} {f:FuncId} {args:ZV} {v:Value} (h:Calls prog f args (w.drewN n) λe w'=>e=.returned v∧∃ m,w'=(w.drewN n).drewN m):Calls prog f args (w.drewN n) λe w'=>e=.returned v∧∃ m,w'=w.drewN m :=
 h.mono λ_ _ ⟨h1,m,h2⟩=>⟨h1,n+m,by rw [h2,World.drewN_drewN]⟩
theorem Ii (fi:FuncId) (hfi:∀ args w,Sem.run prog (callFunc fi args) w=.ok (.enter fi args) w) (A A2:ZT) (c c2 n:Nat) (gs gs2:List Nat) (bs:List Bool) (w:World) (hA:Rds w A (gs.map ptr)) (hA2:Rds w A2 (gs2.map ptr)) (h1:gs.length=n) (h2:gs2.length=n) (hl:bs.length=n) (hn:n≤10) (hS:aKZ fi w gs gs2 bs) :
 Calls prog 146 #[.slice A n c,.slice A2 n c2,.func (.func fi) #[] #[]] w λe w'=>e=.returned (.bool (bs.all id))∧∃ m,w'=w.drewN m:=by
 have HA:=κ (ι hA hA2);have HS:=lf;have hn':(n:Int)≤10:=ac
 have HL:=κ (ι h1 (ι h2 hl));have hnn:((n:Int) !=(n:Int))=false:=aa
 clear hA hA2 hS h1 h2 hl;go_enter func146,ntmps146;go_wp2_with fail
 go_loopw [7,8,9,17] (λ_ _ _ s17 wr=>∃ k m:Nat,k≤n∧s17=.int .i64 k∧(bs.take k).all id=true∧wr=w.drewN m) (λ_ _ _ s17 _=>n-(intOf s17).toNat)
 case atStart=>exact ⟨0,0,Nat.zero_le _,rfl,rfl,rfl⟩
 case round =>
  obtain ⟨k,m,hk,rfl,hq,rfl⟩:=dd
  by_cases hlt:k<n
  ·have hltb:k<bs.length:=qx
   have hg1:k<gs.length:=qx
   have hg2:k<gs2.length:=qx
   obtain ⟨b,off,hAA,hcell⟩:=(qP HA.o.1 m).at_ (show (gs.map ptr)[k]? = some (ptr gs[k]) by rw [List.getElem?_map,List.getElem?_eq_getElem hg1];rfl);obtain ⟨b',off',hAA',hcell'⟩:=(qP HA.o.2 m).at_ (show (gs2.map ptr)[k]? = some (ptr gs2[k]) by rw [List.getElem?_map,List.getElem?_eq_getElem hg2];rfl);have hC:=HS.o k gs[k] gs2[k] bs[k] (List.getElem?_eq_getElem hg1) (List.getElem?_eq_getElem hg2) (List.getElem?_eq_getElem hltb) m;have hall:=Sy bs hltb hq;have HY:=κ (λ(h:bs[k]=false)=>(show bs.all id=false from List.all_eq_false.2 ⟨bs[k],List.getElem_mem hltb,by rw [h];decide⟩));generalize gs[k]=g at *;generalize gs2[k]=g2 at *;generalize bs[k]=bb at *;subst hAA hAA';unfold ptr at hcell hcell' hC;have HC:=κ hC;have HQ:=κ hall;clear hC hall hq hltb hg1 hg2;go_wp2_with fail;refine μ HC ?_;rintro e w1 ⟨rfl,m2,rfl⟩;cases bb
   ·have HZ:=κ (HY.o rfl);go_wp2;go_ret;exact ⟨by rw [HZ.o];rfl,_,rfl⟩
   ·go_wp2
    go_roundw
    case rel=>exact ⟨k+1,m2,ac,de,HQ.o,by trivial⟩
    case measure=>simp [intOf];omega
  ·have hk2:k=bs.length:=qx
   have HQ:=κ (show bs.all id=true by rwa [hk2,List.take_length] at hq);clear hq hk2;go_wp2;go_ret;exact ⟨dk,_,rfl⟩
theorem Rt (A A2:ZT) (c c2 n m:Nat) (f:Value) (w:World) (h:n≠m) :
 Calls prog 146 #[.slice A n c,.slice A2 m c2,f] w λe w'=>e=.returned (.bool false)∧∃ m,w'=w.drewN m:=by
 have e1:((n:Int) !=(m:Int))=true:=by rw [bne,η ac];rfl
 clear h;go_enter func146,ntmps146;go_wp2;go_ret;exact ⟨rfl,0,rfl⟩
attribute [local go_sem] aEX
attribute [-go_sem] run_eql_struct
theorem Pq (g g2:Nat) (o1 o2:ZS) (k1 k2:Int) (v1 v2:Lp.V) (a1 a2:Int) (A A2:ZT) (n c n2 c2:Nat) (be:Bool) (w:World)
 (h1:w.heap[g]? = some (.cells (ndv o1 k1 v1 a1 A n c) 120 (0,0))) (h2:w.heap[g2]? = some (.cells (ndv o2 k2 v2 a2 A2 n2 c2) 120 (0,0)))
 (hE:∀ m,Calls prog 146 #[.slice A n c,.slice A2 n2 c2,.func (.func 103) #[] #[]] (w.drewN m) λe w'=>e=.returned (.bool be)∧∃ n,w'=w.drewN n) :
 Calls prog 103 #[ptr g,ptr g2] w λe w'=>e=.returned (.bool (o1==o2&&k1==k2&&vEq v1 v2&&a1==a2&&be))∧∃ m,w'=w.drewN m:=by
 obtain ⟨x1,x2,x3,x4⟩:=v1;obtain ⟨y1,y2,y3,y4⟩:=v2;have HE:=κ hE;have c1:=β h1;have c2':=β h2;simp only [ndv] at c1 c2';clear hE h1 h2;unfold ptr;cases e1:(o1==o2)
 ·go_enter func103,ntmps103;go_wp2_with fail;go_quiet (fail);go_wp2;go_ret;exact qy
 ·cases e2:(k1==k2)
  ·go_enter func103,ntmps103;go_wp2_with fail;go_quiet (fail);go_wp2;go_ret;exact qy
  ·have HV:=κ (λ(w:World)=>aEW x1 x2 y1 y2 x3 y3 x4 y4 w);cases e3:vEq ⟨x1,x2,x3,x4⟩ ⟨y1,y2,y3,y4⟩
   ·rw [e3] at HV;have hv:=HV.o;go_enter func103,ntmps103;go_wp2_with fail;go_quiet (fail);go_wp2;go_ret;exact qy
   ·rw [e3] at HV;have hv:=HV.o;cases e4:(a1==a2)
    ·go_enter func103,ntmps103;go_wp2_with fail;go_quiet (fail);go_wp2;go_ret;exact qy
    ·go_enter func103,ntmps103;go_wp2_with fail;go_quiet (with_reducible (go_at_call 146;exact HE.o _));go_wp2;go_ret;exact ⟨aa,_,rfl⟩
end Go.Proofs.YtkolcimllghnaaaGreatDoor

namespace Go.Proofs.YtkolcimllghnaaaGreatDoor.Lp
variable{k most:Nat}{l r:ZW}
def eI:ZS:=[44]
def uR:ZS:=[40]
def uQ:ZS:=[41]
def wEq:ZS:=[61]
def Ti:ZS:=[105,110,116,111]
def Cl:ZS:=[118,97,108,117,101,115]
def aHG:ZS:=[115,101,116]
def Ck:ZS:=[119,104,101,114,101]
def vO:ZS:=[105,110,115,101,114,116]
def vN:ZS:=[117,112,100,97,116,101]
def jL {α:Type} (f:ZW->Option (α×ZW)) (most:Nat):Nat->List α->ZW->Option (List α×ZW)
 | 0,_,_=>none
 | k+1,acc,l=>match f l with
   | none=>none
   | some (x,r)=>if isF eI r then (if acc.length+1=most∧1<r.length then none else jL f most k (acc++[x]) r.tail) else some (acc++[x],r)
def dO {α:Type} (f:ZW->Option (α×ZW)) (most:Nat) (l:ZW):Option (List α×ZW):=jL f most (most+1) [] l
def rB (l:ZW):Option (List X×ZW):=match aD uR l with
 | none=>none
 | some r=>match dO (pX 1 0) 8 r with
   | none=>none
   | some (xs,r2)=>(aD uQ r2).map λr3=>(xs,r3)
def yH (l:ZW):Option (ZS×List (List X)×ZW):=match aD Ti l with
 | none=>none
 | some r=>match bB r with
   | none=>none
   | some (t,r2)=>match aD Cl r2 with
     | none=>none
     | some r3=>(dO rB 64 r3).map λp=>(t,p.1,p.2)
def qZ (l:ZW):Option ((ZS×X)×ZW):=match bB l with
 | none=>none
 | some (c,r)=>match aD wEq r with
   | none=>none
   | some r2=>(pX 1 0 r2).map λp=>((c,p.1),p.2)
def whF (l:ZW):Option (Option X×ZW):=if isF Ck l then (pX 1 0 l.tail).map λp=>(some p.1,p.2) else some (none,l)
def wJ (l:ZW):Option (ZS×List (ZS×X)×Option X×ZW):=match bB l with
 | none=>none
 | some (t,r)=>match aD aHG r with
   | none=>none
   | some r2=>match dO qZ 8 r2 with
     | none=>none
     | some (ss,r3)=>(whF r3).map λp=>(t,ss,p.1,p.2)
theorem mF {α:Type} {f:ZW->Option (α×ZW)} {acc:List α} (h:f l=none):jL f most (k+1) acc l=none:=by
 show (match f l with|none=>none|some (x,r)=>_)=_;rw [h]
theorem nW {α:Type} {f:ZW->Option (α×ZW)} {acc:List α} {x:α} (h:f l=some (x,r)) (hc:isF eI r=false):jL f most (k+1) acc l=some (acc++[x],r):=by
 show (match f l with|none=>none|some (x,r)=>if isF eI r then (if acc.length+1=most∧1<r.length then none else jL f most k (acc++[x]) r.tail) else some (acc++[x],r))=_;rw [h];simp only [hc,φ,if_false]
theorem mG {α:Type} {f:ZW->Option (α×ZW)} {acc:List α} {x:α} (h:f l=some (x,r)) (hc:isF eI r=true) (hm:acc.length+1=most) (hr:1<r.length):jL f most (k+1) acc l=none:=by
 show (match f l with|none=>none|some (x,r)=>if isF eI r then (if acc.length+1=most∧1<r.length then none else jL f most k (acc++[x]) r.tail) else some (acc++[x],r))=_;rw [h];simp only [hc,if_true];rw [if_pos ⟨hm,hr⟩]
theorem jY {α:Type} {f:ZW->Option (α×ZW)} {acc:List α} {x:α} (h:f l=some (x,r)) (hc:isF eI r=true) (hm:¬(acc.length+1=most∧1<r.length)):jL f most (k+1) acc l=jL f most k (acc++[x]) r.tail:=by
 show (match f l with|none=>none|some (x,r)=>if isF eI r then (if acc.length+1=most∧1<r.length then none else jL f most k (acc++[x]) r.tail) else some (acc++[x],r))=_;rw [h];simp only [hc,if_true];rw [if_neg hm]
def Am {α:Type} (f:ZW->Option (α×ZW)):Prop:=∀ l x r,f l=some (x,r)->r.length<l.length∧r <:+ l
theorem lQ {α:Type} {f:ZW->Option (α×ZW)} (hf:Am f) (most:Nat):∀ (k:Nat) (acc:List α) (l:ZW) (xs:List α) (r:ZW),jL f most k acc l=some (xs,r)->r.length<l.length∧r <:+ l
 | 0,_,_,_,_,h=>by cases h
 | k+1,acc,l,xs,r,h=>by
   rcases hq:f l with _|⟨x,r1⟩
   ·rw [mF hq] at h;cases h
   ·obtain ⟨a1,a2⟩:=hf l x r1 hq
    by_cases hc:isF eI r1=true
    ·by_cases hm:acc.length+1=most∧1<r1.length
     ·rw [mG hq hc hm.1 hm.2] at h;cases h
     ·rw [jY hq hc hm] at h;obtain ⟨b1,b2⟩:=lQ hf most k _ _ _ _ h;have ht:=aV r1;have:=ht.length_le;exact ⟨ac,(b2.trans ht).trans a2⟩
    ·rw [nW hq mg] at h;injection h with h;injection h with _ h;subst h;exact ⟨a1,a2⟩
theorem wB (lev d:Nat):Am (pX lev d):=λ_ _ _ h=>⟨iL h,iJ h⟩
theorem xM (lev d:Nat):pX lev d []=none:=by
 rcases h:pX lev d [] with _|⟨x,r⟩
 ·rfl
 ·exact absurd (iL h) (Nat.not_lt_zero _)
end Go.Proofs.YtkolcimllghnaaaGreatDoor.Lp

namespace Go.Proofs.YtkolcimllghnaaaGreatDoor
open Lp Go.Proofs.Tryz
open Go.RowKit
variable{P:Nat}{w':World}{J:World->Prop}
def lA {α:Type} (P:Nat) (I:List α->World->Prop) (J:World->Prop) (acc:List α) (q:Option (α×ZW)) (e:Ending) (w':World):Prop:=match q with
 | none=>∃ c,e=aT c∧c≠0∧J w'
 | some (x,r)=>e=.returned (.tuple #[])∧PS w' P r 0∧I (acc++[x]) w'
def EachPost {α:Type} (P:Nat) (I:List α->World->Prop) (J:World->Prop) (q:Option (List α×ZW)) (e:Ending) (w':World):Prop:=match q with
 | none=>∃ c,e=aT c∧c≠0∧J w'
 | some (xs,r)=>e=.returned (.tuple #[])∧PS w' P r 0∧I xs w'
theorem EachPost.no {α:Type} {I:List α->World->Prop} {q:Option (List α×ZW)} {c:Int} (hq:q=none) (hc:c≠0) (h:J w'):EachPost P I J q (aT c) w':=by
 subst hq;exact ⟨c,rfl,hc,h⟩
theorem EachPost.yes {α:Type} {I:List α->World->Prop} {q:Option (List α×ZW)} {xs:List α} {r:ZW} (hq:q=some (xs,r)) (hp:PS w' P r 0) (h:I xs w'):EachPost P I J q (.returned (.tuple #[])) w':=by
 subst hq;exact ⟨rfl,hp,h⟩
theorem aKN {l:ZW} (h:l.length=0):l=[]:=List.eq_nil_of_length_eq_zero h
theorem mE {α:Type} (F:ZW->Option (α×ZW)) (hF:Am F) (hF0:F []=none) (most:Nat) (hm:most≤100) (h1m:1≤most) (fi:FuncId) (hfi:∀ args w,Sem.run prog (callFunc fi args) w=.ok (.enter fi args) w) (caps:ZV) (P:Nat)
 (I:List α->World->Prop) (J:World->Prop) (hIJ:∀ acc w,I acc w->J w) (hJ:∀ w w',J w->But P w w'->J w') (hI:∀ acc w w' l,I acc w->PS w P l 0->But P w w'->I acc w')
 (hf:∀ (acc:List α) (l:ZW) (w:World),acc.length≤most->I acc w->PS w P l 0->Lsane l->Calls prog fi caps w (lA P I J acc (F l)))
 (l:ZW) (w:World) (h0:I [] w) (hp:PS w P l 0) (hs:Lsane l) :
 Calls prog 120 #[P,.int .i64 (most:Nat),.func (.func fi) #[] caps] w (EachPost P I J (dO F most l)):=by
 have HF:=mh;have HX:=κ (ι hF hF0);have HJ:=κ (ι hIJ (ι hJ hI));have hmI:(most:Int)≤100:=ac
 have hmJ:(1:Int)≤most:=ac
 clear hf hF hF0 hIJ hJ hI;go_enter func120,ntmps120;go_wp2_with fail
 go_loopg [6] (most+1) (λgk s6 wr=>∃ (acc:List α) (r:ZW),acc.length≤most∧gk=most+1-acc.length∧s6=.int .i64 ((acc.length:Int)+1)∧(acc.length=most->r=[])∧I acc wr∧PS wr P r 0∧Lsane r∧dO F most l=jL F most (most+1-acc.length) acc r)
 case atStart=>exact ⟨[],l,Nat.zero_le _,rfl,rfl,λh=>by simp at h;omega,h0,hp,hs,rfl⟩
 case round =>
  clear h0 hp hs;obtain ⟨acc,r,ha,rfl,rfl,hend,hi,hpr,hsr,hq⟩:=dd;obtain ⟨n,hn⟩:∃ n,acc.length=n:=cw;have HC:=κ (HF.o acc r wr ha hi hpr hsr);have hk:most+1-acc.length=(most-acc.length)+1:=ac
  rw [hk] at hq;have HQ:=mi;have HE:=κ hend;have HS:=κ hsr;have HN:=κ hn;have haI:(n:Int)≤most:=ac
  have hnI:(0:Int)≤(n:Int):=ac
  rw [hn];clear hq hk hi hpr hsr hend ha hn;go_wp2_with fail;refine μ HC ?_;rintro e w1 hr;rcases hF:F r with _|⟨x,r1⟩
  ·rw [hF] at hr;obtain ⟨c,rfl,hc,hj⟩:=hr;have HP:=κ (EachPost.no (P:=P) (I:=I) (J:=J) (HQ.o.trans (mF hF)) hc hj);clear hF hj hc HC;unfold aT;go_wp2;exact ⟨rfl,HP.o⟩
  ·rw [hF] at hr;obtain ⟨rfl,hp1,hi1⟩:=hr;have HP1:=κ hp1;have HI1:=κ hi1;obtain ⟨a1,a2⟩:=HX.o.1 _ _ _ hF;have hs1:=HS.o.sfx a2;cases hc:isF eI r1
   ·have HIs:=κ (oM P 0 r1 ⟨#[44]⟩ w1 hp1 false hc);have HP:=κ (EachPost.yes (P:=P) (I:=I) (J:=J) (HQ.o.trans (nW hF hc)) hp1 hi1);clear hF hp1 hi1 a1 a2 hs1 hc HC;go_wp2_with fail;refine μ HIs ?_;rintro e w2 ⟨rfl,rfl⟩;go_wp2;go_end0;exact HP.o
   ·have HIs:=κ (oM P 0 r1 ⟨#[44]⟩ w1 hp1 true hc);obtain ⟨Ar,cr,hb,hlc, -⟩:=hp1;have cp:=β hb 0;simp only [γ,δ] at cp;have hrl:1≤r1.length:=by have:=bD hc;omega
    by_cases hlast:n+1=most
    ·have e1:((n:Int)+1==(most:Int))=true:=by rw [beq_iff_eq];omega
     by_cases h2:1<r1.length
     ·have e2:(1:Int)<(r1.length:Int):=ac
      have HP:=κ (EachPost.no (P:=P) (I:=I) (J:=J) (c:=2) (HQ.o.trans (mG hF hc (by rw [HN.o];exact hlast) h2)) am (HJ.o.1 _ _ hi1));generalize r1.length=m1 at *;clear hF hi1 a1 a2 hs1 hc HC hb hlc;go_wp2_with fail;refine μ HIs ?_;rintro e w2 ⟨rfl,rfl⟩;go_wp2_with fail;refine (tD 2 _).mono ?_;rintro e w2 ⟨rfl,rfl⟩;unfold aT;go_wp2;exact ⟨rfl,HP.o⟩
     ·have e2:¬(1:Int)<(r1.length:Int):=ac
      have hr1:r1.length=1:=ac
      have htl:r1.tail=[]:=aKN (by have:=bD hc;omega);have HNd:=κ (bQ P 0 eI r1 w1 HP1.o);have HNF:=mj;have HNX:=κ (HQ.o.trans (jY (k:=most-acc.length) hF hc (λh=>h2 h.2)));have HT:=κ (ι htl hs1.tl);generalize r1.length=m1 at *;clear hF hi1 a1 a2 hs1 hc HC hb hlc htl hr1 h2;go_wp2_with fail;refine μ HIs ?_;rintro e w2 ⟨rfl,rfl⟩;go_wp2_with fail;refine μ HNd ?_;rintro e w3 hnd;obtain ⟨rfl,hb3,hp3⟩:=hnd.yes HNF.o;have HZ:=κ (ι hb3 hp3);clear hnd hb3 hp3 cp HIs HNd;go_wp2
      go_roundg (most+1-(n+1))
      case measure=>(have:=HN.o;omega)
      case rel=>exact ⟨acc++[x],r1.tail,mo,mn,mm,λ_=>HT.o.1,HJ.o.2.2 _ _ _ _ HI1.o HP1.o HZ.o.1,HZ.o.2,HT.o.2,ml⟩
    ·have e1:((n:Int)+1==(most:Int))=false:=gf
     have hlt:n<most:=by
      rcases Nat.lt_or_ge n most with h|h
      ·exact h
      ·have hr0:=HE.o (by have:=HN.o;omega);rw [hr0,HX.o.2] at hF;cases hF
     have HNd:=κ (bQ P 0 eI r1 w1 HP1.o);have HNF:=mj;have HNX:=κ (HQ.o.trans (jY (k:=most-acc.length) hF hc (λh=>hlast (by rw [<-HN.o];exact h.1))));have HT:=κ hs1.tl;clear hF hi1 a1 a2 hs1 hc HC hb hlc;go_wp2_with fail;refine μ HIs ?_;rintro e w2 ⟨rfl,rfl⟩;go_wp2_with fail;refine μ HNd ?_;rintro e w3 hnd;obtain ⟨rfl,hb3,hp3⟩:=hnd.yes HNF.o;have HZ:=κ (ι hb3 hp3);clear hnd hb3 hp3 cp HIs HNd;go_wp2
     go_roundg (most+1-(n+1))
     case measure=>(have:=HN.o;omega)
     case rel=>exact ⟨acc++[x],r1.tail,mo,mn,mm,λh=>by rw [List.length_append,HN.o] at h;simp at h;omega,HJ.o.2.2 _ _ _ _ HI1.o HP1.o HZ.o.1,HZ.o.2,HT.o,ml⟩
