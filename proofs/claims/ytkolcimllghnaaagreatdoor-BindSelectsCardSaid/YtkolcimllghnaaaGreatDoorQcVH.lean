/-
 Contracts. Conditions: those of each.
-/
import Derived.Test.YtkolcimllghnaaaGreatDoorQcGY
import Derived.Laws.StructEq
set_option maxRecDepth 100000
set_option maxHeartbeats 8000000
namespace Go.Proofs.YtkolcimllghnaaaGreatDoor
open Lp Go.Proofs.Tryz
open Go.RowKit
variable{sc:List Tb}{x y:Lp.X}{g:Nat}{S:Nat->Prop}{w:World}
def nOp:Lp.X->ZS
 | .lit .. => vF
 | .col .. => lH
 | .un op _=>unN op
 | .bin op _ _=>op
 | .isn n _=>isN n
 | .agg op _=>op
 | .cnt=>rP
def nKd (sc:List Tb):Lp.X->Int
 | .lit k _ _ _=>k
 | .col t s=>match dX sc t s with
   | none=>0
   | some p=>p.2
 | .un op _=>(hY op 0).1
 | .bin op _ _=>Ej op
 | .isn _ _=>3
 | .agg op x=>(kS op (aC sc x false).1).1
 | .cnt=>1
def nV:Lp.X->Lp.V
 | .lit k i s b=>⟨k,i,⟨s.toArray⟩,b⟩
 | _=>nul
def nAt (sc:List Tb):Lp.X->Int
 | .col t s=>match dX sc t s with
   | none=>0
   | some p=>(p.1:Nat)
 | _=>0
def nKs:Lp.X->List Lp.X
 | .un _ x=>[x]
 | .bin _ a b=>[a,b]
 | .isn _ x=>[x]
 | .agg _ x=>[x]
 | _=>[]
theorem Dt (x:Lp.X):(nKs x).length<=2:=by cases x<;>simp [nKs]
theorem vV (h:NT S w sc x g):∃ (A:ZT) (c:Nat) (gs:List Nat),w.heap[g]? = some (.cells (ndv (nOp x) (nKd sc x) (nV x) (nAt sc x) A gs.length c) 120 (0,0))/\gs.length=(nKs x).length/\Rds w A (gs.map ptr)/\∀ (i:Nat) (hx:i<(nKs x).length) (hg:i<gs.length),NT S w sc (nKs x)[i] gs[i]:=by
 have one:∀ {A:ZT} {g1:Nat} {y:Lp.X},NT S w sc y g1->∀ (i:Nat) (hx:i<[y].length) (hg:i<[g1].length),NT S w sc [y][i] [g1][i]:=by
  intro A g1 y hy i h1 h2;obtain rfl:i=0:=ji
  exact hy
 have pr:∀ {A:ZT} {gs:List Nat},Prts S w A gs->Rds w A (gs.map ptr):=by
  rintro A gs ⟨b,off,rfl, -,hc⟩;exact .inr ⟨b,off,rfl,hc⟩
 cases x with
 | lit k i s b=>exact ⟨none,0,[],h.2,rfl,.inl rfl,λi hx=>absurd hx (Nat.not_lt_zero _)⟩
 | cnt=>exact ⟨none,0,[],h.2,rfl,.inl rfl,λi hx=>absurd hx (Nat.not_lt_zero _)⟩
 | col t s =>
   obtain ⟨-,p,h1,h2⟩:=h;refine ⟨none,0,[], ?_,rfl,.inl rfl,λi hx=>absurd hx (Nat.not_lt_zero _)⟩;have e1:nKd sc (.col t s)=p.2:=by simp [nKd,h1]
   have e2:nAt sc (.col t s)=((p.1:Nat):Int):=by simp [nAt,h1]
   rw [e1,e2];exact h2
 | un op x=>obtain ⟨-,A,c,g1,h1,h2,h3⟩:=h;exact tc
 | isn n x=>obtain ⟨-,A,c,g1,h1,h2,h3⟩:=h;exact tc
 | agg op x=>obtain ⟨-,A,c,g1,h1,h2,h3⟩:=h;exact tc
 | bin op a b =>
   obtain ⟨-,A,c,g1,g2,h1,h2,h3,h4⟩:=h;refine ⟨A,c,[g1,g2],h1,rfl,pr h2, ?_⟩;intro i h1 h2
   match i,h1 with
   | 0,_=>exact h3
   | 1,_=>exact h4
def aAZ (f:Lp.X->Lp.X->Bool):List Lp.X->List Lp.X->Bool
 | [],[]=>true
 | x::xs,y::ys=>f x y&&aAZ f xs ys
 | _,_=>false
def Ab (op:ZS):Nat:=if op=vF then 0 else if op=lH then 1 else if op=fG\/op=Pu then 2 else if op∈nH then 3 else if op=sIs\/op=lX then 4 else if op∈kG then 5 else 6
def Sg:Lp.X->Nat
 | .lit .. => 0
 | .col .. => 1
 | .un .. => 2
 | .bin .. => 3
 | .isn .. => 4
 | .agg .. => 5
 | .cnt=>6
theorem aAE (h:x.wf):Ab (nOp x)=Sg x:=by
 have hb:∀ o∈nH,Ab o=3:=am
 have ha:∀ o∈kG,Ab o=5:=am
 cases x with
 | lit=>exact (by decide:Ab vF=0)
 | col=>exact (by decide:Ab lH=1)
 | un op x =>
   rcases h.1 with rfl|rfl
   ·exact (by decide:Ab (unN fG)=2)
   ·exact (by decide:Ab (unN [45])=2)
 | bin op a b=>exact hb op h.1
 | isn n x=>cases n;exact (by decide:Ab (isN false)=4);exact (by decide:Ab (isN true)=4)
 | agg op x=>exact ha op h.1
 | cnt=>exact (by decide:Ab rP=6)
theorem Vj (h:bU sc x y=true):Sg x=Sg y:=by
 cases x<;>cases y<;>first|rfl|(simp [bU] at h)
theorem Ps (sc:List Tb):∀ (x y:Lp.X) (g:Bool),bU sc x y=true->aC sc x g=aC sc y g:=by
 intro x
 induction x with
 | lit k i s b=>intro y g h;cases y<;>simp [bU] at h;simp [aC,h]
 | col t s=>intro y g h;cases y<;>simp [bU] at h;simp [aC,h]
 | un op x ih=>intro y g h;cases y<;>simp [bU] at h;simp [aC,h.1,ih _ g h.2]
 | bin op a b iha ihb=>intro y g h;cases y<;>simp [bU] at h;simp [aC,h.1,iha _ g h.2.1,ihb _ g h.2.2]
 | isn n x ih=>intro y g h;cases y<;>simp [bU] at h;simp [aC,ih _ g h.2]
 | agg op x ih=>intro y g h;cases y<;>simp [bU] at h;simp [aC,h.1,ih _ false h.2]
 | cnt=>intro y g h;cases y<;>simp [bU] at h;rfl
def vEq (u v:Lp.V):Bool:=u.k==v.k&&u.i==v.i&&u.s.data.toList==v.s.data.toList&&u.b==v.b
def aGP (sc:List Tb) (x y:Lp.X):Bool:=nOp x==nOp y&&nKd sc x==nKd sc y&&vEq (nV x) (nV y)&&nAt sc x==nAt sc y&&((nKs x).length==(nKs y).length&&aAZ (bU sc) (nKs x) (nKs y))
theorem aHJ {a b:ZS} (ha:a=fG\/a=[45]) (hb:b=fG\/b=[45]):(unN a==unN b)=(a==b):=by
 rcases ha with rfl|rfl<;>rcases hb with rfl|rfl<;>decide
theorem Pt (hx:x.wf) (hy:y.wf) (kx:eW sc x) (ky:eW sc y):bU sc x y=aGP sc x y:=by
 by_cases hc:Sg x=Sg y
 ·cases x<;>cases y<;>first|(simp [Sg] at hc;done)|skip
  case lit k i s b k' i' s' b' =>
   show (k==k'&&i==i'&&s==s'&&b==b')=(vF==vF&&k==k'&&(k==k'&&i==i'&&s==s'&&b==b')&&(0:Int)==0&&true);simp only [beq_self_eq_true,Bool.true_and,Bool.and_true];cases (k==k')<;>simp
  case col t s t' s' =>
   show (dX sc t s==dX sc t' s')=(lH==lH&&nKd sc (.col t s)==nKd sc (.col t' s')&&vEq nul nul&&nAt sc (.col t s)==nAt sc (.col t' s')&&true);obtain ⟨p,hp⟩:=kx;obtain ⟨q,hq⟩:=ky;simp only [nKd,nAt,hp,hq];obtain ⟨p1,p2⟩:=p;obtain ⟨q1,q2⟩:=q;have e0:vEq nul nul=true:=am
   rw [e0];have e1:((p1:Int)==(q1:Int))=(p1==q1):=by
    by_cases h:p1=q1
    ·subst h;simp
    ·rw [η h,η ac]
   have e2:(some (p1,p2)==some (q1,q2))=(p1==q1&&p2==q2):=rfl;rw [e1,e2];simp only [beq_self_eq_true,Bool.true_and,Bool.and_true];cases (p1==q1)<;>cases (p2==q2)<;>rfl
  case un op a op' a' =>
   show (op==op'&&bU sc a a')=(unN op==unN op'&&(hY op 0).1==(hY op' 0).1&&vEq nul nul&&(0:Int)==0&&(true&&(bU sc a a'&&true)));rw [aHJ hx.1 hy.1,show vEq nul nul=true by decide]
   by_cases h:op=op'
   ·subst h;simp
   ·rw [η h];rfl
  case bin op a b op' a' b' =>
   show (op==op'&&(bU sc a a'&&bU sc b b'))=(op==op'&&Ej op==Ej op'&&vEq nul nul&&(0:Int)==0&&(true&&(bU sc a a'&&(bU sc b b'&&true))));rw [show vEq nul nul=true by decide]
   by_cases h:op=op'
   ·subst h;simp
   ·rw [η h];rfl
  case isn n a n' a' =>
   show (n==n'&&bU sc a a')=(isN n==isN n'&&(3:Int)==3&&vEq nul nul&&(0:Int)==0&&(true&&(bU sc a a'&&true)));rw [show vEq nul nul=true by decide,show (isN n==isN n')=(n==n') by cases n<;>cases n'<;>decide];simp
  case agg op a op' a' =>
   show (op==op'&&bU sc a a')=(op==op'&&(kS op (aC sc a false).1).1==(kS op' (aC sc a' false).1).1&&vEq nul nul&&(0:Int)==0&&(true&&(bU sc a a'&&true)));rw [show vEq nul nul=true by decide]
   by_cases h:op=op'
   ·subst h;cases hs:bU sc a a'
    ·simp
    ·rw [Ps sc a a' false hs];simp
   ·rw [η h];rfl
  case cnt=>exact (by decide:true=(rP==rP&&(1:Int)==1&&vEq nul nul&&(0:Int)==0&&(true&&true)))
 ·have h1:bU sc x y=false:=by
   cases h:bU sc x y
   ·rfl
   ·exact absurd (Vj h) hc
  have h2:(nOp x==nOp y)=false:=η λe=>hc (by rw [<-aAE hx, <-aAE hy,e]);rw [h1];unfold aGP;rw [h2];rfl
theorem sX (sc:List Tb):∀ (x:Lp.X) (g:Bool),(aC sc x g).2=0->eW sc x:=by
 intro x
 induction x with
 | lit=>intro _ _;trivial
 | cnt=>intro _ _;trivial
 | col t s =>
   intro g h;show ∃ p,dX sc t s=some p;unfold aC at h
   split at h
   ·exact absurd h am
   ·rename_i p hp;exact ⟨p,hp⟩
 | un op x ih=>intro g h;exact ih g (gV (show (cY (aC sc x g) (hY op)).2=0 from h)).1
 | bin op a b iha ihb =>
   intro g h;obtain ⟨h1,h2, -⟩:=gV (show (cY (aC sc a g) λk=>cY (aC sc b g) (iZ op k)).2=0 from h);exact ⟨iha g h1,ihb g (gV h2).1⟩
 | isn n x ih=>intro g h;exact ih g (gV (show (cY (aC sc x g) λ_=>((3,0):Int×Int)).2=0 from h)).1
 | agg op x ih =>
   intro g h;cases g
   ·exact absurd h (by decide:¬((3:Int)=0))
   ·exact ih false (gV (show (cY (aC sc x false) (kS op)).2=0 from h)).1
theorem Oy:(prog.fieldsOf 58).toList=[{ name := "Kind", type:=56,offset:=0,embedded:=false,tag := "", pkgPath := "", byteOffset:=0 },{ name := "I", type:=2,offset:=1,embedded:=false,tag := "", pkgPath := "", byteOffset:=8 },{ name := "S", type:=9,offset:=2,embedded:=false,tag := "", pkgPath := "", byteOffset:=16 },{ name := "B", type:=4,offset:=3,embedded:=false,tag := "", pkgPath := "", byteOffset:=32 }]:=by
 unfold Program.fieldsOf;rw [underlying58]
theorem aEX (x y:Operand) (xs ys:ZV) (w:World):(eqGuard .eql 58 x y (.agg xs) (.agg ys)).run prog w=.ok () w:=run_eqGuard_agg w _ _ _ _ _ _ aj
theorem aEW (x1 x2 y1 y2:Int) (x3 y3:ByteArray) (x4 y4:Bool) (w:World):(binOp .eql 58 (.agg #[.int .u8 x1,.int .i64 x2,x3,x4]) (.agg #[.int .u8 y1,.int .i64 y2,y3,y4])).run prog w=.ok (.bool (vEq ⟨x1,x2,x3,x4⟩ ⟨y1,y2,y3,y4⟩)) w:=by
 rw [run_eql_struct,show (10000:Nat)=9998+1+1 from rfl,run_equalIn_struct w (9998+1) 58 _ _ aj aj,Oy];have p1:∀ b c d:Value,(part 56 #[.int .u8 x1,b,c,d] 0).run prog w=.ok (.int .u8 x1) w:=λb c d=>aj
 have p1':∀ b c d:Value,(part 56 #[.int .u8 y1,b,c,d] 0).run prog w=.ok (.int .u8 y1) w:=λb c d=>aj
 have p2:∀ a c d:Value,(part 2 #[a,.int .i64 x2,c,d] 1).run prog w=.ok (.int .i64 x2) w:=λa c d=>aj
 have p2':∀ a c d:Value,(part 2 #[a,.int .i64 y2,c,d] 1).run prog w=.ok (.int .i64 y2) w:=λa c d=>aj
 have p3:∀ a b d:Value,(part 9 #[a,b,x3,d] 2).run prog w=.ok (.string x3) w:=λa b d=>aj
 have p3':∀ a b d:Value,(part 9 #[a,b,y3,d] 2).run prog w=.ok (.string y3) w:=λa b d=>aj
 have p4:∀ a b c:Value,(part 4 #[a,b,c,x4] 3).run prog w=.ok (.bool x4) w:=λa b c=>aj
 have p4':∀ a b c:Value,(part 4 #[a,b,c,y4] 3).run prog w=.ok (.bool y4) w:=λa b c=>aj
 have q1:=run_equalIn_int w 9998 56 .u8 .u8 x1 y1 underlying56;have q2:=run_equalIn_int w 9998 2 .i64 .i64 x2 y2 underlying2;have q3:=run_equalIn_string w 9998 9 x3 y3 underlying9;have q4:=run_equalIn_bool' w 9998 4 x4 y4 underlying4;generalize (9998+1:Nat)=d at *;have n1:("Kind" ≠ "_"):=by decide
 have n2:("I" ≠ "_"):=by decide
 have n3:("S" ≠ "_"):=by decide
 have n4:("B" ≠ "_"):=by decide
 rw [ByteArray.toList_eq,ByteArray.toList_eq] at q3;simp only [vEq];generalize (x1==y1)=r1 at *;generalize (x2==y2)=r2 at *;generalize (x3.data.toList==y3.data.toList)=r3 at *;generalize (x4==y4)=r4 at *;cases r1<;>cases r2<;>cases r3<;>cases r4<;>simp [Op.eqFields,p1,p1',p2,p2',p3,p3',p4,p4',q1,q2,q3,q4]
def aKZ (fi:FuncId) (w:World) (gs gs2:List Nat) (bs:List Bool):Prop :=
 ∀ (j:Nat) (g g2:Nat) (b:Bool),gs[j]? = some g->gs2[j]? = some g2->bs[j]? = some b->∀ m,Calls prog fi #[ptr g,ptr g2] (w.drewN m) λe w'=>e=.returned (.bool b)/\∃ n,w'=w.drewN n
theorem Sy (bs:List Bool) {k:Nat} (h:k<bs.length) (h1:(bs.take k).all id=true):(bs.take (k+1)).all id=bs[k]:=by
 rw [List.take_succ_eq_append_getElem h,List.all_append,h1];simp
theorem qP {A:ZT} {xs:ZU} (h:Rds w A xs) (m:Nat):Rds (w.drewN m) A xs:=h
theorem Wt {n:Nat} {f:FuncId} {args:ZV} {v:Value} (h:Calls prog f args (w.drewN n) λe w'=>e=.returned v/\∃ m,w'=(w.drewN n).drewN m):Calls prog f args (w.drewN n) λe w'=>e=.returned v/\∃ m,w'=w.drewN m :=
 h.mono λ_ _ ⟨h1,m,h2⟩=>⟨h1,n+m,by rw [h2,World.drewN_drewN]⟩
theorem Ii (fi:FuncId) (hfi:∀ args w,Sem.run prog (callFunc fi args) w=.ok (.enter fi args) w) (A A2:ZT) (c c2 n:Nat) (gs gs2:List Nat) (bs:List Bool) (w:World) (hA:Rds w A (gs.map ptr)) (hA2:Rds w A2 (gs2.map ptr)) (h1:gs.length=n) (h2:gs2.length=n) (hl:bs.length=n) (hn:n<=10) (hS:aKZ fi w gs gs2 bs) :
 Calls prog 146 #[.slice A n c,.slice A2 n c2,.func (.func fi) #[] #[]] w λe w'=>e=.returned (.bool (bs.all id))/\∃ m,w'=w.drewN m:=by
 have HA:=κ (ι hA hA2);have HS:=ma;have hn':(n:Int)<=10:=ac
 have HL:=κ (ι h1 (ι h2 hl));have hnn:((n:Int) !=(n:Int))=false:=aa
 clear hA hA2 hS h1 h2 hl;go_enter func146,ntmps146;go_wp2_with fail
 go_loopw [7,8,9,17] (λ_ _ _ s17 wr=>∃ k m:Nat,k<=n/\s17=.int .i64 k/\(bs.take k).all id=true/\wr=w.drewN m) (λ_ _ _ s17 _=>n-(intOf s17).toNat)
 case atStart=>exact ⟨0,0,Nat.zero_le _,rfl,rfl,rfl⟩
 case round =>
  obtain ⟨k,m,hk,rfl,hq,rfl⟩:=de
  by_cases hlt:k<n
  ·have hltb:k<bs.length:=td
   have hg1:k<gs.length:=td
   have hg2:k<gs2.length:=td
   obtain ⟨b,off,hAA,hcell⟩:=(qP HA.o.1 m).at_ (show (gs.map ptr)[k]? = some (ptr gs[k]) by rw [List.getElem?_map,List.getElem?_eq_getElem hg1];rfl);obtain ⟨b',off',hAA',hcell'⟩:=(qP HA.o.2 m).at_ (show (gs2.map ptr)[k]? = some (ptr gs2[k]) by rw [List.getElem?_map,List.getElem?_eq_getElem hg2];rfl);have hC:=HS.o k gs[k] gs2[k] bs[k] (List.getElem?_eq_getElem hg1) (List.getElem?_eq_getElem hg2) (List.getElem?_eq_getElem hltb) m;have hall:=Sy bs hltb hq;have HY:=κ (λ(h:bs[k]=false)=>(show bs.all id=false from List.all_eq_false.2 ⟨bs[k],List.getElem_mem hltb,by rw [h];decide⟩));generalize gs[k]=g at *;generalize gs2[k]=g2 at *;generalize bs[k]=bb at *;subst hAA hAA';unfold ptr at hcell hcell' hC;have HC:=κ hC;have HQ:=κ hall;clear hC hall hq hltb hg1 hg2;go_wp2_with fail;refine μ HC ?_;rintro e w1 ⟨rfl,m2,rfl⟩;cases bb
   ·have HZ:=κ (HY.o rfl);go_wp2;go_ret;exact ⟨by rw [HZ.o];rfl,_,rfl⟩
   ·go_wp2
    go_roundw
    case rel=>exact ⟨k+1,m2,ac,dg,HQ.o,by trivial⟩
    case measure=>simp [intOf];omega
  ·have hk2:k=bs.length:=td
   have HQ:=κ (show bs.all id=true by rwa [hk2,List.take_length] at hq);clear hq hk2;go_wp2;go_ret;exact ⟨dl,_,rfl⟩
theorem Rt (A A2:ZT) (c c2 n m:Nat) (f:Value) (w:World) (h:n≠m) :
 Calls prog 146 #[.slice A n c,.slice A2 m c2,f] w λe w'=>e=.returned (.bool false)/\∃ m,w'=w.drewN m:=by
 have e1:((n:Int) !=(m:Int))=true:=by rw [bne,η ac];rfl
 clear h;go_enter func146,ntmps146;go_wp2;go_ret;exact ⟨rfl,0,rfl⟩
attribute [local go_sem] aEX
attribute [-go_sem] run_eql_struct
theorem Pq (g g2:Nat) (o1 o2:ZS) (k1 k2:Int) (v1 v2:Lp.V) (a1 a2:Int) (A A2:ZT) (n c n2 c2:Nat) (be:Bool) (w:World)
 (h1:w.heap[g]? = some (.cells (ndv o1 k1 v1 a1 A n c) 120 (0,0))) (h2:w.heap[g2]? = some (.cells (ndv o2 k2 v2 a2 A2 n2 c2) 120 (0,0)))
 (hE:∀ m,Calls prog 146 #[.slice A n c,.slice A2 n2 c2,.func (.func 103) #[] #[]] (w.drewN m) λe w'=>e=.returned (.bool be)/\∃ n,w'=w.drewN n) :
 Calls prog 103 #[ptr g,ptr g2] w λe w'=>e=.returned (.bool (o1==o2&&k1==k2&&vEq v1 v2&&a1==a2&&be))/\∃ m,w'=w.drewN m:=by
 obtain ⟨x1,x2,x3,x4⟩:=v1;obtain ⟨y1,y2,y3,y4⟩:=v2;have HE:=κ hE;have c1:=β h1;have c2':=β h2;simp only [ndv] at c1 c2';clear hE h1 h2;unfold ptr;cases e1:(o1==o2)
 ·go_enter func103,ntmps103;go_wp2_with fail;go_quiet (fail);go_wp2;go_ret;exact tf
 ·cases e2:(k1==k2)
  ·go_enter func103,ntmps103;go_wp2_with fail;go_quiet (fail);go_wp2;go_ret;exact tf
  ·have HV:=κ (λ(w:World)=>aEW x1 x2 y1 y2 x3 y3 x4 y4 w);cases e3:vEq ⟨x1,x2,x3,x4⟩ ⟨y1,y2,y3,y4⟩
   ·rw [e3] at HV;have hv:=HV.o;go_enter func103,ntmps103;go_wp2_with fail;go_quiet (fail);go_wp2;go_ret;exact tf
   ·rw [e3] at HV;have hv:=HV.o;cases e4:(a1==a2)
    ·go_enter func103,ntmps103;go_wp2_with fail;go_quiet (fail);go_wp2;go_ret;exact tf
    ·go_enter func103,ntmps103;go_wp2_with fail;go_quiet (with_reducible (go_at_call 146;exact HE.o _));go_wp2;go_ret;exact ⟨aa,_,rfl⟩
def Mj (sc:List Tb) (x:Lp.X):Prop:=x.wf->eW sc x->∀ y:Lp.X,y.wf->eW sc y->∀ (S S':Nat->Prop) (w:World) (g g':Nat),NT S w sc x g->NT S' w sc y g'->Calls prog 103 #[ptr g,ptr g'] w λe w'=>e=.returned (.bool (bU sc x y))/\∃ m,w'=w.drewN m
theorem Gy (h:NT S w sc x g) (m:Nat):NT S (w.drewN m) sc x g:=NT.turn (w:=w) (w':=w.drewN m) (λ_ h _=>⟨h,rfl⟩) h
theorem Jg {f:Lp.X->Lp.X->Bool}:∀ {xs ys:List Lp.X},xs.length=ys.length->aAZ f xs ys=(List.zipWith f xs ys).all id
 | [],[],_=>rfl
 | x::xs,[],h=>au
 | [],y::ys,h=>au
 | x::xs,y::ys,h=>by
   show (f x y&&aAZ f xs ys)=_;rw [Jg (f:=f) (xs:=xs) (ys:=ys) an];simp
theorem Lj (hw:x.wf) (hk:eW sc x):∀ z∈nKs x,z.wf/\eW sc z:=by
 cases x with
 | lit=>intro z h;cases h
 | col=>intro z h;cases h
 | cnt=>intro z h;cases h
 | un op x=>intro z h;rw [List.mem_singleton.1 h];exact ⟨hw.2,hk⟩
 | isn n x=>intro z h;rw [List.mem_singleton.1 h];exact ⟨hw,hk⟩
 | agg op x=>intro z h;rw [List.mem_singleton.1 h];exact ⟨hw.2,hk⟩
 | bin op a b =>
   intro z h;rcases List.mem_cons.1 h with rfl|h
   ·exact ⟨hw.2.1,hk.1⟩
   ·rw [List.mem_singleton.1 h];exact ⟨hw.2.2,hk.2⟩
theorem oA (ih:∀ z∈nKs x,Mj sc z):Mj sc x:=by
 intro hx kx y hy ky S S' w g g' h h';obtain ⟨A,c,gs,hc,hl,hr,hn⟩:=vV h;obtain ⟨A',c',gs',hc',hl',hr',hn'⟩:=vV h';rw [Pt hx hy kx ky];have hE:∀ m,Calls prog 146 #[.slice A gs.length c,.slice A' gs'.length c',.func (.func 103) #[] #[]] (w.drewN m) λe w'=>e=.returned (.bool ((nKs x).length==(nKs y).length&&aAZ (bU sc) (nKs x) (nKs y)))/\∃ n,w'=w.drewN n:=by
  intro m;refine Wt ?_
  by_cases hlen:(nKs x).length=(nKs y).length
  ·have hz:(List.zipWith (bU sc) (nKs x) (nKs y)).length=(nKs x).length:=by rw [List.length_zipWith, <-hlen,Nat.min_self]
   have h0:=Ii 103 (λ_ _=>rfl) A A' c c' (nKs x).length gs gs' (List.zipWith (bU sc) (nKs x) (nKs y)) (w.drewN m) (qP hr m) (qP hr' m) hl (hl'.trans hlen.symm) hz tg ?_
   ·rw [<-Jg hlen] at h0;rw [hl,hl', <-hlen,beq_self_eq_true,Bool.true_and];exact h0
   ·intro j a a' b ha ha' hb m2;obtain ⟨h1,h2⟩:=List.getElem?_eq_some_iff.1 ha;obtain ⟨h1',h2'⟩:=List.getElem?_eq_some_iff.1 ha';have j1:j<(nKs x).length:=ac
    have j2:j<(nKs y).length:=ac
    obtain ⟨h3,h4⟩:=List.getElem?_eq_some_iff.1 hb;rw [List.getElem_zipWith] at h4;subst h2 h2' h4;have kz:=Lj hx kx _ (List.getElem_mem j1);have kz':=Lj hy ky _ (List.getElem_mem j2);rw [World.drewN_drewN];have:=ih _ (List.getElem_mem j1) kz.1 kz.2 _ kz'.1 kz'.2 S S' (w.drewN (m+m2)) gs[j] gs'[j] (Gy (hn j j1 h1) _) (Gy (hn' j j2 h1') _);exact this.mono λe w' ⟨e1,n,e2⟩=>⟨e1,m2+n,by rw [e2,World.drewN_drewN,World.drewN_drewN,Nat.add_assoc]⟩
  ·rw [η hlen,Bool.false_and];exact Rt A A' c c' gs.length gs'.length _ (w.drewN m) ac
 exact Pq g g' (nOp x) (nOp y) (nKd sc x) (nKd sc y) (nV x) (nV y) (nAt sc x) (nAt sc y) A A' gs.length c gs'.length c' _ w hc hc' hE
theorem Vk (sc:List Tb):∀ x:Lp.X,Mj sc x:=by
 intro x
 induction x with
 | lit=>exact oA λz h=>by cases h
 | col=>exact oA λz h=>by cases h
 | cnt=>exact oA λz h=>by cases h
 | un op x ih=>exact oA λz h=>th
 | isn n x ih=>exact oA λz h=>th
 | agg op x ih=>exact oA λz h=>th
 | bin op a b iha ihb =>
   refine oA λz h => ?_;rcases List.mem_cons.1 h with rfl|h
   ·exact iha
   ·rw [List.mem_singleton.1 h];exact ihb
end Go.Proofs.YtkolcimllghnaaaGreatDoor

namespace Go.Proofs.YtkolcimllghnaaaGreatDoor.Lp
variable{sc:List Tb}
def En:X->Bool
 | .agg .. => true
 | .cnt=>true
 | _=>false
def jC:X->Bool
 | .un _ x=>jC x
 | .isn _ x=>jC x
 | .bin _ a b=>jC a||jC b
 | .agg .. => true
 | .cnt=>true
 | _=>false
def setX (sc:List Tb) (gs:List X):X->Bool
 | .lit .. => true
 | .col t s=>gs.any λg=>bU sc g (.col t s)
 | .un op x=>(gs.any λg=>bU sc g (.un op x))||setX sc gs x
 | .isn n x=>(gs.any λg=>bU sc g (.isn n x))||setX sc gs x
 | .bin op a b=>(gs.any λg=>bU sc g (.bin op a b))||(setX sc gs a&&setX sc gs b)
 | .agg .. => true
 | .cnt=>true
def jE (sc:List Tb):List (X×ZS):=sc.flatMap λtb=>tb.cs.map λc=>(.col tb.n c.n,[])
def aY (sc:List Tb) (s:Sel):List (X×ZS):=if s.items.isEmpty then jE sc else s.items
def dJ (sc:List Tb) (s:Sel):List X:=(aY sc s).map (·.1)++s.order.map (·.1)
def mL (sc:List Tb) (s:Sel):Bool := !s.group.isEmpty||(dJ sc s).any jC
def Mm:ZS:=[101,120,112,114]
def Mo:ZS:=[99,111,117,110,116]
def aEE (op:ZS):ZS:=if op=aJ then Mo else if op=dZ then [115,117,109] else if op=fT then [109,105,110] else [109,97,120]
def Bv (p:X×ZS):ZS:=if p.2=[] then (match p.1 with
 | .col _ s=>s
 | .agg op _=>aEE op
 | .cnt=>Mo
 | _=>Mm) else p.2
def oJ (sc:List Tb):Bool:=match sc with
 | [a,b]=>a.n==b.n
 | _=>false
def nA (sc:List Tb):Prop:=sc.length<=2/\∀ tb∈sc,tb.cs.length<=8/\Ew tb.cs/\1<=tb.n.length/\tb.n.length<=20
theorem Cc (s:ZS):∀ (a:Nat) (l m:List Col),cJ s a (l++m)=cJ s a l++cJ s (a+l.length) m
 | a,[],m=>bu
 | a,c::l,m=>by
   show _++cJ s (a+1) (l++m)=(_++cJ s (a+1) l)++_;rw [Cc s (a+1) l m,List.append_assoc];simp [Nat.add_assoc,Nat.add_comm 1]
theorem Rh (s:ZS) (a:Nat) (l m:List Col) (c:Col) (h:aGZ (l++c::m)) (hs:s=c.n):cJ s a (l++c::m)=[(a+l.length,c.k)]:=by
 subst hs;obtain ⟨-,h2,h3⟩:=List.pairwise_append.1 h;obtain ⟨h4, -⟩:=List.pairwise_cons.1 h2;rw [Cc,rX (s:=c.n) a λd hd e=>h3 d hd c aa e.symm];show []++((if c.n==c.n then [(a+l.length,c.k)] else [])++cJ c.n (a+l.length+1) m)=_;rw [rX (s:=c.n) _ λd hd e=>h4 d hd e];simp
theorem lP (tb:Tb):jJ tb.n tb=true:=by simp [jJ]
theorem vY {n:ZS} {tb:Tb} (hn:n≠[]) (h:tb.n≠n):jJ n tb=false:=by simp [jJ,hn,h]
theorem Ax (hok:nA sc) (hd:oJ sc=false):∀ (pre post:List Tb) (tb:Tb) (l m:List Col) (c:Col),sc=pre++tb::post->tb.cs=l++c::m->dX sc tb.n c.n=some (bY pre+l.length,c.k):=by
 intro pre post tb l m c hsc hcs;obtain ⟨-,hD,hn1, -⟩:=hok.2 tb (by rw [hsc];simp);have hnn:tb.n≠[]:=by
  intro e;rw [e] at hn1;simp at hn1
 have hc:∀ a,cJ c.n a tb.cs=[(a+l.length,c.k)]:=λa=>by rw [hcs];exact Rh c.n a l m c (hcs▸hD.1) rfl
 have hl:pre.length+post.length<=1:=by
  have:=hok.1;rw [hsc] at this;simp at this;omega
 have fin:∀ a,gT tb.n c.n 0 sc=[(a+l.length,c.k)]->fV tb.n sc=1->a=bY pre->dX sc tb.n c.n=some (bY pre+l.length,c.k):=by
  intro a h1 h2 h3;unfold dX;rw [h1,h2,if_pos ⟨rfl,.inr rfl⟩,h3];rfl
 rcases pre with _|⟨p,_|⟨p2,pre⟩⟩
 ·rcases post with _|⟨p,_|⟨p2,post⟩⟩
  ·refine fin 0 ?_ ?_ rfl
   ·rw [hsc];show (if jJ tb.n tb then cJ c.n 0 tb.cs else [])++[]=_;rw [lP,if_pos rfl,hc,List.append_nil]
   ·rw [hsc];simp [fV,lP]
  ·rw [hsc] at hd;have hne:p.n≠tb.n:=by
    have:(tb.n==p.n)=false:=hd;intro e;rw [e] at this;simp at this
   refine fin 0 ?_ ?_ rfl
   ·rw [hsc];show (if jJ tb.n tb then cJ c.n 0 tb.cs else [])++((if jJ tb.n p then cJ c.n (0+tb.cs.length) p.cs else [])++[])=_;rw [vY hnn hne,lP,if_pos rfl,hc];simp
   ·rw [hsc];simp [fV,lP,vY hnn hne]
  ·simp at hl
 ·rcases post with _|⟨p2,post⟩
  ·rw [hsc] at hd;have hne:p.n≠tb.n:=by
    have:(p.n==tb.n)=false:=hd
    simpa using this
   refine fin (bY [p]) ?_ ?_ rfl
   ·rw [hsc];show (if jJ tb.n p then cJ c.n 0 p.cs else [])++((if jJ tb.n tb then cJ c.n (0+p.cs.length) tb.cs else [])++[])=_;rw [vY hnn hne,lP,if_pos rfl,hc,List.append_nil];simp [bY]
   ·rw [hsc];simp [fV,lP,vY hnn hne]
  ·simp at hl;omega
 ·simp at hl;omega
theorem Aw (hok:nA sc) (hd:oJ sc=false):∀ p∈jE sc,(aC sc p.1 true).2=0/\p.1.wf/\p.1.size<=2000:=by
 intro p hp;obtain ⟨tb,h1,h2⟩:=tj;obtain ⟨c,h3,h4⟩:=ti;subst h4;obtain ⟨pre,post,h5⟩:=List.append_of_mem h1;obtain ⟨l,m,h6⟩:=List.append_of_mem h3;have hf:=Ax hok hd pre post tb l m c h5 h6;obtain ⟨-,hD, -,hn2⟩:=hok.2 tb h1;refine ⟨?_,⟨hn2,(hD.2 c h3).2⟩,by simp [X.size]⟩;show (match dX sc tb.n c.n with
  | none=>((0,6):Int×Int)
  | some p=>(p.2,0)).2=0
 rw [hf]
theorem lW (hok:nA sc):(jE sc).length<=16:=by
 unfold jE;obtain ⟨h1,h2⟩:=hok
 match sc,h1,h2 with
 | [],_,_=>simp
 | [a],_,h2=>have:=(h2 a aa).1;simp;omega
 | [a,b],_,h2=>have:=(h2 a aa).1;have:=(h2 b aa).1;simp;omega
