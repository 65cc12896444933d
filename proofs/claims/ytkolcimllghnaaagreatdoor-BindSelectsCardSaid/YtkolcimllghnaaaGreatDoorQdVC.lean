/-
 Contracts. Conditions: those of each.
-/
import Derived.Test.YtkolcimllghnaaaGreatDoorQdVN
set_option maxRecDepth 100000
set_option maxHeartbeats 8000000
namespace Go.Proofs.YtkolcimllghnaaaGreatDoor.Lp
variable{sc:List Tb}
def En:X->Bool
 | .agg .. => true
 | .cnt=>true
 | _=>false
def jC:X->Bool
 | .un _ x=>jC x
 | .isn _ x=>jC x
 | .bin _ a b=>jC a||jC b
 | .agg .. => true
 | .cnt=>true
 | _=>false
def setX (sc:List Tb) (gs:List X):X->Bool
 | .lit .. => true
 | .col t s=>gs.any λg=>bU sc g (.col t s)
 | .un op x=>(gs.any λg=>bU sc g (.un op x))||setX sc gs x
 | .isn n x=>(gs.any λg=>bU sc g (.isn n x))||setX sc gs x
 | .bin op a b=>(gs.any λg=>bU sc g (.bin op a b))||(setX sc gs a&&setX sc gs b)
 | .agg .. => true
 | .cnt=>true
def jE (sc:List Tb):List (X×ZS):=sc.flatMap λtb=>tb.cs.map λc=>(.col tb.n c.n,[])
def aY (sc:List Tb) (s:Sel):List (X×ZS):=if s.items.isEmpty then jE sc else s.items
def dJ (sc:List Tb) (s:Sel):List X:=(aY sc s).map (·.1)++s.order.map (·.1)
def mL (sc:List Tb) (s:Sel):Bool := !s.group.isEmpty||(dJ sc s).any jC
def Mm:ZS:=[101,120,112,114]
def Mo:ZS:=[99,111,117,110,116]
def aEE (op:ZS):ZS:=if op=aJ then Mo else if op=dZ then [115,117,109] else if op=fT then [109,105,110] else [109,97,120]
def Bv (p:X×ZS):ZS:=if p.2=[] then (match p.1 with
 | .col _ s=>s
 | .agg op _=>aEE op
 | .cnt=>Mo
 | _=>Mm) else p.2
def oJ (sc:List Tb):Bool:=match sc with
 | [a,b]=>a.n==b.n
 | _=>false
def nA (sc:List Tb):Prop:=sc.length≤2∧∀ tb∈sc,tb.cs.length≤8∧Ew tb.cs∧1≤tb.n.length∧tb.n.length≤20
theorem Cc (s:ZS):∀ (a:Nat) (l m:List Col),cJ s a (l++m)=cJ s a l++cJ s (a+l.length) m
 | a,[],m=>bt
 | a,c::l,m=>by
   show _++cJ s (a+1) (l++m)=(_++cJ s (a+1) l)++_;rw [Cc s (a+1) l m,List.append_assoc];simp [Nat.add_assoc,Nat.add_comm 1]
theorem Rh (s:ZS) (a:Nat) (l m:List Col) (c:Col) (h:aGZ (l++c::m)) (hs:s=c.n):cJ s a (l++c::m)=[(a+l.length,c.k)]:=by
 subst hs;obtain ⟨-,h2,h3⟩:=List.pairwise_append.1 h;obtain ⟨h4, -⟩:=List.pairwise_cons.1 h2;rw [Cc,rX (s:=c.n) a λd hd e=>h3 d hd c aa e.symm];show []++((if c.n==c.n then [(a+l.length,c.k)] else [])++cJ c.n (a+l.length+1) m)=_;rw [rX (s:=c.n) _ λd hd e=>h4 d hd e];simp
theorem lP (tb:Tb):jJ tb.n tb=true:=by simp [jJ]
theorem vY {n:ZS} {tb:Tb} (hn:n≠[]) (h:tb.n≠n):jJ n tb=false:=by simp [jJ,hn,h]
theorem Ax (hok:nA sc) (hd:oJ sc=false):∀ (pre post:List Tb) (tb:Tb) (l m:List Col) (c:Col),sc=pre++tb::post->tb.cs=l++c::m->dX sc tb.n c.n=some (bY pre+l.length,c.k):=by
 intro pre post tb l m c hsc hcs;obtain ⟨-,hD,hn1, -⟩:=hok.2 tb (by rw [hsc];simp);have hnn:tb.n≠[]:=by
  intro e;rw [e] at hn1;simp at hn1
 have hc:∀ a,cJ c.n a tb.cs=[(a+l.length,c.k)]:=λa=>by rw [hcs];exact Rh c.n a l m c (hcs▸hD.1) rfl
 have hl:pre.length+post.length≤1:=by
  have:=hok.1;rw [hsc] at this;simp at this;omega
 have fin:∀ a,gT tb.n c.n 0 sc=[(a+l.length,c.k)]->fV tb.n sc=1->a=bY pre->dX sc tb.n c.n=some (bY pre+l.length,c.k):=by
  intro a h1 h2 h3;unfold dX;rw [h1,h2,if_pos ⟨rfl,.inr rfl⟩,h3];rfl
 rcases pre with _|⟨p,_|⟨p2,pre⟩⟩
 ·rcases post with _|⟨p,_|⟨p2,post⟩⟩
  ·refine fin 0 ?_ ?_ rfl
   ·rw [hsc];show (if jJ tb.n tb then cJ c.n 0 tb.cs else [])++[]=_;rw [lP,if_pos rfl,hc,List.append_nil]
   ·rw [hsc];simp [fV,lP]
  ·rw [hsc] at hd;have hne:p.n≠tb.n:=by
    have:(tb.n==p.n)=false:=hd;intro e;rw [e] at this;simp at this
   refine fin 0 ?_ ?_ rfl
   ·rw [hsc];show (if jJ tb.n tb then cJ c.n 0 tb.cs else [])++((if jJ tb.n p then cJ c.n (0+tb.cs.length) p.cs else [])++[])=_;rw [vY hnn hne,lP,if_pos rfl,hc];simp
   ·rw [hsc];simp [fV,lP,vY hnn hne]
  ·simp at hl
 ·rcases post with _|⟨p2,post⟩
  ·rw [hsc] at hd;have hne:p.n≠tb.n:=by
    have:(p.n==tb.n)=false:=hd
    simpa using this
   refine fin (bY [p]) ?_ ?_ rfl
   ·rw [hsc];show (if jJ tb.n p then cJ c.n 0 p.cs else [])++((if jJ tb.n tb then cJ c.n (0+p.cs.length) tb.cs else [])++[])=_;rw [vY hnn hne,lP,if_pos rfl,hc,List.append_nil];simp [bY]
   ·rw [hsc];simp [fV,lP,vY hnn hne]
  ·simp at hl;omega
 ·simp at hl;omega
theorem Aw (hok:nA sc) (hd:oJ sc=false):∀ p∈jE sc,(aC sc p.1 true).2=0∧p.1.wf∧p.1.size≤2000:=by
 intro p hp;obtain ⟨tb,h1,h2⟩:=ra;obtain ⟨c,h3,h4⟩:=qz;subst h4;obtain ⟨pre,post,h5⟩:=List.append_of_mem h1;obtain ⟨l,m,h6⟩:=List.append_of_mem h3;have hf:=Ax hok hd pre post tb l m c h5 h6;obtain ⟨-,hD, -,hn2⟩:=hok.2 tb h1;refine ⟨?_,⟨hn2,(hD.2 c h3).2⟩,by simp [X.size]⟩;show (match dX sc tb.n c.n with
  | none=>((0,6):Int×Int)
  | some p=>(p.2,0)).2=0
 rw [hf]
theorem lW (hok:nA sc):(jE sc).length≤16:=by
 unfold jE;obtain ⟨h1,h2⟩:=hok
 match sc,h1,h2 with
 | [],_,_=>simp
 | [a],_,h2=>have:=(h2 a aa).1;simp;omega
 | [a,b],_,h2=>have:=(h2 a aa).1;have:=(h2 b aa).1;simp;omega
end Go.Proofs.YtkolcimllghnaaaGreatDoor.Lp

namespace Go.Proofs.YtkolcimllghnaaaGreatDoor
open Lp Go.Proofs.Tryz
open Go.RowKit
variable{sc:List Tb}{x:Lp.X}
def ncX:Lp.X->Bool
 | .col .. => false
 | _=>true
theorem Ji (hw:x.wf):vM (nOp x)=En x:=by
 cases x with
 | lit=>show vM vF=false;decide
 | col=>show vM lH=false;decide
 | un op x=>rcases hw.1 with rfl|rfl;show vM (unN fG)=false;decide;show vM (unN [45])=false;decide
 | bin op a b=>exact (uL op hw.1).2.2.2.2.2.2.2.1
 | isn n x=>cases n;show vM (isN false)=false;decide;show vM (isN true)=false;decide
 | agg op x=>exact (uN op hw.1).2.2.2.2.2.2.2.1
 | cnt=>show vM rP=true;decide
theorem Yo (x:Lp.X):jC x=(En x||(nKs x).any jC):=by cases x<;>simp [jC,En,nKs]
theorem aAB (hw:x.wf):(nOp x==lH) = !ncX x:=by
 cases x with
 | lit=>show (vF==lH)=false;decide
 | col=>show (lH==lH)=true;decide
 | un op x=>rcases hw.1 with rfl|rfl;show (unN fG==lH)=false;decide;show (unN [45]==lH)=false;decide
 | bin op a b=>exact (uL op hw.1).2.1
 | isn n x=>cases n;show (isN false==lH)=false;decide;show (isN true==lH)=false;decide
 | agg op x=>exact (uN op hw.1).2.1
 | cnt=>show (rP==lH)=false;decide
theorem Vf (sc:List Tb) (gs:List Lp.X) (x:Lp.X):setX sc gs x=(En x||(gs.any λg=>bU sc g x)||(ncX x&&(nKs x).all (setX sc gs))):=by
 cases x<;>simp [setX,En,nKs,ncX]
def aJR (sc:List Tb) (x:Lp.X):Prop:=∀ (S:Nat->Prop) (W:World) (g:Nat),NT S W sc x g->Calls prog 54 #[ptr g,.func (.func 40) #[] #[]] W λe w'=>e=.returned (.bool (jC x))∧Below W W w'
theorem aKV (g bx:Nat) (b:Bool) (w:World) (hb:w.heap[bx]? = some (.cells #[.func (.func 40) #[] #[]] 125 (0,0)))
 (h:Calls prog 54 #[ptr g,.func (.func 40) #[] #[]] w λe w'=>e=.returned (.bool b)∧Below w w w') :
 Calls prog 101 #[ptr g,bx] w λe w'=>e=.returned (.bool b)∧Below w w w':=by
 have hc:=β hb 0;have H:=da;clear h hb;unfold ptr at *;go_enter func101,ntmps101;go_wp2_with fail;refine μ H ?_;rintro e w' ⟨rfl,hb⟩;go_wp2;go_ret;exact fg
theorem Hq {gs:List Nat} {S:Nat->Prop} {w W:World} {f:Lp.X->Bool} {fi:FuncId} {caps:ZV} (_:gs.length=(nKs x).length) (hn:∀ (i:Nat) (hx:i<(nKs x).length) (hg:i<gs.length),NT S w sc (nKs x)[i] gs[i]) (hb:Below w w W)
 (hf:∀ z∈nKs x,∀ (k:Nat) (wr:World),Below W W wr->NT S wr sc z k->Calls prog fi (#[ptr k]++caps) wr λe w'=>e=.returned (.bool (f z))∧Below wr wr w'):Jj fi caps W gs ((nKs x).map f):=by
 intro j k b hj hbj wr hwr;rw [List.getElem?_map,Option.map_eq_some_iff] at hbj;obtain ⟨z,hz,rfl⟩:=hbj;obtain ⟨h1,h2⟩:=List.getElem?_eq_some_iff.1 hz;obtain ⟨h3,h4⟩:=List.getElem?_eq_some_iff.1 hj;have h5:=hn j h1 h3;rw [h2,h4] at h5;exact hf z (List.mem_of_getElem? hz) k wr hwr (h5.below (hb.trans (hwr.mono hb.size)))
theorem Sw (hw:x.wf) (ih:∀ z∈nKs x,aJR sc z):aJR sc x:=by
 intro S w g h;obtain ⟨A,c,gs,hc,hl,hr,hn⟩:=vV h;have hb0:Below w w (w.alloc (.cells #[.func (.func 40) #[] #[]] 125)):=ρ;have hz0:=heap_alloc_new w (.cells #[.func (.func 40) #[] #[]] 125);have hx:=aA hc hb0;have HR:=κ (tN g (nOp x) (nKd sc x) (nV x) (nAt sc x) A gs.length c _ hx (En x) (Ji hw));have HC:=κ (fR 101 (λ_ _=>rfl) #[w] A c gs ((nKs x).map jC) _ (hr.below hb0) EY EA (Hq hl hn hb0 λz hz k wr hwr hk=>aKV k w _ wr (aA hz0 hwr) (ih z hz S wr k hk)));have e1:((nKs x).map jC).any id=(nKs x).any jC:=EX
 rw [e1] at HC;have HF:=κ (Yo x);have HB:=sv;have hcx:=β hx;simp only [ndv] at hcx;generalize (nKs x).any jC=bb at *;generalize En x=b at *;generalize nOp x=op at *;generalize nKd sc x=kd at *;generalize nV x=v at *;generalize nAt sc x=at_ at *;clear h hc hl hr hn hb0 hz0 hx e1;unfold ptr at *;go_enter func54,ntmps54;go_wp2_with fail;refine μ HR ?_;rintro e w1 ⟨rfl,rfl⟩;cases b
 ·go_wp2_with fail;refine μ HC ?_;rintro e w2 ⟨rfl,hb2⟩;have HB2:=FA;clear hb2;go_wp2;go_ret;exact ⟨EZ,HB2.o⟩
 ·go_wp2;go_ret;exact ⟨EZ,HB.o⟩
theorem Ye {P:Lp.X->Prop} (hs:∀ x,x.wf->(∀ z∈nKs x,P z)->P x):∀ x:Lp.X,x.wf->P x:=by
 intro x
 induction x with
 | lit=>intro hw;exact FB
 | col=>intro hw;exact FB
 | cnt=>intro hw;exact FB
 | un op x ih=>intro hw;exact FC
 | isn n x ih=>intro hw;exact hs _ hw λz h=>by rw [List.mem_singleton.1 h];exact ih hw
 | agg op x ih=>intro hw;exact FC
 | bin op a b iha ihb =>
   intro hw;refine hs _ hw λz h => ?_;rcases List.mem_cons.1 h with rfl|h
   ·exact iha hw.2.1
   ·rw [List.mem_singleton.1 h];exact ihb hw.2.2
theorem aAW (sc:List Tb):∀ x:Lp.X,x.wf->aJR sc x:=Ye λ_ hw ih=>Sw hw ih
def GsOk (sc:List Tb) (xs:List Lp.X) (w:World) (A:ZT) (gs:List Nat):Prop:=gs.length=xs.length∧Rds w A (gs.map ptr)∧∀ (i:Nat) (x:Lp.X) (g:Nat),xs[i]? = some x->gs[i]? = some g->NT (λ_=>True) w sc x g
theorem GsOk.below {sc:List Tb} {xs:List Lp.X} {w w':World} {A:ZT} {gs:List Nat} (h:GsOk sc xs w A gs) (hb:Below w w w'):GsOk sc xs w' A gs:=⟨h.1,h.2.1.below hb,λi x g hx hg=>(h.2.2 i x g hx hg).below hb⟩
def aBJ (sc:List Tb) (xs:List Lp.X) (x:Lp.X):Prop:=eW sc x->∀ (S:Nat->Prop) (W:World) (g:Nat) (A:ZT) (c:Nat) (gs:List Nat),NT S W sc x g->GsOk sc xs W A gs->Calls prog 56 #[ptr g,.slice A gs.length c] W λe w'=>e=.returned (.bool (setX sc xs x))∧Below W W w'
theorem aLL (g bx gn:Nat) (b:Bool) (w:World) (hb:w.heap[bx]? = some (.cells #[ptr gn] 53 (0,0))) (h:Calls prog 103 #[ptr g,ptr gn] w λe w'=>e=.returned (.bool b)∧Below w w w') :
 Calls prog 102 #[ptr g,bx] w λe w'=>e=.returned (.bool b)∧Below w w w':=by
 have hc:=β hb 0;have H:=da;clear h hb;unfold ptr at *;go_enter func102,ntmps102;go_wp2_with fail;refine μ H ?_;rintro e w' ⟨rfl,hb⟩;go_wp2;go_ret;exact fg
theorem aLK (g bx:Nat) (A:ZT) (n c:Nat) (b:Bool) (w:World) (hb:w.heap[bx]? = some (.cells #[.slice A n c] 46 (0,0))) (h:Calls prog 56 #[ptr g,.slice A n c] w λe w'=>e=.returned (.bool b)∧Below w w w') :
 Calls prog 104 #[ptr g,bx] w λe w'=>e=.returned (.bool (!b))∧Below w w w':=by
 have hc:=β hb 0;have H:=da;clear h hb;unfold ptr at *;go_enter func104,ntmps104;go_wp2_with fail;refine μ H ?_;rintro e w' ⟨rfl,hb⟩;go_wp2;go_ret;exact fg
theorem Ys {xs:List Lp.X} (hxs:∀ y∈xs,y.wf∧eW sc y) (hlx:xs.length≤100) (hw:x.wf) (ih:∀ z∈nKs x,aBJ sc xs z):aBJ sc xs x:=by
 intro hkn S w g Al cl ls h hG;obtain ⟨A,c,gs,hc,hl,hr,hn⟩:=vV h;have hb0:Below w w ((w.alloc (.cells #[ptr g] 53)).alloc (.cells #[.slice Al ls.length cl] 46)):=(ρ).alloc aa _;have hz0:((w.alloc (.cells #[ptr g] 53)).alloc (.cells #[.slice Al ls.length cl] 46)).heap[w.heap.size]? = some (.cells #[ptr g] 53 (0,0)):=aB (heap_alloc_new w _) _;have hz1:((w.alloc (.cells #[ptr g] 53)).alloc (.cells #[.slice Al ls.length cl] 46)).heap[w.heap.size+1]? = some (.cells #[.slice Al ls.length cl] 46 (0,0)):=bG w _ _;obtain ⟨W0,hW0⟩:∃ W0,(w.alloc (.cells #[ptr g] 53)).alloc (.cells #[.slice Al ls.length cl] 46)=W0:=cw;have HW:=κ hW0;rw [hW0] at hb0 hz0 hz1;have HR:=κ (tN g (nOp x) (nKd sc x) (nV x) (nAt sc x) A gs.length c W0 (aA hc hb0) (En x) (Ji hw));have H1:=κ (fR 102 (λ_ _=>rfl) #[w] Al cl ls (xs.map λy=>bU sc y x) W0 (hG.2.1.below hb0) (by rw [List.length_map];exact hG.1.symm) (by rw [hG.1];omega) (λj k b hj hbj wr hwr=>by
  rw [List.getElem?_map,Option.map_eq_some_iff] at hbj;obtain ⟨y,hy,rfl⟩:=hbj;have hy2:=hxs y (List.mem_of_getElem? hy);have hbr:=hb0.trans (hwr.mono hb0.size);exact aLL k w g _ wr (aA hz0 hwr) ((Vk sc y hy2.1 hy2.2 x hw hkn _ S wr k g ((hG.2.2 j y k hy hj).below hbr) (h.below hbr)).mono λe w' ⟨e1,n,e2⟩=>⟨e1,by rw [e2];exact dH n (θ)⟩)))
 have HK:=κ (λ(W:World) (hb:Below W0 W0 W)=>fR 104 (λ_ _=>rfl) #[(w.heap.size+1:Nat)] A c gs ((nKs x).map λz => !setX sc xs z) W (hr.below (hb0.trans (hb.mono hb0.size))) EY EA (Hq hl hn (hb0.trans (hb.mono hb0.size)) λz hz k wr hwr hk=>aLK k (w+1) Al ls.length cl _ wr (aA hz1 (hb.trans (hwr.mono hb.size))) (ih z hz (Lj hw hkn z hz).2 S wr k Al cl ls hk (hG.below (hb0.trans ((hb.trans (hwr.mono hb.size)).mono hb0.size))))));have HF:=κ (Vf sc xs x);have e1:((xs.map λy=>bU sc y x).any id)=xs.any λy=>bU sc y x:=EX
 have e2:((nKs x).map λz => !setX sc xs z).any id = !(nKs x).all (setX sc xs):=FD
 rw [e1] at H1;rw [e2] at HK;have HB:=sv;have HX:=κ (aA hc hb0);have HZ:=κ (ι hz0 hz1);have HCF:=κ (aAB hw);generalize ncX x=nc at *;generalize (nKs x).all (setX sc xs)=ba at *;generalize (xs.any λy=>bU sc y x)=bs at *;generalize En x=bg at *;generalize nOp x=op at *;generalize nKd sc x=kd at *;generalize nV x=v at *;generalize nAt sc x=at_ at *;clear h hc hl hr hn hb0 hz0 hz1 hG hW0 e1 e2;unfold ptr at *;go_enter func56,ntmps56;have cz:=β HZ.o.1;have cy:=β HZ.o.2;go_upto_region 1 with fail;rw [HW.o];go_wp2_with fail;refine μ HR ?_;rintro e w1 ⟨rfl,rfl⟩;cases bg
 ·go_wp2_with fail;refine μ H1 ?_;rintro e w2 ⟨rfl,hb2⟩;have HB2:=FA;cases bs
  ·have hx2:=β (aA HX.o hb2);have cz2:=β (aA HZ.o.1 hb2);have cy2:=β (aA HZ.o.2 hb2);have H3:=κ (HK.o w2 hb2);simp only [ndv] at hx2;clear hb2 cz cy;cases nc
   ·have e1:(op==lH)=true:=HCF.o;have e2:op=lH:=by simpa using e1
    subst e2;go_wp2;go_ret;exact ⟨FE,HB2.o⟩
   ·have e1:(op==[99,111,108])=false:=HCF.o;go_wp2_with fail;refine μ H3 ?_;rintro e w3 ⟨rfl,hb3⟩;have HB3:=κ (HB2.o.trans (hb3.mono HB2.o.size));clear hb3;go_wp2;go_ret;exact ⟨EZ,HB3.o⟩
  ·clear hb2;go_wp2;go_ret;exact ⟨EZ,HB2.o⟩
 ·go_wp2;go_ret;exact ⟨EZ,HB.o⟩
theorem aEP (sc:List Tb) (xs:List Lp.X) (hxs:∀ y∈xs,y.wf∧eW sc y) (hlx:xs.length≤100):∀ x:Lp.X,x.wf->aBJ sc xs x:=Ye λ_ hw ih=>Ys hxs hlx hw ih
