/-
 Contracts. Conditions: those of each.
-/
import Derived.Test.YtkolcimllghnaaaGreatDoorQcGV
import Derived.Test.YtkolcimllghnaaaGreatDoorQcVH
import Derived.Test.YtkolcimllghnaaaGreatDoorQcGF
set_option maxRecDepth 100000
set_option maxHeartbeats 8000000
namespace Go.Proofs.YtkolcimllghnaaaGreatDoor
open Lp Go.Proofs.Tryz
open Go.RowKit
variable{sc:List Tb}{x:Lp.X}{B g n:Nat}{S:Nat->Prop}{e:TypeId}{u:Value}{w w':World}{A:ZT}{us:ZU}
def ncX:Lp.X->Bool
 | .col .. => false
 | _=>true
theorem Ji (hw:x.wf):vM (nOp x)=En x:=by
 cases x with
 | lit=>show vM vF=false;decide
 | col=>show vM lH=false;decide
 | un op x=>rcases hw.1 with rfl|rfl;show vM (unN fG)=false;decide;show vM (unN [45])=false;decide
 | bin op a b=>exact (uL op hw.1).2.2.2.2.2.2.2.1
 | isn n x=>cases n;show vM (isN false)=false;decide;show vM (isN true)=false;decide
 | agg op x=>exact (uN op hw.1).2.2.2.2.2.2.2.1
 | cnt=>show vM rP=true;decide
theorem Yo (x:Lp.X):jC x=(En x||(nKs x).any jC):=by cases x<;>simp [jC,En,nKs]
theorem aAB (hw:x.wf):(nOp x==lH) = !ncX x:=by
 cases x with
 | lit=>show (vF==lH)=false;decide
 | col=>show (lH==lH)=true;decide
 | un op x=>rcases hw.1 with rfl|rfl;show (unN fG==lH)=false;decide;show (unN [45]==lH)=false;decide
 | bin op a b=>exact (uL op hw.1).2.1
 | isn n x=>cases n;show (isN false==lH)=false;decide;show (isN true==lH)=false;decide
 | agg op x=>exact (uN op hw.1).2.1
 | cnt=>show (rP==lH)=false;decide
theorem Vf (sc:List Tb) (gs:List Lp.X) (x:Lp.X):setX sc gs x=(En x||(gs.any λg=>bU sc g x)||(ncX x&&(nKs x).all (setX sc gs))):=by
 cases x<;>simp [setX,En,nKs,ncX]
def aJR (sc:List Tb) (x:Lp.X):Prop:=∀ (S:Nat->Prop) (W:World) (g:Nat),NT S W sc x g->Calls prog 54 #[ptr g,.func (.func 40) #[] #[]] W λe w'=>e=.returned (.bool (jC x))/\Below W W w'
theorem aKV (g bx:Nat) (b:Bool) (w:World) (hb:w.heap[bx]? = some (.cells #[.func (.func 40) #[] #[]] 125 (0,0)))
 (h:Calls prog 54 #[ptr g,.func (.func 40) #[] #[]] w λe w'=>e=.returned (.bool b)/\Below w w w') :
 Calls prog 101 #[ptr g,bx] w λe w'=>e=.returned (.bool b)/\Below w w w':=by
 have hc:=β hb 0;have H:=db;clear h hb;unfold ptr at *;go_enter func101,ntmps101;go_wp2_with fail;refine μ H ?_;rintro e w' ⟨rfl,hb⟩;go_wp2;go_ret;exact ja
theorem Hq {gs:List Nat} {W:World} {f:Lp.X->Bool} {fi:FuncId} {caps:ZV} (_:gs.length=(nKs x).length) (hn:∀ (i:Nat) (hx:i<(nKs x).length) (hg:i<gs.length),NT S w sc (nKs x)[i] gs[i]) (hb:Below w w W)
 (hf:∀ z∈nKs x,∀ (k:Nat) (wr:World),Below W W wr->NT S wr sc z k->Calls prog fi (#[ptr k]++caps) wr λe w'=>e=.returned (.bool (f z))/\Below wr wr w'):Jj fi caps W gs ((nKs x).map f):=by
 intro j k b hj hbj wr hwr;rw [List.getElem?_map,Option.map_eq_some_iff] at hbj;obtain ⟨z,hz,rfl⟩:=hbj;obtain ⟨h1,h2⟩:=List.getElem?_eq_some_iff.1 hz;obtain ⟨h3,h4⟩:=List.getElem?_eq_some_iff.1 hj;have h5:=hn j h1 h3;rw [h2,h4] at h5;exact hf z (List.mem_of_getElem? hz) k wr hwr (h5.below (hb.trans (hwr.mono hb.size)))
theorem Sw (hw:x.wf) (ih:∀ z∈nKs x,aJR sc z):aJR sc x:=by
 intro S w g h;obtain ⟨A,c,gs,hc,hl,hr,hn⟩:=vV h;have hb0:Below w w (w.alloc (.cells #[.func (.func 40) #[] #[]] 125)):=ρ;have hz0:=heap_alloc_new w (.cells #[.func (.func 40) #[] #[]] 125);have hx:=aA hc hb0;have HR:=κ (tN g (nOp x) (nKd sc x) (nV x) (nAt sc x) A gs.length c _ hx (En x) (Ji hw));have HC:=κ (fR 101 (λ_ _=>rfl) #[w] A c gs ((nKs x).map jC) _ (hr.below hb0) tp tg (Hq hl hn hb0 λz hz k wr hwr hk=>aKV k w _ wr (aA hz0 hwr) (ih z hz S wr k hk)));have e1:((nKs x).map jC).any id=(nKs x).any jC:=tm
 rw [e1] at HC;have HF:=κ (Yo x);have HB:=se;have hcx:=β hx;simp only [ndv] at hcx;generalize (nKs x).any jC=bb at *;generalize En x=b at *;generalize nOp x=op at *;generalize nKd sc x=kd at *;generalize nV x=v at *;generalize nAt sc x=at_ at *;clear h hc hl hr hn hb0 hz0 hx e1;unfold ptr at *;go_enter func54,ntmps54;go_wp2_with fail;refine μ HR ?_;rintro e w1 ⟨rfl,rfl⟩;cases b
 ·go_wp2_with fail;refine μ HC ?_;rintro e w2 ⟨rfl,hb2⟩;have HB2:=tu;clear hb2;go_wp2;go_ret;exact ⟨tq,HB2.o⟩
 ·go_wp2;go_ret;exact ⟨tq,HB.o⟩
theorem Ye {P:Lp.X->Prop} (hs:∀ x,x.wf->(∀ z∈nKs x,P z)->P x):∀ x:Lp.X,x.wf->P x:=by
 intro x
 induction x with
 | lit=>intro hw;exact tw
 | col=>intro hw;exact tw
 | cnt=>intro hw;exact tw
 | un op x ih=>intro hw;exact tz
 | isn n x ih=>intro hw;exact hs _ hw λz h=>by rw [List.mem_singleton.1 h];exact ih hw
 | agg op x ih=>intro hw;exact tz
 | bin op a b iha ihb =>
   intro hw;refine hs _ hw λz h => ?_;rcases List.mem_cons.1 h with rfl|h
   ·exact iha hw.2.1
   ·rw [List.mem_singleton.1 h];exact ihb hw.2.2
theorem aAW (sc:List Tb):∀ x:Lp.X,x.wf->aJR sc x:=Ye λ_ hw ih=>Sw hw ih
def GsOk (sc:List Tb) (xs:List Lp.X) (w:World) (A:ZT) (gs:List Nat):Prop:=gs.length=xs.length/\Rds w A (gs.map ptr)/\∀ (i:Nat) (x:Lp.X) (g:Nat),xs[i]? = some x->gs[i]? = some g->NT (λ_=>True) w sc x g
theorem GsOk.below {sc:List Tb} {xs:List Lp.X} {w w':World} {A:ZT} {gs:List Nat} (h:GsOk sc xs w A gs) (hb:Below w w w'):GsOk sc xs w' A gs:=⟨h.1,h.2.1.below hb,λi x g hx hg=>(h.2.2 i x g hx hg).below hb⟩
def aBJ (sc:List Tb) (xs:List Lp.X) (x:Lp.X):Prop:=eW sc x->∀ (S:Nat->Prop) (W:World) (g:Nat) (A:ZT) (c:Nat) (gs:List Nat),NT S W sc x g->GsOk sc xs W A gs->Calls prog 56 #[ptr g,.slice A gs.length c] W λe w'=>e=.returned (.bool (setX sc xs x))/\Below W W w'
theorem aLL (g bx gn:Nat) (b:Bool) (w:World) (hb:w.heap[bx]? = some (.cells #[ptr gn] 53 (0,0))) (h:Calls prog 103 #[ptr g,ptr gn] w λe w'=>e=.returned (.bool b)/\Below w w w') :
 Calls prog 102 #[ptr g,bx] w λe w'=>e=.returned (.bool b)/\Below w w w':=by
 have hc:=β hb 0;have H:=db;clear h hb;unfold ptr at *;go_enter func102,ntmps102;go_wp2_with fail;refine μ H ?_;rintro e w' ⟨rfl,hb⟩;go_wp2;go_ret;exact ja
theorem aLK (g bx:Nat) (A:ZT) (n c:Nat) (b:Bool) (w:World) (hb:w.heap[bx]? = some (.cells #[.slice A n c] 46 (0,0))) (h:Calls prog 56 #[ptr g,.slice A n c] w λe w'=>e=.returned (.bool b)/\Below w w w') :
 Calls prog 104 #[ptr g,bx] w λe w'=>e=.returned (.bool (!b))/\Below w w w':=by
 have hc:=β hb 0;have H:=db;clear h hb;unfold ptr at *;go_enter func104,ntmps104;go_wp2_with fail;refine μ H ?_;rintro e w' ⟨rfl,hb⟩;go_wp2;go_ret;exact ja
theorem Ys {xs:List Lp.X} (hxs:∀ y∈xs,y.wf/\eW sc y) (hlx:xs.length<=100) (hw:x.wf) (ih:∀ z∈nKs x,aBJ sc xs z):aBJ sc xs x:=by
 intro hkn S w g Al cl ls h hG;obtain ⟨A,c,gs,hc,hl,hr,hn⟩:=vV h;have hb0:Below w w ((w.alloc (.cells #[ptr g] 53)).alloc (.cells #[.slice Al ls.length cl] 46)):=(ρ).alloc aa _;have hz0:((w.alloc (.cells #[ptr g] 53)).alloc (.cells #[.slice Al ls.length cl] 46)).heap[w.heap.size]? = some (.cells #[ptr g] 53 (0,0)):=aB (heap_alloc_new w _) _;have hz1:((w.alloc (.cells #[ptr g] 53)).alloc (.cells #[.slice Al ls.length cl] 46)).heap[w.heap.size+1]? = some (.cells #[.slice Al ls.length cl] 46 (0,0)):=bG w _ _;obtain ⟨W0,hW0⟩:∃ W0,(w.alloc (.cells #[ptr g] 53)).alloc (.cells #[.slice Al ls.length cl] 46)=W0:=da;have HW:=κ hW0;rw [hW0] at hb0 hz0 hz1;have HR:=κ (tN g (nOp x) (nKd sc x) (nV x) (nAt sc x) A gs.length c W0 (aA hc hb0) (En x) (Ji hw));have H1:=κ (fR 102 (λ_ _=>rfl) #[w] Al cl ls (xs.map λy=>bU sc y x) W0 (hG.2.1.below hb0) (by rw [List.length_map];exact hG.1.symm) (by rw [hG.1];omega) (λj k b hj hbj wr hwr=>by
  rw [List.getElem?_map,Option.map_eq_some_iff] at hbj;obtain ⟨y,hy,rfl⟩:=hbj;have hy2:=hxs y (List.mem_of_getElem? hy);have hbr:=hb0.trans (hwr.mono hb0.size);exact aLL k w g _ wr (aA hz0 hwr) ((Vk sc y hy2.1 hy2.2 x hw hkn _ S wr k g ((hG.2.2 j y k hy hj).below hbr) (h.below hbr)).mono λe w' ⟨e1,n,e2⟩=>⟨e1,by rw [e2];exact dH n (θ)⟩)))
 have HK:=κ (λ(W:World) (hb:Below W0 W0 W)=>fR 104 (λ_ _=>rfl) #[(w.heap.size+1:Nat)] A c gs ((nKs x).map λz => !setX sc xs z) W (hr.below (hb0.trans (hb.mono hb0.size))) tp tg (Hq hl hn (hb0.trans (hb.mono hb0.size)) λz hz k wr hwr hk=>aLK k (w+1) Al ls.length cl _ wr (aA hz1 (hb.trans (hwr.mono hb.size))) (ih z hz (Lj hw hkn z hz).2 S wr k Al cl ls hk (hG.below (hb0.trans ((hb.trans (hwr.mono hb.size)).mono hb0.size))))));have HF:=κ (Vf sc xs x);have e1:((xs.map λy=>bU sc y x).any id)=xs.any λy=>bU sc y x:=tm
 have e2:((nKs x).map λz => !setX sc xs z).any id = !(nKs x).all (setX sc xs):=ua
 rw [e1] at H1;rw [e2] at HK;have HB:=se;have HX:=κ (aA hc hb0);have HZ:=κ (ι hz0 hz1);have HCF:=κ (aAB hw);generalize ncX x=nc at *;generalize (nKs x).all (setX sc xs)=ba at *;generalize (xs.any λy=>bU sc y x)=bs at *;generalize En x=bg at *;generalize nOp x=op at *;generalize nKd sc x=kd at *;generalize nV x=v at *;generalize nAt sc x=at_ at *;clear h hc hl hr hn hb0 hz0 hz1 hG hW0 e1 e2;unfold ptr at *;go_enter func56,ntmps56;have cz:=β HZ.o.1;have cy:=β HZ.o.2;go_upto_region 1 with fail;rw [HW.o];go_wp2_with fail;refine μ HR ?_;rintro e w1 ⟨rfl,rfl⟩;cases bg
 ·go_wp2_with fail;refine μ H1 ?_;rintro e w2 ⟨rfl,hb2⟩;have HB2:=tu;cases bs
  ·have hx2:=β (aA HX.o hb2);have cz2:=β (aA HZ.o.1 hb2);have cy2:=β (aA HZ.o.2 hb2);have H3:=κ (HK.o w2 hb2);simp only [ndv] at hx2;clear hb2 cz cy;cases nc
   ·have e1:(op==lH)=true:=HCF.o;have e2:op=lH:=by simpa using e1
    subst e2;go_wp2;go_ret;exact ⟨ub,HB2.o⟩
   ·have e1:(op==[99,111,108])=false:=HCF.o;go_wp2_with fail;refine μ H3 ?_;rintro e w3 ⟨rfl,hb3⟩;have HB3:=κ (HB2.o.trans (hb3.mono HB2.o.size));clear hb3;go_wp2;go_ret;exact ⟨tq,HB3.o⟩
  ·clear hb2;go_wp2;go_ret;exact ⟨tq,HB2.o⟩
 ·go_wp2;go_ret;exact ⟨tq,HB.o⟩
theorem aEP (sc:List Tb) (xs:List Lp.X) (hxs:∀ y∈xs,y.wf/\eW sc y) (hlx:xs.length<=100):∀ x:Lp.X,x.wf->aBJ sc xs x:=Ye λ_ hw ih=>Ys hxs hlx hw ih
theorem aLJ (g:Nat) (b:Bool) (w:World) (h:Calls prog 54 #[ptr g,.func (.func 40) #[] #[]] w λe w'=>e=.returned (.bool b)/\Below w w w') :
 Calls prog 53 #[ptr g] w λe w'=>e=.returned (.bool b)/\Below w w w':=by
 have H:=db;clear h;unfold ptr at *;go_enter func53,ntmps53;go_wp2_with fail;refine μ H ?_;rintro e w' ⟨rfl,hb⟩;go_wp2;go_ret;exact ja
def eO (nm it on wh gr od ds lm gd:Value):ZV:=#[nm,it,on,wh,gr,od,ds,lm,gd]
theorem aLI (g bx q:Nat) (nm it on wh od ds lm gd:Value) (A:ZT) (n c:Nat) (b:Bool) (w:World) (hx:w.heap[bx]? = some (.cells #[ptr q] 76 (0,0))) (hq:w.heap[q]? = some (.cells (eO nm it on wh (.slice A n c) od ds lm gd) 84 (0,0)))
 (h:Calls prog 56 #[ptr g,.slice A n c] w λe w'=>e=.returned (.bool b)/\Below w w w') :
 Calls prog 55 #[ptr g,bx] w λe w'=>e=.returned (.bool (!b))/\Below w w w':=by
 have hc:=β hx 0;have hd:=β hq 4;have H:=db;clear h hx hq;unfold ptr eO at *;go_enter func55,ntmps55;go_wp2_with fail;refine μ H ?_;rintro e w' ⟨rfl,hb⟩;go_wp2;go_ret;exact ja
theorem Nl (l:List Nat):∀ u∈l.map ptr,Value.oneCell' u:=by
 intro u hu;obtain ⟨g, -,rfl⟩:=List.mem_map.1 hu;simp [Value.oneCell',ptr]
theorem Ly (A:ZT) (c:Nat) (l:List Nat) (w:World) (h:Rds w A (l.map ptr)) (hn:l.length<=2000) :
 Calls prog 51 #[.slice A l.length c] w λe w'=>∃ A' c',e=.returned (.slice A' l.length c')/\w'.ownsRow w 53 1 (.slice A' l.length c') l.length (l.map ptr)/\Below w w w':=by
 have eqn:=Lib.run_eql_slice_nil (P:=prog) w 46 53 A l.length c 0 0 underlying46;rcases A with _|a
 ·have hl:l=[]:=by
   rcases h with h0|⟨b,off,h0,_⟩
   ·simpa using h0
   ·cases h0
  subst hl;simp only [Option.isNone_none,List.length_nil] at eqn |-;go_enter func51,ntmps51;go_wp2;go_ret;exact ⟨none,0,rfl,World.ownsRow_nil _ _ _ _,θ⟩
 ·simp only [Option.isNone_some] at eqn;obtain ⟨i0,hi0,hz0,hz1,hz2⟩:=re;have hown0:=World.ownsRow_made (e:=53) (size:=1) w #[] 0 (ν _) uc rfl;have hr0:=h.below ((θ).alloc (ν _) (.cells #[] 53));have h1:=Nl l;go_enter func51,ntmps51;go_wp2_with (at_builtin;refine bJ _ rfl (.tmp 5) (.tmp 6) _ rfl w 53 i0 _ 1 8 underlying46 hi0 hz0 hz1 hz2 rfl ac _ 0 0 [] rfl hown0 (some a) l.length c (l.map ptr) rfl aa hr0 h1 rf ac aa ?_;intro A1 c1 w1 hown1 hb1 hg1 _);go_ret;simp only [Nat.zero_add,List.nil_append] at hown1;exact ⟨A1,c1,rfl,hown1,(ρ).trans hb1⟩
def SO2 (B:Nat) (v1 v2:Value):Nat->Prop:=λk=>B<=k/\some k≠v1.ownBlock/\some k≠v2.ownBlock
def Stb (P:(Nat->Prop)->World->Prop):Prop:=∀ (S S':Nat->Prop) (w w':World),Turn S S' w w'->P S w->P S' w'
structure Pair (sc:List Tb) (B:Nat) (P:(Nat->Prop)->World->Prop) (T:TypeId) (v1 v2:Value) (us:ZU) (gs:List Nat) (xs:List Lp.X) (hs:List Nat) (w:World):Prop where
 hB:B<=w
 hT:T≠53
 o1:w.ownsRow B T 1 v1 us.length us
 o2:w.ownsRow B 53 1 v2 gs.length (gs.map ptr)
 nt:NTs (SO2 B v1 v2) w sc xs hs
 hP:Stb P
 pt:P (SO2 B v1 v2) w
theorem Bp {m size size2:Nat} {e2:TypeId} {v v2:Value} {r:Option Nat} {xs ys:ZU} (h:w.ownsRow B e size v n xs) (h2:w.ownsRow B e2 size2 v2 m ys) (hne:e2≠e) (hk:fL w w' v2.ownBlock r):w'.ownsRow B e size v n xs/\(∀ g,some g=v.ownBlock->some g≠r):=by
 rcases h.2 with ⟨rfl,rfl⟩|⟨g,cap,cur,rfl,h4,h5,h6⟩
 ·exact ⟨⟨h.1,.inl ⟨rfl,rfl⟩⟩,λg hg=>by simp [Value.ownBlock] at hg⟩
 ·obtain ⟨k1,k2⟩:=hk g _ h5 (cU h2 h5 hne);exact ⟨⟨h.1,.inr ⟨g,cap,cur,rfl,h4,k1,h6⟩⟩,λg' hg'=>by simp only [Value.ownBlock,Option.some.injEq] at hg';subst hg';exact k2⟩
variable {sc:List Tb} {B:Nat} {P:(Nat->Prop)->World->Prop} {T:TypeId} {v1 v2 v':Value} {us:ZU} {gs hs:List Nat} {xs:List Lp.X} {w w':World}
theorem Pair.nil_ (hB:B<=w) (hT:T≠53) (hP:Stb P) (h:P (λk=>B<=k) w):Pair sc B P T (.slice none 0 0) (.slice none 0 0) [] [] [] [] w :=
 ⟨hB,hT,World.ownsRow_nil _ _ _ _,World.ownsRow_nil _ _ _ _,trivial,hP,hP _ _ _ _ (Turn.mono λ_ hk _=>⟨hk,by simp [Value.ownBlock],by simp [Value.ownBlock]⟩) h⟩
theorem Pair.below (h:Pair sc B P T v1 v2 us gs xs hs w) (hb:Below w w w'):Pair sc B P T v1 v2 us gs xs hs w':=⟨Nat.le_trans h.hB hb.size,h.hT,aN h.o1 hb,aN h.o2 hb,NTs.turn (Turn.below hb) h.nt,h.hP,h.hP _ _ _ _ (Turn.below hb) h.pt⟩
theorem Pair.alloc (h:Pair sc B P T v1 v2 us gs xs hs w) (o:Obj):Pair sc B P T v1 v2 us gs xs hs (w.alloc o):=h.below (ρ)
theorem Pair.drew (h:Pair sc B P T v1 v2 us gs xs hs w):Pair sc B P T v1 v2 us gs xs hs w.drew:=h.below (θ).drew
theorem Pair.set {q o:Nat} {cs:ZV} {t:TypeId} (h:Pair sc B P T v1 v2 us gs xs hs w) (hq:w.heap[q]? = some (.cells cs t (0,0))) (hlt:q<B) (h1:T≠t) (h2:53≠t):Pair sc B P T v1 v2 us gs xs hs (w.setCell ⟨q,o,none⟩ u):=by
 have ht:Turn (SO2 B v1 v2) (SO2 B v1 v2) w (w.setCell ⟨q,o,none⟩ u):=λg hg _=>⟨hg,Below.heap_setCell w ⟨q,o,none⟩ u g (by have:=hg.1;show g≠q;omega)⟩;exact ⟨by simpa [World.setCell] using h.hB,h.hT,lJ h.o1 hq h1,lJ h.o2 hq h2,NTs.turn ht h.nt,h.hP,h.hP _ _ _ _ ht h.pt⟩
theorem Pair.one (h:Pair sc B P T v1 v2 us gs xs hs w) (ho:w'.ownsRow B T 1 v' (us.length+1) (us++[u])) (hz:w<=w'.heap.size) (hk:fL w w' v1.ownBlock v'.ownBlock):Pair sc B P T v' v2 (us++[u]) gs xs hs w':=by
 obtain ⟨k1, -⟩:=Bp h.o2 h.o1 h.hT hk;have ht:Turn (SO2 B v1 v2) (SO2 B v' v2) w w':=by
  intro g hg hl;obtain ⟨a,ha⟩:∃ a,w.heap[g]? = some a:=⟨w.heap[g],by simp [hl]⟩;obtain ⟨e1,e2⟩:=hk g a ha hg.2.1;exact ⟨⟨hg.1,e2,hg.2.2⟩,e1.trans ha.symm⟩
 exact ⟨Nat.le_trans h.hB hz,h.hT,by rw [List.length_append];exact ho,k1,NTs.turn ht h.nt,h.hP,h.hP _ _ _ _ ht h.pt⟩
theorem Pair.two (h:Pair sc B P T v1 v2 us gs xs hs w) (ho:w'.ownsRow B 53 1 v' (gs.length+1) (gs.map ptr++[ptr g])) (hz:w<=w'.heap.size) (hk:fL w w' v2.ownBlock v'.ownBlock):Pair sc B P T v1 v' us (gs++[g]) xs hs w':=by
 obtain ⟨k1, -⟩:=Bp h.o1 h.o2 (λe=>h.hT e.symm) hk;have ht:Turn (SO2 B v1 v2) (SO2 B v1 v') w w':=by
  intro k hg hl;obtain ⟨a,ha⟩:∃ a,w.heap[k]? = some a:=⟨w.heap[k],by simp [hl]⟩;obtain ⟨e1,e2⟩:=hk k a ha hg.2.2;exact ⟨⟨hg.1,hg.2.1,e2⟩,e1.trans ha.symm⟩
 exact ⟨Nat.le_trans h.hB hz,h.hT,k1,by rw [List.length_append,List.map_append];exact ho,NTs.turn ht h.nt,h.hP,h.hP _ _ _ _ ht h.pt⟩
theorem Pair.new (h:Pair sc B P T v1 v2 us gs xs hs w) (hb:Below w w w') (hx:NT (λk=>w.heap.size<=k) w' sc x g):Pair sc B P T v1 v2 us gs (xs++[x]) (hs++[g]) w':=by
 have h2:=h.below hb;refine ⟨h2.hB,h2.hT,h2.o1,h2.o2,NTs.snoc (hx.turn (Turn.mono λk hk _=>⟨Nat.le_trans h.hB hk,λe => ?_,λe => ?_⟩)) h2.nt,h2.hP,h2.pt⟩
 ·have:=(h.o1.lt k e.symm).2;have h3:w.heap.size<=k:=hk;omega
 ·have:=(h.o2.lt k e.symm).2;have h3:w.heap.size<=k:=hk;omega
def RowS (S:Nat->Prop) (w:World) (A:ZT) (us:ZU):Prop:=us≠[]->∃ b off,A=some ⟨b,off,none⟩/\S b/\∀ (j:Nat) u,us[j]? = some u->w.cell? ⟨b,off+j,none⟩=some u
theorem RowS.turn {S':Nat->Prop} (ht:Turn S S' w w') (h:RowS S w A us):RowS S' w' A us:=by
 intro hn;obtain ⟨b,off,h1,h2,h3⟩:=h hn;obtain ⟨u0,us',rfl⟩:=List.exists_cons_of_ne_nil hn;have hl:=World.block_lt_of_cell? w _ (h3 0 _ rfl);obtain ⟨k1,k2⟩:=ht b h2 hl;exact ⟨b,off,h1,k1,λj u hu=>(World.cell?_of_block (w:=w) k2).trans (h3 j u hu)⟩
theorem RowS.rds (h:RowS S w A us):Rds w A us:=by
 by_cases hn:us=[]
 ·exact .inl hn
 ·obtain ⟨b,off,h1, -,h3⟩:=h hn;exact .inr ⟨b,off,h1,h3⟩
theorem RowS.own {c:Nat} (h:w.ownsRow B e 1 (.slice A n c) n us):RowS (λk=>B<=k) w A us:=by
 intro hn;have hl:0<n:=by
  have:=h.1;rw [Nat.mul_one] at this;rw [<-this];exact List.length_pos_iff.2 hn
 obtain ⟨b,cap,hv, -⟩:=h.form hl;injection hv with hA _ _;subst hA;refine ⟨b,0,rfl,(h.lt b rfl).1,λj u hu => ?_⟩;have h1:=h.cells (g:=b) rfl j u hu;have e:=ra
 rwa [e] at h1
theorem Pair.rows {A1 A2:ZT} {n1 c1 n2 c2:Nat} (h:Pair sc B P T (.slice A1 n1 c1) (.slice A2 n2 c2) us gs xs hs w):RowS (λk=>B<=k) w A1 us/\RowS (λk=>B<=k) w A2 (gs.map ptr)/\NTs (λk=>B<=k) w sc xs hs/\P (λk=>B<=k) w:=by
 obtain ⟨A,c,e, -⟩:=sP h.o1;obtain ⟨A',c',e', -⟩:=sP h.o2;injection e with _ e1 _;injection e' with _ e1' _;subst e1 e1';have ht:Turn (SO2 B (.slice A1 us.length c1) (.slice A2 gs.length c2)) (λk=>B<=k) w w:=Turn.mono λ_ hk _=>hk.1;exact ⟨RowS.own h.o1,RowS.own h.o2,NTs.turn ht h.nt,h.hP _ _ _ _ ht h.pt⟩
theorem aJU (T:TypeId) (g:Nat) (w:World) (h:(T==121||T==194||T==198||T==201)=true):(Instr.typeAssert (.iface T g) 66 192 true).run prog w=.ok (.tuple #[.pointer none,false]) w/\(Instr.typeAssert (.iface T g) 66 204 true).run prog w=.ok (.tuple #[.pointer none,false]) w:=by
 simp only [Bool.or_eq_true,beq_iff_eq] at h;rcases h with ((rfl|rfl)|rfl)|rfl<;>exact ⟨aj,aj⟩
theorem Jr (g:Nat) (w:World):(Instr.typeAssert (.iface 192 g) 66 192 true).run prog w=.ok (.tuple #[g,true]) w:=aj
theorem Js (g:Nat) (w:World):(Instr.typeAssert (.iface 204 g) 66 192 true).run prog w=.ok (.tuple #[.pointer none,false]) w:=aj
theorem Jt (g:Nat) (w:World):(Instr.typeAssert (.iface 204 g) 66 204 true).run prog w=.ok (.tuple #[g,true]) w:=aj
theorem aED:∀ op∈kG,Lib.toLowerA op=aEE op/\op.length<=100/\∀ b∈op,b.toNat<128:=am
theorem aKA {a b:ZS} (h:a=b):Ending.returned (.string a)=.returned (.string b):=cm
section
attribute [local go_sem] Jr Js Jt
theorem Bu (g:Nat) (op:ZS) (u:Value) (w:World) (hop:op∈kG) (h:w.heap[g]? = some (.cells #[op,u] 208 (0,0))) :
 Calls prog 49 #[.agg #[.iface 204 g,()]] w λe w'=>e=.returned (.string ⟨(aEE op).toArray⟩)/\Below w w w':=by
 obtain ⟨h1,h2,h3⟩:=aED op hop;have hb0:Below w w (w.alloc (.cells #[.iface 204 g,()] 142)):=ρ;have HL:=κ (λW=>Tryz.strings_ToLower_ascii op W (by show op.toArray.size<=_;rw [List.size_toArray];omega) (λj b hb=>h3 b (List.mem_of_getElem? hb)));have hc:=β (aA h hb0);have hz:=β (heap_alloc_new w (.cells #[.iface 204 g,()] 142));have HB:=se;have HE:=κ h1;clear h h2 h3 hop hb0 h1;go_enter func49,ntmps49;go_wp2_with fail;refine (HL.o _).mono ?_;rintro e w' ⟨rfl,hb⟩;have HX:=ut;clear hb;go_wp2;go_ret;exact ⟨aKA HE.o,HX.o⟩
theorem Qu (g:Nat) (t s:ByteArray) (w:World) (h:w.heap[g]? = some (.cells #[t,s] 206 (0,0))) :
 Calls prog 49 #[.agg #[.iface 192 g,()]] w λe w'=>e=.returned (.string s)/\Below w w w':=by
 have hb0:Below w w (w.alloc (.cells #[.iface 192 g,()] 142)):=ρ;have hc:=β (aA h hb0);have hz:=β (heap_alloc_new w (.cells #[.iface 192 g,()] 142));have HB:=se;clear h hb0;go_enter func49,ntmps49;go_wp2;go_ret;exact ph
end
theorem qT (T:TypeId) (g:Nat) (w:World) (h:(T==121||T==194||T==198||T==201)=true) :
 Calls prog 49 #[.agg #[.iface T g,()]] w λe w'=>e=.returned (.string Mm)/\Below w w w':=by
 have hb0:Below w w (w.alloc (.cells #[.iface T g,()] 142)):=ρ;have hz:=β (heap_alloc_new w (.cells #[.iface T g,()] 142));obtain ⟨t1,t2⟩:=aJU T g (w.alloc (.cells #[.iface T g,()] 142)) h;have HB:=se;clear h hb0;go_enter func49,ntmps49;go_wp2;go_ret;exact ph
theorem Xg (v:Value) (s:ByteArray) (w:World) (h:s.toList.isEmpty=false) (hv:∃ T g,v=.iface T (.pointer (some ⟨g,0,none⟩))) :
 Calls prog 49 #[.agg #[v,s]] w λe w'=>e=.returned (.string s)/\Below w w w':=by
 obtain ⟨T,g,rfl⟩:=hv;have hb0:Below w w (w.alloc (.cells #[.iface T g,s] 142)):=ρ;have hz:=β (heap_alloc_new w (.cells #[.iface T g,s] 142));have HB:=se;clear hb0;go_enter func49,ntmps49;go_wp2;go_ret;exact ph
theorem Qv (x:Lp.X) (nm:ZS) (v:Value) (w:World) (hw:x.wf) (hp:PX 0 w x v):Calls prog 49 #[.agg #[v,nm]] w λe w'=>e=.returned (.string ⟨(Bv (x,nm)).toArray⟩)/\Below w w w':=by
 by_cases hn:nm=[]
 ·subst hn;cases x with
  | lit=>obtain ⟨g, -,rfl, -⟩:=hp;exact uu
  | col t s=>obtain ⟨g, -,rfl,h⟩:=hp;exact Qu g _ _ w h
  | un op x=>obtain ⟨g,u, -,rfl, -⟩:=hp;exact uu
  | bin op a b=>obtain ⟨g,u1,u2, -,rfl, -⟩:=hp;exact uu
  | isn n x=>obtain ⟨g,u, -,rfl, -⟩:=hp;exact uu
  | agg op x=>obtain ⟨g,u, -,rfl,h, -⟩:=hp;exact Bu g op u w hw.1 h
  | cnt=>obtain ⟨g, -,rfl,h⟩:=hp;exact Bu g aJ .nilIface w am h
 ·rw [show Bv (x,nm)=nm from if_neg hn];refine Xg v _ w ?_ hp.form;rw [ByteArray.toList_eq];cases nm with
  | nil=>exact absurd rfl hn
  | cons=>rfl
def tS (sc:List Tb) (x:Lp.X):Int:=if (aC sc x false).2=0 then (if fitK (aC sc x false).1 3 then 0 else 8) else (aC sc x false).2
def Ep (sc:List Tb) (x:Lp.X) (w:World) (e:Ending) (w':World):Prop :=
 Below w w w'/\if tS sc x=0 then ∃ g,e=.returned (.tuple #[ptr g,.int .i64 0])/\NT (λk=>w.heap.size<=k) w' sc x g else e=.returned (.tuple #[.pointer none,.int .i64 (tS sc x)])
theorem Tm {E:Int} (h:tS sc x=E) (h0:E≠0) (hb:Below w w w'):Ep sc x w (.returned (.tuple #[.pointer none,.int .i64 E])) w':=by
 subst h;exact ⟨hb,by rw [if_neg h0]⟩
theorem aBR (h:tS sc x=0) (hb:Below w w w') (hn:NT (λk=>w.heap.size<=k) w' sc x g):Ep sc x w (.returned (.tuple #[ptr g,.int .i64 0])) w' :=
 ⟨hb,by rw [if_pos h];exact ⟨g,rfl,hn⟩⟩
theorem Ah (A:ZT) (c:Nat) (sc:List Tb) (x:Lp.X) (T:TypeId) (g0:Nat) (w:World) (hn:sc.length<=100) (hw:bY sc<=10000) (hx:x.wf) (hp:PX 0 w x (.iface T g0)) (hS:ScM w A sc) :
 Calls prog 46 #[.slice A sc.length c,.iface T g0] w (Ep sc x w):=by
 have HB:=κ (tJ A c sc false x _ w hn hw hx hp hS);clear hn hw hx hp hS;go_enter func46,ntmps46;go_wp2_with fail;refine μ HB ?_;rintro e w1 ⟨hb1,hr⟩;have HB1:=κ hb1
 by_cases hk:(aC sc x false).2=0
 ·rw [if_pos hk] at hr;obtain ⟨g,rfl,hnt⟩:=hr;have HN:=κ hnt;obtain ⟨op,v,a,An,n,cn,hc⟩:=hnt.kind hk;have HF:=κ (yL g op _ v a An n cn 3 w1 hc);have HT:Hd0 (tS sc x=if fitK (aC sc x false).1 3 then 0 else 8):=by show _=_;unfold tS;rw [if_pos hk]
  generalize fitK (aC sc x false).1 3=b at *;clear hnt hc hb1 hk HB;unfold ptr at HF |-;go_wp2_with fail;refine μ HF ?_;rintro e w2 ⟨rfl,rfl⟩;cases b
  ·go_wp2;go_ret2;exact Tm HT.o am HB1.o
  ·go_wp2;go_ret2;exact aBR HT.o HB1.o HN.o
 ·rw [if_neg hk] at hr;subst hr;have HT:Hd0 (tS sc x=(aC sc x false).2):=by show _=_;unfold tS;rw [if_neg hk]
  have HK:=κ hk;have e1:((aC sc x false).2==0)=false:=η hk;generalize (aC sc x false).2=E at *;clear hb1 HB hk;go_wp2;go_ret2;exact Tm HT.o HK.o HB1.o
theorem Af (A:ZT) (n c:Nat) (w:World):Calls prog 46 #[.slice A n c,.nilIface] w λe w'=>e=.returned (.tuple #[.pointer none,.int .i64 0])/\w=w':=by
 go_enter func46,ntmps46;go_wp2;go_ret2;exact cq
