/-
 Contracts. Conditions: those of each.
-/
import Derived.Test.YtkolcimllghnaaaGreatDoorQdVA
namespace Go.Proofs.YtkolcimllghnaaaGreatDoor.Lp
open Go.RowKit
variable{b:Bool}{i k:Int}{sc:List Tb}{r s s' t:ZS}
theorem aEZ {a b:Nat} (h:Lib.decDigits a=Lib.decDigits b):a=b:=by
 have h1:=rK a;have h2:=rK b;rw [h,h2] at h1;omega
theorem Iq (u:Nat):∃ c l,Lib.decDigits u=c::l∧aI c=true:=by
 obtain ⟨h1,h2⟩:=nF u;cases h:Lib.decDigits u with
 | nil=>exact absurd h h2
 | cons c l =>
   rw [h,List.all_cons,Bool.and_eq_true] at h1;exact ⟨c,l,rfl,h1.1⟩
theorem Rd (n:Int):∃ c l,Lib.itoa n=c::l∧(c=45∨aI c=true):=by
 unfold Lib.itoa
 by_cases h:n<0
 ·rw [if_pos h];exact ⟨45,_,rfl,.inl rfl⟩
 ·rw [if_neg h];obtain ⟨c,l,h1,h2⟩:=Iq n.toNat;exact ⟨c,l,h1,.inr h2⟩
def vW (c:UInt8):Int:=if c=39 then 2 else if c=84∨c=70 then 3 else if c=78 then 0 else 1
theorem Hj {v:V} (h:v.k=0∨v.k=1∨v.k=2∨v.k=3):∃ c l,lit v=c::l∧vW c=v.k:=by
 rcases h with h|h|h|h
 ·exact ⟨78,[85,76,76],by simp [lit,h],lp⟩
 ·obtain ⟨c,l,h1,h2⟩:=Rd v.i;refine ⟨c,l,by simp [lit,h,h1], ?_⟩;rw [h];have hne:c≠39∧¬(c=84∨c=70)∧c≠78:=by
   rcases h2 with rfl|h2
   ·decide
   ·refine ⟨?_, ?_, ?_⟩
    ·rintro rfl;cases h2
    ·rintro (rfl|rfl)<;>cases h2
    ·rintro rfl;cases h2
  unfold vW;rw [if_neg hne.1,if_neg hne.2.1,if_neg hne.2.2]
 ·exact ⟨39,quo v.s.data.toList++[39],by simp [lit,h,Qz],lp⟩
 ·cases hb:v.b
  ·exact ⟨70,[65,76,83,69],by simp [lit,h,hb],lp⟩
  ·exact ⟨84,[82,85,69],by simp [lit,h,hb],lp⟩
def bU (sc:List Tb):X->X->Bool
 | .lit k i s b,.lit k' i' s' b'=>k==k'&&i==i'&&s==s'&&b==b'
 | .col t s,.col t' s'=>dX sc t s==dX sc t' s'
 | .un op x,.un op' x'=>op==op'&&bU sc x x'
 | .bin op a b,.bin op' a' b'=>op==op'&&(bU sc a a'&&bU sc b b')
 | .isn n x,.isn n' x'=>n==n'&&bU sc x x'
 | .agg op x,.agg op' x'=>op==op'&&bU sc x x'
 | .cnt,.cnt=>true
 | _,_=>false
def kU (sc:List Tb):List Int:=sc.flatMap λtb=>tb.cs.map (·.k)
theorem Hw (s:ZS):∀ (l:List Col) (a0 a:Nat) (k:Int),(a,k)∈cJ s a0 l->a0≤a∧(l.map (·.k))[a-a0]? = some k∧a-a0<l.length
 | [],_,_,_,h=>by simp [cJ] at h
 | c::r,a0,a,k,h=>by
   unfold cJ at h;rcases List.mem_append.1 h with h|h
   ·split at h
    ·simp only [List.mem_singleton,Prod.mk.injEq] at h;obtain ⟨rfl,rfl⟩:=h;simp
    ·simp at h
   ·obtain ⟨h1,h2,h3⟩:=Hw s r (a0+1) a k h;refine ⟨ac, ?_,bl⟩;rw [show a-a0=(a-(a0+1))+1 by omega]
    simpa using h2
theorem Oc (t s:ZS):∀ (l:List Tb) (a0 a:Nat) (k:Int),(a,k)∈gT t s a0 l->a0≤a∧(kU l)[a-a0]? = some k
 | [],_,_,_,h=>by simp [gT] at h
 | c::r,a0,a,k,h=>by
   unfold gT at h;have e:kU (c::r)=c.cs.map (·.k)++kU r:=by simp [kU]
   rw [e];rcases List.mem_append.1 h with h|h
   ·split at h
    ·obtain ⟨h1,h2,h3⟩:=Hw s c.cs a0 a k h;exact ⟨h1,by rw [List.getElem?_append_left ft];exact h2⟩
    ·simp at h
   ·obtain ⟨h1,h2⟩:=Oc t s r (a0+c.cs.length) a k h;refine ⟨ac, ?_⟩;rw [List.getElem?_append_right bl];rw [<-h2]
    congr 1
    simp;omega
theorem tC {p:Nat×Int} (h:dX sc t s=some p):(kU sc)[p.1]? = some p.2:=by
 unfold dX at h
 split at h
 ·have:=Oc t s sc 0 p.1 p.2 (List.mem_of_getLast? h)
  simpa using this.2
 ·cases h
theorem Rs {t':ZS} {p q:Nat×Int} (h:dX sc t s=some p) (h':dX sc t' s'=some q) (he:p.1=q.1):p=q:=by
 have h1:=tC h;have h2:=tC h';rw [he,h2] at h1;injection h1 with h1;exact Prod.ext he h1.symm
def Stp (r:ZS):Prop:=∀ c l,r=c::l->c=32∨c=41
theorem Stp.nil:Stp []:=λ_ _ h=>lq
theorem Stp.blank (l:ZS):Stp (32::l):=λc m h=>by injection h with h _;exact .inl h.symm
theorem Stp.close (l:ZS):Stp (41::l):=λc m h=>by injection h with h _;exact .inr h.symm
theorem lG (p:UInt8->Bool):∀ (a b r t:ZS),a.all p=true->b.all p=true->(∀ c l,r=c::l->p c=false)->(∀ c l,t=c::l->p c=false)->a++r=b++t->a=b∧r=t
 | [],[],_,_,_,_,_,_,h=>⟨rfl,h⟩
 | [],c::b,r,t,_,hb,hr,_,h=>by
   have h1:=hr c (b++t) h;rw [List.all_cons,Bool.and_eq_true,h1] at hb;exact absurd hb.1 am
 | c::a,[],r,t,ha,_,_,ht,h=>by
   have h1:=ht c (a++r) h.symm;rw [List.all_cons,Bool.and_eq_true,h1] at ha;exact absurd ha.1 am
 | c::a,d::b,r,t,ha,hb,hr,ht,h=>by
   rw [List.all_cons,Bool.and_eq_true] at ha hb;rw [List.cons_append,List.cons_append,List.cons.injEq] at h;obtain ⟨h1,h2⟩:=lG p a b r t ha.2 hb.2 hr ht h.2;exact ⟨by rw [h.1,h1],h2⟩
theorem Oh (h:Stp r):∀ c l,r=c::l->aI c=false:=λc l e=>by rcases h c l e with rfl|rfl<;>decide
theorem Zq {u v:Nat} (hr:Stp r) (ht:Stp t) (h:Lib.decDigits u++r=Lib.decDigits v++t):u=v∧r=t:=by
 obtain ⟨h1,h2⟩:=lG aI _ _ r t (nF u).1 (nF v).1 (Oh hr) (Oh ht) h;exact ⟨aEZ h1,h2⟩
theorem yF {n:Int} (h:0≤n):Lib.itoa n=Lib.decDigits n.toNat:=by unfold Lib.itoa;rw [if_neg ac]
theorem Ca {a b:Int} (ha:0≤a) (hb:0≤b) (hr:Stp r) (ht:Stp t) (h:Lib.itoa a++r=Lib.itoa b++t):a=b∧r=t:=by
 rw [yF ha,yF hb] at h;obtain ⟨h1,h2⟩:=Zq hr ht h;exact ⟨ac,h2⟩
theorem xG:∀ (a b r t:ZS),Stp r->Stp t->quo a++39::r=quo b++39::t->a=b∧r=t
 | [],[],_,_,_,_,h=>by
   rw [Dl] at h;injection h with _ h;exact ⟨rfl,h⟩
 | [],c::b,r,t,hr,_,h=>by
   rw [Dl,mA] at h
   by_cases hc:c=39
   ·rw [if_pos hc] at h;simp only [List.nil_append,List.cons_append,List.cons.injEq,true_and] at h;rcases hr _ _ h with h|h<;>cases h
   ·rw [if_neg hc] at h;simp only [List.nil_append,List.cons_append,List.cons.injEq] at h;exact absurd h.1.symm hc
 | c::a,[],r,t,_,ht,h=>by
   rw [Dl,mA] at h
   by_cases hc:c=39
   ·rw [if_pos hc] at h;simp only [List.nil_append,List.cons_append,List.cons.injEq,true_and] at h;rcases ht _ _ h.symm with h|h<;>cases h
   ·rw [if_neg hc] at h;simp only [List.nil_append,List.cons_append,List.cons.injEq] at h;exact absurd h.1 hc
 | c::a,d::b,r,t,hr,ht,h=>by
   rw [mA,mA] at h
   by_cases hc:c=39
   ·by_cases hd:d=39
    ·rw [if_pos hc,if_pos hd] at h;obtain ⟨h1,h2⟩:=xG a b r t hr ht an;exact ⟨by rw [h1,hc,hd],h2⟩
    ·rw [if_pos hc,if_neg hd] at h;simp only [List.cons_append,List.nil_append,List.cons.injEq] at h;exact absurd h.1.symm hd
   ·by_cases hd:d=39
    ·rw [if_neg hc,if_pos hd] at h;simp only [List.cons_append,List.nil_append,List.cons.injEq] at h;exact absurd h.1 hc
    ·rw [if_neg hc,if_neg hd] at h;simp only [List.cons_append,List.nil_append,List.cons.injEq] at h;obtain ⟨h1,h2⟩:=xG a b r t hr ht h.2;exact ⟨by rw [h.1,h1],h2⟩
theorem Du (h:mX k i s b):rV k i s b=lit ⟨k,i,⟨s.toArray⟩,b⟩:=by
 unfold rV;rw [if_neg];rintro ⟨rfl,h2⟩;rcases h with h|h|h|h
 ·omega
 ·exact absurd h.1 am
 ·exact absurd h.1 am
 ·exact absurd h.1 am
theorem Xs {k' i':Int} {b':Bool} (h:mX k i s b) (h':mX k' i' s' b') (hr:Stp r) (ht:Stp t) (he:rV k i s b++r=rV k' i' s' b'++t):(k=k'∧i=i'∧s=s'∧b=b')∧r=t:=by
 rw [Du h,Du h'] at he;have kk:k=0∨k=1∨k=2∨k=3:=by rcases h with h|h|h|h<;>simp [h.1]
 have kk':k'=0∨k'=1∨k'=2∨k'=3:=by rcases h' with h|h|h|h<;>simp [h.1]
 obtain ⟨c,l,e1,e2⟩:=Hj (v:=⟨k,i,⟨s.toArray⟩,b⟩) kk;obtain ⟨d,m,e3,e4⟩:=Hj (v:=⟨k',i',⟨s'.toArray⟩,b'⟩) kk';have hk:k=k':=by
  have he2:=he;rw [e1,e3,List.cons_append,List.cons_append,List.cons.injEq] at he2;have e2':vW c=k:=e2;have e4':vW d=k':=e4;rw [<-e2', <-e4',he2.1]
 subst hk;clear e1 e2 e3 e4 kk kk';unfold lit at he;rcases h with ⟨rfl,h1,h2,h3,h4⟩|⟨rfl,h1,h2,h3⟩|⟨rfl,h1,h2,h3⟩|⟨rfl,h1,h2⟩
 ·rcases h' with ⟨-,g1,g2,g3,g4⟩|⟨g0,_⟩|⟨g0,_⟩|⟨g0,_⟩
  ·simp only [if_true] at he;obtain ⟨q1,q2⟩:=Ca h1 g1 hr ht he;exact ⟨⟨rfl,q1,by rw [h3,g3],by rw [h4,g4]⟩,q2⟩
  all_goals exact absurd g0 am
 ·rcases h' with ⟨g0,_⟩|⟨-,g1,g2,g3⟩|⟨g0,_⟩|⟨g0,_⟩
  ·exact lr
  ·have he:Qz s++r=Qz s'++t:=lu
   unfold Qz at he;have he:quo s++39::r=quo s'++39::t:=lu
   obtain ⟨q1,q2⟩:=xG s s' r t hr ht he;exact ⟨⟨rfl,by rw [h1,g1],q1,by rw [h3,g3]⟩,q2⟩
  all_goals exact absurd g0 am
 ·rcases h' with ⟨g0,_⟩|⟨g0,_⟩|⟨-,g1,g2,g3⟩|⟨g0,_⟩
  ·exact lr
  ·exact lr
  ·have he:([78,85,76,76]:ZS)++r=[78,85,76,76]++t:=lu
   exact ⟨⟨rfl,by rw [h1,g1],by rw [h2,g2],by rw [h3,g3]⟩,List.append_cancel_left he⟩
  ·exact lr
 ·rcases h' with ⟨g0,_⟩|⟨g0,_⟩|⟨g0,_⟩|⟨-,g1,g2⟩
  ·exact lr
  ·exact lr
  ·exact lr
  ·have he:(if b=true then ([84,82,85,69]:ZS) else [70,65,76,83,69])++r=(if b'=true then [84,82,85,69] else [70,65,76,83,69])++t:=lu
   have hb:b=b'∧r=t:=by
    cases b<;>cases b'<;>simp at he |- <;> first|exact he|exact he.2.2.2.2|exact he.2.2.2
   exact ⟨⟨rfl,by rw [h1,g1],by rw [h2,g2],hb.1⟩,hb.2⟩
def cls (c:UInt8):Nat:=if c=35 then 1 else if c=40 then 2 else if c=67∨c=83∨c=77 then 3 else 0
def zK:X->Nat
 | .lit .. => 0
 | .col .. => 1
 | .un .. => 2
 | .bin .. => 2
 | .isn .. => 2
 | .agg .. => 3
 | .cnt=>3
theorem aEY {c:UInt8} (h:aI c=true):cls c=0∧c≠45∧c≠42∧c≠78:=by
 refine ⟨?_, ?_, ?_, ?_⟩
 ·unfold cls;rw [if_neg (by rintro rfl;cases h),if_neg (by rintro rfl;cases h),if_neg (by rintro (rfl|rfl|rfl)<;>cases h)]
 all_goals (rintro rfl;cases h)
theorem nN (sc:List Tb) (x:X) (hw:x.wf):∃ c l,aO sc x=c::l∧cls c=zK x∧c≠45∧c≠42∧(c=78->l=[85,76,76]):=by
 cases x with
 | lit k i s b =>
   have hw:mX k i s b:=hw;rw [show aO sc (.lit k i s b)=rV k i s b from rfl,Du hw];unfold lit;rcases hw with ⟨rfl,h1,h2,h3,h4⟩|⟨rfl,h1,h2,h3⟩|⟨rfl,h1,h2,h3⟩|⟨rfl,h1,h2⟩
   ·obtain ⟨c,l,q1,q2⟩:=Iq i.toNat;obtain ⟨d1,d2,d3,d4⟩:=aEY q2;exact ⟨c,l,by simp only [if_true];rw [yF h1,q1],d1,d2,d3,λh=>absurd h d4⟩
   ·exact ⟨39,_,rfl,rfl,am,am,λh=>absurd h am⟩
   ·exact ⟨78,[85,76,76],rfl,rfl,am,am,λ_=>rfl⟩
   ·cases b
    ·exact ⟨70,_,rfl,rfl,am,am,λh=>absurd h am⟩
    ·exact ⟨84,_,rfl,rfl,am,am,λh=>absurd h am⟩
 | col t s=>exact ⟨35,_,rfl,rfl,am,am,λh=>absurd h am⟩
 | un op x=>exact ⟨40,_,rfl,rfl,am,am,λh=>absurd h am⟩
 | bin op a b=>exact ⟨40,_,rfl,rfl,am,am,λh=>absurd h am⟩
 | isn n x=>exact ⟨40,_,rfl,rfl,am,am,λh=>absurd h am⟩
 | agg op x =>
   have h:=hw.1;simp only [kG,List.mem_cons,List.not_mem_nil,or_false] at h;rcases h with rfl|rfl|rfl|rfl
   ·exact ⟨67,_,rfl,rfl,am,am,λh=>absurd h am⟩
   ·exact ⟨83,_,rfl,rfl,am,am,λh=>absurd h am⟩
   ·exact lv
   ·exact lv
 | cnt=>exact ⟨67,_,rfl,rfl,am,am,λh=>absurd h am⟩
def eW (sc:List Tb):X->Prop
 | .lit .. => True
 | .col t s=>∃ p,dX sc t s=some p
 | .un _ x=>eW sc x
 | .bin _ a b=>eW sc a∧eW sc b
 | .isn _ x=>eW sc x
 | .agg _ x=>eW sc x
 | .cnt=>True
def vI (x:UInt8) (c:UInt8):Bool := !(c==x)
theorem eV {x:UInt8} {l:ZS}:∀ c m,x::l=c::m->vI x c=false:=λc m h=>by
 injection h with h _;subst h;simp [vI]
theorem lS:∀ op∈nH,op.all (vI 32)=true∧op≠[73,83]:=am
theorem tO:∀ op∈kG,op.all (vI 40)=true:=am
theorem Cq {a:X} (hw:a.wf) {op:ZS} (hop:op=fG∨op=[45]) (h:op++32::r=aO sc a++32::t):False:=by
 obtain ⟨c,l,h1, -,h2, -,h3⟩:=nN sc a hw;rw [h1] at h;rcases hop with rfl|rfl
 ·simp only [fG,List.cons_append,List.nil_append,List.cons.injEq] at h;have h4:=h3 h.1.symm;subst h4;simp at h
 ·simp only [List.cons_append,List.nil_append,List.cons.injEq] at h;exact h2 h.1.symm
theorem Nz (n:Bool):(if n then lX else sIs)=[73,83]++32::(if n then [78,79,84,32,78,85,76,76] else [78,85,76,76]):=by cases n<;>rfl
theorem Pi (sc:List Tb):∀ (x y:X) (r t:ZS),x.wf->y.wf->eW sc x->eW sc y->Stp r->Stp t->aO sc x++r=aO sc y++t->bU sc x y=true∧r=t:=by
 intro x;have hcl:∀ {x y:X} {r t:ZS},x.wf->y.wf->aO sc x++r=aO sc y++t->zK x=zK y:=by
  intro x y r t hx hy h;obtain ⟨c,l,h1,h2, -⟩:=nN sc x hx;obtain ⟨d,m,h3,h4, -⟩:=nN sc y hy;rw [h1,h3,List.cons_append,List.cons_append,List.cons.injEq] at h;rw [<-h2, <-h4,h.1]
 induction x with
 | lit k i s b =>
   intro y r t hx hy kx ky hr ht h;have hc:=ly;cases y with
   | lit k' i' s' b' =>
     obtain ⟨⟨rfl,rfl,rfl,rfl⟩,q⟩:=Xs hx hy hr ht h;exact ⟨by simp [bU],q⟩
   | _=>exact absurd hc lz
 | col tt s =>
   intro y r t hx hy kx ky hr ht h;have hc:=ly;cases y with
   | col t' s' =>
     obtain ⟨p,hp⟩:=kx;obtain ⟨q,hq⟩:=ky;have e1:atX sc tt s=p.1:=by simp [atX,hp]
     have e2:atX sc t' s'=q.1:=by simp [atX,hq]
     have h:(35::Lib.itoa (atX sc tt s))++r=(35::Lib.itoa (atX sc t' s'))++t:=h;rw [e1,e2,List.cons_append,List.cons_append,List.cons.injEq] at h;obtain ⟨q1,q2⟩:=Ca ac ac hr ht h.2;have:=Rs hp hq ac;exact ⟨by simp [bU,hp,hq,this],q2⟩
   | _=>exact absurd hc lz
 | un op x ih =>
   intro y r t hx hy kx ky hr ht h;have hc:=ly;have ex:aO sc (.un op x)++r=40::(op++32::(aO sc x++41::r)):=ma
   rw [ex] at h;cases y with
   | un op' x' =>
     have ey:=mb
     rw [ey,List.cons.injEq] at h;have nb:∀ o,(o=fG∨o=[45])->o.all (vI 32)=true:=by rintro o (rfl|rfl)<;>decide
     obtain ⟨q1,q2⟩:=lG (vI 32) op op' _ _ (nb _ hx.1) (nb _ hy.1) eV eV h.2;injection q2 with _ q2;obtain ⟨q3,q4⟩:=ih x' _ _ hx.2 hy.2 kx ky (Stp.close _) (Stp.close _) q2;injection q4 with _ q4;exact ⟨by simp [bU,q1,q3],q4⟩
   | bin op' a b =>
     have ey:aO sc (.bin op' a b)++t=40::(aO sc a++32::(op'++32::(aO sc b++41::t))):=ma
     rw [ey,List.cons.injEq] at h;exact (Cq hy.2.1 hx.1 h.2).elim
   | isn n x' =>
     have ey:=mc
     rw [ey,List.cons.injEq] at h;exact (Cq (a:=x') hy hx.1 h.2).elim
   | _=>exact absurd hc lz
 | bin op a b iha ihb =>
   intro y r t hx hy kx ky hr ht h;have hc:=ly;have ex:aO sc (.bin op a b)++r=40::(aO sc a++32::(op++32::(aO sc b++41::r))):=ma
   rw [ex] at h;cases y with
   | un op' x' =>
     have ey:=mb
     rw [ey,List.cons.injEq] at h;exact (Cq hx.2.1 hy.1 h.2.symm).elim
   | bin op' a' b' =>
     have ey:=me
     rw [ey,List.cons.injEq] at h;obtain ⟨q1,q2⟩:=iha a' _ _ hx.2.1 hy.2.1 kx.1 ky.1 (Stp.blank _) (Stp.blank _) h.2;injection q2 with _ q2;obtain ⟨q3,q4⟩:=lG (vI 32) op op' _ _ (lS _ hx.1).1 (lS _ hy.1).1 eV eV q2;injection q4 with _ q4;obtain ⟨q5,q6⟩:=ihb b' _ _ hx.2.2 hy.2.2 kx.2 ky.2 (Stp.close _) (Stp.close _) q4;injection q6 with _ q6;exact ⟨by simp [bU,q1,q3,q5],q6⟩
   | isn n x' =>
     have ey:=mc
     rw [ey,List.cons.injEq] at h;obtain ⟨q1,q2⟩:=iha x' _ _ hx.2.1 hy kx.1 ky (Stp.blank _) (Stp.blank _) h.2;injection q2 with _ q2;rw [Nz,List.append_assoc,List.cons_append] at q2;obtain ⟨q3,q4⟩:=lG (vI 32) op [73,83] _ _ (lS _ hx.1).1 am eV eV q2;exact absurd q3 (lS _ hx.1).2
   | _=>exact absurd hc lz
 | isn n x ih =>
   intro y r t hx hy kx ky hr ht h;have hc:=ly;have ex:aO sc (.isn n x)++r=40::(aO sc x++32::((if n then lX else sIs)++41::r)):=ma
   rw [ex] at h;cases y with
   | un op' x' =>
     have ey:=mb
     rw [ey,List.cons.injEq] at h;exact (Cq (a:=x) hx hy.1 h.2.symm).elim
   | bin op' a' b' =>
     have ey:=me
     rw [ey,List.cons.injEq] at h;obtain ⟨q1,q2⟩:=ih a' _ _ hx hy.2.1 kx ky.1 (Stp.blank _) (Stp.blank _) h.2;injection q2 with _ q2;rw [Nz,List.append_assoc,List.cons_append] at q2;obtain ⟨q3,q4⟩:=lG (vI 32) [73,83] op' _ _ am (lS _ hy.1).1 eV eV q2;exact absurd q3.symm (lS _ hy.1).2
   | isn n' x' =>
     have ey:aO sc (.isn n' x')++t=40::(aO sc x'++32::((if n' then lX else sIs)++41::t)):=ma
     rw [ey,List.cons.injEq] at h;obtain ⟨q1,q2⟩:=ih x' _ _ hx hy kx ky (Stp.blank _) (Stp.blank _) h.2;injection q2 with _ q2;have q3:n=n'∧r=t:=by
      cases n<;>cases n'<;>simp [sIs,lX] at q2 |- <;> exact q2
     exact ⟨by simp [bU,q1,q3.1],q3.2⟩
   | _=>exact absurd hc lz
 | agg op x ih =>
   intro y r t hx hy kx ky hr ht h;have hc:=ly;have ex:aO sc (.agg op x)++r=op++40::(aO sc x++41::r):=ma
   rw [ex] at h;cases y with
   | agg op' x' =>
     have ey:=mf
     rw [ey] at h;obtain ⟨q3,q4⟩:=lG (vI 40) op op' _ _ (tO _ hx.1) (tO _ hy.1) eV eV h;injection q4 with _ q4;obtain ⟨q5,q6⟩:=ih x' _ _ hx.2 hy.2 kx ky (Stp.close _) (Stp.close _) q4;injection q6 with _ q6;exact ⟨by simp [bU,q3,q5],q6⟩
   | cnt =>
     have ey:aO sc .cnt++t=aJ++40::(42::41::t):=rfl;rw [ey] at h;obtain ⟨q3,q4⟩:=lG (vI 40) op aJ _ _ (tO _ hx.1) am eV eV h;injection q4 with _ q4;obtain ⟨c,l,h1, -, -,h2, -⟩:=nN sc x hx.2;rw [h1,List.cons_append,List.cons.injEq] at q4;exact absurd q4.1 h2
   | _=>exact absurd hc lz
 | cnt =>
   intro y r t hx hy kx ky hr ht h;have hc:=ly;have ex:aO sc .cnt++r=aJ++40::(42::41::r):=rfl;rw [ex] at h;cases y with
   | agg op' x' =>
     have ey:=mf
     rw [ey] at h;obtain ⟨q3,q4⟩:=lG (vI 40) aJ op' _ _ am (tO _ hy.1) eV eV h;injection q4 with _ q4;obtain ⟨c,l,h1, -, -,h2, -⟩:=nN sc x' hy.2;rw [h1,List.cons_append,List.cons.injEq] at q4;exact absurd q4.1.symm h2
   | cnt =>
     have ey:aO sc .cnt++t=aJ++40::(42::41::t):=rfl;rw [ey] at h;have h:=List.append_cancel_left h;simp only [List.cons.injEq,true_and] at h;exact ⟨rfl,h⟩
   | _=>exact absurd hc lz
theorem Pr (sc:List Tb):∀ x y:X,bU sc x y=true->aO sc x=aO sc y:=by
 intro x
 induction x with
 | lit k i s b =>
   intro y h;cases y with
   | lit k' i' s' b' =>
     simp only [bU,Bool.and_eq_true,beq_iff_eq] at h;obtain ⟨⟨⟨rfl,rfl⟩,rfl⟩,rfl⟩:=h;rfl
   | _=>cases h
 | col t s =>
   intro y h;cases y with
   | col t' s' =>
     simp only [bU,beq_iff_eq] at h;simp [aO,atX,h]
   | _=>cases h
 | un op x ih =>
   intro y h;cases y with
   | un op' x' =>
     simp only [bU,Bool.and_eq_true,beq_iff_eq] at h;simp [aO,h.1,ih _ h.2]
   | _=>cases h
 | bin op a b iha ihb =>
   intro y h;cases y with
   | bin op' a' b' =>
     simp only [bU,Bool.and_eq_true,beq_iff_eq] at h;simp [aO,h.1,iha _ h.2.1,ihb _ h.2.2]
   | _=>cases h
 | isn n x ih =>
   intro y h;cases y with
   | isn n' x' =>
     simp only [bU,Bool.and_eq_true,beq_iff_eq] at h;simp [aO,h.1,ih _ h.2]
   | _=>cases h
 | agg op x ih =>
   intro y h;cases y with
   | agg op' x' =>
     simp only [bU,Bool.and_eq_true,beq_iff_eq] at h;simp [aO,h.1,ih _ h.2]
   | _=>cases h
 | cnt =>
   intro y h;cases y with
   | cnt=>rfl
   | _=>cases h
theorem sL {x y:X} (hx:x.wf) (hy:y.wf) (kx:eW sc x) (ky:eW sc y):bU sc x y=(aO sc x==aO sc y):=by
 rw [Bool.eq_iff_iff,beq_iff_eq];exact ⟨Pr sc x y,λh=>(Pi sc x y [] [] hx hy kx ky Stp.nil Stp.nil ch).1⟩
