/-
 Contracts. Conditions: those of each.
-/
import Derived.Test.YtkolcimllghnaaaGreatDoorQdGA
import Derived.Laws.BitsAllLaws
import Derived.Lib.ItoaNum
import Derived.Lib.Replace
import Derived.Lib.SplitLaws
import Derived.Lib.ItoaLen
import Derived.Lib.RuneCount
namespace Go.Proofs.YtkolcimllghnaaaGreatDoor.Lp
variable{b done:Bool}{U d lev pos:Nat}{c:UInt8}{x:X}{T acc n s:ZS}{L l r:ZW}
mutual
theorem fC:∀ (f g lev d:Nat) (l:ZW),lev≤8->20*l.length+20-2*lev≤f->20*l.length+20-2*lev≤g->px f lev d l=px g lev d l
 | 0,_,lev,_,l,h8,hf,_=>ac
 | f+1,0,lev,_,l,h8,_,hg=>ac
 | f+1,g+1,lev,d,l,h8,hf,hg=>by
   unfold px
   split
   ·rename_i h3
    split
    ·rename_i h1
     have:=bD h1;rw [fC f g 3 (d+1) l.tail ac ac ac]
    ·exact fC f g 4 d l ac ac ac
   split
   ·rename_i h3
    split
    ·rename_i h1
     have:=bD h1;rw [fC f g 7 (d+1) l.tail ac ac ac]
    ·exact fC f g 8 d l ac ac ac
   split
   ·exact Nn f g d l ac ac
   ·rw [fC f g (lev+1) d l ac ac ac]
    split
    ·rfl
    ·rename_i h1
     have:=jU _ _ _ _ _ _ h1;exact bk
theorem qQ:∀ (f g lev d:Nat) (x:X) (done:Bool) (l:ZW),lev≤7->20*l.length+20≤f->20*l.length+20≤g->pl f lev d x done l=pl g lev d x done l
 | 0,_,lev,_,_,_,l,h8,hf,_=>ac
 | f+1,0,lev,_,_,_,l,h8,_,hg=>ac
 | f+1,g+1,lev,d,x,done,l,h8,hf,hg=>by
   unfold pl
   split
   ·rename_i s h1
    have h1':cP lev l=some s:=by
     split at h1
     ·cases h1
     ·exact h1
    have:=iH h1';rw [fC f g (lev+1) d l.tail ac ac ac]
    split
    ·rfl
    ·rename_i h2
     have:=jU _ _ _ _ _ _ h2;exact bk
   ·split
    ·rename_i h1
     have:=bD h1.2
     split
     ·rfl
     ·rename_i h2
      have:=qS h2;exact bk
    ·rfl
theorem Nn:∀ (f g d:Nat) (l:ZW),20*l.length+2≤f->20*l.length+2≤g->pa f d l=pa g d l
 | 0,_,_,l,hf,_=>ac
 | f+1,0,_,l,_,hg=>ac
 | f+1,g+1,d,[],hf,hg=>by simp [pa]
 | f+1,g+1,d,t::r,hf,hg=>by
   simp only [List.length_cons] at hf hg;have h1:=fC f g 1 (d+1) r ac ac ac;have h2:∀ r2,aD [40] r=some r2->px f 1 (d+1) r2=px g 1 (d+1) r2:=λr2 h=>by
    have:=dQ h;exact fC f g 1 (d+1) r2 ac ac ac
   rw [pa.eq_3,pa.eq_3,h1];cases hq:aD [40] r with
   | none=>rfl
   | some r2=>simp only [h2 r2 hq]
end
def pX (lev d:Nat) (l:ZW):Option (X×ZW):=px (20*l.length+20) lev d l
def pL (lev d:Nat) (x:X) (done:Bool) (l:ZW):Option (X×ZW):=pl (20*l.length+20) lev d x done l
def pA (d:Nat) (l:ZW):Option (X×ZW):=pa (20*l.length+20) d l
theorem xL (h:isF oV l=true):pX 3 d l=if d+1≤40 then (pX 3 (d+1) l.tail).map λp=>(.un fG p.1,p.2) else none:=by
 have:=bD h;rw [pX,px];simp only [if_true,h];rw [fC _ (20*l.tail.length+20) 3 (d+1) l.tail ac ac ac];rfl
theorem Bn (h:isF oV l=false):pX 3 d l=pX 4 d l:=by
 rw [pX,px];simp only [if_true,h];exact fC _ _ 4 d l ac ac ac
theorem xN (h:isF [45] l=true):pX 7 d l=if d+1≤40 then (pX 7 (d+1) l.tail).map λp=>(.un [45] p.1,p.2) else none:=by
 have:=bD h;rw [pX,px];simp only [if_true,h];rw [fC _ (20*l.tail.length+20) 7 (d+1) l.tail ac ac ac];rfl
theorem Bo (h:isF [45] l=false):pX 7 d l=pX 8 d l:=by
 rw [pX,px];simp only [h];exact fC _ _ 8 d l ac ac ac
theorem dD :pX 8 d l=pA d l:=by
 rw [pX,px];exact Nn _ _ d l ac ac
theorem rT {lev d:Nat} {l:ZW} (h3:lev≠3) (h7:lev<7):pX lev d l=match pX (lev+1) d l with
 | none=>none
 | some (x,r)=>pL lev d x false r:=by
 rw [pX,px,if_neg h3,if_neg ac,if_neg ac,fC _ (20*l.length+20) (lev+1) d l ac ac ac];show (match pX (lev+1) d l with|none=>none|some (x,r)=>_)=_;cases hq:pX (lev+1) d l with
 | none=>rfl
 | some p =>
   obtain ⟨x,r⟩:=p;have:=jU _ _ _ _ _ _ hq;exact qQ _ _ lev d x false r ac ac ac
theorem oD (h:cP lev l=some s) (h8:lev≤7):pL lev d x false l=match pX (lev+1) d l.tail with
 | none=>none
 | some (y,r)=>pL lev d (.bin (upW s) x y) (lev==4) r:=by
 have:=iH h;rw [pL,pl];simp only [φ,if_false,h];rw [fC _ (20*l.tail.length+20) (lev+1) d l.tail ac ac ac];show (match pX (lev+1) d l.tail with|none=>none|some (y,r)=>_)=_;cases hq:pX (lev+1) d l.tail with
 | none=>rfl
 | some p =>
   obtain ⟨y,r⟩:=p;have:=jU _ _ _ _ _ _ hq;exact qQ _ _ lev d _ _ r ac ac ac
theorem aGT (h:(if done then none else cP 4 l)=none) (h1:isF wIs l=true):pL 4 d x done l=match fP l.tail with
 | none=>none
 | some (n,r)=>pL 4 d (.isn n x) done r:=by
 have:=bD h1;rw [pL,pl];simp only [h,h1,and_self,if_true];cases hq:fP l.tail with
 | none=>rfl
 | some p =>
   obtain ⟨n,r⟩:=p;have:=qS hq;exact qQ _ _ 4 d _ _ r ac ac ac
theorem pM (h:(if done then none else cP lev l)=none) (h1:lev≠4∨isF wIs l=false):pL lev d x done l=some (x,l):=by
 rw [pL,pl];simp only [h];rw [if_neg];rintro ⟨a,b⟩;rcases h1 with h1|h1
 ·exact h1 a
 ·rw [h1] at b;cases b
theorem Wy :pA d []=none:=by simp [pA,pa]
theorem eF (d:Nat) (t:Tok) (r:ZW):pA d (t::r) =
 if t.k=2 then some (.lit 1 t.n [] false,r)
 else if t.k=3 then some (.lit 2 0 t.s false,r)
 else if isF cE (t::r) then some (.lit 0 0 [] false,r)
 else if isF dU (t::r) then some (.lit 3 0 [] true,r)
 else if isF cX (t::r) then some (.lit 3 0 [] false,r)
 else if isF [40] (t::r) then (if d+1≤40 then (match pX 1 (d+1) r with
  | none=>none
  | some (x,r2)=>(aD [41] r2).map λr3=>(x,r3)) else none)
 else if isF bF (t::r)||isF gG (t::r)||isF jA (t::r)||isF kL (t::r) then (if d+1≤40 then (match aD [40] r with
  | none=>none
  | some r2=>if t.s=bF∧isF [42] r2=true then (aD [41] r2.tail).map λr3=>(.cnt,r3) else (match pX 1 (d+1) r2 with
    | none=>none
    | some (x,r3)=>(aD [41] r3).map λr4=>(.agg (upW t.s) x,r4))) else none)
 else mM (t::r):=by
 rw [pA,pa,fC _ (20*r.length+20) 1 (d+1) r ac bl ac];cases hq:aD [40] r with
 | none=>rfl
 | some r2 =>
   have:=dQ hq;simp only;rw [fC _ (20*r2.length+20) 1 (d+1) r2 ac bl ac];rfl
theorem iL (h:pX lev d l=some (x,r)):r.length<l.length:=jU _ _ _ _ _ _ h
theorem aV (l:ZW):l.tail <:+ l:=List.tail_suffix l
theorem aU (h:aD s l=some r):r <:+ l:=by
 unfold aD at h
 split at h
 ·injection h with h;subst h;exact aV l
 ·cases h
theorem bZ (h:bB l=some (n,r)):r <:+ l:=by
 cases l with
 | nil=>cases h
 | cons t r' =>
   simp only [bB] at h
   split at h
   ·simp only [Option.some.injEq,Prod.mk.injEq] at h;rw [<-h.2];exact List.suffix_cons t r'
   ·cases h
theorem aAC (h:mM l=some (x,r)):r <:+ l:=by
 unfold mM at h
 split at h
 ·cases h
 ·rename_i n r1 h1
  have a1:=bZ h1
  split at h
  ·split at h
   ·cases h
   ·rename_i m r2 h3
    have a2:=bZ h3;simp only [Option.some.injEq,Prod.mk.injEq] at h;rw [<-h.2];exact a2.trans ((aV _).trans a1)
  ·simp only [Option.some.injEq,Prod.mk.injEq] at h;rw [<-h.2];exact a1
theorem Br (h:fP l=some (b,r)):r <:+ l:=by
 unfold fP at h
 split at h
 ·obtain ⟨r1,h2,h3⟩:=aq;simp only [Prod.mk.injEq] at h3;rw [<-h3.2];exact (aU h2).trans (aV l)
 ·obtain ⟨r1,h2,h3⟩:=aq;simp only [Prod.mk.injEq] at h3;rw [<-h3.2];exact aU h2
mutual
theorem mB:∀ (f lev d:Nat) (l r:ZW) (x:X),px f lev d l=some (x,r)->r <:+ l
 | 0,_,_,_,_,_,h=>aw
 | f+1,lev,d,l,r,x,h=>by
   unfold px at h
   split at h
   ·split at h
    ·split at h
     ·obtain ⟨⟨y,r1⟩,h2,h3⟩:=aq;have a:=mB _ _ _ _ _ _ h2;simp only [Prod.mk.injEq] at h3;rw [<-h3.2];exact a.trans (aV l)
     ·cases h
    ·exact mB _ _ _ _ _ _ h
   split at h
   ·split at h
    ·split at h
     ·obtain ⟨⟨y,r1⟩,h2,h3⟩:=aq;have a:=mB _ _ _ _ _ _ h2;simp only [Prod.mk.injEq] at h3;rw [<-h3.2];exact a.trans (aV l)
     ·cases h
    ·exact mB _ _ _ _ _ _ h
   split at h
   ·exact aHX _ _ _ _ _ h
   ·split at h
    ·cases h
    ·rename_i h1
     exact (Kz _ _ _ _ _ _ _ _ h).trans (mB _ _ _ _ _ _ h1)
theorem Kz:∀ (f lev d:Nat) (x:X) (done:Bool) (l r:ZW) (y:X),pl f lev d x done l=some (y,r)->r <:+ l
 | 0,_,_,_,_,_,_,_,h=>ay
 | f+1,lev,d,x,done,l,r,y,h=>by
   unfold pl at h
   split at h
   ·split at h
    ·cases h
    ·rename_i h2
     exact (Kz _ _ _ _ _ _ _ _ h).trans ((mB _ _ _ _ _ _ h2).trans (aV l))
   ·split at h
    ·split at h
     ·cases h
     ·rename_i h2
      exact (Kz _ _ _ _ _ _ _ _ h).trans ((Br h2).trans (aV l))
    ·simp only [Option.some.injEq,Prod.mk.injEq] at h;rw [<-h.2];exact List.suffix_refl _
theorem aHX:∀ (f d:Nat) (l r:ZW) (x:X),pa f d l=some (x,r)->r <:+ l
 | 0,_,_,_,_,h=>az
 | f+1,d,[],_,_,h=>az
 | f+1,d,t::r0,r,x,h=>by
   have hc:=List.suffix_cons t r0;unfold pa at h;have fin:∀ {z:X},some (z,r0)=some (x,r)->r <:+ (t::r0):=by
    intro z e;simp only [Option.some.injEq,Prod.mk.injEq] at e;rw [<-e.2];exact hc
   split at h
   ·exact fin h
   split at h
   ·exact fin h
   split at h
   ·exact fin h
   split at h
   ·exact fin h
   split at h
   ·exact fin h
   split at h
   ·split at h
    ·split at h
     ·cases h
     ·rename_i h2
      obtain ⟨r3,h4,h5⟩:=aq;simp only [Prod.mk.injEq] at h5;rw [<-h5.2];exact (aU h4).trans ((mB _ _ _ _ _ _ h2).trans hc)
    ·cases h
   split at h
   ·split at h
    ·split at h
     ·cases h
     ·rename_i h2
      have a2:=aU h2
      split at h
      ·obtain ⟨r3,h4,h5⟩:=aq;simp only [Prod.mk.injEq] at h5;rw [<-h5.2];exact (aU h4).trans ((aV _).trans (a2.trans hc))
      ·split at h
       ·cases h
       ·rename_i h3
        obtain ⟨r3,h4,h5⟩:=aq;simp only [Prod.mk.injEq] at h5;rw [<-h5.2];exact (aU h4).trans ((mB _ _ _ _ _ _ h3).trans (a2.trans hc))
    ·cases h
   exact aAC h
end
theorem iJ (h:pX lev d l=some (x,r)):r <:+ l:=mB _ _ _ _ _ _ h
theorem Md {x:UInt8} (h:eP x=true):x=32∨x=9∨x=10∨x=13:=by
 unfold eP at h;simp only [Bool.or_eq_true,decide_eq_true_eq] at h;rcases h with ((h|h)|h)|h
 ·exact .inl (UInt8.toNat_inj.1 h)
 ·exact .inr (.inl (UInt8.toNat_inj.1 h))
 ·exact .inr (.inr (.inl (UInt8.toNat_inj.1 h)))
 ·exact .inr (.inr (.inr (UInt8.toNat_inj.1 h)))
theorem Mc {x:UInt8} (h:eP x=true):cB x=false∧aI x=false∧x≠39∧∀ c,wM c x=false:=by
 rcases Md h with rfl|rfl|rfl|rfl
 all_goals
  refine ⟨am,am,am,λc => ?_⟩;unfold wM;simp
theorem lV {p:UInt8->Bool} {x:UInt8} (hx:p x=false) (m:ZS):∀ l:ZS,(l++x::m).takeWhile p=l.takeWhile p
 | []=>by simp [hx]
 | c::l=>by
   rw [List.cons_append,List.takeWhile_cons,List.takeWhile_cons,lV hx m l]
theorem wK {x:UInt8} (hx:x≠39) (m:ZS):∀ (k:Nat) (l:ZS) (p:ZS×Nat),l.length≤k->txt l=some p->txt (l++x::m)=some p
 | k,[],p,_,h=>by cases h
 | 0,c::l,p,hk,h=>bo
 | k+1,c::l,p,hk,h=>by
   simp only [List.length_cons] at hk;unfold txt at h
   by_cases hc:c=39
   ·rw [if_pos hc] at h;subst hc
    match l,h,hk with
    | [],h,_ =>
      show txt (39::x::m)=some p
      conv=>lhs;unfold txt
      simp only [if_true];rw [if_neg hx];exact h
    | d::r,h,hk =>
      simp only at h;show txt (39::d::(r++x::m))=some p
      conv=>lhs;unfold txt
      simp only [if_true]
      by_cases hd:d=39
      ·rw [if_pos hd] at h |-;obtain ⟨q,h1,h2⟩:=aq;rw [wK hx m k r q ao h1];simp [h2]
      ·rw [if_neg hd] at h |-;exact h
   ·rw [if_neg hc] at h;obtain ⟨q,h1,h2⟩:=aq;show txt (c::(l++x::m))=some p
    conv=>lhs;unfold txt
    rw [if_neg hc,wK hx m k l q ac h1];simp [h2]
theorem Kd {x:UInt8} (hx:∀ c,wM c x=false) (c:UInt8) (r m:ZS):cK (c::r++x::m)=cK (c::r):=by
 cases r with
 | nil=>simp [cK,hx]
 | cons d r=>simp [cK]
theorem Ld {x:UInt8} (hx:eP x=true) (c:UInt8) (r m:ZS) (h0:(bE (c::r)).2.2=0):bE (c::r++x::m)=bE (c::r):=by
 obtain ⟨b1,b2,b3,b4⟩:=Mc hx;rw [List.cons_append];cases h1:gP c
 ·cases h2:aI c
  ·by_cases h3:c=39
   ·subst h3;rw [dE] at h0;rw [dE,dE];cases ht:txt r with
    | none=>rw [ht] at h0;cases h0
    | some p=>rw [wK b3 m r.length r p (ν _) ht]
   ·have hs:=Kd b4 c r m;rw [List.cons_append] at hs;have hl:=pD (c::r);rw [gD _ h1 h2 h3,gD _ h1 h2 h3,hs]
    by_cases g:cK (c::r)=0
    ·rw [if_pos g,if_pos g]
    ·rw [if_neg g,if_neg g, <-List.cons_append,List.take_append_of_le_length hl]
  ·have ht:=lV b2 m (c::r);rw [List.cons_append] at ht;rw [iY _ h1 h2,iY _ h1 h2,ht]
 ·have ht:=lV b1 m (c::r);rw [List.cons_append] at ht;rw [gC _ h1,gC _ h1,ht]
theorem tX {x:UInt8} (hx:eP x=true) (m:ZS):∀ (k:Nat) (acc:ZW) (l:ZS),l.length≤k->(dN [] l).2=0->dN acc (l++x::m)=dN (acc++(dN [] l).1) m
 | k,acc,[],_,_=>by
   rw [List.nil_append,eY _ _ hx,kN];simp
 | 0,acc,c::r,hk,_=>bo
 | k+1,acc,c::r,hk,h=>by
   simp only [List.length_cons] at hk;cases hb:eP c
   ·by_cases h0:(bE (c::r)).2.2=0
    ·have h1:=mV h0;have hst:=Ld hx c r m h0;have hl:=av
     rw [dM [] hb h0,nL k _ _ hl] at h;have h2:(dN [] ((c::r).drop (bE (c::r)).2.1)).2=0:=by
      by_cases g:(dN [] ((c::r).drop (bE (c::r)).2.1)).2=0
      ·exact g
      ·rw [if_neg g] at h;exact h
     have e1:(c::r++x::m).drop (bE (c::r)).2.1=(c::r).drop (bE (c::r)).2.1++x::m:=by
      rw [List.drop_append_of_le_length (by rw [List.length_cons];omega)]
     have:=tX hx m k (acc++[(bE (c::r)).1]) _ hl h2;rw [dM [] hb h0,nL k _ _ hl,if_pos h2];have h3:dN acc (c::r++x::m)=dN (acc++[(bE (c::r)).1]) ((c::r++x::m).drop (bE (c::r)).2.1):=by
      rw [List.cons_append] at hst |-;rw [dM acc hb (by rw [hst];exact h0),hst]
     rw [h3,e1,this];simp
    ·rw [eB [] hb h0] at h;exact absurd h h0
   ·rw [eY [] r hb] at h |-;rw [List.cons_append,eY acc _ hb];exact tX hx m k acc r ac h
def pre:ZS:=[68,69,76,69,84,69,32,70,82,79,77,32,116,32,87,72,69,82,69]
def rC:ZW:=[⟨1,[100,101,108,101,116,101],0⟩,⟨1,[102,114,111,109],0⟩,⟨1,[116],0⟩,⟨1,[119,104,101,114,101],0⟩]
theorem Fq:dN [] pre=(rC,0):=aj
theorem Kc (s:ZS):dN [] (pre++32::s)=if (dN [] s).2=0 then (rC++(dN [] s).1,0) else ([],(dN [] s).2):=by
 rw [tX (x:=32) am s _ [] pre (ν _) (by rw [Fq]),Fq];exact nL _ _ _ (ν _)
theorem wP (s:ZS) (h:s.length≤1000):eL (pre++32::s)=if (dN [] s).2=0 then (rC++(dN [] s).1,0) else ([],(dN [] s).2):=by
 rw [lT,Kc];simp [pre];omega
def mI (L:ZW):Option X:=match pX 1 0 L with
 | none=>none
 | some (x,r)=>if (if isF [59] r then r.tail else r)=[] then some x else none
def eN (s:ZS):Option X:=if (dN [] s).2=0 then mI (dN [] s).1 else none
def nH:List ZS:=[uOr,lE,[61],[60,62],[60],[60,61],[62],[62,61],[43],[45],[42],[47],[37]]
def kG:List ZS:=[aJ,dZ,fT,fX]
def mX (k i:Int) (s:ZS) (b:Bool):Prop :=
 (k=1∧0≤i∧i≤9223372036854775807∧s=[]∧b=false)∨(k=2∧i=0∧s.length≤2000∧b=false)∨(k=0∧i=0∧s=[]∧b=false)∨(k=3∧i=0∧s=[])
def X.wf:X->Prop
 | .lit k i s b=>mX k i s b
 | .col t s=>t.length≤20∧s.length≤20
 | .un op x=>(op=fG∨op=[45])∧x.wf
 | .bin op a b=>op∈nH∧a.wf∧b.wf
 | .isn _ x=>x.wf
 | .agg op x=>op∈kG∧x.wf
 | .cnt=>True
def uO (t:Tok):Prop:=0≤t.n∧t.n≤9223372036854775807∧t.s.length≤2000
theorem He (h:bB l=some (n,r)):n.length≤20:=by
 cases l with
 | nil=>cases h
 | cons t r' =>
   simp only [bB] at h
   split at h
   ·rename_i h1
    simp only [Option.some.injEq,Prod.mk.injEq] at h;rw [<-h.1];exact h1.2.2
   ·cases h
theorem aFI (h:mM l=some (x,r)):x.wf:=by
 unfold mM at h
 split at h
 ·cases h
 ·rename_i n r1 h1
  have a1:=He h1
  split at h
  ·split at h
   ·cases h
   ·rename_i m r2 h3
    have a2:=He h3;simp only [Option.some.injEq,Prod.mk.injEq] at h;rw [<-h.1];exact ⟨a1,a2⟩
  ·simp only [Option.some.injEq,Prod.mk.injEq] at h;rw [<-h.1];exact ⟨Nat.zero_le _,a1⟩
theorem aDJ:∀ lev:Nat,∀ s∈bM lev,upW s∈nH:=by
 intro lev;unfold bM
 split<;>decide
theorem Ph (h:cP lev l=some s):upW s∈nH:=aDJ lev s (List.mem_of_find?_eq_some h)
theorem xZ (h:∀ t∈l,uO t):∀ t∈l.tail,uO t:=λt ht=>h t ((aV l).subset ht)
theorem sR (h:∀ t∈l,uO t) (hr:r <:+ l):∀ t∈r,uO t:=λt ht=>h t (hr.subset ht)
theorem aJL {t:Tok} (h:(isF bF (t::r)||isF gG (t::r)||isF jA (t::r)||isF kL (t::r))=true):upW t.s∈kG:=by
 simp only [isF,Bool.or_eq_true,Bool.and_eq_true,beq_iff_eq] at h;rcases h with ((h|h)|h)|h<;>(rw [h.1];decide)
mutual
theorem rI:∀ (f lev d:Nat) (l r:ZW) (x:X),(∀ t∈l,uO t)->px f lev d l=some (x,r)->x.wf
 | 0,_,_,_,_,_,_,h=>aw
 | f+1,lev,d,l,r,x,ht,h=>by
   unfold px at h
   split at h
   ·split at h
    ·split at h
     ·obtain ⟨⟨y,r1⟩,h2,h3⟩:=aq;have a:=bq;simp only [Prod.mk.injEq] at h3;rw [<-h3.1];exact ⟨.inl rfl,a⟩
     ·cases h
    ·exact rI _ _ _ _ _ _ ht h
   split at h
   ·split at h
    ·split at h
     ·obtain ⟨⟨y,r1⟩,h2,h3⟩:=aq;have a:=bq;simp only [Prod.mk.injEq] at h3;rw [<-h3.1];exact ⟨.inr rfl,a⟩
     ·cases h
    ·exact rI _ _ _ _ _ _ ht h
   split at h
   ·exact aKJ _ _ _ _ _ ht h
   ·split at h
    ·cases h
    ·rename_i h1
     exact Wu _ _ _ _ _ _ _ _ (sR ht (mB _ _ _ _ _ _ h1)) (rI _ _ _ _ _ _ ht h1) h
theorem Wu:∀ (f lev d:Nat) (x:X) (done:Bool) (l r:ZW) (y:X),(∀ t∈l,uO t)->x.wf->pl f lev d x done l=some (y,r)->y.wf
 | 0,_,_,_,_,_,_,_,_,_,h=>ay
 | f+1,lev,d,x,done,l,r,y,ht,hx,h=>by
   unfold pl at h
   split at h
   ·rename_i s hs
    have hs:cP lev l=some s:=by
     split at hs
     ·cases hs
     ·exact hs
    split at h
    ·cases h
    ·rename_i h2
     have a2:=bq;exact Wu _ _ _ _ _ _ _ _ (sR ht ((mB _ _ _ _ _ _ h2).trans (aV l))) (show (X.bin (upW s) x _).wf from ⟨Ph hs,hx,a2⟩) h
   ·split at h
    ·split at h
     ·cases h
     ·rename_i h2
      exact Wu _ _ _ _ _ _ _ _ (sR ht ((Br h2).trans (aV l))) (by exact hx) h
    ·simp only [Option.some.injEq,Prod.mk.injEq] at h;rw [<-h.1];exact hx
theorem aKJ:∀ (f d:Nat) (l r:ZW) (x:X),(∀ t∈l,uO t)->pa f d l=some (x,r)->x.wf
 | 0,_,_,_,_,_,h=>az
 | f+1,d,[],_,_,_,h=>az
 | f+1,d,t::r0,r,x,ht,h=>by
   have t0:=ht t aa;have ht0:∀ t∈r0,uO t:=λu hu=>ht u (by simp [hu]);unfold pa at h;have fin:∀ {k i:Int} {s:ZS} {b:Bool},mX k i s b->some (X.lit k i s b,r0)=some (x,r)->x.wf:=by
    intro k i s b hz e;simp only [Option.some.injEq,Prod.mk.injEq] at e;rw [<-e.1];exact hz
   split at h
   ·exact fin (show mX _ _ _ _ from .inl ⟨rfl,t0.1,t0.2.1,rfl,rfl⟩) h
   split at h
   ·exact fin (show mX _ _ _ _ from .inr (.inl ⟨rfl,rfl,t0.2.2,rfl⟩)) h
   split at h
   ·exact fin (show mX _ _ _ _ from .inr (.inr (.inl ⟨rfl,rfl,rfl,rfl⟩))) h
   split at h
   ·exact br
   split at h
   ·exact br
   split at h
   ·split at h
    ·split at h
     ·cases h
     ·rename_i h2
      obtain ⟨r3,h4,h5⟩:=aq;simp only [Prod.mk.injEq] at h5;rw [<-h5.1];exact rI _ _ _ _ _ _ ht0 h2
    ·cases h
   split at h
   ·rename_i hag
    split at h
    ·split at h
     ·cases h
     ·rename_i h2
      have a2:=aU h2
      split at h
      ·obtain ⟨r3,h4,h5⟩:=aq;simp only [Prod.mk.injEq] at h5;rw [<-h5.1];exact trivial
      ·split at h
       ·cases h
       ·rename_i h3
        obtain ⟨r3,h4,h5⟩:=aq;simp only [Prod.mk.injEq] at h5;rw [<-h5.1];exact ⟨aJL hag,rI _ _ _ _ _ _ (sR ht0 a2) h3⟩
    ·cases h
   exact aFI h
end
theorem Zu (ht:∀ t∈L,uO t) (h:mI L=some x):x.wf:=by
 unfold mI at h
 split at h
 ·cases h
 ·rename_i y r h1
  by_cases h2:(if isF [59] r then r.tail else r)=[]
  ·rw [if_pos h2] at h;injection h with h;subst h;exact rI _ _ _ _ _ _ ht h1
  ·rw [if_neg h2] at h;cases h
structure V where
 k:Int
 i:Int
 s:ByteArray
 b:Bool
def V.right (v:V):Bool:=cG v.k v.i v.s v.b
def V.agg (v:V):Value:=.agg #[.int .u8 v.k,.int .i64 v.i,v.s,v.b]
def V.cells (v:V):ZU:=[.int .u8 v.k,.int .i64 v.i,.string v.s,.bool v.b]
def up (i:Int):Nat:=(i+9223372036854775808).toNat
def be (n:Nat):Nat->ZS
 | 0=>[]
 | k+1=>UInt8.ofNat (n / 256 ^ k)::be n k
def V.ok (v:V):Prop:=v.s.size≤9223372036854775807∧inR v.i∧0≤v.k∧v.k≤255
def tG (d:Nat):UInt8:=UInt8.ofNat (48+d)
def zI (U:Nat) (T:ZS) (M:Nat):Prop:=(T=[]∧M=U)∨(T≠[]∧Lib.decDigits U=if M=0 then T else Lib.decDigits M++T)
theorem Sa (U:Nat):zI U [] U:=.inl ⟨rfl,rfl⟩
theorem Ip {M:Nat} (h:zI U T M) (hc:0<M∨T=[]):zI U (tG (M % 10)::T) (M / 10):=by
 have key:Lib.decDigits M=if M / 10=0 then [tG (M % 10)] else Lib.decDigits (M / 10)++[tG (M % 10)]:=by
  rw [Lib.decDigits]
  by_cases h10:M<10
  ·rw [dif_pos h10,if_pos ac,Nat.mod_eq_of_lt h10];rfl
  ·rw [dif_neg h10,if_neg ac];rfl
 refine .inr ⟨aa, ?_⟩;rcases h with ⟨rfl,rfl⟩|⟨hT,h⟩
 ·exact key
 ·have hM:0<M:=by rcases hc with h1|h1;exact h1;exact absurd h1 hT
  rw [h,if_neg ac,key]
  split
  ·rfl
  ·simp
theorem aFA (h:zI U T 0) (hT:T≠[]):Lib.decDigits U=T:=by
 rcases h with ⟨h1,_⟩|⟨_,h1⟩
 ·exact absurd h1 hT
 ·rw [h1,if_pos rfl]
theorem yW (h:d<10):(tG d).toNat=48+d:=by unfold tG;simp;omega
theorem yX (h:d<10):aI (tG d)=true:=by unfold aI;rw [yW h];simp;omega
theorem nF (u:Nat):(Lib.decDigits u).all aI=true∧Lib.decDigits u≠[]:=by
 induction u using Nat.strongRecOn with
 | _ u ih =>
   rw [Lib.decDigits]
   by_cases h:u<10
   ·rw [dif_pos h];exact ⟨by show (aI (tG u)&&true)=true;rw [yX h];rfl,aa⟩
   ·rw [dif_neg h];have h1:=ih (u / 10) ac;refine ⟨?_,aa⟩;rw [List.all_append,h1.1];show (true&&(aI (tG (u % 10))&&true))=true;rw [yX ac];rfl
theorem rK (u:Nat):dvf 0 (Lib.decDigits u)=(u:Int):=by
 induction u using Nat.strongRecOn with
 | _ u ih =>
   rw [Lib.decDigits]
   by_cases h:u<10
   ·rw [dif_pos h];show (0:Int)*10+(((tG u).toNat:Int)-48)=u;rw [yW h];omega
   ·rw [dif_neg h,yT,ih (u / 10) ac];show ((u / 10:Nat):Int)*10+(((tG (u % 10)).toNat:Int)-48)=u;rw [yW ac];omega
theorem Ea {l:ZS} (h:l.all aI=true):∀ n:Int,n*10 ^ l.length≤dvf n l∧dvf n l<(n+1)*10 ^ l.length:=by
 induction l with
 | nil=>intro n;simp [dvf];omega
 | cons c l ih =>
   intro n;simp only [List.all_cons,Bool.and_eq_true] at h;have hb:=iA h.1;obtain ⟨h1,h2⟩:=ih h.2 (n*10+((c.toNat:Int)-48));have hp:(0:Int)<10 ^ l.length:=Int.pow_pos ac;have ep:(10:Int) ^ (c::l).length=10*10 ^ l.length:=by rw [List.length_cons,Int.pow_succ,Int.mul_comm]
   have e1:n*10 ^ (c::l).length=(n*10)*10 ^ l.length:=by rw [ep, <-Int.mul_assoc]
   have e2:(n+1)*10 ^ (c::l).length=(n*10+10)*10 ^ l.length:=by rw [ep, <-Int.mul_assoc];congr 1;omega
   show _≤dvf (n*10+((c.toNat:Int)-48)) l∧dvf (n*10+((c.toNat:Int)-48)) l<_;rw [e1,e2];have m1:(n*10)*10 ^ l.length≤(n*10+((c.toNat:Int)-48))*10 ^ l.length:=Int.mul_le_mul_of_nonneg_right ac (Int.le_of_lt hp);have m2:(n*10+((c.toNat:Int)-48)+1)*10 ^ l.length≤(n*10+10)*10 ^ l.length:=Int.mul_le_mul_of_nonneg_right ac (Int.le_of_lt hp);omega
theorem Zm {a:ZS}:∀ {b:ZS} (n:Int),a.length=b.length->a.all aI=true->b.all aI=true->(Op.bytesLess a b=true↔dvf n a<dvf n b):=by
 induction a with
 | nil=>intro b n hl _ _;cases b with
   | nil=>simp [Op.bytesLess]
   | cons=>simp at hl
 | cons x a ih =>
   intro b n hl ha hb;cases b with
   | nil=>simp at hl
   | cons y b =>
     simp only [List.length_cons,Nat.add_right_cancel_iff] at hl;simp only [List.all_cons,Bool.and_eq_true] at ha hb;have hx:=iA ha.1;have hy:=iA hb.1;have la:=Ea ha.2 (n*10+((x.toNat:Int)-48));have lb:=Ea hb.2 (n*10+((y.toNat:Int)-48));have hp:(0:Int)<10 ^ a.length:=Int.pow_pos ac;rw [<-hl] at lb;show (Op.bytesLess (x::a) (y::b)=true)↔dvf (n*10+((x.toNat:Int)-48)) a<dvf (n*10+((y.toNat:Int)-48)) b;simp only [Op.bytesLess,Bool.or_eq_true,Bool.and_eq_true,decide_eq_true_eq,beq_iff_eq]
     by_cases hlt:x.toNat<y.toNat
     ·have:x<y:=UInt8.lt_iff_toNat_lt.2 hlt;have m:(n*10+((x.toNat:Int)-48)+1)*10 ^ a.length≤(n*10+((y.toNat:Int)-48))*10 ^ a.length:=Int.mul_le_mul_of_nonneg_right ac (Int.le_of_lt hp);exact ⟨λ_=>ac,λ_=>.inl this⟩
     ·by_cases heq:x.toNat=y.toNat
      ·have e:x=y:=UInt8.toNat_inj.1 heq;subst e;have:=ih (b:=b) (n*10+((x.toNat:Int)-48)) hl ha.2 hb.2
       constructor
       ·rintro (h|⟨_,h⟩)
        ·exact absurd (UInt8.lt_iff_toNat_lt.1 h) ac
        ·exact this.1 h
       ·intro h;exact .inr ⟨rfl,this.2 h⟩
      ·have m:(n*10+((y.toNat:Int)-48)+1)*10 ^ a.length≤(n*10+((x.toNat:Int)-48))*10 ^ a.length:=Int.mul_le_mul_of_nonneg_right ac (Int.le_of_lt hp)
       constructor
       ·rintro (h|⟨h,_⟩)
        ·exact absurd (UInt8.lt_iff_toNat_lt.1 h) hlt
        ·exact absurd (congrArg UInt8.toNat h) heq
       ·intro h;omega
theorem Rx (n:Int) (l:ZS) (hn:n=0):dvf n (48::l)=dvf 0 l:=by subst hn;rfl
def vJ:ZS:=[57,50,50,51,51,55,50,48,51,54,56,53,52,55,55,53,56,48,55]
theorem Xn:dvf 0 vJ=9223372036854775807:=am
theorem aKS {l:ZS} (ha:l.all aI=true) (hl:l.length=19):inR (dvf 0 l)↔Op.bytesLess vJ l=false:=by
 have h:=Zm (a:=vJ) (b:=l) 0 (by rw [hl];rfl) am ha;rw [Xn] at h;have h0:=jZ ha;unfold inR
 constructor
 ·intro g;rw [Bool.eq_false_iff];intro hc;have:=h.1 hc;omega
 ·intro g;refine ⟨ac, ?_⟩;apply Int.not_lt.1;intro hc;rw [h.2 ac] at g;cases g
theorem aIS {l:ZS} (ha:l.all aI=true) (hl:l.length≤18):inR (dvf 0 l):=by
 have h:=(Ea ha 0).2;have h0:=jZ ha;have h2:(10:Int) ^ l.length≤10 ^ 18:=by
  have:(10:Nat) ^ l.length≤10 ^ 18:=Nat.pow_le_pow_right ac hl
  exact_mod_cast this
 unfold inR;omega
theorem Xo {x:UInt8} {l:ZS} (ha:(x::l).all aI=true) (hx:x≠48) (hl:19≤l.length):¬inR (dvf 0 (x::l)):=by
 simp only [List.all_cons,Bool.and_eq_true] at ha;have hb:=iA ha.1;have hx2:x.toNat≠48:=λg=>hx (UInt8.toNat_inj.1 g);have h:=(Ea ha.2 (0*10+((x.toNat:Int)-48))).1;have hp:(10:Int) ^ 19≤10 ^ l.length:=by
  have:(10:Nat) ^ 19≤10 ^ l.length:=Nat.pow_le_pow_right ac hl
  exact_mod_cast this
 have m:(1:Int)*10 ^ l.length≤(0*10+((x.toNat:Int)-48))*10 ^ l.length:=Int.mul_le_mul_of_nonneg_right ac ac;show ¬inR (dvf (0*10+((x.toNat:Int)-48)) l);unfold inR;omega
def quo (l:ZS):ZS:=l.flatMap λc=>if c=39 then [39,39] else [c]
theorem Dl:quo []=[]:=rfl
theorem mA (c:UInt8) (l:ZS):quo (c::l)=(if c=39 then [39,39] else [c])++quo l:=rfl
theorem Wp (l:ZS) (c:UInt8):quo (l++[c])=quo l++(if c=39 then [39,39] else [c]):=by simp [quo]
theorem Kx (l m:ZS):quo (l++m)=quo l++quo m:=by simp [quo]
theorem xH {l:ZS} (h:(39:UInt8) ∉ l):quo l=l:=by
 induction l with
 | nil=>rfl
 | cons c l ih =>
   rw [mA,if_neg (λe=>h (by rw [e];simp)),ih (λg=>h (by simp [g]))];rfl
theorem Dm (l:ZS):(quo l).length=l.length+l.count 39:=by
 induction l with
 | nil=>rfl
 | cons c l ih =>
   rw [mA,List.length_append,ih]
   by_cases h:c=39
   ·subst h;simp;omega
   ·rw [if_neg h,List.count_cons_of_ne an];simp;omega
theorem Rf (s:ZS):(Lib.index s [39] = -1∧(39:UInt8) ∉ s)∨∃ a r,s=a++39::r∧(39:UInt8) ∉ a∧Lib.index s [39]=(a.length:Nat):=by
 induction s with
 | nil=>left;exact ⟨by simp [Lib.index],aa⟩
 | cons b l ih =>
   by_cases h:b=39
   ·subst h
    right;exact ⟨[],l,rfl,aa,by rw [Lib.index];simp [List.isPrefixOf]⟩
   ·have hp:([39]:ZS).isPrefixOf (b::l)=false:=by simp [List.isPrefixOf,Ne.symm h]
    have hix:Lib.index (b::l) [39]=if Lib.index l [39] == -1 then -1 else Lib.index l [39]+1:=by rw [Lib.index,hp];simp
    rcases ih with ⟨h1,h2⟩|⟨a,r,h1,h2,h3⟩
    ·left;refine ⟨by rw [hix,h1];rfl, ?_⟩
     intro g;rcases List.mem_cons.1 g with g|g
     ·exact h g.symm
     ·exact h2 g
    ·right;refine ⟨b::a,r,by rw [h1];rfl, ?_, ?_⟩
     ·intro g;rcases List.mem_cons.1 g with g|g
      ·exact h g.symm
      ·exact h2 g
     ·rw [hix,if_neg bl,h3];simp
theorem Df (k:Nat):∀ s:ZS,s.count 39≤k->Lib.replaceK [39] [39,39] k s=quo s:=by
 induction k with
 | zero =>
   intro s h;have:(39:UInt8) ∉ s:=λg=>by have:=List.count_pos_iff.2 g;omega
   rw [xH this];rfl
 | succ k ih =>
   intro s h;rcases Rf s with ⟨h1,h2⟩|⟨a,r,h1,h2,h3⟩
   ·rw [Lib.replaceK,if_pos (by rw [h1];rfl),xH h2]
   ·rw [Lib.replaceK_hit _ _ _ _ _ h3];have e1:s.take a.length=a:=by rw [h1];simp
    have e2:s.drop (a.length+[(39:UInt8)].length)=r:=by rw [h1,List.length_singleton,List.drop_append];simp
    rw [e1,e2,ih r (by rw [h1] at h;simp at h;omega),h1,Kx,xH h2,mA,if_pos rfl];simp
theorem Gf (s:ZS):Lib.replaceAll s [39] [39,39]=quo s:=by
 unfold Lib.replaceAll Lib.replace;rw [if_neg am];unfold Lib.replaceNum;rw [if_pos (.inl am),Lib.count_one];exact Df _ _ (ν _)
def Qz (l:ZS):ZS:=[39]++quo l++[39]
def lit (v:V):ZS :=
 if v.k=1 then Lib.itoa v.i else if v.k=2 then Qz v.s.data.toList else if v.k=3 then (if v.b then [84,82,85,69] else [70,65,76,83,69]) else [78,85,76,76]
structure Col where
 n:ZS
 k:Int
structure Tb where
 n:ZS
 cs:List Col
def jJ (t:ZS) (tb:Tb):Bool:=t==[]||tb.n==t
def cJ (s:ZS):Nat->List Col->List (Nat×Int)
 | _,[]=>[]
 | a,c::r=>(if c.n==s then [(a,c.k)] else [])++cJ s (a+1) r
def gT (t s:ZS):Nat->List Tb->List (Nat×Int)
 | _,[]=>[]
 | a,tb::r=>(if jJ t tb then cJ s a tb.cs else [])++gT t s (a+tb.cs.length) r
def fV (t:ZS) (sc:List Tb):Nat:=(sc.filter (jJ t)).length
def bY (sc:List Tb):Nat:=(sc.map λtb=>tb.cs.length).sum
def dX (sc:List Tb) (t s:ZS):Option (Nat×Int) :=
 if (gT t s 0 sc).length=1∧(t=[]∨fV t sc=1) then (gT t s 0 sc).getLast? else none
theorem yK (s:ZS) (c:Col):∀ (a:Nat) (l:List Col),cJ s a (l++[c])=cJ s a l++(if c.n==s then [(a+l.length,c.k)] else [])
 | a,[]=>bt
 | a,d::r=>by
   show _++cJ s (a+1) (r++[c])=(_++cJ s (a+1) r)++_;rw [yK s c (a+1) r,List.append_assoc];simp [Nat.add_assoc,Nat.add_comm 1]
theorem uJ (t s:ZS) (tb:Tb):∀ (a:Nat) (l:List Tb),gT t s a (l++[tb])=gT t s a l++(if jJ t tb then cJ s (a+bY l) tb.cs else [])
 | a,[]=>by simp [gT,bY]
 | a,d::r=>by
   show _++gT t s (a+d.cs.length) (r++[tb])=(_++gT t s (a+d.cs.length) r)++_;rw [uJ t s tb (a+d.cs.length) r,List.append_assoc];simp [bY,Nat.add_assoc]
theorem wW (t:ZS) (tb:Tb) (l:List Tb):fV t (l++[tb])=fV t l+(if jJ t tb then 1 else 0):=by
 unfold fV;rw [List.filter_append];cases h:jJ t tb<;>simp [h]
theorem tP (tb:Tb) (l:List Tb):bY (l++[tb])=bY l+tb.cs.length:=by simp [bY]
def fitK (k of:Int):Bool:=k==of||k==0
def jQ:List ZS:=[[43],[45],[42],[47],[37]]
def iZ (op:ZS) (a b:Int):Int×Int :=
 if op=lE∨op=uOr then (if fitK a 3&&fitK b 3 then (3,0) else (0,8))
 else if op∈jQ then (if fitK a 1&&fitK b 1 then (1,0) else (0,8))
 else (if fitK a b||fitK b a then (3,0) else (0,8))
def hY (op:ZS) (a:Int):Int×Int :=
 if op=fG then (if fitK a 3 then (3,0) else (0,8)) else (if fitK a 1 then (1,0) else (0,8))
def kS (op:ZS) (a:Int):Int×Int :=
 if op=dZ then (if fitK a 1 then (1,0) else (0,8)) else if op=aJ then (1,0) else (a,0)
def cY (p:Int×Int) (f:Int->Int×Int):Int×Int:=if p.2=0 then f p.1 else (0,p.2)
def aC (sc:List Tb):X->Bool->Int×Int
 | .lit k _ _ _,_=>(k,0)
 | .col t s,_=>match dX sc t s with
   | none=>(0,6)
   | some p=>(p.2,0)
 | .un op x,g=>cY (aC sc x g) (hY op)
 | .bin op a b,g=>cY (aC sc a g) λk=>cY (aC sc b g) (iZ op k)
 | .isn _ x,g=>cY (aC sc x g) λ_=>(3,0)
 | .agg op x,g=>if g then cY (aC sc x false) (kS op) else (0,3)
 | .cnt,g=>if g then (1,0) else (0,3)
def rV (k i:Int) (s:ZS) (b:Bool):ZS:=if k=1∧i<0 then [40]++lit ⟨k,i,⟨s.toArray⟩,b⟩++[41] else lit ⟨k,i,⟨s.toArray⟩,b⟩
def atX (sc:List Tb) (t s:ZS):Int:=match dX sc t s with
 | none => -1
 | some p=>(p.1:Int)
def sIs:ZS:=[73,83,32,78,85,76,76]
def lX:ZS:=[73,83,32,78,79,84,32,78,85,76,76]
def rP:ZS:=[67,79,85,78,84,40,42,41]
def aO (sc:List Tb):X->ZS
 | .lit k i s b=>rV k i s b
 | .col t s=>35::Lib.itoa (atX sc t s)
 | .un op x=>[40]++op++[32]++aO sc x++[41]
 | .bin op a b=>[40]++aO sc a++[32]++op++[32]++aO sc b++[41]
 | .isn n x=>[40]++aO sc x++[32]++(if n then lX else sIs)++[41]
 | .agg op x=>op++[40]++aO sc x++[41]
 | .cnt=>rP
mutual
theorem kJ:∀ (f lev d:Nat) (l r:ZW) (x:X),px f lev d l=some (x,r)->x.size+r.length≤l.length
 | 0,_,_,_,_,_,h=>aw
 | f+1,lev,d,l,r,x,h=>by
   unfold px at h
   split at h
   ·split at h
    ·rename_i h1
     split at h
     ·obtain ⟨⟨y,r1⟩,h2,h3⟩:=aq;have:=kJ _ _ _ _ _ _ h2;have:=bD h1;simp only [Prod.mk.injEq] at h3;rw [<-h3.1, <-h3.2];simp only [X.size];omega
     ·cases h
    ·exact kJ _ _ _ _ _ _ h
   split at h
   ·split at h
    ·rename_i h1
     split at h
     ·obtain ⟨⟨y,r1⟩,h2,h3⟩:=aq;have:=kJ _ _ _ _ _ _ h2;have:=bD h1;simp only [Prod.mk.injEq] at h3;rw [<-h3.1, <-h3.2];simp only [X.size];omega
     ·cases h
    ·exact kJ _ _ _ _ _ _ h
   split at h
   ·exact aDH _ _ _ _ _ h
   ·split at h
    ·cases h
    ·rename_i h1
     have:=kJ _ _ _ _ _ _ h1;have:=Dp _ _ _ _ _ _ _ _ h;omega
theorem Dp:∀ (f lev d:Nat) (x:X) (done:Bool) (l r:ZW) (y:X),pl f lev d x done l=some (y,r)->y.size+r.length≤x.size+l.length
 | 0,_,_,_,_,_,_,_,h=>ay
 | f+1,lev,d,x,done,l,r,y,h=>by
   unfold pl at h
   split at h
   ·rename_i s h1
    have h1':cP lev l=some s:=by
     split at h1
     ·cases h1
     ·exact h1
    have:=iH h1'
    split at h
    ·cases h
    ·rename_i h2
     have:=kJ _ _ _ _ _ _ h2;have:=Dp _ _ _ _ _ _ _ _ h;simp only [X.size] at this;omega
   ·split at h
    ·rename_i h1
     have:=bD h1.2
     split at h
     ·cases h
     ·rename_i h2
      have:=qS h2;have:=Dp _ _ _ _ _ _ _ _ h;simp only [X.size] at this;omega
    ·simp only [Option.some.injEq,Prod.mk.injEq] at h;rw [<-h.1, <-h.2];omega
theorem aDH:∀ (f d:Nat) (l r:ZW) (x:X),pa f d l=some (x,r)->x.size+r.length≤l.length
 | 0,_,_,_,_,h=>az
 | f+1,d,[],_,_,h=>az
 | f+1,d,t::r0,r,x,h=>by
   unfold pa at h;have fin:∀ {z:X},z.size=1->some (z,r0)=some (x,r)->x.size+r.length≤(t::r0).length:=by
    intro z hz e;simp only [Option.some.injEq,Prod.mk.injEq] at e;rw [<-e.1, <-e.2,hz];simp;omega
   split at h
   ·exact fin rfl h
   split at h
   ·exact fin rfl h
   split at h
   ·exact fin rfl h
   split at h
   ·exact fin rfl h
   split at h
   ·exact fin rfl h
   split at h
   ·split at h
    ·split at h
     ·cases h
     ·rename_i h2
      have:=kJ _ _ _ _ _ _ h2;obtain ⟨r3,h4,h5⟩:=aq;have:=dQ h4;simp only [Prod.mk.injEq] at h5;rw [<-h5.1, <-h5.2];simp;omega
    ·cases h
   split at h
   ·split at h
    ·split at h
     ·cases h
     ·rename_i h2
      have:=dQ h2
      split at h
      ·rename_i h3
       have:=bD h3.2;obtain ⟨r3,h4,h5⟩:=aq;have:=dQ h4;simp only [Prod.mk.injEq] at h5;rw [<-h5.1, <-h5.2];simp [X.size];omega
      ·split at h
       ·cases h
       ·rename_i h3
        have:=kJ _ _ _ _ _ _ h3;obtain ⟨r3,h4,h5⟩:=aq;have:=dQ h4;simp only [Prod.mk.injEq] at h5;rw [<-h5.1, <-h5.2];simp [X.size];omega
    ·cases h
   have h1:=Iu h;have h2:x.size=1:=by
    unfold mM at h
    split at h
    ·cases h
    ·split at h
     ·split at h
      ·cases h
      ·simp only [Option.some.injEq,Prod.mk.injEq] at h;rw [<-h.1];rfl
     ·simp only [Option.some.injEq,Prod.mk.injEq] at h;rw [<-h.1];rfl
   omega
end
theorem Lw (h:mI L=some x):x.size≤L.length:=by
 unfold mI at h
 split at h
 ·cases h
 ·rename_i y r h1
  by_cases h2:(if isF [59] r then r.tail else r)=[]
  ·rw [if_pos h2] at h;injection h with h;subst h;have:=kJ _ _ _ _ _ _ h1;omega
  ·rw [if_neg h2] at h;cases h
theorem Hv (s:ZS):∀ (l:List Col) (a0 a:Nat) (k:Int),(a,k)∈cJ s a0 l->a<a0+l.length
 | [],_,_,_,h=>by simp [cJ] at h
 | c::r,a0,a,k,h=>by
   unfold cJ at h;rcases List.mem_append.1 h with h|h
   ·split at h
    ·simp only [List.mem_singleton,Prod.mk.injEq] at h;simp;omega
    ·simp at h
   ·have:=Hv s r (a0+1) a k h;simp;omega
theorem Ob (t s:ZS):∀ (l:List Tb) (a0 a:Nat) (k:Int),(a,k)∈gT t s a0 l->a<a0+bY l
 | [],_,_,_,h=>by simp [gT] at h
 | c::r,a0,a,k,h=>by
   unfold gT at h;have e:bY (c::r)=c.cs.length+bY r:=by simp [bY]
   rw [e];rcases List.mem_append.1 h with h|h
   ·split at h
    ·have:=Hv s c.cs a0 a k h;omega
    ·simp at h
   ·have:=Ob t s r (a0+c.cs.length) a k h;omega
theorem Ie {sc:List Tb} {t:ZS} {p:Nat×Int} (h:dX sc t s=some p):p.1<bY sc:=by
 unfold dX at h
 split at h
 ·have:=Ob t s sc 0 p.1 p.2 (List.mem_of_getLast? h);omega
 ·cases h
theorem aJH {sc:List Tb} (hw:bY sc≤10000) (t s:ZS) : -1≤atX sc t s∧atX sc t s≤10000:=by
 unfold atX;cases h:dX sc t s with
 | none=>simp
 | some p =>
   have:=Ie h;simp only;omega
theorem Ws (l:ZS):(quo l).length≤2*l.length:=by
 rw [Dm];have:=List.count_le_length (a:=(39:UInt8)) (l:=l);omega
theorem Xt {k i:Int} (h:mX k i s b):(rV k i s b).length≤5000:=by
 have h1:(lit ⟨k,i,⟨s.toArray⟩,b⟩).length≤4010:=by
  unfold lit;rcases h with ⟨rfl,h1,h2,rfl,rfl⟩|⟨rfl,rfl,h2,rfl⟩|⟨rfl,rfl,rfl,rfl⟩|⟨rfl,rfl,rfl⟩
  ·have:=Lib.itoa_length_le i ac ac;simp only [if_true];omega
  ·have:=Ws s;simp [Qz];omega
  ·simp
  ·cases b<;>simp
 unfold rV
 split
 ·simp;omega
 ·omega
theorem Uu {sc:List Tb} (hw:bY sc≤10000):∀ x:X,x.wf->(aO sc x).length≤5000*x.size:=by
 intro x
 induction x with
 | lit k i s b=>intro h;exact Xt h
 | col t s =>
   intro _;obtain ⟨h1,h2⟩:=aJH hw t s;have:=Lib.itoa_length_le (atX sc t s) ac ac;simp [aO,X.size];omega
 | un op x ih =>
   intro h;have:=ih h.2;have h2:op.length≤3:=by rcases h.1 with rfl|rfl<;>decide
   simp [aO,X.size];omega
 | bin op a b iha ihb =>
   intro h;have:=iha h.2.1;have:=ihb h.2.2;have h2:op.length≤3:=by
    have:∀ o∈nH,o.length≤3:=am
    exact this _ h.1
   simp [aO,X.size];omega
 | isn n x ih =>
   intro h;have:=ih h;have h2:(if n then lX else sIs).length≤11:=by cases n<;>decide
   simp only [aO,X.size,List.length_append,List.length_cons,List.length_nil];omega
 | agg op x ih =>
   intro h;have:=ih h.2;have h2:op.length≤5:=by
    have:∀ o∈kG,o.length≤5:=am
    exact this _ h.1
   simp [aO,X.size];omega
 | cnt=>intro _;simp [aO,rP,X.size]
theorem Xb {r:ZS} (h0:(bE (c::r)).2.2=0) (hl:r.length+1≤2000):uO (bE (c::r)).1:=by
 cases h1:gP c
 ·cases h2:aI c
  ·by_cases h3:c=39
   ·subst h3;rw [dE] at h0 |-;cases ht:txt r with
    | none=>rw [ht] at h0;cases h0
    | some p =>
      obtain ⟨s,n⟩:=p;rw [ht] at h0;unfold lD at h0 |-
      by_cases g1:aR s=true
      ·by_cases g2:s.length≤60
       ·simp only [g1,g2,if_true];exact ⟨bw,bu,by show s.length≤2000;omega⟩
       ·simp only [g1,g2,if_true,if_false] at h0;cases h0
      ·simp only [g1] at h0;cases h0
   ·rw [gD r h1 h2 h3] at h0 |-
    by_cases g:cK (c::r)=0
    ·rw [if_pos g] at h0;cases h0
    ·rw [if_neg g];refine ⟨bw,bu, ?_⟩;show ((c::r).take (cK (c::r))).length≤2000;rw [List.length_take];simp only [List.length_cons];omega
  ·rw [iY r h1 h2] at h0 |-;have h0:mP ((c::r).takeWhile aI)=0:=h0;have hall:((c::r).takeWhile aI).all aI=true:=by
    generalize (c::r)=m
    induction m with
    | nil=>rfl
    | cons d m ih =>
      rw [List.takeWhile_cons]
      split
      ·rename_i hd
       rw [List.all_cons,hd,ih];rfl
      ·rfl
   generalize (c::r).takeWhile aI=l at *;have hd:mN l=true:=by
    cases hq:mN l
    ·rw [uD hq] at h0;cases h0
    ·rfl
   rw [nR hd] at h0;have hv:=jZ hall;have hin:inR (dvf 0 l):=by
    unfold err at h0
    by_cases h:inR (dvf 0 l)
    ·exact h
    ·rw [if_neg h] at h0;cases h0
   have hval:kO l=dvf 0 l:=by rw [nQ hd,val,if_pos hin]
   refine ⟨?_, ?_,Nat.zero_le _⟩
   ·show 0≤kO l;rw [hval];exact hv
   ·show kO l≤_;rw [hval];exact hin.2
 ·rw [gC r h1];refine ⟨bw,bu, ?_⟩;show (((c::r).takeWhile cB).map jI).length≤2000;have h2:=gH cB (c::r);rw [List.length_map];simp only [List.length_cons] at h2;omega
theorem sK:∀ (k:Nat) (acc:ZW) (l:ZS),l.length≤k->l.length≤2000->(∀ t∈acc,uO t)->∀ t∈(dN acc l).1,uO t
 | k,acc,[],_,_,h=>by rw [kN];exact h
 | 0,acc,c::r,hk,_,_=>bo
 | k+1,acc,c::r,hk,h2,h=>by
   simp only [List.length_cons] at hk h2;cases hb:eP c
   ·by_cases h0:(bE (c::r)).2.2=0
    ·rw [dM acc hb h0];have h1:=mV h0;refine sK k _ _ au au ?_;intro t ht;rcases List.mem_append.1 ht with ht|ht
     ·exact h t ht
     ·rw [List.mem_singleton] at ht;rw [ht];exact Xb h0 ac
    ·rw [eB acc hb h0];intro t ht;cases ht
   ·rw [eY acc r hb];exact sK k acc r ac ac h
theorem Zv (hl:s.length≤2000) (h:eN s=some x):x.wf∧x.size≤2000:=by
 unfold eN at h
 split at h
 ·refine ⟨Zu (sK s.length [] s (ν _) hl (λt ht=>by cases ht)) h, ?_⟩;have h1:=Lw h;have h2:=pB s.length [] s (ν _);simp at h2;omega
 ·cases h
theorem Oz (l:ZS) (h:c≠39):txt (c::l)=(txt l).map λp=>(c::p.1,p.2+1):=by
 conv=>lhs;unfold txt
 rw [if_neg h]
theorem Ez:∀ (bs r:ZS),(39:UInt8) ∉ bs->txt (bs++r)=(txt r).map λp=>(bs++p.1,p.2+bs.length)
 | [],r,_=>by cases h:txt r<;>simp [h]
 | c::bs,r,h=>by
   have h1:¬c=39:=λe=>h (by simp [e]);have ih:=Ez bs r (λe=>h (by simp [e]));show txt (c::(bs++r))=_;rw [Oz _ h1,ih];cases hx:txt r with
   | none=>rfl
   | some p=>simp;omega
def gF (l acc:ZS) (pos:Nat) (q:Bool):Prop :=
 ∃ m,m+(if q then 1 else 0)=pos∧txt l=(txt ((if q then [39] else [])++l.drop pos)).map λp=>(acc++p.1,p.2+m)
theorem sF (l:ZS):gF l [] 0 false:=⟨0,rfl,by cases h:txt l<;>simp [h]⟩
theorem wU {l:ZS} (h:gF l acc pos true) (hp:l[pos]? = some 39):gF l (acc++[39]) (pos+1) false:=by
 obtain ⟨m,hm,ht⟩:=h;simp only [if_true] at hm ht;have hd:l.drop pos=39::l.drop (pos+1):=by
  obtain ⟨hl,he⟩:=List.getElem?_eq_some_iff.1 hp;rw [List.drop_eq_getElem_cons hl,he]
 refine ⟨pos+1,aa, ?_⟩;rw [ht,hd];show (txt (39::39::l.drop (pos+1))).map _=_;have e:txt (39::39::l.drop (pos+1))=(txt (l.drop (pos+1))).map λp=>(39::p.1,p.2+2):=by
  conv=>lhs;unfold txt
  simp
 rw [e,Option.map_map];simp only [φ,if_false,List.nil_append]
 congr 1
 funext p
 simp;omega
theorem sG {l:ZS} (h:gF l acc pos false) (hp:l[pos]? = some 39):gF l acc (pos+1) true:=by
 obtain ⟨m,hm,ht⟩:=h;simp only [φ,if_false,List.nil_append,Nat.add_zero] at hm ht;have hd:l.drop pos=39::l.drop (pos+1):=by
  obtain ⟨hl,he⟩:=List.getElem?_eq_some_iff.1 hp;rw [List.drop_eq_getElem_cons hl,he]
 refine ⟨m,by simp [hm], ?_⟩;rw [ht,hd];rfl
theorem wV {l:ZS} (h:gF l acc pos true) (hp:l[pos]? = some c) (hc:c≠39):txt l=some (acc,pos):=by
 obtain ⟨m,hm,ht⟩:=h;simp only [if_true] at hm ht;have hd:l.drop pos=c::l.drop (pos+1):=by
  obtain ⟨hl,he⟩:=List.getElem?_eq_some_iff.1 hp;rw [List.drop_eq_getElem_cons hl,he]
 rw [ht,hd];have e:txt (39::c::l.drop (pos+1))=some ([],1):=by
  conv=>lhs;unfold txt
  simp [hc]
 show (txt (39::c::l.drop (pos+1))).map _=_;rw [e];simp;omega
theorem uU {l:ZS} (h:gF l acc pos true) (hp:l.length≤pos):txt l=some (acc,pos):=by
 obtain ⟨m,hm,ht⟩:=h;simp only [if_true] at hm ht;rw [ht,List.drop_eq_nil_of_le hp];have e:txt ([39]++[])=some ([],1):=rfl;rw [e];simp;omega
theorem uT {l:ZS} (h:gF l acc pos false) (hp:l.length≤pos):txt l=none:=by
 obtain ⟨m,hm,ht⟩:=h;rw [ht,List.drop_eq_nil_of_le hp];rfl
theorem uS {l:ZS} {k:Nat} (h:gF l acc pos false) (hk:pos+k≤l.length) (hn:(39:UInt8) ∉ (l.drop pos).take k):gF l (acc++(l.drop pos).take k) (pos+k) false:=by
 obtain ⟨m,hm,ht⟩:=h;simp only [φ,if_false,List.nil_append,Nat.add_zero] at hm ht;have hs:l.drop pos=(l.drop pos).take k++l.drop (pos+k):=by
  conv=>lhs;rw [<-List.take_append_drop k (l.drop pos)]
  rw [List.drop_drop]
 refine ⟨pos+k,aa, ?_⟩;rw [ht]
 conv=>lhs;rw [hs,Ez _ _ hn]
 rw [Option.map_map];simp only [φ,if_false,List.nil_append]
 congr 1
 funext p
 have hl:((l.drop pos).take k).length=k:=by rw [List.length_take,List.length_drop];omega
 simp only [Function.comp,hl,List.append_assoc,Prod.mk.injEq,true_and];omega
theorem Eb (n b0 b1 b2 b3:Nat) (h:(Lib.decodeN n b0 b1 b2 b3).1≠39) (hn:1≤n) :
 (Lib.decodeN n b0 b1 b2 b3).2≤n∧(1≤(Lib.decodeN n b0 b1 b2 b3).2)∧b0≠39∧(1<(Lib.decodeN n b0 b1 b2 b3).2->b1≠39)∧(2<(Lib.decodeN n b0 b1 b2 b3).2->b2≠39)∧(3<(Lib.decodeN n b0 b1 b2 b3).2->b3≠39)∧(Lib.decodeN n b0 b1 b2 b3).2≤4:=by
 unfold Lib.decodeN at *
 repeat' split
 all_goals simp_all
 all_goals omega
theorem Pw (s:ByteArray) (pos:Nat) (h:pos<s.size) (hr:(Utf8.decode s pos).1≠39) :
 pos+(Utf8.decode s pos).2≤s.size∧1≤(Utf8.decode s pos).2∧(39:UInt8) ∉ (s.data.toList.drop pos).take (Utf8.decode s pos).2:=by
 have hlen:=bz
 rw [Lib.decode_N,hlen] at hr |-;have hf:=Eb _ _ _ _ _ hr ac;generalize (Lib.decodeN (s.size-pos) (s.data.toList.getD pos 0).toNat (s.data.toList.getD (pos+1) 0).toNat (s.data.toList.getD (pos+2) 0).toNat (s.data.toList.getD (pos+3) 0).toNat).2=k at *;obtain ⟨h1,h2,g0,g1,g2,g3,h4⟩:=hf;refine ⟨ac,h2, ?_⟩;intro hm;obtain ⟨j,hj⟩:=List.mem_iff_getElem?.1 hm;rw [List.getElem?_take] at hj
 split at hj
 ·rename_i hjk
  rw [List.getElem?_drop] at hj;have hg:(s.data.toList.getD (pos+j) 0).toNat=39:=by rw [List.getD_eq_getElem?_getD,hj];rfl
  match j,hjk,hg with
  | 0,_,hg=>exact g0 hg
  | 1,hjk,hg=>exact g1 hjk hg
  | 2,hjk,hg=>exact g2 hjk hg
  | 3,hjk,hg=>exact g3 hjk hg
  | j+4,hjk,_=>omega
 ·cases hj
theorem Kj (s:ByteArray) (pos:Nat) (h:pos<s.size) (hr:(Utf8.decode s pos).1=39):s[pos]'h=39∧(Utf8.decode s pos).2=1:=by
 by_cases ha:(s[pos]'h).toNat<128
 ·have e:=decode_ascii s pos h ha;rw [e] at hr |-;exact ⟨UInt8.toNat_inj.1 hr,rfl⟩
 ·have:=(decode_high s pos h ac).1;omega
theorem Kk (s:ByteArray) (pos:Nat) (h:pos<s.size) (hr:(Utf8.decode s pos).1≠39):s[pos]'h≠39:=by
 intro e;have ha:(s[pos]'h).toNat<128:=by rw [e];decide
 rw [decode_ascii s pos h ha,e] at hr;exact hr rfl
theorem Pv (s:ByteArray) (pos:Nat):Utf8.decode (s.extract 1 s.size) pos=Utf8.decode s (1+pos):=by
 rw [<-Lib.decodeL_drop, <-Lib.decodeL_drop,Lib.extract_data,List.take_of_length_le aa,List.drop_drop]
def aLD:Option (ZS×Nat)->ZS
 | none=>[]
 | some p=>p.1
def aLE:Option (ZS×Nat)->Nat
 | none=>0
 | some p=>p.2+1
