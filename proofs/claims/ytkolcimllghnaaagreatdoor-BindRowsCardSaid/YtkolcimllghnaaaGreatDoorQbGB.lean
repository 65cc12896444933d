/-
 Contracts. Conditions: those of each.
-/
import Derived.Test.YtkolcimllghnaaaGreatDoorQbGA
import Derived.Laws.BitsAllLaws
import Derived.Lib.ItoaNum
import Derived.Lib.Replace
import Derived.Lib.SplitLaws
import Derived.Lib.ItoaLen
import Derived.Lib.RuneCount
namespace Go.Proofs.YtkolcimllghnaaaGreatDoor.Lp
mutual
theorem eH:∀ (f g lev d:Nat) (l:List Tok),lev≤8→20*l.length+20-2*lev≤f→20*l.length+20-2*lev≤g→px f lev d l=px g lev d l
 | 0,_,lev,_,l,h8,hf,_=>by omega
 | f+1,0,lev,_,l,h8,_,hg=>by omega
 | f+1,g+1,lev,d,l,h8,hf,hg=>by
   unfold px
   split
   ·rename_i h3
    split
    ·rename_i h1
     have:=bB h1
     rw [eH f g 3 (d+1) l.tail (by omega) (by omega) (by omega)]
    ·exact eH f g 4 d l (by omega) (by omega) (by omega)
   split
   ·rename_i h3
    split
    ·rename_i h1
     have:=bB h1
     rw [eH f g 7 (d+1) l.tail (by omega) (by omega) (by omega)]
    ·exact eH f g 8 d l (by omega) (by omega) (by omega)
   split
   ·exact Gl f g d l (by omega) (by omega)
   ·rw [eH f g (lev+1) d l (by omega) (by omega) (by omega)]
    split
    ·rfl
    ·rename_i h1
     have:=iF _ _ _ _ _ _ h1
     exact nV f g lev d _ _ _ (by omega) (by omega) (by omega)
theorem nV:∀ (f g lev d:Nat) (x:X) (done:Bool) (l:List Tok),lev≤7→20*l.length+20≤f→20*l.length+20≤g→pl f lev d x done l=pl g lev d x done l
 | 0,_,lev,_,_,_,l,h8,hf,_=>by omega
 | f+1,0,lev,_,_,_,l,h8,_,hg=>by omega
 | f+1,g+1,lev,d,x,done,l,h8,hf,hg=>by
   unfold pl
   split
   ·rename_i s h1
    have h1':cA lev l=some s:=by
     split at h1
     ·cases h1
     ·exact h1
    have:=gE h1'
    rw [eH f g (lev+1) d l.tail (by omega) (by omega) (by omega)]
    split
    ·rfl
    ·rename_i h2
     have:=iF _ _ _ _ _ _ h2
     exact nV f g lev d _ _ _ (by omega) (by omega) (by omega)
   ·split
    ·rename_i h1
     have:=bB h1.2
     split
     ·rfl
     ·rename_i h2
      have:=nW h2
      exact nV f g lev d _ _ _ (by omega) (by omega) (by omega)
    ·rfl
theorem Gl:∀ (f g d:Nat) (l:List Tok),20*l.length+2≤f→20*l.length+2≤g→pa f d l=pa g d l
 | 0,_,_,l,hf,_=>by omega
 | f+1,0,_,l,_,hg=>by omega
 | f+1,g+1,d,[],hf,hg=>by simp [pa]
 | f+1,g+1,d,t::r,hf,hg=>by
   simp only [List.length_cons] at hf hg
   have h1:=eH f g 1 (d+1) r (by omega) (by omega) (by omega)
   have h2:∀ r2,aE [40] r=some r2→px f 1 (d+1) r2=px g 1 (d+1) r2:=fun r2 h=>by
    have:=dH h
    exact eH f g 1 (d+1) r2 (by omega) (by omega) (by omega)
   rw [pa.eq_3,pa.eq_3,h1]
   cases hq:aE [40] r with
   | none=>rfl
   | some r2=>simp only [h2 r2 hq]
end
def pX (lev d:Nat) (l:List Tok):Option (X×List Tok):=px (20*l.length+20) lev d l
def pL (lev d:Nat) (x:X) (done:Bool) (l:List Tok):Option (X×List Tok):=pl (20*l.length+20) lev d x done l
def pA (d:Nat) (l:List Tok):Option (X×List Tok):=pa (20*l.length+20) d l
theorem tP {d:Nat} {l:List Tok} (h:isF mK l=true):pX 3 d l=if d+1≤40 then (pX 3 (d+1) l.tail).map fun p=>(.un fW p.1,p.2) else none:=by
 have:=bB h
 rw [pX,px]
 simp only [if_true,h]
 rw [eH _ (20*l.tail.length+20) 3 (d+1) l.tail (by omega) (by omega) (by omega)]
 rfl
theorem wR {d:Nat} {l:List Tok} (h:isF mK l=false):pX 3 d l=pX 4 d l:=by
 rw [pX,px]
 simp only [if_true,h]
 exact eH _ _ 4 d l (by omega) (by omega) (by omega)
theorem tR {d:Nat} {l:List Tok} (h:isF [45] l=true):pX 7 d l=if d+1≤40 then (pX 7 (d+1) l.tail).map fun p=>(.un [45] p.1,p.2) else none:=by
 have:=bB h
 rw [pX,px]
 simp only [if_true,h]
 rw [eH _ (20*l.tail.length+20) 7 (d+1) l.tail (by omega) (by omega) (by omega)]
 rfl
theorem wS {d:Nat} {l:List Tok} (h:isF [45] l=false):pX 7 d l=pX 8 d l:=by
 rw [pX,px]
 simp only [h]
 exact eH _ _ 8 d l (by omega) (by omega) (by omega)
theorem cU {d:Nat} {l:List Tok}:pX 8 d l=pA d l:=by
 rw [pX,px]
 exact Gl _ _ d l (by omega) (by omega)
theorem oP {lev d:Nat} {l:List Tok} (h3:lev≠3) (h7:lev<7):pX lev d l=match pX (lev+1) d l with
 | none=>none
 | some (x,r)=>pL lev d x false r:=by
 rw [pX,px,if_neg h3,if_neg (by omega),if_neg (by omega),eH _ (20*l.length+20) (lev+1) d l (by omega) (by omega) (by omega)]
 show (match pX (lev+1) d l with|none=>none|some (x,r)=>_)=_
 cases hq:pX (lev+1) d l with
 | none=>rfl
 | some p =>
   obtain ⟨x,r⟩:=p
   have:=iF _ _ _ _ _ _ hq
   exact nV _ _ lev d x false r (by omega) (by omega) (by omega)
theorem lV {lev d:Nat} {x:X} {l:List Tok} {s:List UInt8} (h:cA lev l=some s) (h8:lev≤7):pL lev d x false l=match pX (lev+1) d l.tail with
 | none=>none
 | some (y,r)=>pL lev d (.bin (upW s) x y) (lev==4) r:=by
 have:=gE h
 rw [pL,pl]
 simp only [φ,if_false,h]
 rw [eH _ (20*l.tail.length+20) (lev+1) d l.tail (by omega) (by omega) (by omega)]
 show (match pX (lev+1) d l.tail with|none=>none|some (y,r)=>_)=_
 cases hq:pX (lev+1) d l.tail with
 | none=>rfl
 | some p =>
   obtain ⟨y,r⟩:=p
   have:=iF _ _ _ _ _ _ hq
   exact nV _ _ lev d _ _ r (by omega) (by omega) (by omega)
theorem Xj {d:Nat} {x:X} {done:Bool} {l:List Tok} (h:(if done then none else cA 4 l)=none) (h1:isF wIs l=true):pL 4 d x done l=match eT l.tail with
 | none=>none
 | some (n,r)=>pL 4 d (.isn n x) done r:=by
 have:=bB h1
 rw [pL,pl]
 simp only [h,h1,and_self,if_true]
 cases hq:eT l.tail with
 | none=>rfl
 | some p =>
   obtain ⟨n,r⟩:=p
   have:=nW hq
   exact nV _ _ 4 d _ _ r (by omega) (by omega) (by omega)
theorem mZ {lev d:Nat} {x:X} {done:Bool} {l:List Tok} (h:(if done then none else cA lev l)=none) (h1:lev≠4∨isF wIs l=false):pL lev d x done l=some (x,l):=by
 rw [pL,pl]
 simp only [h]
 rw [if_neg]
 rintro ⟨a,b⟩
 rcases h1 with h1|h1
 ·exact h1 a
 ·rw [h1] at b;cases b
theorem Ok {d:Nat}:pA d []=none:=by simp [pA,pa]
theorem dP (d:Nat) (t:Tok) (r:List Tok):pA d (t::r) =
 if t.k=2 then some (.lit 1 t.n [] false,r)
 else if t.k=3 then some (.lit 2 0 t.s false,r)
 else if isF bS (t::r) then some (.lit 0 0 [] false,r)
 else if isF dJ (t::r) then some (.lit 3 0 [] true,r)
 else if isF cH (t::r) then some (.lit 3 0 [] false,r)
 else if isF [40] (t::r) then (if d+1≤40 then (match pX 1 (d+1) r with
  | none=>none
  | some (x,r2)=>(aE [41] r2).map fun r3=>(x,r3)) else none)
 else if isF bF (t::r)||isF fI (t::r)||isF gM (t::r)||isF iX (t::r) then (if d+1≤40 then (match aE [40] r with
  | none=>none
  | some r2=>if t.s=bF∧isF [42] r2=true then (aE [41] r2.tail).map fun r3=>(.cnt,r3) else (match pX 1 (d+1) r2 with
    | none=>none
    | some (x,r3)=>(aE [41] r3).map fun r4=>(.agg (upW t.s) x,r4))) else none)
 else kQ (t::r):=by
 rw [pA,pa,eH _ (20*r.length+20) 1 (d+1) r (by omega) (by simp;omega) (by omega)]
 cases hq:aE [40] r with
 | none=>rfl
 | some r2 =>
   have:=dH hq
   simp only
   rw [eH _ (20*r2.length+20) 1 (d+1) r2 (by omega) (by simp;omega) (by omega)]
   rfl
theorem fT {lev d:Nat} {l r:List Tok} {x:X} (h:pX lev d l=some (x,r)):r.length<l.length:=iF _ _ _ _ _ _ h
theorem bL (l:List Tok):l.tail <:+ l:=List.tail_suffix l
theorem aR {s:List UInt8} {l r:List Tok} (h:aE s l=some r):r <:+ l:=by
 unfold aE at h
 split at h
 ·injection h with h;subst h;exact bL l
 ·cases h
theorem bU {l r:List Tok} {n:List UInt8} (h:aZ l=some (n,r)):r <:+ l:=by
 cases l with
 | nil=>cases h
 | cons t r' =>
   simp only [aZ] at h
   split at h
   ·simp only [Option.some.injEq,Prod.mk.injEq] at h
    rw [←h.2];exact List.suffix_cons t r'
   ·cases h
theorem Rm {l r:List Tok} {x:X} (h:kQ l=some (x,r)):r <:+ l:=by
 unfold kQ at h
 split at h
 ·cases h
 ·rename_i n r1 h1
  have a1:=bU h1
  split at h
  ·split at h
   ·cases h
   ·rename_i m r2 h3
    have a2:=bU h3
    simp only [Option.some.injEq,Prod.mk.injEq] at h
    rw [←h.2];exact a2.trans ((bL _).trans a1)
  ·simp only [Option.some.injEq,Prod.mk.injEq] at h
   rw [←h.2];exact a1
theorem wT {l r:List Tok} {b:Bool} (h:eT l=some (b,r)):r <:+ l:=by
 unfold eT at h
 split at h
 ·obtain ⟨r1,h2,h3⟩:=Option.map_eq_some_iff.1 h
  simp only [Prod.mk.injEq] at h3
  rw [←h3.2];exact (aR h2).trans (bL l)
 ·obtain ⟨r1,h2,h3⟩:=Option.map_eq_some_iff.1 h
  simp only [Prod.mk.injEq] at h3
  rw [←h3.2];exact aR h2
mutual
theorem kG:∀ (f lev d:Nat) (l r:List Tok) (x:X),px f lev d l=some (x,r)→r <:+ l
 | 0,_,_,_,_,_,h=>by simp [px] at h
 | f+1,lev,d,l,r,x,h=>by
   unfold px at h
   split at h
   ·split at h
    ·split at h
     ·obtain ⟨⟨y,r1⟩,h2,h3⟩:=Option.map_eq_some_iff.1 h
      have a:=kG _ _ _ _ _ _ h2
      simp only [Prod.mk.injEq] at h3
      rw [←h3.2];exact a.trans (bL l)
     ·cases h
    ·exact kG _ _ _ _ _ _ h
   split at h
   ·split at h
    ·split at h
     ·obtain ⟨⟨y,r1⟩,h2,h3⟩:=Option.map_eq_some_iff.1 h
      have a:=kG _ _ _ _ _ _ h2
      simp only [Prod.mk.injEq] at h3
      rw [←h3.2];exact a.trans (bL l)
     ·cases h
    ·exact kG _ _ _ _ _ _ h
   split at h
   ·exact Yj _ _ _ _ _ h
   ·split at h
    ·cases h
    ·rename_i h1
     exact (Eo _ _ _ _ _ _ _ _ h).trans (kG _ _ _ _ _ _ h1)
theorem Eo:∀ (f lev d:Nat) (x:X) (done:Bool) (l r:List Tok) (y:X),pl f lev d x done l=some (y,r)→r <:+ l
 | 0,_,_,_,_,_,_,_,h=>by simp [pl] at h
 | f+1,lev,d,x,done,l,r,y,h=>by
   unfold pl at h
   split at h
   ·split at h
    ·cases h
    ·rename_i h2
     exact (Eo _ _ _ _ _ _ _ _ h).trans ((kG _ _ _ _ _ _ h2).trans (bL l))
   ·split at h
    ·split at h
     ·cases h
     ·rename_i h2
      exact (Eo _ _ _ _ _ _ _ _ h).trans ((wT h2).trans (bL l))
    ·simp only [Option.some.injEq,Prod.mk.injEq] at h
     rw [←h.2];exact List.suffix_refl _
theorem Yj:∀ (f d:Nat) (l r:List Tok) (x:X),pa f d l=some (x,r)→r <:+ l
 | 0,_,_,_,_,h=>by simp [pa] at h
 | f+1,d,[],_,_,h=>by simp [pa] at h
 | f+1,d,t::r0,r,x,h=>by
   have hc:=List.suffix_cons t r0
   unfold pa at h
   have fin:∀ {z:X},some (z,r0)=some (x,r)→r <:+ (t::r0):=by
    intro z e
    simp only [Option.some.injEq,Prod.mk.injEq] at e
    rw [←e.2];exact hc
   split at h
   ·exact fin h
   split at h
   ·exact fin h
   split at h
   ·exact fin h
   split at h
   ·exact fin h
   split at h
   ·exact fin h
   split at h
   ·split at h
    ·split at h
     ·cases h
     ·rename_i h2
      obtain ⟨r3,h4,h5⟩:=Option.map_eq_some_iff.1 h
      simp only [Prod.mk.injEq] at h5
      rw [←h5.2];exact (aR h4).trans ((kG _ _ _ _ _ _ h2).trans hc)
    ·cases h
   split at h
   ·split at h
    ·split at h
     ·cases h
     ·rename_i h2
      have a2:=aR h2
      split at h
      ·obtain ⟨r3,h4,h5⟩:=Option.map_eq_some_iff.1 h
       simp only [Prod.mk.injEq] at h5
       rw [←h5.2];exact (aR h4).trans ((bL _).trans (a2.trans hc))
      ·split at h
       ·cases h
       ·rename_i h3
        obtain ⟨r3,h4,h5⟩:=Option.map_eq_some_iff.1 h
        simp only [Prod.mk.injEq] at h5
        rw [←h5.2];exact (aR h4).trans ((kG _ _ _ _ _ _ h3).trans (a2.trans hc))
    ·cases h
   exact Rm h
end
theorem fS {lev d:Nat} {l r:List Tok} {x:X} (h:pX lev d l=some (x,r)):r <:+ l:=kG _ _ _ _ _ _ h
theorem Fq {x:UInt8} (h:dY x=true):x=32∨x=9∨x=10∨x=13:=by
 unfold dY at h
 simp only [Bool.or_eq_true,decide_eq_true_eq] at h
 rcases h with ((h|h)|h)|h
 ·exact .inl (UInt8.toNat_inj.1 h)
 ·exact .inr (.inl (UInt8.toNat_inj.1 h))
 ·exact .inr (.inr (.inl (UInt8.toNat_inj.1 h)))
 ·exact .inr (.inr (.inr (UInt8.toNat_inj.1 h)))
theorem Fp {x:UInt8} (h:dY x=true):bO x=false∧aN x=false∧x≠39∧∀ c,sM c x=false:=by
 rcases Fq h with rfl|rfl|rfl|rfl
 all_goals
  refine ⟨by decide,by decide,by decide,fun c => ?_⟩
  unfold sM
  simp
theorem kD {p:UInt8→Bool} {x:UInt8} (hx:p x=false) (m:List UInt8):∀ l:List UInt8,(l++x::m).takeWhile p=l.takeWhile p
 | []=>by simp [hx]
 | c::l=>by
   rw [List.cons_append,List.takeWhile_cons,List.takeWhile_cons,kD hx m l]
theorem sK {x:UInt8} (hx:x≠39) (m:List UInt8):∀ (k:Nat) (l:List UInt8) (p:List UInt8×Nat),l.length≤k→txt l=some p→txt (l++x::m)=some p
 | k,[],p,_,h=>by cases h
 | 0,c::l,p,hk,h=>by simp at hk
 | k+1,c::l,p,hk,h=>by
   simp only [List.length_cons] at hk
   unfold txt at h
   by_cases hc:c=39
   ·rw [if_pos hc] at h
    subst hc
    match l,h,hk with
    | [],h,_ =>
      show txt (39::x::m)=some p
      conv=>lhs;unfold txt
      simp only [if_true]
      rw [if_neg hx];exact h
    | d::r,h,hk =>
      simp only at h
      show txt (39::d::(r++x::m))=some p
      conv=>lhs;unfold txt
      simp only [if_true]
      by_cases hd:d=39
      ·rw [if_pos hd] at h ⊢
       obtain ⟨q,h1,h2⟩:=Option.map_eq_some_iff.1 h
       rw [sK hx m k r q (by simp at hk;omega) h1]
       simp [h2]
      ·rw [if_neg hd] at h ⊢;exact h
   ·rw [if_neg hc] at h
    obtain ⟨q,h1,h2⟩:=Option.map_eq_some_iff.1 h
    show txt (c::(l++x::m))=some p
    conv=>lhs;unfold txt
    rw [if_neg hc,sK hx m k l q (by omega) h1]
    simp [h2]
theorem Dz {x:UInt8} (hx:∀ c,sM c x=false) (c:UInt8) (r m:List UInt8):bY (c::r++x::m)=bY (c::r):=by
 cases r with
 | nil=>simp [bY,hx]
 | cons d r=>simp [bY]
theorem Et {x:UInt8} (hx:dY x=true) (c:UInt8) (r m:List UInt8) (h0:(bE (c::r)).2.2=0):bE (c::r++x::m)=bE (c::r):=by
 obtain ⟨b1,b2,b3,b4⟩:=Fp hx
 rw [List.cons_append]
 cases h1:fO c
 ·cases h2:aN c
  ·by_cases h3:c=39
   ·subst h3
    rw [cY] at h0
    rw [cY,cY]
    cases ht:txt r with
    | none=>rw [ht] at h0;cases h0
    | some p=>rw [sK b3 m r.length r p (ν _) ht]
   ·have hs:=Dz b4 c r m
    rw [List.cons_append] at hs
    have hl:=mU (c::r)
    rw [fF _ h1 h2 h3,fF _ h1 h2 h3,hs]
    by_cases g:bY (c::r)=0
    ·rw [if_pos g,if_pos g]
    ·rw [if_neg g,if_neg g, ←List.cons_append,List.take_append_of_le_length hl]
  ·have ht:=kD b2 m (c::r)
   rw [List.cons_append] at ht
   rw [gL _ h1 h2,gL _ h1 h2,ht]
 ·have ht:=kD b1 m (c::r)
  rw [List.cons_append] at ht
  rw [fE _ h1,fE _ h1,ht]
theorem qK {x:UInt8} (hx:dY x=true) (m:List UInt8):∀ (k:Nat) (acc:List Tok) (l:List UInt8),l.length≤k→(dF [] l).2=0→dF acc (l++x::m)=dF (acc++(dF [] l).1) m
 | k,acc,[],_,_=>by
   rw [List.nil_append,eE _ _ hx,iZ];simp
 | 0,acc,c::r,hk,_=>by simp at hk
 | k+1,acc,c::r,hk,h=>by
   simp only [List.length_cons] at hk
   cases hb:dY c
   ·by_cases h0:(bE (c::r)).2.2=0
    ·have h1:=kW h0
     have hst:=Et hx c r m h0
     have hl:((c::r).drop (bE (c::r)).2.1).length≤k:=by rw [List.length_drop,List.length_cons];omega
     rw [dE [] hb h0,lG k _ _ hl] at h
     have h2:(dF [] ((c::r).drop (bE (c::r)).2.1)).2=0:=by
      by_cases g:(dF [] ((c::r).drop (bE (c::r)).2.1)).2=0
      ·exact g
      ·rw [if_neg g] at h;exact h
     have e1:(c::r++x::m).drop (bE (c::r)).2.1=(c::r).drop (bE (c::r)).2.1++x::m:=by
      rw [List.drop_append_of_le_length (by rw [List.length_cons];omega)]
     have:=qK hx m k (acc++[(bE (c::r)).1]) _ hl h2
     rw [dE [] hb h0,lG k _ _ hl,if_pos h2]
     have h3:dF acc (c::r++x::m)=dF (acc++[(bE (c::r)).1]) ((c::r++x::m).drop (bE (c::r)).2.1):=by
      rw [List.cons_append] at hst ⊢
      rw [dE acc hb (by rw [hst];exact h0),hst]
     rw [h3,e1,this]
     simp
    ·rw [dM [] hb h0] at h;exact absurd h h0
   ·rw [eE [] r hb] at h ⊢
    rw [List.cons_append,eE acc _ hb]
    exact qK hx m k acc r (by omega) h
def pre:List UInt8:=[68,69,76,69,84,69,32,70,82,79,77,32,116,32,87,72,69,82,69]
def oA:List Tok:=[⟨1,[100,101,108,101,116,101],0⟩,⟨1,[102,114,111,109],0⟩,⟨1,[116],0⟩,⟨1,[119,104,101,114,101],0⟩]
theorem Af:dF [] pre=(oA,0):=by kernel_rfl
theorem Dy (s:List UInt8):dF [] (pre++32::s)=if (dF [] s).2=0 then (oA++(dF [] s).1,0) else ([],(dF [] s).2):=by
 rw [qK (x:=32) (by decide) s _ [] pre (ν _) (by rw [Af]),Af]
 exact lG _ _ _ (ν _)
theorem sO (s:List UInt8) (h:s.length≤1000):dT (pre++32::s)=if (dF [] s).2=0 then (oA++(dF [] s).1,0) else ([],(dF [] s).2):=by
 rw [jZ,Dy]
 simp [pre];omega
def kN (L:List Tok):Option X:=match pX 1 0 L with
 | none=>none
 | some (x,r)=>if (if isF [59] r then r.tail else r)=[] then some x else none
def dX (s:List UInt8):Option X:=if (dF [] s).2=0 then kN (dF [] s).1 else none
def oV:List (List UInt8):=[uOr,jN,[61],[60,62],[60],[60,61],[62],[62,61],[43],[45],[42],[47],[37]]
def qY:List (List UInt8):=[aU,dN,eY,eZ]
def oH (k i:Int) (s:List UInt8) (b:Bool):Prop :=
 (k=1∧0≤i∧i≤9223372036854775807∧s=[]∧b=false)∨(k=2∧i=0∧s.length≤2000∧b=false)∨(k=0∧i=0∧s=[]∧b=false)∨(k=3∧i=0∧s=[])
def X.wf:X→Prop
 | .lit k i s b=>oH k i s b
 | .col t s=>t.length≤20∧s.length≤20
 | .un op x=>(op=fW∨op=[45])∧x.wf
 | .bin op a b=>op∈oV∧a.wf∧b.wf
 | .isn _ x=>x.wf
 | .agg op x=>op∈qY∧x.wf
 | .cnt=>True
def qZ (t:Tok):Prop:=0≤t.n∧t.n≤9223372036854775807∧t.s.length≤2000
theorem Bp {l r:List Tok} {n:List UInt8} (h:aZ l=some (n,r)):n.length≤20:=by
 cases l with
 | nil=>cases h
 | cons t r' =>
   simp only [aZ] at h
   split at h
   ·rename_i h1
    simp only [Option.some.injEq,Prod.mk.injEq] at h
    rw [←h.1];exact h1.2.2
   ·cases h
theorem Wc {l r:List Tok} {x:X} (h:kQ l=some (x,r)):x.wf:=by
 unfold kQ at h
 split at h
 ·cases h
 ·rename_i n r1 h1
  have a1:=Bp h1
  split at h
  ·split at h
   ·cases h
   ·rename_i m r2 h3
    have a2:=Bp h3
    simp only [Option.some.injEq,Prod.mk.injEq] at h
    rw [←h.1];exact ⟨a1,a2⟩
  ·simp only [Option.some.injEq,Prod.mk.injEq] at h
   rw [←h.1];exact ⟨Nat.zero_le _,a1⟩
theorem Ug:∀ lev:Nat,∀ s∈bJ lev,upW s∈oV:=by
 intro lev
 unfold bJ
 split<;>decide
theorem Hs {lev:Nat} {l:List Tok} {s:List UInt8} (h:cA lev l=some s):upW s∈oV:=Ug lev s (List.mem_of_find?_eq_some h)
theorem uE {l:List Tok} (h:∀ t∈l,qZ t):∀ t∈l.tail,qZ t:=fun t ht=>h t ((bL l).subset ht)
theorem pN {l r:List Tok} (h:∀ t∈l,qZ t) (hr:r <:+ l):∀ t∈r,qZ t:=fun t ht=>h t (hr.subset ht)
theorem Zs {t:Tok} {r:List Tok} (h:(isF bF (t::r)||isF fI (t::r)||isF gM (t::r)||isF iX (t::r))=true):upW t.s∈qY:=by
 simp only [isF,Bool.or_eq_true,Bool.and_eq_true,beq_iff_eq] at h
 rcases h with ((h|h)|h)|h<;>(rw [h.1];decide)
mutual
theorem oG:∀ (f lev d:Nat) (l r:List Tok) (x:X),(∀ t∈l,qZ t)→px f lev d l=some (x,r)→x.wf
 | 0,_,_,_,_,_,_,h=>by simp [px] at h
 | f+1,lev,d,l,r,x,ht,h=>by
   unfold px at h
   split at h
   ·split at h
    ·split at h
     ·obtain ⟨⟨y,r1⟩,h2,h3⟩:=Option.map_eq_some_iff.1 h
      have a:=oG _ _ _ _ _ _ (uE ht) h2
      simp only [Prod.mk.injEq] at h3
      rw [←h3.1];exact ⟨.inl rfl,a⟩
     ·cases h
    ·exact oG _ _ _ _ _ _ ht h
   split at h
   ·split at h
    ·split at h
     ·obtain ⟨⟨y,r1⟩,h2,h3⟩:=Option.map_eq_some_iff.1 h
      have a:=oG _ _ _ _ _ _ (uE ht) h2
      simp only [Prod.mk.injEq] at h3
      rw [←h3.1];exact ⟨.inr rfl,a⟩
     ·cases h
    ·exact oG _ _ _ _ _ _ ht h
   split at h
   ·exact aAI _ _ _ _ _ ht h
   ·split at h
    ·cases h
    ·rename_i h1
     exact Og _ _ _ _ _ _ _ _ (pN ht (kG _ _ _ _ _ _ h1)) (oG _ _ _ _ _ _ ht h1) h
theorem Og:∀ (f lev d:Nat) (x:X) (done:Bool) (l r:List Tok) (y:X),(∀ t∈l,qZ t)→x.wf→pl f lev d x done l=some (y,r)→y.wf
 | 0,_,_,_,_,_,_,_,_,_,h=>by simp [pl] at h
 | f+1,lev,d,x,done,l,r,y,ht,hx,h=>by
   unfold pl at h
   split at h
   ·rename_i s hs
    have hs:cA lev l=some s:=by
     split at hs
     ·cases hs
     ·exact hs
    split at h
    ·cases h
    ·rename_i h2
     have a2:=oG _ _ _ _ _ _ (uE ht) h2
     exact Og _ _ _ _ _ _ _ _ (pN ht ((kG _ _ _ _ _ _ h2).trans (bL l))) (show (X.bin (upW s) x _).wf from ⟨Hs hs,hx,a2⟩) h
   ·split at h
    ·split at h
     ·cases h
     ·rename_i h2
      exact Og _ _ _ _ _ _ _ _ (pN ht ((wT h2).trans (bL l))) (by exact hx) h
    ·simp only [Option.some.injEq,Prod.mk.injEq] at h
     rw [←h.1];exact hx
theorem aAI:∀ (f d:Nat) (l r:List Tok) (x:X),(∀ t∈l,qZ t)→pa f d l=some (x,r)→x.wf
 | 0,_,_,_,_,_,h=>by simp [pa] at h
 | f+1,d,[],_,_,_,h=>by simp [pa] at h
 | f+1,d,t::r0,r,x,ht,h=>by
   have t0:=ht t (by simp)
   have ht0:∀ t∈r0,qZ t:=fun u hu=>ht u (by simp [hu])
   unfold pa at h
   have fin:∀ {k i:Int} {s:List UInt8} {b:Bool},oH k i s b→some (X.lit k i s b,r0)=some (x,r)→x.wf:=by
    intro k i s b hz e
    simp only [Option.some.injEq,Prod.mk.injEq] at e
    rw [←e.1];exact hz
   split at h
   ·exact fin (show oH _ _ _ _ from .inl ⟨rfl,t0.1,t0.2.1,rfl,rfl⟩) h
   split at h
   ·exact fin (show oH _ _ _ _ from .inr (.inl ⟨rfl,rfl,t0.2.2,rfl⟩)) h
   split at h
   ·exact fin (show oH _ _ _ _ from .inr (.inr (.inl ⟨rfl,rfl,rfl,rfl⟩))) h
   split at h
   ·exact fin (show oH _ _ _ _ from .inr (.inr (.inr ⟨rfl,rfl,rfl⟩))) h
   split at h
   ·exact fin (show oH _ _ _ _ from .inr (.inr (.inr ⟨rfl,rfl,rfl⟩))) h
   split at h
   ·split at h
    ·split at h
     ·cases h
     ·rename_i h2
      obtain ⟨r3,h4,h5⟩:=Option.map_eq_some_iff.1 h
      simp only [Prod.mk.injEq] at h5
      rw [←h5.1];exact oG _ _ _ _ _ _ ht0 h2
    ·cases h
   split at h
   ·rename_i hag
    split at h
    ·split at h
     ·cases h
     ·rename_i h2
      have a2:=aR h2
      split at h
      ·obtain ⟨r3,h4,h5⟩:=Option.map_eq_some_iff.1 h
       simp only [Prod.mk.injEq] at h5
       rw [←h5.1];exact trivial
      ·split at h
       ·cases h
       ·rename_i h3
        obtain ⟨r3,h4,h5⟩:=Option.map_eq_some_iff.1 h
        simp only [Prod.mk.injEq] at h5
        rw [←h5.1];exact ⟨Zs hag,oG _ _ _ _ _ _ (pN ht0 a2) h3⟩
    ·cases h
   exact Wc h
end
theorem Re {L:List Tok} {x:X} (ht:∀ t∈L,qZ t) (h:kN L=some x):x.wf:=by
 unfold kN at h
 split at h
 ·cases h
 ·rename_i y r h1
  by_cases h2:(if isF [59] r then r.tail else r)=[]
  ·rw [if_pos h2] at h
   injection h with h
   subst h
   exact oG _ _ _ _ _ _ ht h1
  ·rw [if_neg h2] at h
   cases h
structure V where
 k:Int
 i:Int
 s:ByteArray
 b:Bool
def V.agg (v:V):Value:=.agg #[.int .u8 v.k,.int .i64 v.i,.string v.s,.bool v.b]
def V.cells (v:V):List Value:=[.int .u8 v.k,.int .i64 v.i,.string v.s,.bool v.b]
def up (i:Int):Nat:=(i+9223372036854775808).toNat
def V.ok (v:V):Prop:=v.s.size≤9223372036854775807∧inR v.i∧0≤v.k∧v.k≤255
def Fi (d:Nat):UInt8:=UInt8.ofNat (48+d)
def vI (U:Nat) (T:List UInt8) (M:Nat):Prop:=(T=[]∧M=U)∨(T≠[]∧Lib.decDigits U=if M=0 then T else Lib.decDigits M++T)
theorem Jz (U:Nat):vI U [] U:=.inl ⟨rfl,rfl⟩
theorem Cq {U M:Nat} {T:List UInt8} (h:vI U T M) (hc:0<M∨T=[]):vI U (Fi (M % 10)::T) (M / 10):=by
 have key:Lib.decDigits M=if M / 10=0 then [Fi (M % 10)] else Lib.decDigits (M / 10)++[Fi (M % 10)]:=by
  rw [Lib.decDigits]
  by_cases h10:M<10
  ·rw [dif_pos h10,if_pos (by omega),Nat.mod_eq_of_lt h10];rfl
  ·rw [dif_neg h10,if_neg (by omega)];rfl
 refine .inr ⟨by simp, ?_⟩
 rcases h with ⟨rfl,rfl⟩|⟨hT,h⟩
 ·exact key
 ·have hM:0<M:=by rcases hc with h1|h1;exact h1;exact absurd h1 hT
  rw [h,if_neg (by omega),key]
  split
  ·rfl
  ·simp
theorem Vr {U:Nat} {T:List UInt8} (h:vI U T 0) (hT:T≠[]):Lib.decDigits U=T:=by
 rcases h with ⟨h1,_⟩|⟨_,h1⟩
 ·exact absurd h1 hT
 ·rw [h1,if_pos rfl]
theorem yW {l:List UInt8} (h:l.all aN=true):∀ n:Int,n*10 ^ l.length≤dvf n l∧dvf n l<(n+1)*10 ^ l.length:=by
 induction l with
 | nil=>intro n;simp [dvf];omega
 | cons c l ih =>
   intro n
   simp only [List.all_cons,Bool.and_eq_true] at h
   have hb:=fZ h.1
   obtain ⟨h1,h2⟩:=ih h.2 (n*10+((c.toNat:Int)-48))
   have hp:(0:Int)<10 ^ l.length:=Int.pow_pos (by omega)
   have ep:(10:Int) ^ (c::l).length=10*10 ^ l.length:=by rw [List.length_cons,Int.pow_succ,Int.mul_comm]
   have e1:n*10 ^ (c::l).length=(n*10)*10 ^ l.length:=by rw [ep, ←Int.mul_assoc]
   have e2:(n+1)*10 ^ (c::l).length=(n*10+10)*10 ^ l.length:=by rw [ep, ←Int.mul_assoc];congr 1;omega
   show _≤dvf (n*10+((c.toNat:Int)-48)) l∧dvf (n*10+((c.toNat:Int)-48)) l<_
   rw [e1,e2]
   have m1:(n*10)*10 ^ l.length≤(n*10+((c.toNat:Int)-48))*10 ^ l.length:=Int.mul_le_mul_of_nonneg_right (by omega) (Int.le_of_lt hp)
   have m2:(n*10+((c.toNat:Int)-48)+1)*10 ^ l.length≤(n*10+10)*10 ^ l.length:=Int.mul_le_mul_of_nonneg_right (by omega) (Int.le_of_lt hp)
   omega
theorem Qx {a:List UInt8}:∀ {b:List UInt8} (n:Int),a.length=b.length→a.all aN=true→b.all aN=true→(Op.bytesLess a b=true↔dvf n a<dvf n b):=by
 induction a with
 | nil=>intro b n hl _ _;cases b with
   | nil=>simp [Op.bytesLess]
   | cons=>simp at hl
 | cons x a ih =>
   intro b n hl ha hb
   cases b with
   | nil=>simp at hl
   | cons y b =>
     simp only [List.length_cons,Nat.add_right_cancel_iff] at hl
     simp only [List.all_cons,Bool.and_eq_true] at ha hb
     have hx:=fZ ha.1
     have hy:=fZ hb.1
     have la:=yW ha.2 (n*10+((x.toNat:Int)-48))
     have lb:=yW hb.2 (n*10+((y.toNat:Int)-48))
     have hp:(0:Int)<10 ^ a.length:=Int.pow_pos (by omega)
     rw [←hl] at lb
     show (Op.bytesLess (x::a) (y::b)=true)↔dvf (n*10+((x.toNat:Int)-48)) a<dvf (n*10+((y.toNat:Int)-48)) b
     simp only [Op.bytesLess,Bool.or_eq_true,Bool.and_eq_true,decide_eq_true_eq,beq_iff_eq]
     by_cases hlt:x.toNat<y.toNat
     ·have:x<y:=UInt8.lt_iff_toNat_lt.2 hlt
      have m:(n*10+((x.toNat:Int)-48)+1)*10 ^ a.length≤(n*10+((y.toNat:Int)-48))*10 ^ a.length:=Int.mul_le_mul_of_nonneg_right (by omega) (Int.le_of_lt hp)
      exact ⟨fun _=>by omega,fun _=>.inl this⟩
     ·by_cases heq:x.toNat=y.toNat
      ·have e:x=y:=UInt8.toNat_inj.1 heq
       subst e
       have:=ih (b:=b) (n*10+((x.toNat:Int)-48)) hl ha.2 hb.2
       constructor
       ·rintro (h|⟨_,h⟩)
        ·exact absurd (UInt8.lt_iff_toNat_lt.1 h) (by omega)
        ·exact this.1 h
       ·intro h;exact .inr ⟨rfl,this.2 h⟩
      ·have m:(n*10+((y.toNat:Int)-48)+1)*10 ^ a.length≤(n*10+((x.toNat:Int)-48))*10 ^ a.length:=Int.mul_le_mul_of_nonneg_right (by omega) (Int.le_of_lt hp)
       constructor
       ·rintro (h|⟨h,_⟩)
        ·exact absurd (UInt8.lt_iff_toNat_lt.1 h) hlt
        ·exact absurd (congrArg UInt8.toNat h) heq
       ·intro h;omega
theorem Jw (n:Int) (l:List UInt8) (hn:n=0):dvf n (48::l)=dvf 0 l:=by subst hn;rfl
def rT:List UInt8:=[57,50,50,51,51,55,50,48,51,54,56,53,52,55,55,53,56,48,55]
theorem Pd:dvf 0 rT=9223372036854775807:=by decide
theorem aAQ {l:List UInt8} (ha:l.all aN=true) (hl:l.length=19):inR (dvf 0 l)↔Op.bytesLess rT l=false:=by
 have h:=Qx (a:=rT) (b:=l) 0 (by rw [hl];rfl) (by decide) ha
 rw [Pd] at h
 have h0:=iN ha
 unfold inR
 constructor
 ·intro g
  rw [Bool.eq_false_iff];intro hc
  have:=h.1 hc;omega
 ·intro g
  refine ⟨by omega, ?_⟩
  apply Int.not_lt.1
  intro hc;rw [h.2 (by omega)] at g;cases g
theorem Zc {l:List UInt8} (ha:l.all aN=true) (hl:l.length≤18):inR (dvf 0 l):=by
 have h:=(yW ha 0).2
 have h0:=iN ha
 have h2:(10:Int) ^ l.length≤10 ^ 18:=by
  have:(10:Nat) ^ l.length≤10 ^ 18:=Nat.pow_le_pow_right (by omega) hl
  exact_mod_cast this
 unfold inR;omega
theorem Pe {x:UInt8} {l:List UInt8} (ha:(x::l).all aN=true) (hx:x≠48) (hl:19≤l.length):¬inR (dvf 0 (x::l)):=by
 simp only [List.all_cons,Bool.and_eq_true] at ha
 have hb:=fZ ha.1
 have hx2:x.toNat≠48:=fun g=>hx (UInt8.toNat_inj.1 g)
 have h:=(yW ha.2 (0*10+((x.toNat:Int)-48))).1
 have hp:(10:Int) ^ 19≤10 ^ l.length:=by
  have:(10:Nat) ^ 19≤10 ^ l.length:=Nat.pow_le_pow_right (by omega) hl
  exact_mod_cast this
 have m:(1:Int)*10 ^ l.length≤(0*10+((x.toNat:Int)-48))*10 ^ l.length:=Int.mul_le_mul_of_nonneg_right (by omega) (by omega)
 show ¬inR (dvf (0*10+((x.toNat:Int)-48)) l)
 unfold inR;omega
def quo (l:List UInt8):List UInt8:=l.flatMap fun c=>if c=39 then [39,39] else [c]
theorem tK (c:UInt8) (l:List UInt8):quo (c::l)=(if c=39 then [39,39] else [c])++quo l:=rfl
theorem Od (l:List UInt8) (c:UInt8):quo (l++[c])=quo l++(if c=39 then [39,39] else [c]):=by simp [quo]
theorem En (l m:List UInt8):quo (l++m)=quo l++quo m:=by simp [quo]
theorem tJ {l:List UInt8} (h:(39:UInt8) ∉ l):quo l=l:=by
 induction l with
 | nil=>rfl
 | cons c l ih =>
   rw [tK,if_neg (fun e=>h (by rw [e];simp)),ih (fun g=>h (by simp [g]))];rfl
theorem yJ (l:List UInt8):(quo l).length=l.length+l.count 39:=by
 induction l with
 | nil=>rfl
 | cons c l ih =>
   rw [tK,List.length_append,ih]
   by_cases h:c=39
   ·subst h;simp;omega
   ·rw [if_neg h,List.count_cons_of_ne (by simpa using h)];simp;omega
theorem Jk (s:List UInt8):(Lib.index s [39] = -1∧(39:UInt8) ∉ s)∨∃ a r,s=a++39::r∧(39:UInt8) ∉ a∧Lib.index s [39]=(a.length:Nat):=by
 induction s with
 | nil=>left;exact ⟨by simp [Lib.index],by simp⟩
 | cons b l ih =>
   by_cases h:b=39
   ·subst h
    right;exact ⟨[],l,rfl,by simp,by rw [Lib.index];simp [List.isPrefixOf]⟩
   ·have hp:([39]:List UInt8).isPrefixOf (b::l)=false:=by simp [List.isPrefixOf,Ne.symm h]
    have hix:Lib.index (b::l) [39]=if Lib.index l [39] == -1 then -1 else Lib.index l [39]+1:=by rw [Lib.index,hp];simp
    rcases ih with ⟨h1,h2⟩|⟨a,r,h1,h2,h3⟩
    ·left;refine ⟨by rw [hix,h1];rfl, ?_⟩
     intro g;rcases List.mem_cons.1 g with g|g
     ·exact h g.symm
     ·exact h2 g
    ·right;refine ⟨b::a,r,by rw [h1];rfl, ?_, ?_⟩
     ·intro g;rcases List.mem_cons.1 g with g|g
      ·exact h g.symm
      ·exact h2 g
     ·rw [hix,if_neg (by simp;omega),h3];simp
theorem yD (k:Nat):∀ s:List UInt8,s.count 39≤k→Lib.replaceK [39] [39,39] k s=quo s:=by
 induction k with
 | zero =>
   intro s h
   have:(39:UInt8) ∉ s:=fun g=>by have:=List.count_pos_iff.2 g;omega
   rw [tJ this];rfl
 | succ k ih =>
   intro s h
   rcases Jk s with ⟨h1,h2⟩|⟨a,r,h1,h2,h3⟩
   ·rw [Lib.replaceK,if_pos (by rw [h1];rfl),tJ h2]
   ·rw [Lib.replaceK_hit _ _ _ _ _ h3]
    have e1:s.take a.length=a:=by rw [h1];simp
    have e2:s.drop (a.length+[(39:UInt8)].length)=r:=by rw [h1,List.length_singleton,List.drop_append];simp
    rw [e1,e2,ih r (by rw [h1] at h;simp at h;omega),h1,En,tJ h2,tK,if_pos rfl]
    simp
theorem Ay (s:List UInt8):Lib.replaceAll s [39] [39,39]=quo s:=by
 unfold Lib.replaceAll Lib.replace
 rw [if_neg (by decide)]
 unfold Lib.replaceNum
 rw [if_pos (.inl (by decide)),Lib.count_one]
 exact yD _ _ (ν _)
def aAJ (l:List UInt8):List UInt8:=[39]++quo l++[39]
def lit (v:V):List UInt8 :=
 if v.k=1 then Lib.itoa v.i else if v.k=2 then aAJ v.s.data.toList else if v.k=3 then (if v.b then [84,82,85,69] else [70,65,76,83,69]) else [78,85,76,76]
structure Col where
 n:List UInt8
 k:Int
structure Tb where
 n:List UInt8
 cs:List Col
def kP (t:List UInt8) (tb:Tb):Bool:=t==[]||tb.n==t
def cP (s:List UInt8):Nat→List Col→List (Nat×Int)
 | _,[]=>[]
 | a,c::r=>(if c.n==s then [(a,c.k)] else [])++cP s (a+1) r
def fU (t s:List UInt8):Nat→List Tb→List (Nat×Int)
 | _,[]=>[]
 | a,tb::r=>(if kP t tb then cP s a tb.cs else [])++fU t s (a+tb.cs.length) r
def gJ (t:List UInt8) (sc:List Tb):Nat:=(sc.filter (kP t)).length
def bW (sc:List Tb):Nat:=(sc.map fun tb=>tb.cs.length).sum
def gA (sc:List Tb) (t s:List UInt8):Option (Nat×Int) :=
 if (fU t s 0 sc).length=1∧(t=[]∨gJ t sc=1) then (fU t s 0 sc).getLast? else none
theorem uN (s:List UInt8) (c:Col):∀ (a:Nat) (l:List Col),cP s a (l++[c])=cP s a l++(if c.n==s then [(a+l.length,c.k)] else [])
 | a,[]=>by simp [cP]
 | a,d::r=>by
   show _++cP s (a+1) (r++[c])=(_++cP s (a+1) r)++_
   rw [uN s c (a+1) r,List.append_assoc]
   simp [Nat.add_assoc,Nat.add_comm 1]
theorem qU (t s:List UInt8) (tb:Tb):∀ (a:Nat) (l:List Tb),fU t s a (l++[tb])=fU t s a l++(if kP t tb then cP s (a+bW l) tb.cs else [])
 | a,[]=>by simp [fU,bW]
 | a,d::r=>by
   show _++fU t s (a+d.cs.length) (r++[tb])=(_++fU t s (a+d.cs.length) r)++_
   rw [qU t s tb (a+d.cs.length) r,List.append_assoc]
   simp [bW,Nat.add_assoc]
theorem sV (t:List UInt8) (tb:Tb) (l:List Tb):gJ t (l++[tb])=gJ t l+(if kP t tb then 1 else 0):=by
 unfold gJ
 rw [List.filter_append]
 cases h:kP t tb<;>simp [h]
theorem qE (tb:Tb) (l:List Tb):bW (l++[tb])=bW l+tb.cs.length:=by simp [bW]
def fitK (k of:Int):Bool:=k==of||k==0
def hY:List (List UInt8):=[[43],[45],[42],[47],[37]]
def gS (op:List UInt8) (a b:Int):Int×Int :=
 if op=jN∨op=uOr then (if fitK a 3&&fitK b 3 then (3,0) else (0,8))
 else if op∈hY then (if fitK a 1&&fitK b 1 then (1,0) else (0,8))
 else (if fitK a b||fitK b a then (3,0) else (0,8))
def jD (op:List UInt8) (a:Int):Int×Int :=
 if op=fW then (if fitK a 3 then (3,0) else (0,8)) else (if fitK a 1 then (1,0) else (0,8))
def lN (op:List UInt8) (a:Int):Int×Int :=
 if op=dN then (if fitK a 1 then (1,0) else (0,8)) else if op=aU then (1,0) else (a,0)
def dD (p:Int×Int) (f:Int→Int×Int):Int×Int:=if p.2=0 then f p.1 else (0,p.2)
def aD (sc:List Tb):X→Bool→Int×Int
 | .lit k _ _ _,_=>(k,0)
 | .col t s,_=>match gA sc t s with
   | none=>(0,6)
   | some p=>(p.2,0)
 | .un op x,g=>dD (aD sc x g) (jD op)
 | .bin op a b,g=>dD (aD sc a g) fun k=>dD (aD sc b g) (gS op k)
 | .isn _ x,g=>dD (aD sc x g) fun _=>(3,0)
 | .agg op x,g=>if g then dD (aD sc x false) (lN op) else (0,3)
 | .cnt,g=>if g then (1,0) else (0,3)
def vW (k i:Int) (s:List UInt8) (b:Bool):List UInt8:=if k=1∧i<0 then [40]++lit ⟨k,i,⟨s.toArray⟩,b⟩++[41] else lit ⟨k,i,⟨s.toArray⟩,b⟩
def atX (sc:List Tb) (t s:List UInt8):Int:=match gA sc t s with
 | none => -1
 | some p=>(p.1:Int)
def sIs:List UInt8:=[73,83,32,78,85,76,76]
def xV:List UInt8:=[73,83,32,78,79,84,32,78,85,76,76]
def xW:List UInt8:=[67,79,85,78,84,40,42,41]
def eR (sc:List Tb):X→List UInt8
 | .lit k i s b=>vW k i s b
 | .col t s=>35::Lib.itoa (atX sc t s)
 | .un op x=>[40]++op++[32]++eR sc x++[41]
 | .bin op a b=>[40]++eR sc a++[32]++op++[32]++eR sc b++[41]
 | .isn n x=>[40]++eR sc x++[32]++(if n then xV else sIs)++[41]
 | .agg op x=>op++[40]++eR sc x++[41]
 | .cnt=>xW
mutual
theorem iV:∀ (f lev d:Nat) (l r:List Tok) (x:X),px f lev d l=some (x,r)→x.size+r.length≤l.length
 | 0,_,_,_,_,_,h=>by simp [px] at h
 | f+1,lev,d,l,r,x,h=>by
   unfold px at h
   split at h
   ·split at h
    ·rename_i h1
     split at h
     ·obtain ⟨⟨y,r1⟩,h2,h3⟩:=Option.map_eq_some_iff.1 h
      have:=iV _ _ _ _ _ _ h2
      have:=bB h1
      simp only [Prod.mk.injEq] at h3
      rw [←h3.1, ←h3.2];simp only [X.size];omega
     ·cases h
    ·exact iV _ _ _ _ _ _ h
   split at h
   ·split at h
    ·rename_i h1
     split at h
     ·obtain ⟨⟨y,r1⟩,h2,h3⟩:=Option.map_eq_some_iff.1 h
      have:=iV _ _ _ _ _ _ h2
      have:=bB h1
      simp only [Prod.mk.injEq] at h3
      rw [←h3.1, ←h3.2];simp only [X.size];omega
     ·cases h
    ·exact iV _ _ _ _ _ _ h
   split at h
   ·exact Ue _ _ _ _ _ h
   ·split at h
    ·cases h
    ·rename_i h1
     have:=iV _ _ _ _ _ _ h1
     have:=yL _ _ _ _ _ _ _ _ h
     omega
theorem yL:∀ (f lev d:Nat) (x:X) (done:Bool) (l r:List Tok) (y:X),pl f lev d x done l=some (y,r)→y.size+r.length≤x.size+l.length
 | 0,_,_,_,_,_,_,_,h=>by simp [pl] at h
 | f+1,lev,d,x,done,l,r,y,h=>by
   unfold pl at h
   split at h
   ·rename_i s h1
    have h1':cA lev l=some s:=by
     split at h1
     ·cases h1
     ·exact h1
    have:=gE h1'
    split at h
    ·cases h
    ·rename_i h2
     have:=iV _ _ _ _ _ _ h2
     have:=yL _ _ _ _ _ _ _ _ h
     simp only [X.size] at this
     omega
   ·split at h
    ·rename_i h1
     have:=bB h1.2
     split at h
     ·cases h
     ·rename_i h2
      have:=nW h2
      have:=yL _ _ _ _ _ _ _ _ h
      simp only [X.size] at this
      omega
    ·simp only [Option.some.injEq,Prod.mk.injEq] at h
     rw [←h.1, ←h.2];omega
theorem Ue:∀ (f d:Nat) (l r:List Tok) (x:X),pa f d l=some (x,r)→x.size+r.length≤l.length
 | 0,_,_,_,_,h=>by simp [pa] at h
 | f+1,d,[],_,_,h=>by simp [pa] at h
 | f+1,d,t::r0,r,x,h=>by
   unfold pa at h
   have fin:∀ {z:X},z.size=1→some (z,r0)=some (x,r)→x.size+r.length≤(t::r0).length:=by
    intro z hz e
    simp only [Option.some.injEq,Prod.mk.injEq] at e
    rw [←e.1, ←e.2,hz];simp;omega
   split at h
   ·exact fin rfl h
   split at h
   ·exact fin rfl h
   split at h
   ·exact fin rfl h
   split at h
   ·exact fin rfl h
   split at h
   ·exact fin rfl h
   split at h
   ·split at h
    ·split at h
     ·cases h
     ·rename_i h2
      have:=iV _ _ _ _ _ _ h2
      obtain ⟨r3,h4,h5⟩:=Option.map_eq_some_iff.1 h
      have:=dH h4
      simp only [Prod.mk.injEq] at h5
      rw [←h5.1, ←h5.2];simp;omega
    ·cases h
   split at h
   ·split at h
    ·split at h
     ·cases h
     ·rename_i h2
      have:=dH h2
      split at h
      ·rename_i h3
       have:=bB h3.2
       obtain ⟨r3,h4,h5⟩:=Option.map_eq_some_iff.1 h
       have:=dH h4
       simp only [Prod.mk.injEq] at h5
       rw [←h5.1, ←h5.2];simp [X.size];omega
      ·split at h
       ·cases h
       ·rename_i h3
        have:=iV _ _ _ _ _ _ h3
        obtain ⟨r3,h4,h5⟩:=Option.map_eq_some_iff.1 h
        have:=dH h4
        simp only [Prod.mk.injEq] at h5
        rw [←h5.1, ←h5.2];simp [X.size];omega
    ·cases h
   have h1:=Ct h
   have h2:x.size=1:=by
    unfold kQ at h
    split at h
    ·cases h
    ·split at h
     ·split at h
      ·cases h
      ·simp only [Option.some.injEq,Prod.mk.injEq] at h
       rw [←h.1];rfl
     ·simp only [Option.some.injEq,Prod.mk.injEq] at h
      rw [←h.1];rfl
   omega
end
theorem Fk {L:List Tok} {x:X} (h:kN L=some x):x.size≤L.length:=by
 unfold kN at h
 split at h
 ·cases h
 ·rename_i y r h1
  by_cases h2:(if isF [59] r then r.tail else r)=[]
  ·rw [if_pos h2] at h
   injection h with h
   subst h
   have:=iV _ _ _ _ _ _ h1
   omega
  ·rw [if_neg h2] at h
   cases h
theorem Cb (s:List UInt8):∀ (l:List Col) (a0 a:Nat) (k:Int),(a,k)∈cP s a0 l→a<a0+l.length
 | [],_,_,_,h=>by simp [cP] at h
 | c::r,a0,a,k,h=>by
   unfold cP at h
   rcases List.mem_append.1 h with h|h
   ·split at h
    ·simp only [List.mem_singleton,Prod.mk.injEq] at h
     simp;omega
    ·simp at h
   ·have:=Cb s r (a0+1) a k h
    simp;omega
theorem Gv (t s:List UInt8):∀ (l:List Tb) (a0 a:Nat) (k:Int),(a,k)∈fU t s a0 l→a<a0+bW l
 | [],_,_,_,h=>by simp [fU] at h
 | c::r,a0,a,k,h=>by
   unfold fU at h
   have e:bW (c::r)=c.cs.length+bW r:=by simp [bW]
   rw [e]
   rcases List.mem_append.1 h with h|h
   ·split at h
    ·have:=Cb s c.cs a0 a k h
     omega
    ·simp at h
   ·have:=Gv t s r (a0+c.cs.length) a k h
    omega
theorem Ci {sc:List Tb} {t s:List UInt8} {p:Nat×Int} (h:gA sc t s=some p):p.1<bW sc:=by
 unfold gA at h
 split at h
 ·have:=Gv t s sc 0 p.1 p.2 (List.mem_of_getLast? h)
  omega
 ·cases h
theorem Zr {sc:List Tb} (hw:bW sc≤10000) (t s:List UInt8) : -1≤atX sc t s∧atX sc t s≤10000:=by
 unfold atX
 cases h:gA sc t s with
 | none=>simp
 | some p =>
   have:=Ci h
   simp only
   omega
theorem Of (l:List UInt8):(quo l).length≤2*l.length:=by
 rw [yJ]
 have:=List.count_le_length (a:=(39:UInt8)) (l:=l)
 omega
theorem Pi {k i:Int} {s:List UInt8} {b:Bool} (h:oH k i s b):(vW k i s b).length≤5000:=by
 have h1:(lit ⟨k,i,⟨s.toArray⟩,b⟩).length≤4010:=by
  unfold lit
  rcases h with ⟨rfl,h1,h2,rfl,rfl⟩|⟨rfl,rfl,h2,rfl⟩|⟨rfl,rfl,rfl,rfl⟩|⟨rfl,rfl,rfl⟩
  ·have:=Lib.itoa_length_le i (by omega) (by omega)
   simp only [if_true];omega
  ·have:=Of s
   simp [aAJ];omega
  ·simp
  ·cases b<;>simp
 unfold vW
 split
 ·simp;omega
 ·omega
theorem Mp {sc:List Tb} (hw:bW sc≤10000):∀ x:X,x.wf→(eR sc x).length≤5000*x.size:=by
 intro x
 induction x with
 | lit k i s b=>intro h;exact Pi h
 | col t s =>
   intro _
   obtain ⟨h1,h2⟩:=Zr hw t s
   have:=Lib.itoa_length_le (atX sc t s) (by omega) (by omega)
   simp [eR,X.size];omega
 | un op x ih =>
   intro h
   have:=ih h.2
   have h2:op.length≤3:=by rcases h.1 with rfl|rfl<;>decide
   simp [eR,X.size];omega
 | bin op a b iha ihb =>
   intro h
   have:=iha h.2.1
   have:=ihb h.2.2
   have h2:op.length≤3:=by
    have:∀ o∈oV,o.length≤3:=by decide
    exact this _ h.1
   simp [eR,X.size];omega
 | isn n x ih =>
   intro h
   have:=ih h
   have h2:(if n then xV else sIs).length≤11:=by cases n<;>decide
   simp only [eR,X.size,List.length_append,List.length_cons,List.length_nil];omega
 | agg op x ih =>
   intro h
   have:=ih h.2
   have h2:op.length≤5:=by
    have:∀ o∈qY,o.length≤5:=by decide
    exact this _ h.1
   simp [eR,X.size];omega
 | cnt=>intro _;simp [eR,xW,X.size]
theorem Oo {c:UInt8} {r:List UInt8} (h0:(bE (c::r)).2.2=0) (hl:r.length+1≤2000):qZ (bE (c::r)).1:=by
 cases h1:fO c
 ·cases h2:aN c
  ·by_cases h3:c=39
   ·subst h3
    rw [cY] at h0 ⊢
    cases ht:txt r with
    | none=>rw [ht] at h0;cases h0
    | some p =>
      obtain ⟨s,n⟩:=p
      rw [ht] at h0
      unfold jL at h0 ⊢
      by_cases g1:aS s=true
      ·by_cases g2:s.length≤60
       ·simp only [g1,g2,if_true]
        exact ⟨by show (0:Int)≤0;decide,by show (0:Int)≤_;decide,by show s.length≤2000;omega⟩
       ·simp only [g1,g2,if_true,if_false] at h0;cases h0
      ·simp only [g1] at h0;cases h0
   ·rw [fF r h1 h2 h3] at h0 ⊢
    by_cases g:bY (c::r)=0
    ·rw [if_pos g] at h0;cases h0
    ·rw [if_neg g]
     refine ⟨by show (0:Int)≤0;decide,by show (0:Int)≤_;decide, ?_⟩
     show ((c::r).take (bY (c::r))).length≤2000
     rw [List.length_take]
     simp only [List.length_cons]
     omega
  ·rw [gL r h1 h2] at h0 ⊢
   have h0:kT ((c::r).takeWhile aN)=0:=h0
   have hall:((c::r).takeWhile aN).all aN=true:=by
    generalize (c::r)=m
    induction m with
    | nil=>rfl
    | cons d m ih =>
      rw [List.takeWhile_cons]
      split
      ·rename_i hd
       rw [List.all_cons,hd,ih];rfl
      ·rfl
   generalize (c::r).takeWhile aN=l at *
   have hd:kR l=true:=by
    cases hq:kR l
    ·rw [qP hq] at h0;cases h0
    ·rfl
   rw [lK hd] at h0
   have hv:=iN hall
   have hin:inR (dvf 0 l):=by
    unfold err at h0
    by_cases h:inR (dvf 0 l)
    ·exact h
    ·rw [if_neg h] at h0;cases h0
   have hval:jA l=dvf 0 l:=by rw [lJ hd,val,if_pos hin]
   refine ⟨?_, ?_,Nat.zero_le _⟩
   ·show 0≤jA l
    rw [hval];exact hv
   ·show jA l≤_
    rw [hval];exact hin.2
 ·rw [fE r h1]
  refine ⟨by show (0:Int)≤0;decide,by show (0:Int)≤_;decide, ?_⟩
  show (((c::r).takeWhile bO).map gR).length≤2000
  have h2:=fJ bO (c::r)
  rw [List.length_map]
  simp only [List.length_cons] at h2
  omega
theorem pI:∀ (k:Nat) (acc:List Tok) (l:List UInt8),l.length≤k→l.length≤2000→(∀ t∈acc,qZ t)→∀ t∈(dF acc l).1,qZ t
 | k,acc,[],_,_,h=>by rw [iZ];exact h
 | 0,acc,c::r,hk,_,_=>by simp at hk
 | k+1,acc,c::r,hk,h2,h=>by
   simp only [List.length_cons] at hk h2
   cases hb:dY c
   ·by_cases h0:(bE (c::r)).2.2=0
    ·rw [dE acc hb h0]
     have h1:=kW h0
     refine pI k _ _ (by rw [List.length_drop,List.length_cons];omega) (by rw [List.length_drop,List.length_cons];omega) ?_
     intro t ht
     rcases List.mem_append.1 ht with ht|ht
     ·exact h t ht
     ·rw [List.mem_singleton] at ht
      rw [ht];exact Oo h0 (by omega)
    ·rw [dM acc hb h0];intro t ht;cases ht
   ·rw [eE acc r hb]
    exact pI k acc r (by omega) (by omega) h
theorem Rf {s:List UInt8} {x:X} (hl:s.length≤2000) (h:dX s=some x):x.wf∧x.size≤2000:=by
 unfold dX at h
 split at h
 ·refine ⟨Re (pI s.length [] s (ν _) hl (fun t ht=>by cases ht)) h, ?_⟩
  have h1:=Fk h
  have h2:=mS s.length [] s (ν _)
  simp at h2
  omega
 ·cases h
theorem Ho {c:UInt8} (l:List UInt8) (h:c≠39):txt (c::l)=(txt l).map fun p=>(c::p.1,p.2+1):=by
 conv=>lhs;unfold txt
 rw [if_neg h]
theorem zT:∀ (bs r:List UInt8),(39:UInt8) ∉ bs→txt (bs++r)=(txt r).map fun p=>(bs++p.1,p.2+bs.length)
 | [],r,_=>by cases h:txt r<;>simp [h]
 | c::bs,r,h=>by
   have h1:¬c=39:=fun e=>h (by simp [e])
   have ih:=zT bs r (fun e=>h (by simp [e]))
   show txt (c::(bs++r))=_
   rw [Ho _ h1,ih]
   cases hx:txt r with
   | none=>rfl
   | some p=>simp;omega
def fH (l acc:List UInt8) (pos:Nat) (q:Bool):Prop :=
 ∃ m,m+(if q then 1 else 0)=pos∧txt l=(txt ((if q then [39] else [])++l.drop pos)).map fun p=>(acc++p.1,p.2+m)
theorem pD (l:List UInt8):fH l [] 0 false:=⟨0,rfl,by cases h:txt l<;>simp [h]⟩
theorem sT {l acc:List UInt8} {pos:Nat} (h:fH l acc pos true) (hp:l[pos]? = some 39):fH l (acc++[39]) (pos+1) false:=by
 obtain ⟨m,hm,ht⟩:=h
 simp only [if_true] at hm ht
 have hd:l.drop pos=39::l.drop (pos+1):=by
  obtain ⟨hl,he⟩:=List.getElem?_eq_some_iff.1 hp
  rw [List.drop_eq_getElem_cons hl,he]
 refine ⟨pos+1,by simp, ?_⟩
 rw [ht,hd]
 show (txt (39::39::l.drop (pos+1))).map _=_
 have e:txt (39::39::l.drop (pos+1))=(txt (l.drop (pos+1))).map fun p=>(39::p.1,p.2+2):=by
  conv=>lhs;unfold txt
  simp
 rw [e,Option.map_map]
 simp only [φ,if_false,List.nil_append]
 congr 1
 funext p
 simp;omega
theorem pE {l acc:List UInt8} {pos:Nat} (h:fH l acc pos false) (hp:l[pos]? = some 39):fH l acc (pos+1) true:=by
 obtain ⟨m,hm,ht⟩:=h
 simp only [φ,if_false,List.nil_append,Nat.add_zero] at hm ht
 have hd:l.drop pos=39::l.drop (pos+1):=by
  obtain ⟨hl,he⟩:=List.getElem?_eq_some_iff.1 hp
  rw [List.drop_eq_getElem_cons hl,he]
 refine ⟨m,by simp [hm], ?_⟩
 rw [ht,hd];rfl
theorem sU {l acc:List UInt8} {pos:Nat} {c:UInt8} (h:fH l acc pos true) (hp:l[pos]? = some c) (hc:c≠39):txt l=some (acc,pos):=by
 obtain ⟨m,hm,ht⟩:=h
 simp only [if_true] at hm ht
 have hd:l.drop pos=c::l.drop (pos+1):=by
  obtain ⟨hl,he⟩:=List.getElem?_eq_some_iff.1 hp
  rw [List.drop_eq_getElem_cons hl,he]
 rw [ht,hd]
 have e:txt (39::c::l.drop (pos+1))=some ([],1):=by
  conv=>lhs;unfold txt
  simp [hc]
 show (txt (39::c::l.drop (pos+1))).map _=_
 rw [e];simp;omega
theorem rI {l acc:List UInt8} {pos:Nat} (h:fH l acc pos true) (hp:l.length≤pos):txt l=some (acc,pos):=by
 obtain ⟨m,hm,ht⟩:=h
 simp only [if_true] at hm ht
 rw [ht,List.drop_eq_nil_of_le hp]
 have e:txt ([39]++[])=some ([],1):=rfl
 rw [e];simp;omega
theorem rH {l acc:List UInt8} {pos:Nat} (h:fH l acc pos false) (hp:l.length≤pos):txt l=none:=by
 obtain ⟨m,hm,ht⟩:=h
 rw [ht,List.drop_eq_nil_of_le hp];rfl
theorem rG {l acc:List UInt8} {pos k:Nat} (h:fH l acc pos false) (hk:pos+k≤l.length) (hn:(39:UInt8) ∉ (l.drop pos).take k):fH l (acc++(l.drop pos).take k) (pos+k) false:=by
 obtain ⟨m,hm,ht⟩:=h
 simp only [φ,if_false,List.nil_append,Nat.add_zero] at hm ht
 have hs:l.drop pos=(l.drop pos).take k++l.drop (pos+k):=by
  conv=>lhs;rw [←List.take_append_drop k (l.drop pos)]
  rw [List.drop_drop]
 refine ⟨pos+k,by simp, ?_⟩
 rw [ht]
 conv=>lhs;rw [hs,zT _ _ hn]
 rw [Option.map_map]
 simp only [φ,if_false,List.nil_append]
 congr 1
 funext p
 have hl:((l.drop pos).take k).length=k:=by rw [List.length_take,List.length_drop];omega
 simp only [Function.comp,hl,List.append_assoc,Prod.mk.injEq,true_and]
 omega
theorem yX (n b0 b1 b2 b3:Nat) (h:(Lib.decodeN n b0 b1 b2 b3).1≠39) (hn:1≤n) :
 (Lib.decodeN n b0 b1 b2 b3).2≤n∧(1≤(Lib.decodeN n b0 b1 b2 b3).2)∧b0≠39∧(1<(Lib.decodeN n b0 b1 b2 b3).2→b1≠39)∧(2<(Lib.decodeN n b0 b1 b2 b3).2→b2≠39)∧(3<(Lib.decodeN n b0 b1 b2 b3).2→b3≠39)∧(Lib.decodeN n b0 b1 b2 b3).2≤4:=by
 unfold Lib.decodeN at *
 repeat' split
 all_goals simp_all
 all_goals omega
theorem Ib (s:ByteArray) (pos:Nat) (h:pos<s.size) (hr:(Utf8.decode s pos).1≠39) :
 pos+(Utf8.decode s pos).2≤s.size∧1≤(Utf8.decode s pos).2∧(39:UInt8) ∉ (s.data.toList.drop pos).take (Utf8.decode s pos).2:=by
 have hlen:s.data.toList.length=s.size:=by rw [Array.length_toList];rfl
 rw [Lib.decode_N,hlen] at hr ⊢
 have hf:=yX _ _ _ _ _ hr (by omega)
 generalize (Lib.decodeN (s.size-pos) (s.data.toList.getD pos 0).toNat (s.data.toList.getD (pos+1) 0).toNat (s.data.toList.getD (pos+2) 0).toNat (s.data.toList.getD (pos+3) 0).toNat).2=k at *
 obtain ⟨h1,h2,g0,g1,g2,g3,h4⟩:=hf
 refine ⟨by omega,h2, ?_⟩
 intro hm
 obtain ⟨j,hj⟩:=List.mem_iff_getElem?.1 hm
 rw [List.getElem?_take] at hj
 split at hj
 ·rename_i hjk
  rw [List.getElem?_drop] at hj
  have hg:(s.data.toList.getD (pos+j) 0).toNat=39:=by rw [List.getD_eq_getElem?_getD,hj];rfl
  match j,hjk,hg with
  | 0,_,hg=>exact g0 hg
  | 1,hjk,hg=>exact g1 hjk hg
  | 2,hjk,hg=>exact g2 hjk hg
  | 3,hjk,hg=>exact g3 hjk hg
  | j+4,hjk,_=>omega
 ·cases hj
theorem Ec (s:ByteArray) (pos:Nat) (h:pos<s.size) (hr:(Utf8.decode s pos).1=39):s[pos]'h=39∧(Utf8.decode s pos).2=1:=by
 by_cases ha:(s[pos]'h).toNat<128
 ·have e:=decode_ascii s pos h ha
  rw [e] at hr ⊢
  exact ⟨UInt8.toNat_inj.1 hr,rfl⟩
 ·have:=(decode_high s pos h (by omega)).1
  omega
theorem Ed (s:ByteArray) (pos:Nat) (h:pos<s.size) (hr:(Utf8.decode s pos).1≠39):s[pos]'h≠39:=by
 intro e
 have ha:(s[pos]'h).toNat<128:=by rw [e];decide
 rw [decode_ascii s pos h ha,e] at hr
 exact hr rfl
theorem Ia (s:ByteArray) (pos:Nat):Utf8.decode (s.extract 1 s.size) pos=Utf8.decode s (1+pos):=by
 rw [←Lib.decodeL_drop, ←Lib.decodeL_drop,Lib.extract_data,List.take_of_length_le (by simp),List.drop_drop]
def aAW:Option (List UInt8×Nat)→List UInt8
 | none=>[]
 | some p=>p.1
def aAX:Option (List UInt8×Nat)→Nat
 | none=>0
 | some p=>p.2+1
