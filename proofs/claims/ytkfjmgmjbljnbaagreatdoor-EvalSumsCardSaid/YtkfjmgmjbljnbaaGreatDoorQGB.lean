/-
 Contracts and laws, joined: PlainFuel, PlainSfx, PlainParts, PlainCond, PlainKey, PlainDec, PlainLit, PlainBind, PlainSize, PlainNum, PlainText. Conditions: those of each.
-/
import Derived.Test.YtkfjmgmjbljnbaaGreatDoorQGA
import Derived.KernelRfl
import Derived.Laws.BitsAllLaws
import Derived.Lib.ItoaNum
import Derived.Lib.Replace
import Derived.Lib.SplitLaws
import Derived.Lib.ItoaLen
import Derived.Lib.RuneCount
namespace Go.Proofs.YtkfjmgmjbljnbaaGreatDoor.Lp
mutual
theorem px_fuel:∀ (f g lev d:Nat) (l:List Tok),lev≤8→20*l.length+20-2*lev≤f→20*l.length+20-2*lev≤g→px f lev d l=px g lev d l
 | 0,_,lev,_,l,h8,hf,_=>by omega
 | f+1,0,lev,_,l,h8,_,hg=>by omega
 | f+1,g+1,lev,d,l,h8,hf,hg=>by
   unfold px
   split
   ·rename_i h3
    split
    ·rename_i h1
     have:=isF_tail h1
     rw [px_fuel f g 3 (d+1) l.tail (by omega) (by omega) (by omega)]
    ·exact px_fuel f g 4 d l (by omega) (by omega) (by omega)
   split
   ·rename_i h3
    split
    ·rename_i h1
     have:=isF_tail h1
     rw [px_fuel f g 7 (d+1) l.tail (by omega) (by omega) (by omega)]
    ·exact px_fuel f g 8 d l (by omega) (by omega) (by omega)
   split
   ·exact pa_fuel f g d l (by omega) (by omega)
   ·rw [px_fuel f g (lev+1) d l (by omega) (by omega) (by omega)]
    split
    ·rfl
    ·rename_i h1
     have:=px_len _ _ _ _ _ _ h1
     exact pl_fuel f g lev d _ _ _ (by omega) (by omega) (by omega)
theorem pl_fuel:∀ (f g lev d:Nat) (x:X) (done:Bool) (l:List Tok),lev≤7→20*l.length+20≤f→20*l.length+20≤g→pl f lev d x done l=pl g lev d x done l
 | 0,_,lev,_,_,_,l,h8,hf,_=>by omega
 | f+1,0,lev,_,_,_,l,h8,_,hg=>by omega
 | f+1,g+1,lev,d,x,done,l,h8,hf,hg=>by
   unfold pl
   split
   ·rename_i s h1
    have h1':signF lev l=some s:=by
     split at h1
     ·cases h1
     ·exact h1
    have:=signF_tail h1'
    rw [px_fuel f g (lev+1) d l.tail (by omega) (by omega) (by omega)]
    split
    ·rfl
    ·rename_i h2
     have:=px_len _ _ _ _ _ _ h2
     exact pl_fuel f g lev d _ _ _ (by omega) (by omega) (by omega)
   ·split
    ·rename_i h1
     have:=isF_tail h1.2
     split
     ·rfl
     ·rename_i h2
      have:=nullF_len h2
      exact pl_fuel f g lev d _ _ _ (by omega) (by omega) (by omega)
    ·rfl
theorem pa_fuel:∀ (f g d:Nat) (l:List Tok),20*l.length+2≤f→20*l.length+2≤g→pa f d l=pa g d l
 | 0,_,_,l,hf,_=>by omega
 | f+1,0,_,l,_,hg=>by omega
 | f+1,g+1,d,[],hf,hg=>by simp [pa]
 | f+1,g+1,d,t::r,hf,hg=>by
   simp only [List.length_cons] at hf hg
   have h1:=px_fuel f g 1 (d+1) r (by omega) (by omega) (by omega)
   have h2:∀ r2,needF [40] r=some r2→px f 1 (d+1) r2=px g 1 (d+1) r2:=fun r2 h=>by
    have:=needF_len h
    exact px_fuel f g 1 (d+1) r2 (by omega) (by omega) (by omega)
   rw [pa.eq_3,pa.eq_3,h1]
   cases hq:needF [40] r with
   | none=>rfl
   | some r2=>simp only [h2 r2 hq]
end
def pX (lev d:Nat) (l:List Tok):Option (X×List Tok):=px (20*l.length+20) lev d l
def pL (lev d:Nat) (x:X) (done:Bool) (l:List Tok):Option (X×List Tok):=pl (20*l.length+20) lev d x done l
def pA (d:Nat) (l:List Tok):Option (X×List Tok):=pa (20*l.length+20) d l
theorem pX_not_yes {d:Nat} {l:List Tok} (h:isF wNot l=true):pX 3 d l=if d+1≤40 then (pX 3 (d+1) l.tail).map fun p=>(.un uNot p.1,p.2) else none:=by
 have:=isF_tail h
 rw [pX,px]
 simp only [if_true,h]
 rw [px_fuel _ (20*l.tail.length+20) 3 (d+1) l.tail (by omega) (by omega) (by omega)]
 rfl
theorem pX_not_no {d:Nat} {l:List Tok} (h:isF wNot l=false):pX 3 d l=pX 4 d l:=by
 rw [pX,px]
 simp only [if_true,h]
 exact px_fuel _ _ 4 d l (by omega) (by omega) (by omega)
theorem pX_neg_yes {d:Nat} {l:List Tok} (h:isF [45] l=true):pX 7 d l=if d+1≤40 then (pX 7 (d+1) l.tail).map fun p=>(.un [45] p.1,p.2) else none:=by
 have:=isF_tail h
 rw [pX,px]
 simp only [if_true,h]
 rw [px_fuel _ (20*l.tail.length+20) 7 (d+1) l.tail (by omega) (by omega) (by omega)]
 rfl
theorem pX_neg_no {d:Nat} {l:List Tok} (h:isF [45] l=false):pX 7 d l=pX 8 d l:=by
 rw [pX,px]
 simp only [h]
 exact px_fuel _ _ 8 d l (by omega) (by omega) (by omega)
theorem pX_atom {d:Nat} {l:List Tok}:pX 8 d l=pA d l:=by
 rw [pX,px]
 exact pa_fuel _ _ d l (by omega) (by omega)
theorem pX_lev {lev d:Nat} {l:List Tok} (h3:lev≠3) (h7:lev<7):pX lev d l=match pX (lev+1) d l with
 | none=>none
 | some (x,r)=>pL lev d x false r:=by
 rw [pX,px,if_neg h3,if_neg (by omega),if_neg (by omega),px_fuel _ (20*l.length+20) (lev+1) d l (by omega) (by omega) (by omega)]
 show (match pX (lev+1) d l with|none=>none|some (x,r)=>_)=_
 cases hq:pX (lev+1) d l with
 | none=>rfl
 | some p =>
   obtain ⟨x,r⟩:=p
   have:=px_len _ _ _ _ _ _ hq
   exact pl_fuel _ _ lev d x false r (by omega) (by omega) (by omega)
theorem pL_sign {lev d:Nat} {x:X} {l:List Tok} {s:List UInt8} (h:signF lev l=some s) (h8:lev≤7):pL lev d x false l=match pX (lev+1) d l.tail with
 | none=>none
 | some (y,r)=>pL lev d (.bin (upW s) x y) (lev==4) r:=by
 have:=signF_tail h
 rw [pL,pl]
 simp only [Bool.false_eq_true,if_false,h]
 rw [px_fuel _ (20*l.tail.length+20) (lev+1) d l.tail (by omega) (by omega) (by omega)]
 show (match pX (lev+1) d l.tail with|none=>none|some (y,r)=>_)=_
 cases hq:pX (lev+1) d l.tail with
 | none=>rfl
 | some p =>
   obtain ⟨y,r⟩:=p
   have:=px_len _ _ _ _ _ _ hq
   exact pl_fuel _ _ lev d _ _ r (by omega) (by omega) (by omega)
theorem pL_is {d:Nat} {x:X} {done:Bool} {l:List Tok} (h:(if done then none else signF 4 l)=none) (h1:isF wIs l=true):pL 4 d x done l=match nullF l.tail with
 | none=>none
 | some (n,r)=>pL 4 d (.isn n x) done r:=by
 have:=isF_tail h1
 rw [pL,pl]
 simp only [h,h1,and_self,if_true]
 cases hq:nullF l.tail with
 | none=>rfl
 | some p =>
   obtain ⟨n,r⟩:=p
   have:=nullF_len hq
   exact pl_fuel _ _ 4 d _ _ r (by omega) (by omega) (by omega)
theorem pL_end {lev d:Nat} {x:X} {done:Bool} {l:List Tok} (h:(if done then none else signF lev l)=none) (h1:lev≠4∨isF wIs l=false):pL lev d x done l=some (x,l):=by
 rw [pL,pl]
 simp only [h]
 rw [if_neg]
 rintro ⟨a,b⟩
 rcases h1 with h1|h1
 ·exact h1 a
 ·rw [h1] at b;cases b
theorem pA_nil {d:Nat}:pA d []=none:=by simp [pA,pa]
theorem pA_cons (d:Nat) (t:Tok) (r:List Tok):pA d (t::r) =
 if t.k=2 then some (.lit 1 t.n [] false,r)
 else if t.k=3 then some (.lit 2 0 t.s false,r)
 else if isF wNull (t::r) then some (.lit 0 0 [] false,r)
 else if isF wTrue (t::r) then some (.lit 3 0 [] true,r)
 else if isF wFalse (t::r) then some (.lit 3 0 [] false,r)
 else if isF [40] (t::r) then (if d+1≤40 then (match pX 1 (d+1) r with
  | none=>none
  | some (x,r2)=>(needF [41] r2).map fun r3=>(x,r3)) else none)
 else if isF wCount (t::r)||isF wSum (t::r)||isF wMin (t::r)||isF wMax (t::r) then (if d+1≤40 then (match needF [40] r with
  | none=>none
  | some r2=>if t.s=wCount∧isF [42] r2=true then (needF [41] r2.tail).map fun r3=>(.cnt,r3) else (match pX 1 (d+1) r2 with
    | none=>none
    | some (x,r3)=>(needF [41] r3).map fun r4=>(.agg (upW t.s) x,r4))) else none)
 else colF (t::r):=by
 rw [pA,pa,px_fuel _ (20*r.length+20) 1 (d+1) r (by omega) (by simp;omega) (by omega)]
 cases hq:needF [40] r with
 | none=>rfl
 | some r2 =>
   have:=needF_len hq
   simp only
   rw [px_fuel _ (20*r2.length+20) 1 (d+1) r2 (by omega) (by simp;omega) (by omega)]
   rfl
theorem pX_len {lev d:Nat} {l r:List Tok} {x:X} (h:pX lev d l=some (x,r)):r.length<l.length:=px_len _ _ _ _ _ _ h
theorem tail_sfx (l:List Tok):l.tail <:+ l:=List.tail_suffix l
theorem needF_sfx {s:List UInt8} {l r:List Tok} (h:needF s l=some r):r <:+ l:=by
 unfold needF at h
 split at h
 ·injection h with h;subst h;exact tail_sfx l
 ·cases h
theorem nameF_sfx {l r:List Tok} {n:List UInt8} (h:nameF l=some (n,r)):r <:+ l:=by
 cases l with
 | nil=>cases h
 | cons t r' =>
   simp only [nameF] at h
   split at h
   ·simp only [Option.some.injEq,Prod.mk.injEq] at h
    rw [←h.2];exact List.suffix_cons t r'
   ·cases h
theorem colF_sfx {l r:List Tok} {x:X} (h:colF l=some (x,r)):r <:+ l:=by
 unfold colF at h
 split at h
 ·cases h
 ·rename_i n r1 h1
  have a1:=nameF_sfx h1
  split at h
  ·split at h
   ·cases h
   ·rename_i m r2 h3
    have a2:=nameF_sfx h3
    simp only [Option.some.injEq,Prod.mk.injEq] at h
    rw [←h.2];exact a2.trans ((tail_sfx _).trans a1)
  ·simp only [Option.some.injEq,Prod.mk.injEq] at h
   rw [←h.2];exact a1
theorem nullF_sfx {l r:List Tok} {b:Bool} (h:nullF l=some (b,r)):r <:+ l:=by
 unfold nullF at h
 split at h
 ·obtain ⟨r1,h2,h3⟩:=Option.map_eq_some_iff.1 h
  simp only [Prod.mk.injEq] at h3
  rw [←h3.2];exact (needF_sfx h2).trans (tail_sfx l)
 ·obtain ⟨r1,h2,h3⟩:=Option.map_eq_some_iff.1 h
  simp only [Prod.mk.injEq] at h3
  rw [←h3.2];exact needF_sfx h2
mutual
theorem px_sfx:∀ (f lev d:Nat) (l r:List Tok) (x:X),px f lev d l=some (x,r)→r <:+ l
 | 0,_,_,_,_,_,h=>by simp [px] at h
 | f+1,lev,d,l,r,x,h=>by
   unfold px at h
   split at h
   ·split at h
    ·split at h
     ·obtain ⟨⟨y,r1⟩,h2,h3⟩:=Option.map_eq_some_iff.1 h
      have a:=px_sfx _ _ _ _ _ _ h2
      simp only [Prod.mk.injEq] at h3
      rw [←h3.2];exact a.trans (tail_sfx l)
     ·cases h
    ·exact px_sfx _ _ _ _ _ _ h
   split at h
   ·split at h
    ·split at h
     ·obtain ⟨⟨y,r1⟩,h2,h3⟩:=Option.map_eq_some_iff.1 h
      have a:=px_sfx _ _ _ _ _ _ h2
      simp only [Prod.mk.injEq] at h3
      rw [←h3.2];exact a.trans (tail_sfx l)
     ·cases h
    ·exact px_sfx _ _ _ _ _ _ h
   split at h
   ·exact pa_sfx _ _ _ _ _ h
   ·split at h
    ·cases h
    ·rename_i h1
     exact (pl_sfx _ _ _ _ _ _ _ _ h).trans (px_sfx _ _ _ _ _ _ h1)
theorem pl_sfx:∀ (f lev d:Nat) (x:X) (done:Bool) (l r:List Tok) (y:X),pl f lev d x done l=some (y,r)→r <:+ l
 | 0,_,_,_,_,_,_,_,h=>by simp [pl] at h
 | f+1,lev,d,x,done,l,r,y,h=>by
   unfold pl at h
   split at h
   ·split at h
    ·cases h
    ·rename_i h2
     exact (pl_sfx _ _ _ _ _ _ _ _ h).trans ((px_sfx _ _ _ _ _ _ h2).trans (tail_sfx l))
   ·split at h
    ·split at h
     ·cases h
     ·rename_i h2
      exact (pl_sfx _ _ _ _ _ _ _ _ h).trans ((nullF_sfx h2).trans (tail_sfx l))
    ·simp only [Option.some.injEq,Prod.mk.injEq] at h
     rw [←h.2];exact List.suffix_refl _
theorem pa_sfx:∀ (f d:Nat) (l r:List Tok) (x:X),pa f d l=some (x,r)→r <:+ l
 | 0,_,_,_,_,h=>by simp [pa] at h
 | f+1,d,[],_,_,h=>by simp [pa] at h
 | f+1,d,t::r0,r,x,h=>by
   have hc:=List.suffix_cons t r0
   unfold pa at h
   have fin:∀ {z:X},some (z,r0)=some (x,r)→r <:+ (t::r0):=by
    intro z e
    simp only [Option.some.injEq,Prod.mk.injEq] at e
    rw [←e.2];exact hc
   split at h
   ·exact fin h
   split at h
   ·exact fin h
   split at h
   ·exact fin h
   split at h
   ·exact fin h
   split at h
   ·exact fin h
   split at h
   ·split at h
    ·split at h
     ·cases h
     ·rename_i h2
      obtain ⟨r3,h4,h5⟩:=Option.map_eq_some_iff.1 h
      simp only [Prod.mk.injEq] at h5
      rw [←h5.2];exact (needF_sfx h4).trans ((px_sfx _ _ _ _ _ _ h2).trans hc)
    ·cases h
   split at h
   ·split at h
    ·split at h
     ·cases h
     ·rename_i h2
      have a2:=needF_sfx h2
      split at h
      ·obtain ⟨r3,h4,h5⟩:=Option.map_eq_some_iff.1 h
       simp only [Prod.mk.injEq] at h5
       rw [←h5.2];exact (needF_sfx h4).trans ((tail_sfx _).trans (a2.trans hc))
      ·split at h
       ·cases h
       ·rename_i h3
        obtain ⟨r3,h4,h5⟩:=Option.map_eq_some_iff.1 h
        simp only [Prod.mk.injEq] at h5
        rw [←h5.2];exact (needF_sfx h4).trans ((px_sfx _ _ _ _ _ _ h3).trans (a2.trans hc))
    ·cases h
   exact colF_sfx h
end
theorem pX_sfx {lev d:Nat} {l r:List Tok} {x:X} (h:pX lev d l=some (x,r)):r <:+ l:=px_sfx _ _ _ _ _ _ h
theorem blank_byte {x:UInt8} (h:blankB x=true):x=32∨x=9∨x=10∨x=13:=by
 unfold blankB at h
 simp only [Bool.or_eq_true,decide_eq_true_eq] at h
 rcases h with ((h|h)|h)|h
 ·exact .inl (UInt8.toNat_inj.1 h)
 ·exact .inr (.inl (UInt8.toNat_inj.1 h))
 ·exact .inr (.inr (.inl (UInt8.toNat_inj.1 h)))
 ·exact .inr (.inr (.inr (UInt8.toNat_inj.1 h)))
theorem blank_word {x:UInt8} (h:blankB x=true):wordB x=false∧isDig x=false∧x≠39∧∀ c,twoB c x=false:=by
 rcases blank_byte h with rfl|rfl|rfl|rfl
 all_goals
  refine ⟨by decide,by decide,by decide,fun c => ?_⟩
  unfold twoB
  simp
theorem takeWhile_stop {p:UInt8→Bool} {x:UInt8} (hx:p x=false) (m:List UInt8):∀ l:List UInt8,(l++x::m).takeWhile p=l.takeWhile p
 | []=>by simp [hx]
 | c::l=>by
   rw [List.cons_append,List.takeWhile_cons,List.takeWhile_cons,takeWhile_stop hx m l]
theorem txt_stop {x:UInt8} (hx:x≠39) (m:List UInt8):∀ (k:Nat) (l:List UInt8) (p:List UInt8×Nat),l.length≤k→txt l=some p→txt (l++x::m)=some p
 | k,[],p,_,h=>by cases h
 | 0,c::l,p,hk,h=>by simp at hk
 | k+1,c::l,p,hk,h=>by
   simp only [List.length_cons] at hk
   unfold txt at h
   by_cases hc:c=39
   ·rw [if_pos hc] at h
    subst hc
    match l,h,hk with
    | [],h,_ =>
      show txt (39::x::m)=some p
      conv=>lhs;unfold txt
      simp only [if_true]
      rw [if_neg hx];exact h
    | d::r,h,hk =>
      simp only at h
      show txt (39::d::(r++x::m))=some p
      conv=>lhs;unfold txt
      simp only [if_true]
      by_cases hd:d=39
      ·rw [if_pos hd] at h ⊢
       obtain ⟨q,h1,h2⟩:=Option.map_eq_some_iff.1 h
       rw [txt_stop hx m k r q (by simp at hk;omega) h1]
       simp [h2]
      ·rw [if_neg hd] at h ⊢;exact h
   ·rw [if_neg hc] at h
    obtain ⟨q,h1,h2⟩:=Option.map_eq_some_iff.1 h
    show txt (c::(l++x::m))=some p
    conv=>lhs;unfold txt
    rw [if_neg hc,txt_stop hx m k l q (by omega) h1]
    simp [h2]
theorem signN_stop {x:UInt8} (hx:∀ c,twoB c x=false) (c:UInt8) (r m:List UInt8):signN (c::r++x::m)=signN (c::r):=by
 cases r with
 | nil=>simp [signN,hx]
 | cons d r=>simp [signN]
theorem nextT_stop {x:UInt8} (hx:blankB x=true) (c:UInt8) (r m:List UInt8) (h0:(nextT (c::r)).2.2=0):nextT (c::r++x::m)=nextT (c::r):=by
 obtain ⟨b1,b2,b3,b4⟩:=blank_word hx
 rw [List.cons_append]
 cases h1:letB c
 ·cases h2:isDig c
  ·by_cases h3:c=39
   ·subst h3
    rw [nextT_text] at h0
    rw [nextT_text,nextT_text]
    cases ht:txt r with
    | none=>rw [ht] at h0;cases h0
    | some p=>rw [txt_stop b3 m r.length r p (Nat.le_refl _) ht]
   ·have hs:=signN_stop b4 c r m
    rw [List.cons_append] at hs
    have hl:=signN_le (c::r)
    rw [nextT_sign _ h1 h2 h3,nextT_sign _ h1 h2 h3,hs]
    by_cases g:signN (c::r)=0
    ·rw [if_pos g,if_pos g]
    ·rw [if_neg g,if_neg g, ←List.cons_append,List.take_append_of_le_length hl]
  ·have ht:=takeWhile_stop b2 m (c::r)
   rw [List.cons_append] at ht
   rw [nextT_num _ h1 h2,nextT_num _ h1 h2,ht]
 ·have ht:=takeWhile_stop b1 m (c::r)
  rw [List.cons_append] at ht
  rw [nextT_word _ h1,nextT_word _ h1,ht]
theorem splA_stop {x:UInt8} (hx:blankB x=true) (m:List UInt8):∀ (k:Nat) (acc:List Tok) (l:List UInt8),l.length≤k→(splA [] l).2=0→splA acc (l++x::m)=splA (acc++(splA [] l).1) m
 | k,acc,[],_,_=>by
   rw [List.nil_append,splA_blank _ _ hx,splA_nil];simp
 | 0,acc,c::r,hk,_=>by simp at hk
 | k+1,acc,c::r,hk,h=>by
   simp only [List.length_cons] at hk
   cases hb:blankB c
   ·by_cases h0:(nextT (c::r)).2.2=0
    ·have h1:=nextT_n h0
     have hst:=nextT_stop hx c r m h0
     have hl:((c::r).drop (nextT (c::r)).2.1).length≤k:=by rw [List.length_drop,List.length_cons];omega
     rw [splA_tok [] hb h0,splA_acc k _ _ hl] at h
     have h2:(splA [] ((c::r).drop (nextT (c::r)).2.1)).2=0:=by
      by_cases g:(splA [] ((c::r).drop (nextT (c::r)).2.1)).2=0
      ·exact g
      ·rw [if_neg g] at h;exact h
     have e1:(c::r++x::m).drop (nextT (c::r)).2.1=(c::r).drop (nextT (c::r)).2.1++x::m:=by
      rw [List.drop_append_of_le_length (by rw [List.length_cons];omega)]
     have:=splA_stop hx m k (acc++[(nextT (c::r)).1]) _ hl h2
     rw [splA_tok [] hb h0,splA_acc k _ _ hl,if_pos h2]
     have h3:splA acc (c::r++x::m)=splA (acc++[(nextT (c::r)).1]) ((c::r++x::m).drop (nextT (c::r)).2.1):=by
      rw [List.cons_append] at hst ⊢
      rw [splA_tok acc hb (by rw [hst];exact h0),hst]
     rw [h3,e1,this]
     simp
    ·rw [splA_err [] hb h0] at h;exact absurd h h0
   ·rw [splA_blank [] r hb] at h ⊢
    rw [List.cons_append,splA_blank acc _ hb]
    exact splA_stop hx m k acc r (by omega) h
def pre:List UInt8:=[68,69,76,69,84,69,32,70,82,79,77,32,116,32,87,72,69,82,69]
def preT:List Tok:=[⟨1,[100,101,108,101,116,101],0⟩,⟨1,[102,114,111,109],0⟩,⟨1,[116],0⟩,⟨1,[119,104,101,114,101],0⟩]
theorem splA_pre:splA [] pre=(preT,0):=by kernel_rfl
theorem splA_front (s:List UInt8):splA [] (pre++32::s)=if (splA [] s).2=0 then (preT++(splA [] s).1,0) else ([],(splA [] s).2):=by
 rw [splA_stop (x:=32) (by decide) s _ [] pre (Nat.le_refl _) (by rw [splA_pre]),splA_pre]
 exact splA_acc _ _ _ (Nat.le_refl _)
theorem toks_front (s:List UInt8) (h:s.length≤1000):toks (pre++32::s)=if (splA [] s).2=0 then (preT++(splA [] s).1,0) else ([],(splA [] s).2):=by
 rw [toks_short,splA_front]
 simp [pre];omega
def condX (L:List Tok):Option X:=match pX 1 0 L with
 | none=>none
 | some (x,r)=>if (if isF [59] r then r.tail else r)=[] then some x else none
def condS (s:List UInt8):Option X:=if (splA [] s).2=0 then condX (splA [] s).1 else none
def binOps:List (List UInt8):=[uOr,uAnd,[61],[60,62],[60],[60,61],[62],[62,61],[43],[45],[42],[47],[37]]
def aggOps:List (List UInt8):=[uCount,uSum,uMin,uMax]
def litOk (k i:Int) (s:List UInt8) (b:Bool):Prop :=
 (k=1∧0≤i∧i≤9223372036854775807∧s=[]∧b=false)∨(k=2∧i=0∧s.length≤2000∧b=false)∨(k=0∧i=0∧s=[]∧b=false)∨(k=3∧i=0∧s=[])
def X.wf:X→Prop
 | .lit k i s b=>litOk k i s b
 | .col t s=>t.length≤20∧s.length≤20
 | .un op x=>(op=uNot∨op=[45])∧x.wf
 | .bin op a b=>op∈binOps∧a.wf∧b.wf
 | .isn _ x=>x.wf
 | .agg op x=>op∈aggOps∧x.wf
 | .cnt=>True
def Tnum (t:Tok):Prop:=0≤t.n∧t.n≤9223372036854775807∧t.s.length≤2000
theorem nameF_wf {l r:List Tok} {n:List UInt8} (h:nameF l=some (n,r)):n.length≤20:=by
 cases l with
 | nil=>cases h
 | cons t r' =>
   simp only [nameF] at h
   split at h
   ·rename_i h1
    simp only [Option.some.injEq,Prod.mk.injEq] at h
    rw [←h.1];exact h1.2.2
   ·cases h
theorem colF_wf {l r:List Tok} {x:X} (h:colF l=some (x,r)):x.wf:=by
 unfold colF at h
 split at h
 ·cases h
 ·rename_i n r1 h1
  have a1:=nameF_wf h1
  split at h
  ·split at h
   ·cases h
   ·rename_i m r2 h3
    have a2:=nameF_wf h3
    simp only [Option.some.injEq,Prod.mk.injEq] at h
    rw [←h.1];exact ⟨a1,a2⟩
  ·simp only [Option.some.injEq,Prod.mk.injEq] at h
   rw [←h.1];exact ⟨Nat.zero_le _,a1⟩
theorem ops_bin:∀ lev:Nat,∀ s∈opsL lev,upW s∈binOps:=by
 intro lev
 unfold opsL
 split<;>decide
theorem signF_ops {lev:Nat} {l:List Tok} {s:List UInt8} (h:signF lev l=some s):upW s∈binOps:=ops_bin lev s (List.mem_of_find?_eq_some h)
theorem mem_tail {l:List Tok} (h:∀ t∈l,Tnum t):∀ t∈l.tail,Tnum t:=fun t ht=>h t ((tail_sfx l).subset ht)
theorem mem_sfx {l r:List Tok} (h:∀ t∈l,Tnum t) (hr:r <:+ l):∀ t∈r,Tnum t:=fun t ht=>h t (hr.subset ht)
theorem agg_up {t:Tok} {r:List Tok} (h:(isF wCount (t::r)||isF wSum (t::r)||isF wMin (t::r)||isF wMax (t::r))=true):upW t.s∈aggOps:=by
 simp only [isF,Bool.or_eq_true,Bool.and_eq_true,beq_iff_eq] at h
 rcases h with ((h|h)|h)|h<;>(rw [h.1];decide)
mutual
theorem px_wf:∀ (f lev d:Nat) (l r:List Tok) (x:X),(∀ t∈l,Tnum t)→px f lev d l=some (x,r)→x.wf
 | 0,_,_,_,_,_,_,h=>by simp [px] at h
 | f+1,lev,d,l,r,x,ht,h=>by
   unfold px at h
   split at h
   ·split at h
    ·split at h
     ·obtain ⟨⟨y,r1⟩,h2,h3⟩:=Option.map_eq_some_iff.1 h
      have a:=px_wf _ _ _ _ _ _ (mem_tail ht) h2
      simp only [Prod.mk.injEq] at h3
      rw [←h3.1];exact ⟨.inl rfl,a⟩
     ·cases h
    ·exact px_wf _ _ _ _ _ _ ht h
   split at h
   ·split at h
    ·split at h
     ·obtain ⟨⟨y,r1⟩,h2,h3⟩:=Option.map_eq_some_iff.1 h
      have a:=px_wf _ _ _ _ _ _ (mem_tail ht) h2
      simp only [Prod.mk.injEq] at h3
      rw [←h3.1];exact ⟨.inr rfl,a⟩
     ·cases h
    ·exact px_wf _ _ _ _ _ _ ht h
   split at h
   ·exact pa_wf _ _ _ _ _ ht h
   ·split at h
    ·cases h
    ·rename_i h1
     exact pl_wf _ _ _ _ _ _ _ _ (mem_sfx ht (px_sfx _ _ _ _ _ _ h1)) (px_wf _ _ _ _ _ _ ht h1) h
theorem pl_wf:∀ (f lev d:Nat) (x:X) (done:Bool) (l r:List Tok) (y:X),(∀ t∈l,Tnum t)→x.wf→pl f lev d x done l=some (y,r)→y.wf
 | 0,_,_,_,_,_,_,_,_,_,h=>by simp [pl] at h
 | f+1,lev,d,x,done,l,r,y,ht,hx,h=>by
   unfold pl at h
   split at h
   ·rename_i s hs
    have hs:signF lev l=some s:=by
     split at hs
     ·cases hs
     ·exact hs
    split at h
    ·cases h
    ·rename_i h2
     have a2:=px_wf _ _ _ _ _ _ (mem_tail ht) h2
     exact pl_wf _ _ _ _ _ _ _ _ (mem_sfx ht ((px_sfx _ _ _ _ _ _ h2).trans (tail_sfx l))) (show (X.bin (upW s) x _).wf from ⟨signF_ops hs,hx,a2⟩) h
   ·split at h
    ·split at h
     ·cases h
     ·rename_i h2
      exact pl_wf _ _ _ _ _ _ _ _ (mem_sfx ht ((nullF_sfx h2).trans (tail_sfx l))) (by exact hx) h
    ·simp only [Option.some.injEq,Prod.mk.injEq] at h
     rw [←h.1];exact hx
theorem pa_wf:∀ (f d:Nat) (l r:List Tok) (x:X),(∀ t∈l,Tnum t)→pa f d l=some (x,r)→x.wf
 | 0,_,_,_,_,_,h=>by simp [pa] at h
 | f+1,d,[],_,_,_,h=>by simp [pa] at h
 | f+1,d,t::r0,r,x,ht,h=>by
   have t0:=ht t (by simp)
   have ht0:∀ t∈r0,Tnum t:=fun u hu=>ht u (by simp [hu])
   unfold pa at h
   have fin:∀ {k i:Int} {s:List UInt8} {b:Bool},litOk k i s b→some (X.lit k i s b,r0)=some (x,r)→x.wf:=by
    intro k i s b hz e
    simp only [Option.some.injEq,Prod.mk.injEq] at e
    rw [←e.1];exact hz
   split at h
   ·exact fin (show litOk _ _ _ _ from .inl ⟨rfl,t0.1,t0.2.1,rfl,rfl⟩) h
   split at h
   ·exact fin (show litOk _ _ _ _ from .inr (.inl ⟨rfl,rfl,t0.2.2,rfl⟩)) h
   split at h
   ·exact fin (show litOk _ _ _ _ from .inr (.inr (.inl ⟨rfl,rfl,rfl,rfl⟩))) h
   split at h
   ·exact fin (show litOk _ _ _ _ from .inr (.inr (.inr ⟨rfl,rfl,rfl⟩))) h
   split at h
   ·exact fin (show litOk _ _ _ _ from .inr (.inr (.inr ⟨rfl,rfl,rfl⟩))) h
   split at h
   ·split at h
    ·split at h
     ·cases h
     ·rename_i h2
      obtain ⟨r3,h4,h5⟩:=Option.map_eq_some_iff.1 h
      simp only [Prod.mk.injEq] at h5
      rw [←h5.1];exact px_wf _ _ _ _ _ _ ht0 h2
    ·cases h
   split at h
   ·rename_i hag
    split at h
    ·split at h
     ·cases h
     ·rename_i h2
      have a2:=needF_sfx h2
      split at h
      ·obtain ⟨r3,h4,h5⟩:=Option.map_eq_some_iff.1 h
       simp only [Prod.mk.injEq] at h5
       rw [←h5.1];exact trivial
      ·split at h
       ·cases h
       ·rename_i h3
        obtain ⟨r3,h4,h5⟩:=Option.map_eq_some_iff.1 h
        simp only [Prod.mk.injEq] at h5
        rw [←h5.1];exact ⟨agg_up hag,px_wf _ _ _ _ _ _ (mem_sfx ht0 a2) h3⟩
    ·cases h
   exact colF_wf h
end
theorem condX_wf {L:List Tok} {x:X} (ht:∀ t∈L,Tnum t) (h:condX L=some x):x.wf:=by
 unfold condX at h
 split at h
 ·cases h
 ·rename_i y r h1
  by_cases h2:(if isF [59] r then r.tail else r)=[]
  ·rw [if_pos h2] at h
   injection h with h
   subst h
   exact px_wf _ _ _ _ _ _ ht h1
  ·rw [if_neg h2] at h
   cases h
structure V where
 k:Int
 i:Int
 s:ByteArray
 b:Bool
def V.right (v:V):Bool:=rightB v.k v.i v.s v.b
def V.agg (v:V):Value:=.agg #[.int .u8 v.k,.int .i64 v.i,.string v.s,.bool v.b]
def V.cells (v:V):List Value:=[.int .u8 v.k,.int .i64 v.i,.string v.s,.bool v.b]
def vv (l:List V):List Value:=l.flatMap V.cells
def up (i:Int):Nat:=(i+9223372036854775808).toNat
def be (n:Nat):Nat→List UInt8
 | 0=>[]
 | k+1=>UInt8.ofNat (n / 256 ^ k)::be n k
def kb (v:V):List UInt8 :=
 if v.k=0 then [1]
 else if v.k=3 then [2,if v.b then 1 else 0]
 else if v.k=1 then 3::be (up v.i) 8
 else 4::(v.s.data.toList++[0])
def V.ok (v:V):Prop:=v.s.size≤9223372036854775807∧inR v.i∧0≤v.k∧v.k≤255
theorem vv_length (l:List V):(vv l).length=l.length*4:=by
 induction l with
 | nil=>rfl
 | cons v l ih=>show (v.cells++vv l).length=_;simp [V.cells,ih];omega
theorem vv_cons (v:V) (l:List V):vv (v::l)=v.cells++vv l:=rfl
theorem vv_append (l m:List V):vv (l++m)=vv l++vv m:=by simp [vv]
theorem vv_at {l:List V} {i j:Nat} (h:i<l.length) (hj:j<4):(vv l)[i*4+j]? = l[i].cells[j]? := by
 induction l generalizing i with
 | nil=>simp at h
 | cons v l ih =>
   rw [vv_cons]
   cases i with
   | zero=>rw [List.getElem?_append_left (by simp [V.cells];omega)];simp
   | succ i =>
     rw [List.getElem?_append_right (by simp [V.cells];omega)]
     have:(i+1)*4+j-v.cells.length=i*4+j:=by simp [V.cells];omega
     rw [this,ih (by simpa using h)]
     simp
theorem vv_take (l:List V) (n:Nat):(vv l).take (n*4)=vv (l.take n):=by
 induction l generalizing n with
 | nil=>simp [vv]
 | cons v l ih =>
   cases n with
   | zero=>simp [vv]
   | succ n =>
     rw [vv_cons,List.take_succ_cons,vv_cons, ←ih n]
     rw [List.take_append]
     have h1:v.cells.take ((n+1)*4)=v.cells:=List.take_of_length_le (by simp [V.cells];omega)
     have h2:(n+1)*4-v.cells.length=n*4:=by simp [V.cells];omega
     rw [h1,h2]
theorem dvf_lt {l:List UInt8} (h:l.all isDig=true):∀ n:Int,n*10 ^ l.length≤dvf n l∧dvf n l<(n+1)*10 ^ l.length:=by
 induction l with
 | nil=>intro n;simp [dvf];omega
 | cons c l ih =>
   intro n
   simp only [List.all_cons,Bool.and_eq_true] at h
   have hb:=isDig_bd h.1
   obtain ⟨h1,h2⟩:=ih h.2 (n*10+((c.toNat:Int)-48))
   have hp:(0:Int)<10 ^ l.length:=Int.pow_pos (by omega)
   have ep:(10:Int) ^ (c::l).length=10*10 ^ l.length:=by rw [List.length_cons,Int.pow_succ,Int.mul_comm]
   have e1:n*10 ^ (c::l).length=(n*10)*10 ^ l.length:=by rw [ep, ←Int.mul_assoc]
   have e2:(n+1)*10 ^ (c::l).length=(n*10+10)*10 ^ l.length:=by rw [ep, ←Int.mul_assoc];congr 1;omega
   show _≤dvf (n*10+((c.toNat:Int)-48)) l∧dvf (n*10+((c.toNat:Int)-48)) l<_
   rw [e1,e2]
   have m1:(n*10)*10 ^ l.length≤(n*10+((c.toNat:Int)-48))*10 ^ l.length:=Int.mul_le_mul_of_nonneg_right (by omega) (Int.le_of_lt hp)
   have m2:(n*10+((c.toNat:Int)-48)+1)*10 ^ l.length≤(n*10+10)*10 ^ l.length:=Int.mul_le_mul_of_nonneg_right (by omega) (Int.le_of_lt hp)
   omega
theorem dvf_less {a:List UInt8}:∀ {b:List UInt8} (n:Int),a.length=b.length→a.all isDig=true→b.all isDig=true→(Op.bytesLess a b=true↔dvf n a<dvf n b):=by
 induction a with
 | nil=>intro b n hl _ _;cases b with
   | nil=>simp [Op.bytesLess]
   | cons=>simp at hl
 | cons x a ih =>
   intro b n hl ha hb
   cases b with
   | nil=>simp at hl
   | cons y b =>
     simp only [List.length_cons,Nat.add_right_cancel_iff] at hl
     simp only [List.all_cons,Bool.and_eq_true] at ha hb
     have hx:=isDig_bd ha.1
     have hy:=isDig_bd hb.1
     have la:=dvf_lt ha.2 (n*10+((x.toNat:Int)-48))
     have lb:=dvf_lt hb.2 (n*10+((y.toNat:Int)-48))
     have hp:(0:Int)<10 ^ a.length:=Int.pow_pos (by omega)
     rw [←hl] at lb
     show (Op.bytesLess (x::a) (y::b)=true)↔dvf (n*10+((x.toNat:Int)-48)) a<dvf (n*10+((y.toNat:Int)-48)) b
     simp only [Op.bytesLess,Bool.or_eq_true,Bool.and_eq_true,decide_eq_true_eq,beq_iff_eq]
     by_cases hlt:x.toNat<y.toNat
     ·have:x<y:=UInt8.lt_iff_toNat_lt.2 hlt
      have m:(n*10+((x.toNat:Int)-48)+1)*10 ^ a.length≤(n*10+((y.toNat:Int)-48))*10 ^ a.length:=Int.mul_le_mul_of_nonneg_right (by omega) (Int.le_of_lt hp)
      exact ⟨fun _=>by omega,fun _=>.inl this⟩
     ·by_cases heq:x.toNat=y.toNat
      ·have e:x=y:=UInt8.toNat_inj.1 heq
       subst e
       have:=ih (b:=b) (n*10+((x.toNat:Int)-48)) hl ha.2 hb.2
       constructor
       ·rintro (h|⟨_,h⟩)
        ·exact absurd (UInt8.lt_iff_toNat_lt.1 h) (by omega)
        ·exact this.1 h
       ·intro h;exact .inr ⟨rfl,this.2 h⟩
      ·have m:(n*10+((y.toNat:Int)-48)+1)*10 ^ a.length≤(n*10+((x.toNat:Int)-48))*10 ^ a.length:=Int.mul_le_mul_of_nonneg_right (by omega) (Int.le_of_lt hp)
       constructor
       ·rintro (h|⟨h,_⟩)
        ·exact absurd (UInt8.lt_iff_toNat_lt.1 h) hlt
        ·exact absurd (congrArg UInt8.toNat h) heq
       ·intro h;omega
theorem dvf_zeros (n:Int) (l:List UInt8) (hn:n=0):dvf n (48::l)=dvf 0 l:=by subst hn;rfl
def maxT:List UInt8:=[57,50,50,51,51,55,50,48,51,54,56,53,52,55,55,53,56,48,55]
theorem maxT_val:dvf 0 maxT=9223372036854775807:=by decide
theorem big19 {l:List UInt8} (ha:l.all isDig=true) (hl:l.length=19):inR (dvf 0 l)↔Op.bytesLess maxT l=false:=by
 have h:=dvf_less (a:=maxT) (b:=l) 0 (by rw [hl];rfl) (by decide) ha
 rw [maxT_val] at h
 have h0:=dvf_nonneg ha
 unfold inR
 constructor
 ·intro g
  rw [Bool.eq_false_iff];intro hc
  have:=h.1 hc;omega
 ·intro g
  refine ⟨by omega, ?_⟩
  apply Int.not_lt.1
  intro hc;rw [h.2 (by omega)] at g;cases g
theorem few_in {l:List UInt8} (ha:l.all isDig=true) (hl:l.length≤18):inR (dvf 0 l):=by
 have h:=(dvf_lt ha 0).2
 have h0:=dvf_nonneg ha
 have h2:(10:Int) ^ l.length≤10 ^ 18:=by
  have:(10:Nat) ^ l.length≤10 ^ 18:=Nat.pow_le_pow_right (by omega) hl
  exact_mod_cast this
 unfold inR;omega
theorem many_out {x:UInt8} {l:List UInt8} (ha:(x::l).all isDig=true) (hx:x≠48) (hl:19≤l.length):¬inR (dvf 0 (x::l)):=by
 simp only [List.all_cons,Bool.and_eq_true] at ha
 have hb:=isDig_bd ha.1
 have hx2:x.toNat≠48:=fun g=>hx (UInt8.toNat_inj.1 g)
 have h:=(dvf_lt ha.2 (0*10+((x.toNat:Int)-48))).1
 have hp:(10:Int) ^ 19≤10 ^ l.length:=by
  have:(10:Nat) ^ 19≤10 ^ l.length:=Nat.pow_le_pow_right (by omega) hl
  exact_mod_cast this
 have m:(1:Int)*10 ^ l.length≤(0*10+((x.toNat:Int)-48))*10 ^ l.length:=Int.mul_le_mul_of_nonneg_right (by omega) (by omega)
 show ¬inR (dvf (0*10+((x.toNat:Int)-48)) l)
 unfold inR;omega
def quo (l:List UInt8):List UInt8:=l.flatMap fun c=>if c=39 then [39,39] else [c]
def litT (l:List UInt8):List UInt8:=[39]++quo l++[39]
def lit (v:V):List UInt8 :=
 if v.k=1 then Lib.itoa v.i else if v.k=2 then litT v.s.data.toList else if v.k=3 then (if v.b then [84,82,85,69] else [70,65,76,83,69]) else [78,85,76,76]
structure Col where
 n:List UInt8
 k:Int
structure Tb where
 n:List UInt8
 cs:List Col
def here (t:List UInt8) (tb:Tb):Bool:=t==[]||tb.n==t
def hitsC (s:List UInt8):Nat→List Col→List (Nat×Int)
 | _,[]=>[]
 | a,c::r=>(if c.n==s then [(a,c.k)] else [])++hitsC s (a+1) r
def hits (t s:List UInt8):Nat→List Tb→List (Nat×Int)
 | _,[]=>[]
 | a,tb::r=>(if here t tb then hitsC s a tb.cs else [])++hits t s (a+tb.cs.length) r
def tabsN (t:List UInt8) (sc:List Tb):Nat:=(sc.filter (here t)).length
def wide (sc:List Tb):Nat:=(sc.map fun tb=>tb.cs.length).sum
def findX (sc:List Tb) (t s:List UInt8):Option (Nat×Int) :=
 if (hits t s 0 sc).length=1∧(t=[]∨tabsN t sc=1) then (hits t s 0 sc).getLast? else none
theorem hitsC_snoc (s:List UInt8) (c:Col):∀ (a:Nat) (l:List Col),hitsC s a (l++[c])=hitsC s a l++(if c.n==s then [(a+l.length,c.k)] else [])
 | a,[]=>by simp [hitsC]
 | a,d::r=>by
   show _++hitsC s (a+1) (r++[c])=(_++hitsC s (a+1) r)++_
   rw [hitsC_snoc s c (a+1) r,List.append_assoc]
   simp [Nat.add_assoc,Nat.add_comm 1]
theorem hits_snoc (t s:List UInt8) (tb:Tb):∀ (a:Nat) (l:List Tb),hits t s a (l++[tb])=hits t s a l++(if here t tb then hitsC s (a+wide l) tb.cs else [])
 | a,[]=>by simp [hits,wide]
 | a,d::r=>by
   show _++hits t s (a+d.cs.length) (r++[tb])=(_++hits t s (a+d.cs.length) r)++_
   rw [hits_snoc t s tb (a+d.cs.length) r,List.append_assoc]
   simp [wide,Nat.add_assoc]
theorem tabsN_snoc (t:List UInt8) (tb:Tb) (l:List Tb):tabsN t (l++[tb])=tabsN t l+(if here t tb then 1 else 0):=by
 unfold tabsN
 rw [List.filter_append]
 cases h:here t tb<;>simp [h]
theorem wide_snoc (tb:Tb) (l:List Tb):wide (l++[tb])=wide l+tb.cs.length:=by simp [wide]
def fitK (k of:Int):Bool:=k==of||k==0
def arith:List (List UInt8):=[[43],[45],[42],[47],[37]]
def kindB (op:List UInt8) (a b:Int):Int×Int :=
 if op=uAnd∨op=uOr then (if fitK a 3&&fitK b 3 then (3,0) else (0,8))
 else if op∈arith then (if fitK a 1&&fitK b 1 then (1,0) else (0,8))
 else (if fitK a b||fitK b a then (3,0) else (0,8))
def kindU (op:List UInt8) (a:Int):Int×Int :=
 if op=uNot then (if fitK a 3 then (3,0) else (0,8)) else (if fitK a 1 then (1,0) else (0,8))
def kindA (op:List UInt8) (a:Int):Int×Int :=
 if op=uSum then (if fitK a 1 then (1,0) else (0,8)) else if op=uCount then (1,0) else (a,0)
def thenK (p:Int×Int) (f:Int→Int×Int):Int×Int:=if p.2=0 then f p.1 else (0,p.2)
def kindX (sc:List Tb):X→Bool→Int×Int
 | .lit k _ _ _,_=>(k,0)
 | .col t s,_=>match findX sc t s with
   | none=>(0,6)
   | some p=>(p.2,0)
 | .un op x,g=>thenK (kindX sc x g) (kindU op)
 | .bin op a b,g=>thenK (kindX sc a g) fun k=>thenK (kindX sc b g) (kindB op k)
 | .isn _ x,g=>thenK (kindX sc x g) fun _=>(3,0)
 | .agg op x,g=>if g then thenK (kindX sc x false) (kindA op) else (0,3)
 | .cnt,g=>if g then (1,0) else (0,3)
def atX (sc:List Tb) (t s:List UInt8):Int:=match findX sc t s with
 | none => -1
 | some p=>(p.1:Int)
def sIs:List UInt8:=[73,83,32,78,85,76,76]
def sIsNot:List UInt8:=[73,83,32,78,79,84,32,78,85,76,76]
def sCnt:List UInt8:=[67,79,85,78,84,40,42,41]
def riskB (op:List UInt8):Bool:=arith.contains op
def safeX:X→Bool
 | .lit .. => true
 | .col .. => true
 | .un op x=>op==uNot&&safeX x
 | .bin op a b => !riskB op&&safeX a&&safeX b
 | .isn _ x=>safeX x
 | .agg op x => !(op==uSum)&&safeX x
 | .cnt=>true
mutual
theorem px_size:∀ (f lev d:Nat) (l r:List Tok) (x:X),px f lev d l=some (x,r)→x.size+r.length≤l.length
 | 0,_,_,_,_,_,h=>by simp [px] at h
 | f+1,lev,d,l,r,x,h=>by
   unfold px at h
   split at h
   ·split at h
    ·rename_i h1
     split at h
     ·obtain ⟨⟨y,r1⟩,h2,h3⟩:=Option.map_eq_some_iff.1 h
      have:=px_size _ _ _ _ _ _ h2
      have:=isF_tail h1
      simp only [Prod.mk.injEq] at h3
      rw [←h3.1, ←h3.2];simp only [X.size];omega
     ·cases h
    ·exact px_size _ _ _ _ _ _ h
   split at h
   ·split at h
    ·rename_i h1
     split at h
     ·obtain ⟨⟨y,r1⟩,h2,h3⟩:=Option.map_eq_some_iff.1 h
      have:=px_size _ _ _ _ _ _ h2
      have:=isF_tail h1
      simp only [Prod.mk.injEq] at h3
      rw [←h3.1, ←h3.2];simp only [X.size];omega
     ·cases h
    ·exact px_size _ _ _ _ _ _ h
   split at h
   ·exact pa_size _ _ _ _ _ h
   ·split at h
    ·cases h
    ·rename_i h1
     have:=px_size _ _ _ _ _ _ h1
     have:=pl_size _ _ _ _ _ _ _ _ h
     omega
theorem pl_size:∀ (f lev d:Nat) (x:X) (done:Bool) (l r:List Tok) (y:X),pl f lev d x done l=some (y,r)→y.size+r.length≤x.size+l.length
 | 0,_,_,_,_,_,_,_,h=>by simp [pl] at h
 | f+1,lev,d,x,done,l,r,y,h=>by
   unfold pl at h
   split at h
   ·rename_i s h1
    have h1':signF lev l=some s:=by
     split at h1
     ·cases h1
     ·exact h1
    have:=signF_tail h1'
    split at h
    ·cases h
    ·rename_i h2
     have:=px_size _ _ _ _ _ _ h2
     have:=pl_size _ _ _ _ _ _ _ _ h
     simp only [X.size] at this
     omega
   ·split at h
    ·rename_i h1
     have:=isF_tail h1.2
     split at h
     ·cases h
     ·rename_i h2
      have:=nullF_len h2
      have:=pl_size _ _ _ _ _ _ _ _ h
      simp only [X.size] at this
      omega
    ·simp only [Option.some.injEq,Prod.mk.injEq] at h
     rw [←h.1, ←h.2];omega
theorem pa_size:∀ (f d:Nat) (l r:List Tok) (x:X),pa f d l=some (x,r)→x.size+r.length≤l.length
 | 0,_,_,_,_,h=>by simp [pa] at h
 | f+1,d,[],_,_,h=>by simp [pa] at h
 | f+1,d,t::r0,r,x,h=>by
   unfold pa at h
   have fin:∀ {z:X},z.size=1→some (z,r0)=some (x,r)→x.size+r.length≤(t::r0).length:=by
    intro z hz e
    simp only [Option.some.injEq,Prod.mk.injEq] at e
    rw [←e.1, ←e.2,hz];simp;omega
   split at h
   ·exact fin rfl h
   split at h
   ·exact fin rfl h
   split at h
   ·exact fin rfl h
   split at h
   ·exact fin rfl h
   split at h
   ·exact fin rfl h
   split at h
   ·split at h
    ·split at h
     ·cases h
     ·rename_i h2
      have:=px_size _ _ _ _ _ _ h2
      obtain ⟨r3,h4,h5⟩:=Option.map_eq_some_iff.1 h
      have:=needF_len h4
      simp only [Prod.mk.injEq] at h5
      rw [←h5.1, ←h5.2];simp;omega
    ·cases h
   split at h
   ·split at h
    ·split at h
     ·cases h
     ·rename_i h2
      have:=needF_len h2
      split at h
      ·rename_i h3
       have:=isF_tail h3.2
       obtain ⟨r3,h4,h5⟩:=Option.map_eq_some_iff.1 h
       have:=needF_len h4
       simp only [Prod.mk.injEq] at h5
       rw [←h5.1, ←h5.2];simp [X.size];omega
      ·split at h
       ·cases h
       ·rename_i h3
        have:=px_size _ _ _ _ _ _ h3
        obtain ⟨r3,h4,h5⟩:=Option.map_eq_some_iff.1 h
        have:=needF_len h4
        simp only [Prod.mk.injEq] at h5
        rw [←h5.1, ←h5.2];simp [X.size];omega
    ·cases h
   have h1:=colF_len h
   have h2:x.size=1:=by
    unfold colF at h
    split at h
    ·cases h
    ·split at h
     ·split at h
      ·cases h
      ·simp only [Option.some.injEq,Prod.mk.injEq] at h
       rw [←h.1];rfl
     ·simp only [Option.some.injEq,Prod.mk.injEq] at h
      rw [←h.1];rfl
   omega
end
theorem condX_size {L:List Tok} {x:X} (h:condX L=some x):x.size≤L.length:=by
 unfold condX at h
 split at h
 ·cases h
 ·rename_i y r h1
  by_cases h2:(if isF [59] r then r.tail else r)=[]
  ·rw [if_pos h2] at h
   injection h with h
   subst h
   have:=px_size _ _ _ _ _ _ h1
   omega
  ·rw [if_neg h2] at h
   cases h
theorem num_next {c:UInt8} {r:List UInt8} (h0:(nextT (c::r)).2.2=0) (hl:r.length+1≤2000):Tnum (nextT (c::r)).1:=by
 cases h1:letB c
 ·cases h2:isDig c
  ·by_cases h3:c=39
   ·subst h3
    rw [nextT_text] at h0 ⊢
    cases ht:txt r with
    | none=>rw [ht] at h0;cases h0
    | some p =>
      obtain ⟨s,n⟩:=p
      rw [ht] at h0
      unfold textT at h0 ⊢
      by_cases g1:textOk s=true
      ·by_cases g2:s.length≤60
       ·simp only [g1,g2,if_true]
        exact ⟨by show (0:Int)≤0;decide,by show (0:Int)≤_;decide,by show s.length≤2000;omega⟩
       ·simp only [g1,g2,if_true,if_false] at h0;cases h0
      ·simp only [g1] at h0;cases h0
   ·rw [nextT_sign r h1 h2 h3] at h0 ⊢
    by_cases g:signN (c::r)=0
    ·rw [if_pos g] at h0;cases h0
    ·rw [if_neg g]
     refine ⟨by show (0:Int)≤0;decide,by show (0:Int)≤_;decide, ?_⟩
     show ((c::r).take (signN (c::r))).length≤2000
     rw [List.length_take]
     simp only [List.length_cons]
     omega
  ·rw [nextT_num r h1 h2] at h0 ⊢
   have h0:readE ((c::r).takeWhile isDig)=0:=h0
   have hall:((c::r).takeWhile isDig).all isDig=true:=by
    generalize (c::r)=m
    induction m with
    | nil=>rfl
    | cons d m ih =>
      rw [List.takeWhile_cons]
      split
      ·rename_i hd
       rw [List.all_cons,hd,ih];rfl
      ·rfl
   generalize (c::r).takeWhile isDig=l at *
   have hd:allD l=true:=by
    cases hq:allD l
    ·rw [readE_not hq] at h0;cases h0
    ·rfl
   rw [readE_yes hd] at h0
   have hv:=dvf_nonneg hall
   have hin:inR (dvf 0 l):=by
    unfold err at h0
    by_cases h:inR (dvf 0 l)
    ·exact h
    ·rw [if_neg h] at h0;cases h0
   have hval:readV l=dvf 0 l:=by rw [readV_yes hd,val,if_pos hin]
   refine ⟨?_, ?_,Nat.zero_le _⟩
   ·show 0≤readV l
    rw [hval];exact hv
   ·show readV l≤_
    rw [hval];exact hin.2
 ·rw [nextT_word r h1]
  refine ⟨by show (0:Int)≤0;decide,by show (0:Int)≤_;decide, ?_⟩
  show (((c::r).takeWhile wordB).map lowB).length≤2000
  have h2:=takeWhile_le wordB (c::r)
  rw [List.length_map]
  simp only [List.length_cons] at h2
  omega
theorem splA_num:∀ (k:Nat) (acc:List Tok) (l:List UInt8),l.length≤k→l.length≤2000→(∀ t∈acc,Tnum t)→∀ t∈(splA acc l).1,Tnum t
 | k,acc,[],_,_,h=>by rw [splA_nil];exact h
 | 0,acc,c::r,hk,_,_=>by simp at hk
 | k+1,acc,c::r,hk,h2,h=>by
   simp only [List.length_cons] at hk h2
   cases hb:blankB c
   ·by_cases h0:(nextT (c::r)).2.2=0
    ·rw [splA_tok acc hb h0]
     have h1:=nextT_n h0
     refine splA_num k _ _ (by rw [List.length_drop,List.length_cons];omega) (by rw [List.length_drop,List.length_cons];omega) ?_
     intro t ht
     rcases List.mem_append.1 ht with ht|ht
     ·exact h t ht
     ·rw [List.mem_singleton] at ht
      rw [ht];exact num_next h0 (by omega)
    ·rw [splA_err acc hb h0];intro t ht;cases ht
   ·rw [splA_blank acc r hb]
    exact splA_num k acc r (by omega) (by omega) h
theorem condS_ok {s:List UInt8} {x:X} (hl:s.length≤2000) (h:condS s=some x):x.wf∧x.size≤2000:=by
 unfold condS at h
 split at h
 ·refine ⟨condX_wf (splA_num s.length [] s (Nat.le_refl _) hl (fun t ht=>by cases ht)) h, ?_⟩
  have h1:=condX_size h
  have h2:=splA_len s.length [] s (Nat.le_refl _)
  simp at h2
  omega
 ·cases h
theorem txt_other {c:UInt8} (l:List UInt8) (h:c≠39):txt (c::l)=(txt l).map fun p=>(c::p.1,p.2+1):=by
 conv=>lhs;unfold txt
 rw [if_neg h]
theorem txt_skip:∀ (bs r:List UInt8),(39:UInt8) ∉ bs→txt (bs++r)=(txt r).map fun p=>(bs++p.1,p.2+bs.length)
 | [],r,_=>by cases h:txt r<;>simp [h]
 | c::bs,r,h=>by
   have h1:¬c=39:=fun e=>h (by simp [e])
   have ih:=txt_skip bs r (fun e=>h (by simp [e]))
   show txt (c::(bs++r))=_
   rw [txt_other _ h1,ih]
   cases hx:txt r with
   | none=>rfl
   | some p=>simp;omega
def TextAt (l acc:List UInt8) (pos:Nat) (q:Bool):Prop :=
 ∃ m,m+(if q then 1 else 0)=pos∧txt l=(txt ((if q then [39] else [])++l.drop pos)).map fun p=>(acc++p.1,p.2+m)
theorem textAt_start (l:List UInt8):TextAt l [] 0 false:=⟨0,rfl,by cases h:txt l<;>simp [h]⟩
theorem textAt_two {l acc:List UInt8} {pos:Nat} (h:TextAt l acc pos true) (hp:l[pos]? = some 39):TextAt l (acc++[39]) (pos+1) false:=by
 obtain ⟨m,hm,ht⟩:=h
 simp only [if_true] at hm ht
 have hd:l.drop pos=39::l.drop (pos+1):=by
  obtain ⟨hl,he⟩:=List.getElem?_eq_some_iff.1 hp
  rw [List.drop_eq_getElem_cons hl,he]
 refine ⟨pos+1,by simp, ?_⟩
 rw [ht,hd]
 show (txt (39::39::l.drop (pos+1))).map _=_
 have e:txt (39::39::l.drop (pos+1))=(txt (l.drop (pos+1))).map fun p=>(39::p.1,p.2+2):=by
  conv=>lhs;unfold txt
  simp
 rw [e,Option.map_map]
 simp only [Bool.false_eq_true,if_false,List.nil_append]
 congr 1
 funext p
 simp;omega
theorem textAt_quote {l acc:List UInt8} {pos:Nat} (h:TextAt l acc pos false) (hp:l[pos]? = some 39):TextAt l acc (pos+1) true:=by
 obtain ⟨m,hm,ht⟩:=h
 simp only [Bool.false_eq_true,if_false,List.nil_append,Nat.add_zero] at hm ht
 have hd:l.drop pos=39::l.drop (pos+1):=by
  obtain ⟨hl,he⟩:=List.getElem?_eq_some_iff.1 hp
  rw [List.drop_eq_getElem_cons hl,he]
 refine ⟨m,by simp [hm], ?_⟩
 rw [ht,hd];rfl
theorem textAt_end {l acc:List UInt8} {pos:Nat} {c:UInt8} (h:TextAt l acc pos true) (hp:l[pos]? = some c) (hc:c≠39):txt l=some (acc,pos):=by
 obtain ⟨m,hm,ht⟩:=h
 simp only [if_true] at hm ht
 have hd:l.drop pos=c::l.drop (pos+1):=by
  obtain ⟨hl,he⟩:=List.getElem?_eq_some_iff.1 hp
  rw [List.drop_eq_getElem_cons hl,he]
 rw [ht,hd]
 have e:txt (39::c::l.drop (pos+1))=some ([],1):=by
  conv=>lhs;unfold txt
  simp [hc]
 show (txt (39::c::l.drop (pos+1))).map _=_
 rw [e];simp;omega
theorem textAt_last {l acc:List UInt8} {pos:Nat} (h:TextAt l acc pos true) (hp:l.length≤pos):txt l=some (acc,pos):=by
 obtain ⟨m,hm,ht⟩:=h
 simp only [if_true] at hm ht
 rw [ht,List.drop_eq_nil_of_le hp]
 have e:txt ([39]++[])=some ([],1):=rfl
 rw [e];simp;omega
theorem textAt_none {l acc:List UInt8} {pos:Nat} (h:TextAt l acc pos false) (hp:l.length≤pos):txt l=none:=by
 obtain ⟨m,hm,ht⟩:=h
 rw [ht,List.drop_eq_nil_of_le hp];rfl
theorem textAt_rune {l acc:List UInt8} {pos k:Nat} (h:TextAt l acc pos false) (hk:pos+k≤l.length) (hn:(39:UInt8) ∉ (l.drop pos).take k):TextAt l (acc++(l.drop pos).take k) (pos+k) false:=by
 obtain ⟨m,hm,ht⟩:=h
 simp only [Bool.false_eq_true,if_false,List.nil_append,Nat.add_zero] at hm ht
 have hs:l.drop pos=(l.drop pos).take k++l.drop (pos+k):=by
  conv=>lhs;rw [←List.take_append_drop k (l.drop pos)]
  rw [List.drop_drop]
 refine ⟨pos+k,by simp, ?_⟩
 rw [ht]
 conv=>lhs;rw [hs,txt_skip _ _ hn]
 rw [Option.map_map]
 simp only [Bool.false_eq_true,if_false,List.nil_append]
 congr 1
 funext p
 have hl:((l.drop pos).take k).length=k:=by rw [List.length_take,List.length_drop];omega
 simp only [Function.comp,hl,List.append_assoc,Prod.mk.injEq,true_and]
 omega
theorem decodeN_free (n b0 b1 b2 b3:Nat) (h:(Lib.decodeN n b0 b1 b2 b3).1≠39) (hn:1≤n) :
 (Lib.decodeN n b0 b1 b2 b3).2≤n∧(1≤(Lib.decodeN n b0 b1 b2 b3).2)∧b0≠39∧(1<(Lib.decodeN n b0 b1 b2 b3).2→b1≠39)∧(2<(Lib.decodeN n b0 b1 b2 b3).2→b2≠39)∧(3<(Lib.decodeN n b0 b1 b2 b3).2→b3≠39)∧(Lib.decodeN n b0 b1 b2 b3).2≤4:=by
 unfold Lib.decodeN at *
 repeat' split
 all_goals simp_all
 all_goals omega
theorem rune_free (s:ByteArray) (pos:Nat) (h:pos<s.size) (hr:(Utf8.decode s pos).1≠39) :
 pos+(Utf8.decode s pos).2≤s.size∧1≤(Utf8.decode s pos).2∧(39:UInt8) ∉ (s.data.toList.drop pos).take (Utf8.decode s pos).2:=by
 have hlen:s.data.toList.length=s.size:=by rw [Array.length_toList];rfl
 rw [Lib.decode_N,hlen] at hr ⊢
 have hf:=decodeN_free _ _ _ _ _ hr (by omega)
 generalize (Lib.decodeN (s.size-pos) (s.data.toList.getD pos 0).toNat (s.data.toList.getD (pos+1) 0).toNat (s.data.toList.getD (pos+2) 0).toNat (s.data.toList.getD (pos+3) 0).toNat).2=k at *
 obtain ⟨h1,h2,g0,g1,g2,g3,h4⟩:=hf
 refine ⟨by omega,h2, ?_⟩
 intro hm
 obtain ⟨j,hj⟩:=List.mem_iff_getElem?.1 hm
 rw [List.getElem?_take] at hj
 split at hj
 ·rename_i hjk
  rw [List.getElem?_drop] at hj
  have hg:(s.data.toList.getD (pos+j) 0).toNat=39:=by rw [List.getD_eq_getElem?_getD,hj];rfl
  match j,hjk,hg with
  | 0,_,hg=>exact g0 hg
  | 1,hjk,hg=>exact g1 hjk hg
  | 2,hjk,hg=>exact g2 hjk hg
  | 3,hjk,hg=>exact g3 hjk hg
  | j+4,hjk,_=>omega
 ·cases hj
theorem rune_quote (s:ByteArray) (pos:Nat) (h:pos<s.size) (hr:(Utf8.decode s pos).1=39):s[pos]'h=39∧(Utf8.decode s pos).2=1:=by
 by_cases ha:(s[pos]'h).toNat<128
 ·have e:=decode_ascii s pos h ha
  rw [e] at hr ⊢
  exact ⟨UInt8.toNat_inj.1 hr,rfl⟩
 ·have:=(decode_high s pos h (by omega)).1
  omega
theorem rune_other (s:ByteArray) (pos:Nat) (h:pos<s.size) (hr:(Utf8.decode s pos).1≠39):s[pos]'h≠39:=by
 intro e
 have ha:(s[pos]'h).toNat<128:=by rw [e];decide
 rw [decode_ascii s pos h ha,e] at hr
 exact hr rfl
theorem rune_tail (s:ByteArray) (pos:Nat):Utf8.decode (s.extract 1 s.size) pos=Utf8.decode s (1+pos):=by
 rw [←Lib.decodeL_drop, ←Lib.decodeL_drop,Lib.extract_data,List.take_of_length_le (by simp),List.drop_drop]
def txtS:Option (List UInt8×Nat)→List UInt8
 | none=>[]
 | some p=>p.1
def txtN:Option (List UInt8×Nat)→Nat
 | none=>0
 | some p=>p.2+1
end Go.Proofs.YtkfjmgmjbljnbaaGreatDoor.Lp
