/-
 What an expression that is bound is of rows of its scope: Null, or of its kind; what is safe never fails. No program in sight. No conditions.
-/
import Derived.Test.YtkfjmgmjbljnbaaGreatDoorQZF
import Derived.Test.YtkfjmgmjbljnbaaGreatDoorQZE
namespace Go.Proofs.YtkfjmgmjbljnbaaGreatDoor.Lp
def Gd (v:V):Prop:=inR v.i∧((v.k=0∧v.i=0∧v.s=⟨#[]⟩∧v.b=false)∨(v.k=1∧v.s=⟨#[]⟩∧v.b=false)∨(v.k=2∧v.i=0∧v.b=false)∨(v.k=3∧v.i=0∧v.s=⟨#[]⟩))
theorem gd_null:Gd nullV:=⟨by simp [inR,nullV],.inl ⟨rfl,rfl,rfl,rfl⟩⟩
theorem gd_num {n:Int} (h:inR n):Gd (numV n):=⟨h,.inr (.inl ⟨rfl,rfl,rfl⟩)⟩
theorem gd_tru (b:Bool):Gd (truV b):=⟨by simp [inR,truV],.inr (.inr (.inr ⟨rfl,rfl,rfl⟩))⟩
theorem Gd.kinds {v:V} (h:Gd v):v.k=0∨v.k=1∨v.k=2∨v.k=3:=by
 rcases h.2 with h|h|h|h
 ·exact .inl h.1
 ·exact .inr (.inl h.1)
 ·exact .inr (.inr (.inl h.1))
 ·exact .inr (.inr (.inr h.1))
def Of (k:Int) (v:V):Prop:=Gd v∧(v.k=0∨v.k=k)
theorem Of.null (k:Int):Of k nullV:=⟨gd_null,.inl rfl⟩
theorem Of.num {n:Int} (h:inR n):Of 1 (numV n):=⟨gd_num h,.inr rfl⟩
theorem Of.tru (b:Bool):Of 3 (truV b):=⟨gd_tru b,.inr rfl⟩
def Res (k:Int) (p:V×Int):Prop:=(p.2=0→Of k p.1)∧(p.2≠0→p.1=nullV)
theorem Res.ok {k:Int} {v:V} (h:Of k v):Res k (v,0):=⟨fun _=>h,fun h=>absurd rfl h⟩
theorem Res.no {k e:Int}:Res k (nullV,e):=⟨fun _=>Of.null k,fun _=>rfl⟩
theorem val_inR (x:Int):inR (val x):=by
 unfold val
 split
 ·assumption
 ·simp [inR]
theorem divV_in (a b:Int):inR (divV a b):=by
 unfold divV
 split
 ·simp [inR]
 ·exact val_inR _
theorem modV_in {a b:Int} (h:inR a):inR (modV a b):=by
 unfold modV inR at *
 split
 ·omega
 ·have h3:=Int.natAbs_tmod a b
  have h4:=Nat.mod_le a.natAbs b.natAbs
  rcases Int.lt_or_le a 0 with h0|h0
  ·have h1:=Int.neg_tmod (-a) b
   rw [Int.neg_neg] at h1
   have h2:=Int.tmod_nonneg b (show 0 ≤ -a by omega)
   omega
  ·have h2:=Int.tmod_nonneg b h0
   omega
theorem reck_in (op:List UInt8) {a b:Int} (h:inR a):inR (reckV op a b):=by
 unfold reckV
 repeat' split
 ·exact val_inR _
 ·exact val_inR _
 ·exact val_inR _
 ·exact divV_in _ _
 ·exact modV_in h
theorem twoX_res (op:List UInt8) {a b:V} (ha:Gd a):Res 1 (twoX op a b):=by
 unfold twoX
 split
 ·exact Res.no
 ·unfold numE
  split
  ·exact Res.ok (Of.num (reck_in op ha.1))
  ·exact Res.no
theorem triV_res (bad:Bool) (n:Int):Res 3 (triV bad n):=by
 unfold triV
 split
 ·exact Res.no
 ·refine Res.ok ⟨⟨by simp [inR], ?_⟩, ?_⟩
  ·unfold bkK bkB
   split
   ·exact .inl ⟨rfl,rfl,rfl,rfl⟩
   ·exact .inr (.inr (.inr ⟨rfl,rfl,rfl⟩))
  ·unfold bkK
   show (if n=1 then (0:Int) else 3)=0∨(if n=1 then (0:Int) else 3)=3
   split
   ·exact .inl rfl
   ·exact .inr rfl
theorem cmpX_res (op:List UInt8) (a b:V):Res 3 (cmpX op a b):=by
 unfold cmpX
 split
 ·exact Res.ok (Of.tru _)
 ·exact Res.no
theorem tw_of {v:V} (h:Of 3 v):0≤tw v.k v.b:=by
 unfold tw
 rcases h.2 with h|h<;>rw [h]
 ·simp
 ·cases v.b<;>simp
theorem badT_of {a b:V} (ha:Of 3 a) (hb:Of 3 b):badT a b=false:=by
 have h1:=tw_of ha
 have h2:=tw_of hb
 unfold badT
 rw [Bool.or_eq_false_iff]
 exact ⟨by rw [decide_eq_false_iff_not];omega,by rw [decide_eq_false_iff_not];omega⟩
theorem Of.fit {k of:Int} {v:V} (h:Of k v) (hf:fitK k of=true):Of of v:=by
 unfold fitK at hf
 simp only [Bool.or_eq_true,beq_iff_eq] at hf
 refine ⟨h.1, ?_⟩
 rcases h.2 with h|h
 ·exact .inl h
 ·rcases hf with rfl|rfl
  ·exact .inr h
  ·exact .inl h
theorem isK_not {k:Int} (h:k=0):isK k=false:=by subst h;rfl
theorem cmpE_of {k k':Int} {a b:V} (ha:Of k a) (hb:Of k' b) (hf:(fitK k k'||fitK k' k)=true):cmpE a b=0:=by
 unfold cmpE
 have h:a.k=0∨b.k=0∨a.k=b.k:=by
  simp only [fitK,Bool.or_eq_true,beq_iff_eq] at hf
  rcases ha.2 with h|h
  ·exact .inl h
  ·rcases hb.2 with g|g
   ·exact .inr (.inl g)
   ·rcases hf with (h1|h1)|(h1|h1)
    ·exact .inr (.inr (by omega))
    ·exact .inl (by omega)
    ·exact .inr (.inr (by omega))
    ·exact .inr (.inl (by omega))
 rcases h with h|h|h
 ·rw [isK_not h];rfl
 ·rw [isK_not h];simp
 ·simp [h]
theorem binX_res {op:List UInt8} {ka kb:Int} {a b:V} (hk:(kindB op ka kb).2=0) (ha:Of ka a) (hb:Of kb b):Res (kindB op ka kb).1 (binX op a b)∧(riskB op=false→(binX op a b).2=0):=by
 unfold kindB at *
 unfold binX
 by_cases h1:op=uAnd∨op=uOr
 ·rw [if_pos h1] at hk ⊢
  have hf:(fitK ka 3&&fitK kb 3)=true:=by
   by_cases hf:(fitK ka 3&&fitK kb 3)=true
   ·exact hf
   ·rw [if_neg hf] at hk;exact absurd hk (by decide)
  rw [if_pos hf]
  rw [Bool.and_eq_true] at hf
  have hbad:=badT_of (ha.fit hf.1) (hb.fit hf.2)
  rw [hbad]
  by_cases h2:op=uAnd
  ·rw [if_pos h2];exact ⟨triV_res _ _,fun _=>rfl⟩
  ·rw [if_neg h2]
   rcases h1 with h1|h1
   ·exact absurd h1 h2
   ·rw [if_pos h1];exact ⟨triV_res _ _,fun _=>rfl⟩
 ·rw [if_neg h1] at hk ⊢
  have h2:op≠uAnd:=fun e=>h1 (.inl e)
  have h3:op≠uOr:=fun e=>h1 (.inr e)
  rw [if_neg h2,if_neg h3]
  by_cases h4:op∈arith
  ·rw [if_pos h4] at hk ⊢
   have hf:(fitK ka 1&&fitK kb 1)=true:=by
    by_cases hf:(fitK ka 1&&fitK kb 1)=true
    ·exact hf
    ·rw [if_neg hf] at hk;exact absurd hk (by decide)
   rw [if_pos hf,if_pos h4]
   refine ⟨twoX_res op ha.1,fun hr => ?_⟩
   unfold riskB at hr
   rw [List.contains_iff_mem.2 h4] at hr
   cases hr
  ·rw [if_neg h4] at hk ⊢
   have hf:(fitK ka kb||fitK kb ka)=true:=by
    by_cases hf:(fitK ka kb||fitK kb ka)=true
    ·exact hf
    ·rw [if_neg hf] at hk;exact absurd hk (by decide)
   rw [if_pos hf,if_neg h4]
   refine ⟨cmpX_res _ _ _,fun _ => ?_⟩
   unfold cmpX
   split
   ·rfl
   ·exact cmpE_of ha hb hf
theorem unX_res {op:List UInt8} {ka:Int} {a:V} (hk:(kindU op ka).2=0) (ha:Of ka a):Res (kindU op ka).1 (unX op a)∧(op=uNot→(unX op a).2=0):=by
 unfold kindU at *
 unfold unX
 by_cases h1:op=uNot
 ·rw [if_pos h1] at hk ⊢
  have hf:fitK ka 3=true:=by
   by_cases hf:fitK ka 3=true
   ·exact hf
   ·rw [if_neg hf] at hk;exact absurd hk (by decide)
  rw [if_pos hf,if_pos h1]
  have h2:=tw_of (ha.fit hf)
  have h3:decide (tw a.k a.b<0)=false:=by rw [decide_eq_false_iff_not];omega
  rw [h3]
  exact ⟨triV_res _ _,fun _=>rfl⟩
 ·rw [if_neg h1] at hk ⊢
  have hf:fitK ka 1=true:=by
   by_cases hf:fitK ka 1=true
   ·exact hf
   ·rw [if_neg hf] at hk;exact absurd hk (by decide)
  rw [if_pos hf,if_neg h1]
  exact ⟨twoX_res _ (gd_num (by simp [inR])),fun h=>absurd h h1⟩
theorem thenV_res {k:Int} {p:V×Int} {f:V→V×Int} (hf:p.2=0→Res k (f p.1)):Res k (thenV p f):=by
 unfold thenV
 split
 ·rename_i h;exact hf h
 ·exact Res.no
def RowOk (sc:List Tb) (row:List V):Prop:=∀ (i:Nat) (v:V),row[i]? = some v→Gd v∧∀ k,(flatK sc)[i]? = some k→v.k=0∨v.k=k
theorem RowOk.nil (sc:List Tb):RowOk sc []:=fun i v h=>by simp at h
theorem col_of {sc:List Tb} {row:List V} (h:RowOk sc row) {t s:List UInt8} {p:Nat×Int} (hp:findX sc t s=some p):Of p.2 ((row[p.1]?).getD nullV):=by
 cases hr:row[p.1]? with
 | none=>exact Of.null _
 | some v =>
   obtain ⟨h1,h2⟩:=h _ _ hr
   exact ⟨h1,h2 _ (findX_at hp)⟩
def StOk (_:List UInt8) (k:Int) (n:Nat) (st:Int×V):Prop:=0≤st.1∧st.1≤n∧Of k st.2
theorem stepA_ok {op:List UInt8} {k:Int} {n:Nat} {st:Int×V} {v:V} (hs:StOk op k n st) (hv:Of k v) (hk:op=uSum→fitK k 1=true) :
 ((stepA op st v).2=0→StOk op k (n+1) (stepA op st v).1)∧(op≠uSum→(stepA op st v).2=0):=by
 obtain ⟨h1,h2,h3⟩:=hs
 unfold stepA
 split
 ·exact ⟨fun _=>⟨h1,by show st.1≤((n+1:Nat):Int);omega,h3⟩,fun _=>rfl⟩
 ·split
  ·exact ⟨fun _=>⟨by show 0≤st.1+1;omega,by show st.1+1≤((n+1:Nat):Int);omega,hv⟩,fun _=>rfl⟩
  ·rename_i hv0 _
   split
   ·rename_i hsum
    refine ⟨fun h=>⟨by show 0≤st.1+1;omega,by show st.1+1≤((n+1:Nat):Int);omega, ?_⟩,fun h=>absurd hsum h⟩
    have hk1:=hk hsum
    have hk2:k=1:=by
     have hvk:v.k=k:=by
      rcases hv.2 with h|h
      ·exact absurd h hv0
      ·exact h
     rcases (hv.fit hk1).2 with h|h<;>omega
    have:=(twoX_res [43] (b:=v) h3.1).1 h
    rw [hk2]
    exact this
   ·exact ⟨fun _=>⟨by show 0≤st.1+1;omega,by show st.1+1≤((n+1:Nat):Int);omega,h3⟩,fun _=>rfl⟩
theorem foldA_res {op:List UInt8} {k:Int} {f:List V→V×Int}:∀ (rows:List (List V)) (n:Nat) (st:Int×V),StOk op k n st→n+rows.length≤9223372036854775807→(op=uSum→fitK k 1=true)→(∀ r∈rows,Res k (f r)) →
 (kindA op k).2=0→Res (kindA op k).1 (foldA op f st rows)∧(op≠uSum→(∀ r∈rows,(f r).2=0)→(foldA op f st rows).2=0)
 | [],n,st,hs,hn,hk,hf,hk0=>by
   refine ⟨?_,fun _ _=>rfl⟩
   unfold foldA
   refine Res.ok ?_
   unfold kindA at *
   by_cases h1:op=uCount
   ·subst h1
    have hne:uCount≠uSum:=by decide
    rw [if_pos rfl,if_neg hne,if_pos rfl]
    exact Of.num ⟨by have:=hs.1;omega,by have:=hs.2.1;simp at hn;omega⟩
   ·rw [if_neg h1]
    by_cases h2:op=uSum
    ·rw [if_pos h2,if_pos (hk h2),if_neg h1]
     exact hs.2.2.fit (hk h2)
    ·rw [if_neg h2,if_neg h1]
     exact hs.2.2
 | r::l,n,st,hs,hn,hk,hf,hk0=>by
   have hr:=hf r (by simp)
   unfold foldA
   by_cases h0:(f r).2=0
   ·rw [if_pos h0]
    have hst:=stepA_ok hs (hr.1 h0) hk
    by_cases h1:(stepA op st (f r).1).2=0
    ·rw [if_pos h1]
     obtain ⟨q1,q2⟩:=foldA_res l (n+1) _ (hst.1 h1) (by simp at hn;omega) hk (fun r' hr'=>hf r' (by simp [hr'])) hk0
     exact ⟨q1,fun a b=>q2 a (fun r' hr'=>b r' (by simp [hr']))⟩
    ·rw [if_neg h1]
     exact ⟨Res.no,fun a _=>absurd (hst.2 a) h1⟩
   ·rw [if_neg h0]
    exact ⟨Res.no,fun _ b=>absurd (b r (by simp)) h0⟩
theorem thenK_two {p:Int×Int} {f:Int→Int×Int} (h:(thenK p f).2=0):p.2=0∧(f p.1).2=0∧thenK p f=f p.1:=by
 unfold thenK at *
 split at h
 ·rename_i h1;exact ⟨h1,h,if_pos h1⟩
 ·rename_i h1;exact absurd h h1
theorem eval_res (sc:List Tb):∀ (x:X) (gr:Bool) (row:List V) (rows:List (List V)),x.wf→(kindX sc x gr).2=0→RowOk sc row→(∀ r∈rows,RowOk sc r)→rows.length≤9223372036854775807 →
 Res (kindX sc x gr).1 (evalX sc x row rows)∧(safeX x=true→(evalX sc x row rows).2=0):=by
 intro x
 induction x with
 | lit k i s b =>
   intro gr row rows hw hk hr hrs hn
   refine ⟨Res.ok ?_,fun _=>rfl⟩
   have hw:litOk k i s b:=hw
   refine ⟨⟨?_, ?_⟩,.inr rfl⟩
   ·rcases hw with ⟨_,h1,h2,_⟩|⟨_,h1,_⟩|⟨_,h1,_⟩|⟨_,h1,_⟩<;>(show inR i;unfold inR;omega)
   ·rcases hw with ⟨rfl,h1,h2,rfl,rfl⟩|⟨rfl,rfl,h2,rfl⟩|⟨rfl,rfl,rfl,rfl⟩|⟨rfl,rfl,rfl⟩
    ·exact .inr (.inl ⟨rfl,rfl,rfl⟩)
    ·exact .inr (.inr (.inl ⟨rfl,rfl,rfl⟩))
    ·exact .inl ⟨rfl,rfl,rfl,rfl⟩
    ·exact .inr (.inr (.inr ⟨rfl,rfl,rfl⟩))
 | col t s =>
   intro gr row rows hw hk hr hrs hn
   cases hf:findX sc t s with
   | none=>rw [show kindX sc (.col t s) gr=(0,6) by simp [kindX,hf]] at hk;exact absurd hk (by decide)
   | some p =>
     have e1:kindX sc (.col t s) gr=(p.2,0):=by simp [kindX,hf]
     have e2:evalX sc (.col t s) row rows=((row[p.1]?).getD nullV,0):=by simp [evalX,hf]
     rw [e1,e2]
     exact ⟨Res.ok (col_of hr hf),fun _=>rfl⟩
 | un op x ih =>
   intro gr row rows hw hk hr hrs hn
   obtain ⟨k1,k2,k3⟩:=thenK_two (show (thenK (kindX sc x gr) (kindU op)).2=0 from hk)
   have e1:kindX sc (.un op x) gr=kindU op (kindX sc x gr).1:=k3
   obtain ⟨q1,q2⟩:=ih gr row rows hw.2 k1 hr hrs hn
   rw [e1]
   refine ⟨thenV_res fun h=>(unX_res k2 (q1.1 h)).1,fun hs => ?_⟩
   have hs:(op==uNot&&safeX x)=true:=hs
   rw [Bool.and_eq_true,beq_iff_eq] at hs
   show (thenV (evalX sc x row rows) (unX op)).2=0
   rw [thenV,if_pos (q2 hs.2)]
   exact (unX_res k2 (q1.1 (q2 hs.2))).2 hs.1
 | bin op a b iha ihb =>
   intro gr row rows hw hk hr hrs hn
   obtain ⟨k1,k2,k3⟩:=thenK_two (show (thenK (kindX sc a gr) fun k=>thenK (kindX sc b gr) (kindB op k)).2=0 from hk)
   obtain ⟨k4,k5,k6⟩:=thenK_two k2
   have e1:kindX sc (.bin op a b) gr=kindB op (kindX sc a gr).1 (kindX sc b gr).1:=k3.trans k6
   obtain ⟨q1,q2⟩:=iha gr row rows hw.2.1 k1 hr hrs hn
   obtain ⟨q3,q4⟩:=ihb gr row rows hw.2.2 k4 hr hrs hn
   rw [e1]
   refine ⟨thenV_res fun h=>thenV_res fun h'=>(binX_res k5 (q1.1 h) (q3.1 h')).1,fun hs => ?_⟩
   have hs:(!riskB op&&safeX a&&safeX b)=true:=hs
   rw [Bool.and_eq_true,Bool.and_eq_true,Bool.not_eq_true'] at hs
   show (thenV (evalX sc a row rows) fun u=>thenV (evalX sc b row rows) (binX op u)).2=0
   rw [thenV,if_pos (q2 hs.1.2),thenV,if_pos (q4 hs.2)]
   exact (binX_res k5 (q1.1 (q2 hs.1.2)) (q3.1 (q4 hs.2))).2 hs.1.1
 | isn n x ih =>
   intro gr row rows hw hk hr hrs hn
   obtain ⟨k1, -,k3⟩:=thenK_two (show (thenK (kindX sc x gr) fun _=>((3,0):Int×Int)).2=0 from hk)
   have e1:kindX sc (.isn n x) gr=(3,0):=k3
   obtain ⟨q1,q2⟩:=ih gr row rows hw k1 hr hrs hn
   rw [e1]
   refine ⟨thenV_res fun h=>Res.ok (Of.tru _),fun hs => ?_⟩
   show (thenV (evalX sc x row rows) (isX n)).2=0
   rw [thenV,if_pos (q2 hs)]
   rfl
 | agg op x ih =>
   intro gr row rows hw hk hr hrs hn
   cases gr with
   | false=>exact absurd hk (by show (3:Int)≠0;decide)
   | true =>
     obtain ⟨k1,k2,k3⟩:=thenK_two (show (thenK (kindX sc x false) (kindA op)).2=0 from hk)
     have e1:kindX sc (.agg op x) true=kindA op (kindX sc x false).1:=k3
     rw [e1]
     have hsum:op=uSum→fitK (kindX sc x false).1 1=true:=by
      rintro rfl
      by_cases hf:fitK (kindX sc x false).1 1=true
      ·exact hf
      ·unfold kindA at k2
       rw [if_pos rfl,if_neg hf] at k2
       exact absurd k2 (by decide)
     have hall:∀ r∈rows,Res (kindX sc x false).1 (evalX sc x r [])∧(safeX x=true→(evalX sc x r []).2=0):=fun r hm=>ih false r [] hw.2 k1 (hrs r hm) (fun _ h=>by simp at h) (by simp)
     obtain ⟨q1,q2⟩:=foldA_res (op:=op) (f:=fun r=>evalX sc x r []) rows 0 (0,nullV) ⟨Int.le_refl _,by simp,Of.null _⟩ (by omega) hsum (fun r hm=>(hall r hm).1) k2
     refine ⟨q1,fun hs => ?_⟩
     have hs:(!(op==uSum)&&safeX x)=true:=hs
     rw [Bool.and_eq_true,Bool.not_eq_true',beq_eq_false_iff_ne] at hs
     exact q2 hs.1 fun r hm=>(hall r hm).2 hs.2
 | cnt =>
   intro gr row rows hw hk hr hrs hn
   cases gr with
   | false=>exact absurd hk (by show (3:Int)≠0;decide)
   | true=>exact ⟨Res.ok (Of.num ⟨by omega,by omega⟩),fun _=>rfl⟩
end Go.Proofs.YtkfjmgmjbljnbaaGreatDoor.Lp
