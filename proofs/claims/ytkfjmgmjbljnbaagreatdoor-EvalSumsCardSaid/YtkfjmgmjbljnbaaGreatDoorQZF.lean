/-
 Contracts and laws, joined. Conditions: those of each.
-/
import Derived.Test.YtkfjmgmjbljnbaaGreatDoorQGB
import Derived.Test.YtkfjmgmjbljnbaaGreatDoorQGW
import Derived.Test.YtkfjmgmjbljnbaaGreatDoorQGX
import Derived.Test.YtkfjmgmjbljnbaaGreatDoorQGD
import Derived.Test.YtkfjmgmjbljnbaaGreatDoorQGA
import Derived.WalkKit
import Derived.WalkSpells
import Derived.WalkLawsBesides
import Derived.Lib.Hide
import Derived.Test.YtkfjmgmjbljnbaaGreatDoorQGE
set_option maxRecDepth 100000
set_option maxHeartbeats 8000000
namespace Go.Proofs.YtkfjmgmjbljnbaaGreatDoor.Lp
def nullV:V:=⟨0,0,⟨#[]⟩,false⟩
def numV (n:Int):V:=⟨1,n,⟨#[]⟩,false⟩
def truV (b:Bool):V:=⟨3,0,⟨#[]⟩,b⟩
def numE (n e:Int):V×Int:=if e=0 then (numV n,0) else (nullV,e)
def triV (bad:Bool) (n:Int):V×Int:=if bad then (nullV,8) else (⟨bkK n,0,⟨#[]⟩,bkB n⟩,0)
def reckV (op:List UInt8) (a b:Int):Int :=
 if op=[43] then val (a+b) else if op=[45] then val (a-b) else if op=[42] then val (a*b) else if op=[47] then divV a b else modV a b
def reckE (op:List UInt8) (a b:Int):Int :=
 if op=[43] then err (a+b) else if op=[45] then err (a-b) else if op=[42] then err (a*b) else if op=[47] then divE a b else zerE b
def twoX (op:List UInt8) (a b:V):V×Int:=if a.k=0∨b.k=0 then (nullV,0) else numE (reckV op a.i b.i) (reckE op a.i b.i)
def standsX (op:List UInt8) (c:Int):Bool :=
 if op=[61] then decide (c=0) else if op=[60,62] then decide (c≠0) else if op=[60] then decide (c<0) else if op=[60,61] then decide (c≤0) else if op=[62] then decide (0<c) else decide (0≤c)
def cmpX (op:List UInt8) (a b:V):V×Int:=if cmpE a b=0∧cmpB a b=true then (truV (standsX op (cmpV a b)),0) else (nullV,cmpE a b)
def binX (op:List UInt8) (a b:V):V×Int :=
 if op=uAnd then triV (badT a b) (joinN a b false) else if op=uOr then triV (badT a b) (joinN a b true)
 else if op∈arith then twoX op a b else cmpX op a b
def unX (op:List UInt8) (a:V):V×Int :=
 if op=uNot then triV (decide (tw a.k a.b<0)) (2-tw a.k a.b) else twoX [45] (numV 0) a
def isX (n:Bool) (a:V):V×Int:=(truV (n !=(a.k==0)),0)
def thenV (p:V×Int) (f:V→V×Int):V×Int:=if p.2=0 then f p.1 else (nullV,p.2)
def stepA (op:List UInt8) (st:Int×V) (v:V):(Int×V)×Int :=
 if v.k=0 then (st,0)
 else if st.1=0∨(op=uMin∧vless v st.2=true)∨(op=uMax∧vless st.2 v=true) then ((st.1+1,v),0)
 else if op=uSum then ((st.1+1,(twoX [43] st.2 v).1),(twoX [43] st.2 v).2)
 else ((st.1+1,st.2),0)
def foldA (op:List UInt8) (f:List V→V×Int):Int×V→List (List V)→V×Int
 | st,[]=>(if op=uCount then numV st.1 else st.2,0)
 | st,r::l=>if (f r).2=0 then (if (stepA op st (f r).1).2=0 then foldA op f (stepA op st (f r).1).1 l else (nullV,(stepA op st (f r).1).2)) else (nullV,(f r).2)
def evalX (sc:List Tb):X→List V→List (List V)→V×Int
 | .lit k i s b,_,_=>(⟨k,i,⟨s.toArray⟩,b⟩,0)
 | .col t s,row,_=>match findX sc t s with
   | none=>(nullV,0)
   | some p=>((row[p.1]?).getD nullV,0)
 | .un op x,row,rows=>thenV (evalX sc x row rows) (unX op)
 | .bin op a b,row,rows=>thenV (evalX sc a row rows) fun u=>thenV (evalX sc b row rows) (binX op u)
 | .isn n x,row,rows=>thenV (evalX sc x row rows) (isX n)
 | .agg op x,_,rows=>foldA op (fun r=>evalX sc x r []) (0,nullV) rows
 | .cnt,_,rows=>(numV rows.length,0)
end Go.Proofs.YtkfjmgmjbljnbaaGreatDoor.Lp
namespace Go.Proofs.YtkfjmgmjbljnbaaGreatDoor
open Go.RowKit
theorem mod_any (a b:Int) (w:World) :
 Calls Tryz.prog 132 #[.int .i64 a,.int .i64 b] w fun e w'=>e=.returned (.tuple #[.int .i64 (Lp.modV a b),.int .i64 (Lp.zerE b)])∧w=w':=by
 by_cases h0:b=0
 ·subst h0
  go_enter Tryz.func132,Tryz.ntmps132
  go_wp2
  go_ret2
  exact ⟨rfl,rfl⟩
 ·by_cases h1:b = -1
  ·subst h1
   rw [Lp.modV_neg,Lp.zerE_no (by decide)]
   go_enter Tryz.func132,Tryz.ntmps132
   go_wp2
   go_ret2
   exact ⟨rfl,rfl⟩
  ·have e0:(b==0)=false:=by simpa using h0
   have e1:(b == -1)=false:=by simpa using h1
   rw [Lp.modV_no h0,Lp.zerE_no h0]
   clear h1
   go_enter Tryz.func132,Tryz.ntmps132
   go_wp2
   go_ret2
   exact ⟨rfl,rfl⟩
theorem div_any (a b:Int) (w:World) (ha:Lp.inR a) :
 Calls Tryz.prog 131 #[.int .i64 a,.int .i64 b] w fun e w'=>e=.returned (.tuple #[.int .i64 (Lp.divV a b),.int .i64 (Lp.divE a b)])∧w=w':=by
 by_cases h1:b=0
 ·subst h1
  rw [Lp.divV_zero,Lp.divE_zero]
  go_enter Tryz.func131,Tryz.ntmps131
  go_wp2
  go_ret2
  exact ⟨rfl,rfl⟩
 ·rw [Lp.divV_no h1,Lp.divE_no h1]
  have e1:=Lp.tv_of (Lp.div_ok a b ha) Lp.wrap_in
  have e2:=Lp.te_of (Lp.div_ok a b ha)
  rw [←e1, ←e2];clear e1 e2 ha
  go_enter Tryz.func131,Tryz.ntmps131
  go_wp2_with (go_at_call 183;refine (told_any _ _ _).mono ?_;rintro e w' ⟨rfl,rfl⟩)
  all_goals
   go_ret2
   simp_all [Lp.beqd,bne]
theorem cell_belo {w w':World} {a:Addr} {u:Value} (h:w.cell? a=some u) (hb:Below w.heap.size w w'):w'.cell? a=some u:=(hb.cell (p:=a) (World.block_lt_of_cell? w a h)).trans h
abbrev RowV:=Option Addr×Nat×List Lp.V
def RowV.val (x:RowV):Value:=.slice x.1 x.2.2.length x.2.1
def RowsM (w:World) (A:Option Addr) (R:List RowV):Prop:=Rds w A (R.map RowV.val)∧∀ x∈R,RdsV w x.1 x.2.2
theorem RowsM.below {w w':World} {A:Option Addr} {R:List RowV} (h:RowsM w A R) (hb:Below w.heap.size w w'):RowsM w' A R :=
 ⟨h.1.below hb,fun x hx=>(h.2 x hx).below hb⟩
def vv4 (v:Lp.V):Value:=.agg #[.int .u8 v.k,.int .i64 v.i,.string v.s,.bool v.b]
structure Fr where
 r:RowV
 A:Option Addr
 c:Nat
 R:List RowV
 g:Bool
def Fr.val (f:Fr):Value:=.agg #[f.r.val,.slice f.A f.R.length f.c,.bool f.g]
def Fr.rows (f:Fr):List (List Lp.V):=f.R.map (·.2.2)
def Fr.row (f:Fr):List Lp.V:=match f.g,f.R with
 | true,x::_=>x.2.2
 | _,_=>f.r.2.2
def Fr.At (w:World) (f:Fr):Prop:=RdsV w f.r.1 f.r.2.2∧RowsM w f.A f.R
theorem Fr.At.below {w w':World} {f:Fr} (h:f.At w) (hb:Below w.heap.size w w'):f.At w':=⟨h.1.below hb,h.2.below hb⟩
theorem sub_any (a b:Int) (w:World) (ha:Lp.inR a) (hb:Lp.inR b) :
 Calls Tryz.prog 129 #[.int .i64 a,.int .i64 b] w fun e w'=>e=.returned (.tuple #[.int .i64 (Lp.val (a-b)),.int .i64 (Lp.err (a-b))])∧w=w':=by
 have e1:=Lp.tv_of (Lp.sub_ok a b ha hb) Lp.wrap_in
 have e2:=Lp.te_of (Lp.sub_ok a b ha hb)
 rw [←e1, ←e2];clear e1 e2
 go_enter Tryz.func129,Tryz.ntmps129
 go_wp2_with (go_at_call 183;refine (told_any _ _ _).mono ?_;rintro e w' ⟨rfl,rfl⟩)
 go_ret2
 exact ⟨rfl,rfl⟩
def EvPost (p:Lp.V×Int) (w:World) (e:Ending) (w':World):Prop:=e=.returned (.tuple #[vv4 p.1,.int .i64 p.2])∧Below w.heap.size w w'
theorem EvPost.mk {p:Lp.V×Int} {w w':World} {k i E:Int} {s:ByteArray} {b:Bool} (h:p=(⟨k,i,s,b⟩,E)) (hb:Below w.heap.size w w'):EvPost p w (.returned (.tuple #[.agg #[.int .u8 k,.int .i64 i,.string s,.bool b],.int .i64 E])) w':=by
 subst h;exact ⟨rfl,hb⟩
theorem number_any (n:Int) (w:World):Calls Tryz.prog 89 #[.int .i64 n] w fun e w'=>e=.returned (.agg #[.int .u8 1,.int .i64 n,.string ⟨#[]⟩,.bool false])∧(w.alloc (.cells #[.int .u8 1,.int .i64 n,.string ⟨#[]⟩,.bool false] 31))=w':=by
 go_enter Tryz.func89,Tryz.ntmps89
 go_wp2
 exact bodyPost_ret (v:=.agg #[.int .u8 1,.int .i64 n,.string ⟨#[]⟩,.bool false]) (by simp [results,Tryz.results89,go_sem]) rfl ⟨rfl,rfl⟩
theorem etruth_any (b:Bool) (w:World):Calls Tryz.prog 87 #[.bool b] w fun e w'=>e=.returned (.agg #[.int .u8 3,.int .i64 0,.string ⟨#[]⟩,.bool b])∧(w.alloc (.cells #[.int .u8 3,.int .i64 0,.string ⟨#[]⟩,.bool b] 31))=w':=by
 go_enter Tryz.func87,Tryz.ntmps87
 go_wp2
 exact bodyPost_ret (v:=.agg #[.int .u8 3,.int .i64 0,.string ⟨#[]⟩,.bool b]) (by simp [results,Tryz.results87,go_sem]) rfl ⟨rfl,rfl⟩
theorem stands_any (op:List UInt8) (c:Int) (w:World):Calls Tryz.prog 134 #[.string ⟨op.toArray⟩,.int .i64 c] w fun e w'=>e=.returned (.bool (Lp.standsX op c))∧w=w':=by
 obtain ⟨r,hr⟩:∃ r,Lp.standsX op c=r:=⟨_,rfl⟩
 rw [hr]
 have HR:=κ hr
 clear hr
 by_cases h1:op=[61]
 ·subst h1
  have hr:decide (c=0)=r:=HR.out
  have e1:(c==0)=r:=by rw [←hr,Bool.eq_iff_iff];simp
  clear hr HR
  go_enter Tryz.func134,Tryz.ntmps134
  go_wp2
  go_ret
  exact ⟨rfl,rfl⟩
 ·by_cases h2:op=[60,62]
  ·subst h2
   have hr:decide (c≠0)=r:=HR.out
   have e1:(c !=0)=r:=by rw [←hr,Bool.eq_iff_iff];simp
   clear hr HR h1
   go_enter Tryz.func134,Tryz.ntmps134
   go_wp2
   go_ret
   exact ⟨rfl,rfl⟩
  ·by_cases h3:op=[60]
   ·subst h3
    have hr:decide (c<0)=r:=HR.out
    clear HR h1 h2
    go_enter Tryz.func134,Tryz.ntmps134
    go_wp2
    go_ret
    exact ⟨rfl,rfl⟩
   ·by_cases h4:op=[60,61]
    ·subst h4
     have hr:decide (c≤0)=r:=HR.out
     clear HR h1 h2 h3
     go_enter Tryz.func134,Tryz.ntmps134
     go_wp2
     go_ret
     exact ⟨rfl,rfl⟩
    ·by_cases h5:op=[62]
     ·subst h5
      have hr:decide (0<c)=r:=HR.out
      clear HR h1 h2 h3 h4
      go_enter Tryz.func134,Tryz.ntmps134
      go_wp2
      go_ret
      exact ⟨rfl,rfl⟩
     ·have hr:decide (0≤c)=r:=by
       have:=HR.out
       unfold Lp.standsX at this
       rwa [if_neg h1,if_neg h2,if_neg h3,if_neg h4,if_neg h5] at this
      have e1:(op==[61])=false:=beq_eq_false_iff_ne.2 h1
      have e2:(op==[60,62])=false:=beq_eq_false_iff_ne.2 h2
      have e3:(op==[60])=false:=beq_eq_false_iff_ne.2 h3
      have e4:(op==[60,61])=false:=beq_eq_false_iff_ne.2 h4
      have e5:(op==[62])=false:=beq_eq_false_iff_ne.2 h5
      clear HR h1 h2 h3 h4 h5
      go_enter Tryz.func134,Tryz.ntmps134
      go_wp2
      go_ret
      exact ⟨rfl,rfl⟩
def W3 (w:World) (a b:Lp.V):World:=((w.alloc (.cells #[.int .u8 a.k,.int .i64 a.i,.string a.s,.bool a.b] 31)).alloc (.cells #[.int .u8 b.k,.int .i64 b.i,.string b.s,.bool b.b] 31)).alloc (.cells #[.int .u8 0,.int .i64 0,.string ⟨#[]⟩,.bool false] 31)
theorem w3_facts (w:World) (a b:Lp.V):Below w.heap.size w (W3 w a b)∧(W3 w a b).heap[w.heap.size]? = some (.cells #[.int .u8 a.k,.int .i64 a.i,.string a.s,.bool a.b] 31 (0,0)) ∧
 (W3 w a b).heap[w.heap.size+1]? = some (.cells #[.int .u8 b.k,.int .i64 b.i,.string b.s,.bool b.b] 31 (0,0))∧(W3 w a b).heap[w.heap.size+1+1]? = some (.cells #[.int .u8 0,.int .i64 0,.string ⟨#[]⟩,.bool false] 31 (0,0))∧(W3 w a b).heap.size=w.heap.size+1+1+1:=by
 refine ⟨ba (ba (ba (Below.refl _ _) _) _) _,box_alloc (box_alloc (heap_alloc_new w _) _) _,box_alloc (heap_new2 w _ _) _, ?_,by simp [W3]⟩
 have:=heap_alloc_new ((w.alloc (.cells #[.int .u8 a.k,.int .i64 a.i,.string a.s,.bool a.b] 31)).alloc (.cells #[.int .u8 b.k,.int .i64 b.i,.string b.s,.bool b.b] 31)) (.cells #[.int .u8 0,.int .i64 0,.string ⟨#[]⟩,.bool false] 31)
 simpa [W3] using this
theorem twoX_null {op:List UInt8} {a b:Lp.V} (h:a.k=0∨b.k=0):Lp.twoX op a b=(Lp.nullV,0):=if_pos h
theorem twoX_some {op:List UInt8} {a b:Lp.V} (h1:a.k≠0) (h2:b.k≠0):Lp.twoX op a b=Lp.numE (Lp.reckV op a.i b.i) (Lp.reckE op a.i b.i):=if_neg (by rintro (h|h);exact h1 h;exact h2 h)
theorem two_any (op:List UInt8) (hop:op∈Lp.arith) (a b:Lp.V) (w:World) (ha:Lp.inR a.i) (hb:Lp.inR b.i) :
 Calls Tryz.prog 88 #[.string ⟨op.toArray⟩,vv4 a,vv4 b] w (EvPost (Lp.twoX op a b) w):=by
 obtain ⟨hb0,q1,q2,q3,hz⟩:=w3_facts w a b
 unfold vv4
 by_cases h1:a.k=0
 ·have HR:=κ (twoX_null (op:=op) (a:=a) (b:=b) (.inl h1))
  rw [h1]
  clear q1 q2 q3 hz hop ha hb
  unfold W3 at hb0
  rw [h1] at hb0
  clear h1
  go_enter Tryz.func88,Tryz.ntmps88
  go_wp2
  exact bodyPost_ret (v:=.tuple #[.agg #[.int .u8 0,.int .i64 0,.string ⟨#[]⟩,.bool false],.int .i64 0]) (by simp [results,Tryz.results88,go_sem]) rfl (EvPost.mk HR.out hb0)
 ·by_cases h2:b.k=0
  ·have HR:=κ (twoX_null (op:=op) (a:=a) (b:=b) (.inr h2))
   have e1:(a.k==0)=false:=beq_eq_false_iff_ne.2 h1
   unfold W3 at hb0
   rw [h2] at hb0 ⊢
   clear q1 q2 q3 hz hop ha hb h1 h2
   go_enter Tryz.func88,Tryz.ntmps88
   go_wp2
   exact bodyPost_ret (v:=.tuple #[.agg #[.int .u8 0,.int .i64 0,.string ⟨#[]⟩,.bool false],.int .i64 0]) (by simp [results,Tryz.results88,go_sem]) rfl (EvPost.mk HR.out hb0)
  ·have HR:=κ (twoX_some (op:=op) h1 h2)
   have e1:(a.k==0)=false:=beq_eq_false_iff_ne.2 h1
   have e2:(b.k==0)=false:=beq_eq_false_iff_ne.2 h2
   have HB:=κ (ι ha hb)
   clear q1 q2 hz ha hb h1 h2
   have HW:=κ (ι hb0 q3)
   clear hb0 q3
   obtain ⟨n,hn⟩:∃ n,Lp.reckV op a.i b.i=n:=⟨_,rfl⟩
   obtain ⟨E,hE⟩:∃ E,Lp.reckE op a.i b.i=E:=⟨_,rfl⟩
   rw [hn,hE] at HR
   simp only [Lp.arith,List.mem_cons,List.not_mem_nil,or_false] at hop
   have HN:=κ (ι hn hE)
   clear hn hE
   rcases hop with rfl|rfl|rfl|rfl|rfl
   all_goals
    go_enter Tryz.func88,Tryz.ntmps88
    go_wp2_with fail
    first
     | refine (add_any a.i b.i _ HB.out.1 HB.out.2).mono ?_
     | refine (sub_any a.i b.i _ HB.out.1 HB.out.2).mono ?_
     | refine (mul_any a.i b.i _ HB.out.1 HB.out.2).mono ?_
     | refine (div_any a.i b.i _ HB.out.1).mono ?_
     | refine (mod_any a.i b.i _).mono ?_
    rintro e w1 ⟨rfl,rfl⟩
    have hN:=HN.out
    simp only [Lp.reckV,Lp.reckE,if_true,if_false,List.cons.injEq,and_true,show ((45:UInt8)=43)=False by decide,show ((42:UInt8)=43)=False by decide,show ((42:UInt8)=45)=False by decide,show ((47:UInt8)=43)=False by decide,show ((47:UInt8)=45)=False by decide,show ((47:UInt8)=42)=False by decide,show ((37:UInt8)=43)=False by decide,show ((37:UInt8)=45)=False by decide,show ((37:UInt8)=42)=False by decide,show ((37:UInt8)=47)=False by decide] at hN
    rw [hN.1,hN.2]
    clear hN HN HB
    have hW:=HW.out
    unfold W3 at hW
    generalize ((w.alloc (.cells #[.int .u8 a.k,.int .i64 a.i,.string a.s,.bool a.b] 31)).alloc (.cells #[.int .u8 b.k,.int .i64 b.i,.string b.s,.bool b.b] 31)).alloc (.cells #[.int .u8 0,.int .i64 0,.string ⟨#[]⟩,.bool false] 31)=V at *
    obtain ⟨hb0,q3⟩:=hW
    clear HW
    by_cases h0:E=0
    ·subst h0
     have HQ:=κ (HR.out.trans (if_pos rfl))
     clear HR
     go_wp2_with fail
     refine (number_any n _).mono ?_
     rintro e w2 ⟨rfl,rfl⟩
     have hr1:=box_alloc q3 (.cells #[.int .u8 1,.int .i64 n,.string ⟨#[]⟩,.bool false] 31)
     have hb1:=ba hb0 (.cells #[.int .u8 1,.int .i64 n,.string ⟨#[]⟩,.bool false] 31)
     have hc1:=β hr1
     have hf1:=fun j=>frozen_of_row _ _ j _ _ hr1
     have HCE:=κ (β (set4_same hr1 (.int .u8 1) (.int .i64 n) (.string ⟨#[]⟩) (.bool false)))
     have k5:=below_set4 hb1 (g:=w.heap.size+1+1) (by omega) (.int .u8 1) (.int .i64 n) (.string ⟨#[]⟩) (.bool false)
     have K5:=κ k5
     clear hb0 q3 hr1 hb1 k5
     go_wp2
     have hcE:=HCE.out
     exact bodyPost_ret (v:=.tuple #[.agg #[.int .u8 1,.int .i64 n,.string ⟨#[]⟩,.bool false],.int .i64 0]) (by simp [results,Tryz.results88,go_sem,hcE]) rfl (EvPost.mk HQ.out K5.out)
    ·have e3:(E==0)=false:=beq_eq_false_iff_ne.2 h0
     have e4:(E !=0)=true:=by rw [bne,e3];rfl
     have HQ:=κ (HR.out.trans (if_neg h0))
     have hc1:=β q3
     have hf1:=fun j=>frozen_of_row _ _ j _ _ q3
     have HCE:=κ (β (set4_same q3 (.int .u8 0) (.int .i64 0) (.string ⟨#[]⟩) (.bool false)))
     have k5:=below_set4 hb0 (g:=w.heap.size+1+1) (by omega) (.int .u8 0) (.int .i64 0) (.string ⟨#[]⟩) (.bool false)
     have K5:=κ k5
     clear hb0 q3 k5 h0 HR
     go_wp2
     have hcE:=HCE.out
     exact bodyPost_ret (v:=.tuple #[.agg #[.int .u8 0,.int .i64 0,.string ⟨#[]⟩,.bool false],.int .i64 E]) (by simp [results,Tryz.results88,go_sem,hcE]) rfl (EvPost.mk HQ.out K5.out)
theorem get_none {l:List Lp.V} {i:Nat} (h:¬i<l.length):(l[i]?).getD Lp.nullV=⟨0,0,⟨#[]⟩,false⟩:=by rw [List.getElem?_eq_none (by omega)];rfl
theorem get_some {l:List Lp.V} {i:Nat} (h:i<l.length):(l[i]?).getD Lp.nullV=l[i]:=by rw [List.getElem?_eq_getElem h];rfl
def VAt (w:World) (b o:Nat) (v:Lp.V):Prop:=w.cell? ⟨b,o,none⟩=some (.int .u8 v.k)∧w.cell? ⟨b,o+1,none⟩=some (.int .i64 v.i)∧w.cell? ⟨b,o+2,none⟩=some (.string v.s)∧w.cell? ⟨b,o+3,none⟩=some (.bool v.b)
theorem VAt.below {w w':World} {b o:Nat} {v:Lp.V} (h:VAt w b o v) (hb:Below w.heap.size w w'):VAt w' b o v:=⟨cell_belo h.1 hb,cell_belo h.2.1 hb,cell_belo h.2.2.1 hb,cell_belo h.2.2.2 hb⟩
theorem RdsV.vat {w:World} {A:Option Addr} {l:List Lp.V} (h:RdsV w A l) {i:Nat} (hi:i<l.length):∃ b off,A=some ⟨b,off,none⟩∧VAt w b (off+i*4) l[i]:=RdsV.cells h hi
theorem column_any (f:Fr) (i:Nat) (w:World) (h:f.At w) :
 Calls Tryz.prog 81 #[f.val,.int .i64 i] w fun e w'=>e=.returned (vv4 ((f.row[i]?).getD Lp.nullV))∧Below w.heap.size w w':=by
 obtain ⟨⟨A,c,l⟩,A2,c2,R,gr⟩:=f
 have hb0:Below w.heap.size w (w.alloc (.cells #[.slice A l.length c,.slice A2 R.length c2,.bool gr] 105)):=ba (Below.refl _ _) _
 have hb1:∀ o,Below w.heap.size w ((w.alloc (.cells #[.slice A l.length c,.slice A2 R.length c2,.bool gr] 105)).alloc o):=fun o=>ba hb0 o
 obtain ⟨L,hL⟩:∃ L,Fr.row ⟨(A,c,l),A2,c2,R,gr⟩=L:=⟨_,rfl⟩
 rw [hL]
 have hcase:(gr=false∧l=L)∨(gr=true∧R=[]∧l=L)∨∃ A3 c3 R3,gr=true∧R=(A3,c3,L)::R3:=by
  subst hL
  cases gr with
  | false=>exact .inl ⟨rfl,rfl⟩
  | true=>cases R with
    | nil=>exact .inr (.inl ⟨rfl,rfl,rfl⟩)
    | cons x R3=>exact .inr (.inr ⟨x.1,x.2.1,R3,rfl,rfl⟩)
 simp only [Fr.val,RowV.val]
 obtain ⟨v,hv⟩:∃ v,(L[i]?).getD Lp.nullV=v:=⟨_,rfl⟩
 rw [hv]
 have hX:∀ A3,RdsV w A3 L→i<L.length→∃ b off,A3=some ⟨b,off,none⟩∧∀ o,VAt ((w.alloc (.cells #[.slice A l.length c,.slice A2 R.length c2,.bool gr] 105)).alloc o) b (off+i*4) v:=by
  intro A3 h3 hi
  rw [←hv,get_some hi]
  obtain ⟨b,off,h4,h5⟩:=RdsV.vat h3 hi
  exact ⟨b,off,h4,fun o=>h5.below (hb1 o)⟩
 have hY:¬i<L.length→v=⟨0,0,⟨#[]⟩,false⟩:=fun hi=>hv.symm.trans (get_none hi)
 have HL:=κ hX
 have HY:=κ hY
 have HH:=κ h
 have HB:=κ hb1
 clear hX hY h hL hb0 hb1 hv
 obtain ⟨k,vi,vs,vb⟩:=v
 unfold vv4
 rcases hcase with ⟨rfl,rfl⟩|⟨rfl,rfl,rfl⟩|⟨A3,c3,R3,rfl,rfl⟩
 ·by_cases hi:i<l.length
  ·obtain ⟨b,off,rfl,hq⟩:=HL.out A HH.out.1 hi
   obtain ⟨q0,q1,q2,q3⟩:=hq (.cells #[.int .u8 0,.int .i64 0,.string ⟨#[]⟩,.bool false] 31)
   clear HL HH HY hq
   go_enter Tryz.func81,Tryz.ntmps81
   go_wp2
   exact bodyPost_ret (v:=.agg #[.int .u8 k,.int .i64 vi,.string vs,.bool vb]) (by simp [results,Tryz.results81,go_sem]) rfl ⟨rfl,HB.out _⟩
  ·have hv:=HY.out hi
   injection hv with v1 v2 v3 v4
   subst v1 v2 v3 v4
   clear HL HH HY
   go_enter Tryz.func81,Tryz.ntmps81
   go_wp2
   exact bodyPost_ret (v:=.agg #[.int .u8 0,.int .i64 0,.string ⟨#[]⟩,.bool false]) (by simp [results,Tryz.results81,go_sem]) rfl ⟨rfl,HB.out _⟩
 ·by_cases hi:i<l.length
  ·obtain ⟨b,off,rfl,hq⟩:=HL.out A HH.out.1 hi
   obtain ⟨q0,q1,q2,q3⟩:=hq (.cells #[.int .u8 0,.int .i64 0,.string ⟨#[]⟩,.bool false] 31)
   clear HL HH HY hq
   simp only [List.length_nil] at *
   go_enter Tryz.func81,Tryz.ntmps81
   go_wp2
   exact bodyPost_ret (v:=.agg #[.int .u8 k,.int .i64 vi,.string vs,.bool vb]) (by simp [results,Tryz.results81,go_sem]) rfl ⟨rfl,HB.out _⟩
  ·have hv:=HY.out hi
   injection hv with v1 v2 v3 v4
   subst v1 v2 v3 v4
   clear HL HH HY
   simp only [List.length_nil] at *
   go_enter Tryz.func81,Tryz.ntmps81
   go_wp2
   exact bodyPost_ret (v:=.agg #[.int .u8 0,.int .i64 0,.string ⟨#[]⟩,.bool false]) (by simp [results,Tryz.results81,go_sem]) rfl ⟨rfl,HB.out _⟩
 ·obtain ⟨b2,off2,hA2,hc2⟩:=HH.out.2.1.at_ (k:=0) (u:=.slice A3 L.length c3) rfl
  simp only [Nat.add_zero] at hc2
  simp only at hA2
  subst hA2
  have hl:(((A3,c3,L):RowV)::R3).length=R3.length+1:=rfl
  have hcc:∀ o,((w.alloc (.cells #[.slice A l.length c,.slice (some ⟨b2,off2,none⟩) (R3.length+1) c2,.bool true] 105)).alloc o).cell? ⟨b2,off2,none⟩=some (.slice A3 L.length c3):=fun o=>cell_belo hc2 (HB.out o)
  have h2:=HH.out.2.2 (A3,c3,L) (by simp)
  simp only [hl] at *
  by_cases hi:i<L.length
  ·obtain ⟨b,off,rfl,hq⟩:=HL.out A3 h2 hi
   obtain ⟨q0,q1,q2,q3⟩:=hq (.cells #[.int .u8 0,.int .i64 0,.string ⟨#[]⟩,.bool false] 31)
   have hd2:=hcc (.cells #[.int .u8 0,.int .i64 0,.string ⟨#[]⟩,.bool false] 31)
   clear HL HH HY hq hcc hc2 h2
   go_enter Tryz.func81,Tryz.ntmps81
   go_wp2
   exact bodyPost_ret (v:=.agg #[.int .u8 k,.int .i64 vi,.string vs,.bool vb]) (by simp [results,Tryz.results81,go_sem]) rfl ⟨rfl,HB.out _⟩
  ·have hv:=HY.out hi
   injection hv with v1 v2 v3 v4
   subst v1 v2 v3 v4
   have hd2:=hcc (.cells #[.int .u8 0,.int .i64 0,.string ⟨#[]⟩,.bool false] 31)
   clear HL HH HY hcc hc2 h2
   go_enter Tryz.func81,Tryz.ntmps81
   go_wp2
   exact bodyPost_ret (v:=.agg #[.int .u8 0,.int .i64 0,.string ⟨#[]⟩,.bool false]) (by simp [results,Tryz.results81,go_sem]) rfl ⟨rfl,HB.out _⟩
theorem ecmp_any (op:List UInt8) (a b:Lp.V) (w:World) :
 Calls Tryz.prog 90 #[.string ⟨op.toArray⟩,vv4 a,vv4 b] w (EvPost (Lp.cmpX op a b) w):=by
 obtain ⟨hb0,q1,q2,q3,hz⟩:=w3_facts w a b
 obtain ⟨c,hc⟩:∃ c,Lp.cmpV a b=c:=⟨_,rfl⟩
 obtain ⟨B,hB⟩:∃ B,Lp.cmpB a b=B:=⟨_,rfl⟩
 obtain ⟨E,hE⟩:∃ E,Lp.cmpE a b=E:=⟨_,rfl⟩
 have hX:Lp.cmpX op a b=if E=0∧B=true then (Lp.truV (Lp.standsX op c),0) else (Lp.nullV,E):=by subst hc hB hE;rfl
 have HX:=κ hX
 have HC:=κ (fun W=>(compare_any a.k a.i a.s a.b b.k b.i b.s b.b W))
 unfold CmpPost at HC
 rw [show (⟨a.k,a.i,a.s,a.b⟩:Lp.V)=a from rfl,show (⟨b.k,b.i,b.s,b.b⟩:Lp.V)=b from rfl,hc,hB,hE] at HC
 clear hX hc hB hE
 unfold vv4
 have c1:=β q1
 have c2:=β q2
 unfold W3 at c1 c2
 have HW:=κ (ι hb0 (ι q3 hz))
 clear hb0 q1 q2 q3 hz
 go_enter Tryz.func90,Tryz.ntmps90
 go_wp2_with fail
 refine (HC.out _).mono ?_
 rintro e w1 ⟨rfl,hb1⟩
 have hW:=HW.out
 unfold W3 at hW
 have hr1:=box_below hW.2.1 hb1
 have k1:=hW.1.trans (hb1.mono hW.1.size)
 clear c1 c2 hb1 hW HC HW
 by_cases h0:E=0
 ·subst h0
  cases B with
  | true =>
    have HQ:=κ (HX.out.trans (if_pos ⟨rfl,rfl⟩))
    clear HX
    obtain ⟨S,hS⟩:∃ S,Lp.standsX op c=S:=⟨_,rfl⟩
    rw [hS] at HQ
    have HS:=κ (hS▸stands_any op c)
    clear hS
    go_wp2_with fail
    refine (HS.out _).mono ?_
    rintro e w2 ⟨rfl,rfl⟩
    go_wp2_with fail
    refine (etruth_any S _).mono ?_
    rintro e w3 ⟨rfl,rfl⟩
    have hr2:=box_alloc hr1 (.cells #[.int .u8 3,.int .i64 0,.string ⟨#[]⟩,.bool S] 31)
    have hb2:=ba k1 (.cells #[.int .u8 3,.int .i64 0,.string ⟨#[]⟩,.bool S] 31)
    have hc1:=β hr2
    have hf1:=fun j=>frozen_of_row _ _ j _ _ hr2
    have HCE:=κ (β (set4_same hr2 (.int .u8 3) (.int .i64 0) (.string ⟨#[]⟩) (.bool S)))
    have K5:=κ (below_set4 hb2 (g:=w.heap.size+1+1) (by omega) (.int .u8 3) (.int .i64 0) (.string ⟨#[]⟩) (.bool S))
    clear k1 hr1 hr2 hb2
    go_wp2
    have hcE:=HCE.out
    exact bodyPost_ret (v:=.tuple #[.agg #[.int .u8 3,.int .i64 0,.string ⟨#[]⟩,.bool S],.int .i64 0]) (by simp [results,Tryz.results90,go_sem,hcE]) rfl (EvPost.mk HQ.out K5.out)
  | false =>
    have HQ:=κ (HX.out.trans (if_neg (fun h=>by cases h.2)))
    have hc1:=β hr1
    have hf1:=fun j=>frozen_of_row _ _ j _ _ hr1
    have HCE:=κ (β (set4_same hr1 (.int .u8 0) (.int .i64 0) (.string ⟨#[]⟩) (.bool false)))
    have K5:=κ (below_set4 k1 (g:=w.heap.size+1+1) (by omega) (.int .u8 0) (.int .i64 0) (.string ⟨#[]⟩) (.bool false))
    clear k1 hr1 HX
    go_wp2
    have hcE:=HCE.out
    exact bodyPost_ret (v:=.tuple #[.agg #[.int .u8 0,.int .i64 0,.string ⟨#[]⟩,.bool false],.int .i64 0]) (by simp [results,Tryz.results90,go_sem,hcE]) rfl (EvPost.mk HQ.out K5.out)
 ·have e3:(E==0)=false:=beq_eq_false_iff_ne.2 h0
  have e4:(E !=0)=true:=by rw [bne,e3];rfl
  have HQ:=κ (HX.out.trans (if_neg (fun h=>h0 h.1)))
  have hc1:=β hr1
  have hf1:=fun j=>frozen_of_row _ _ j _ _ hr1
  have HCE:=κ (β (set4_same hr1 (.int .u8 0) (.int .i64 0) (.string ⟨#[]⟩) (.bool false)))
  have K5:=κ (below_set4 k1 (g:=w.heap.size+1+1) (by omega) (.int .u8 0) (.int .i64 0) (.string ⟨#[]⟩) (.bool false))
  clear k1 hr1 HX h0
  go_wp2
  have hcE:=HCE.out
  exact bodyPost_ret (v:=.tuple #[.agg #[.int .u8 0,.int .i64 0,.string ⟨#[]⟩,.bool false],.int .i64 E]) (by simp [results,Tryz.results90,go_sem,hcE]) rfl (EvPost.mk HQ.out K5.out)
def EvOk (sc:List Lp.Tb) (f:Fr) (x:Lp.X):Prop:=∀ (S:Nat→Prop) (W:World) (g:Nat),NT S W sc x g→f.At W→Calls Tryz.prog 45 #[f.val,ptr g] W (EvPost (Lp.evalX sc x f.row f.rows) W)
def fev (sc:List Lp.Tb) (f:Fr) (x:Lp.X):Lp.V×Int:=Lp.evalX sc x f.row f.rows
def firstV (sc:List Lp.Tb) (f:Fr):List Lp.X→Int
 | []=>0
 | x::r=>if (fev sc f x).2=0 then firstV sc f r else (fev sc f x).2
theorem firstV_snoc (sc:List Lp.Tb) (f:Fr) (x:Lp.X):∀ l,firstV sc f l=0→firstV sc f (l++[x])=(fev sc f x).2
 | [],_=>by
   show (if (fev sc f x).2=0 then (0:Int) else _)=_
   split
   ·rename_i h;exact h.symm
   ·rfl
 | y::l,h=>by
   have h0:(fev sc f y).2=0:=by
    unfold firstV at h
    split at h
    ·assumption
    ·rename_i h1;exact absurd h h1
   have h1:firstV sc f l=0:=by
    unfold firstV at h
    rwa [if_pos h0] at h
   show (if (fev sc f y).2=0 then firstV sc f (l++[x]) else _)=_
   rw [if_pos h0,firstV_snoc sc f x l h1]
theorem firstV_pre (sc:List Lp.Tb) (f:Fr):∀ l r,firstV sc f l≠0→firstV sc f (l++r)=firstV sc f l
 | [],_,h=>absurd rfl h
 | y::l,r,h=>by
   show (if (fev sc f y).2=0 then firstV sc f (l++r) else _)=(if (fev sc f y).2=0 then firstV sc f l else _)
   unfold firstV at h
   split
   ·rename_i h0
    rw [if_pos h0] at h
    exact firstV_pre sc f l r h
   ·rfl
theorem NTs.both {S:Nat→Prop} {w:World} {sc:List Lp.Tb}:∀ {xs:List Lp.X} {gs:List Nat} (_:NTs S w sc xs gs),xs.length=gs.length∧∀ (i:Nat) (x:Lp.X) (g:Nat),xs[i]? = some x→gs[i]? = some g→NT S w sc x g
 | [],[],_=>⟨rfl,fun i x g h _=>by simp at h⟩
 | x::xs,g::gs,h=>by
   obtain ⟨h1,h2⟩:=h.2.both
   refine ⟨by simp [h1],fun i y k hy hk => ?_⟩
   cases i with
   | zero =>
     simp at hy hk
     subst hy hk
     exact h.1
   | succ i=>exact h2 i y k (by simpa using hy) (by simpa using hk)
 | [],_::_,h=>h.elim
 | _::_,[],h=>h.elim
def EPPost (sc:List Lp.Tb) (f:Fr) (xs:List Lp.X) (w:World) (e:Ending) (w':World):Prop :=
 Below w.heap.size w w'∧if firstV sc f xs=0 then ∃ Ao co,e=.returned (.tuple #[.slice Ao xs.length co,.int .i64 0])∧RdsV w' Ao (xs.map fun x=>(fev sc f x).1)
  else e=.returned (.tuple #[.slice none 0 0,.int .i64 (firstV sc f xs)])
theorem eparts_yes {sc:List Lp.Tb} {f:Fr} {xs:List Lp.X} {w w':World} {A1:Option Addr} {n c1 B:Nat} (hn:n=xs.length) (hq:firstV sc f xs=0) (hb:Below w.heap.size w w') (hown:w'.ownsRow B 31 4 (.slice A1 n c1) n (Lp.vv (xs.map fun x=>(fev sc f x).1))) :
 EPPost sc f xs w (.returned (.tuple #[.slice A1 n c1,.int .i64 0])) w':=by
 subst hn
 refine ⟨hb, ?_⟩
 rw [if_pos hq]
 exact ⟨A1,c1,rfl,Rds.own hown⟩
theorem eparts_no {sc:List Lp.Tb} {f:Fr} {xs:List Lp.X} {w w':World} {E:Int} (hE:E≠0) (hq:firstV sc f xs=E) (hb:Below w.heap.size w w'):EPPost sc f xs w (.returned (.tuple #[.slice none 0 0,.int .i64 E])) w':=by
 subst hq
 refine ⟨hb, ?_⟩
 rw [if_neg hE]
theorem valInfo:(Tryz.prog.info? 31).map (fun i=>(i.zero,i.size,i.bytes))=some (some (.agg #[.int .u8 0,.int .i64 0,.string ⟨#[]⟩,.bool false]),4,40):=by kernel_rfl
theorem eparts_any (sc:List Lp.Tb) (f:Fr) (xs:List Lp.X) (gs:List Nat) (S:Nat→Prop) (g:Nat) (op:List UInt8) (kd:Int) (v:Lp.V) (a:Int) (A:Option Addr) (c:Nat) (w:World) (hF:f.At w) (hn:xs.length≤10)
 (hg:w.heap[g]? = some (.cells (ndv op kd v a A xs.length c) 66 (0,0))) (hp:Prts S w A gs) (hnt:NTs S w sc xs gs) (hE:∀ x∈xs,EvOk sc f x) :
 Calls Tryz.prog 83 #[f.val,ptr g] w (EPPost sc f xs w):=by
 obtain ⟨iT,hiT,hz0,hz1,hz2⟩:=info_parts valInfo
 obtain ⟨hlen,hat⟩:=hnt.both
 obtain ⟨b,off,rfl, -,hp⟩:=hp
 have hb0:Below w.heap.size w (w.alloc (.cells #[f.r.val,.slice f.A f.R.length f.c,.bool f.g] 105)):=ba (Below.refl _ _) _
 have hx0:=heap_alloc_new w (.cells #[f.r.val,.slice f.A f.R.length f.c,.bool f.g] 105)
 have H0:=κ (ι (hF.below hb0) (ι hb0 hx0))
 have HP:=κ (fun j u hu=>cell_belo (hp j u hu) hb0)
 have HN:=κ (fun i x k h1 h2=>(hat i x k h1 h2).below hb0)
 have HB:=κ hE
 have hcg:=β (box_below hg hb0)
 simp only [ndv] at hcg
 have hnI:(xs.length:Int)≤10:=by omega
 clear hF hb0 hx0 hp hat hE hg hnt
 obtain ⟨fr,hfr⟩:∃ u,u=f.r.val:=⟨_,rfl⟩
 unfold Fr.val
 rw [←hfr] at H0 hcg HP HN ⊢
 have HFR:=κ hfr
 clear hfr
 unfold ptr at *
 go_enter Tryz.func83,Tryz.ntmps83
 go_wp2_with fail
 generalize (w.alloc (.cells #[fr,.slice f.A f.R.length f.c,.bool f.g] 105))=W0 at *
 clear hcg
 go_loopw [6,8,9,10,16] (fun s6 _ _ _ s16 wr=>∃ (i:Nat) (A1:Option Addr) (c1:Nat),i≤xs.length∧s16=.int .i64 i∧s6=.slice A1 i c1∧wr.ownsRow W0.heap.size 31 4 (.slice A1 i c1) i (Lp.vv ((xs.take i).map fun x=>(fev sc f x).1))∧firstV sc f (xs.take i)=0∧Below W0.heap.size W0 wr) (fun _ _ _ _ s16 _=>xs.length-(intOf s16).toNat)
 case atStart=>exact ⟨0,none,0,Nat.zero_le _,rfl,rfl,World.ownsRow_nil _ _ _ _,rfl,Below.refl _ _⟩
 case round =>
  obtain ⟨i,A1,c1,hi,rfl,rfl,hown,hfe,hb⟩:=hrel
  by_cases hlt:i<xs.length
  ·have hT1:xs.take (i+1)=xs.take i++[xs[i]]:=List.take_succ_eq_append_getElem hlt
   have hgi:gs[i]? = some (gs[i]'(by omega)):=List.getElem?_eq_getElem _
   have hcell:=cell_belo (HP.out i _ (by rw [List.getElem?_map,hgi];rfl)) hb
   have hnx:=(HN.out i _ _ (List.getElem?_eq_getElem hlt) hgi).below hb
   have hC:=HB.out _ (List.getElem_mem hlt) _ wr _ hnx (H0.out.1.below hb)
   have HPre:=κ (fun (h:firstV sc f (xs.take (i+1))≠0)=>(show firstV sc f xs=firstV sc f (xs.take (i+1)) by
    have:=firstV_pre sc f (xs.take (i+1)) (xs.drop (i+1)) h
    rwa [List.take_append_drop] at this))
   have hFE:=firstV_snoc sc f xs[i] _ hfe
   rw [←hT1] at hFE
   have HT1:=κ hT1
   have hbx:=β (box_below H0.out.2.2 hb)
   generalize (xs[i])=x at *
   generalize (gs[i]'(by omega))=gx at *
   rw [show Lp.evalX sc x f.row f.rows=fev sc f x from rfl] at hC
   unfold Fr.val ptr at hC
   rw [←HFR.out] at hC
   have HC:=κ hC
   have HFE:=κ hFE
   have HW:=κ (ι hown hb)
   clear hT1 hC hfe hFE hown hb hnx hgi
   go_wp2_with fail
   refine HC.out.mono ?_
   rintro e w2 ⟨rfl,hb2⟩
   obtain ⟨⟨⟨k,vi,vs,vb⟩,E⟩,hp⟩:∃ p,fev sc f x=p:=⟨_,rfl⟩
   rw [hp] at HFE ⊢
   have HV:=κ hp
   unfold vv4
   clear hp
   by_cases h0:E=0
   ·subst h0
    have hown2:=(own_under HW.out.1 hb2)
    have hzw:W0.heap.size≤w2.heap.size:=Nat.le_trans HW.out.2.size hb2.size
    have HB2:=κ hb2
    clear hb2 HC
    go_wp2_with (at_builtin;refine wpList_app _ rfl (.tmp 29) (.tmp 31) _ rfl W0.heap.size 31 iT _ 4 40 Tryz.underlying23 hiT hz0 hz1 hz2 rfl (by omega) _ _ _ _ rfl ((hown2.alloc _).alloc _) _ 1 1 (Lp.vv [⟨k,vi,vs,vb⟩]) rfl rfl (rds_blk (Lp.vv [⟨k,vi,vs,vb⟩]) (heap_new2 w2 _ _)) (by simp [Value.oneCell',Lp.vv,Lp.V.cells]) (by simp only [maxLen];omega) (by omega) (by simp;omega) ?_;intro A2 c2 w4 hown4 hb4 _ hk4)
    have hbn:=(((HW.out.2.trans (HB2.out.mono HW.out.2.size)).alloc (by omega) (.cells #[.int .u8 k,.int .i64 vi,.string vs,.bool vb] 31)).alloc (by simp;omega) (.cells #[.int .u8 k,.int .i64 vi,.string vs,.bool vb] 31)).trans hb4
    have hown5:w4.ownsRow W0.heap.size 31 4 (.slice A2 (i+1) c2) (i+1) (Lp.vv ((xs.take (i+1)).map fun x=>(fev sc f x).1)):=by
     rw [HT1.out,List.map_append,Lp.vv_append]
     simp only [List.map_cons,List.map_nil,HV.out]
     exact hown4
    have HNX:=κ (ι hown5 hbn)
    clear hown2 hown4 hb4 hk4 hbn hown5
    go_wp2
    go_roundw
    case rel=>exact ⟨i+1,A2,c2,by omega,by go_num,rfl,HNX.out.1,HFE.out,HNX.out.2⟩
    case measure=>simp [intOf];omega
   ·have HR:=κ (eparts_no (w:=w) (w':=w2.alloc (.cells #[.int .u8 k,.int .i64 vi,.string vs,.bool vb] 31)) h0 ((HPre.out (by rw [HFE.out];exact h0)).trans HFE.out) (ba ((H0.out.2.1.trans (HW.out.2.mono H0.out.2.1.size)).trans (hb2.mono (Nat.le_trans H0.out.2.1.size HW.out.2.size))) _))
    have e1:(E==0)=false:=beq_eq_false_iff_ne.2 h0
    have e2:(E !=0)=true:=by rw [bne,e1];rfl
    clear h0 hb2
    go_wp2
    go_ret2
    exact HR.out
  ·have hi2:i=xs.length:=by omega
   rw [hi2,List.take_length] at hown hfe
   have HR:=κ (eparts_yes (w:=w) (A1:=A1) (c1:=c1) hi2 hfe (H0.out.2.1.trans (hb.mono H0.out.2.1.size)) (by rw [hi2];exact hown))
   clear hi2 hfe hown hb
   go_wp2
   go_ret2
   exact HR.out
end Go.Proofs.YtkfjmgmjbljnbaaGreatDoor
