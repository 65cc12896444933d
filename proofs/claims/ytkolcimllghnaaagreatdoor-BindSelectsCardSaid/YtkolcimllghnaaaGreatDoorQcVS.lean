/-
 Contracts. Conditions: those of each.
-/
import Derived.Test.YtkolcimllghnaaaGreatDoorQcVR
set_option maxRecDepth 100000
set_option maxHeartbeats 8000000
namespace Go.Proofs.YtkolcimllghnaaaGreatDoor
open Lp Go.Proofs.Tryz
open Go.RowKit
variable{T:ByteArray}{b g off:Nat}{u6 u7:Value}{W w:World}
def rcT (T:ByteArray):RC:=⟨2,0,0,⟨#[]⟩,false,⟨#[]⟩,T,none,0,0⟩
theorem wT (T:ByteArray) (w:World):Calls prog 41 #[(rcT T).val] w λe w'=>e=.returned (.string T)/\Below w w w':=by
 have HB:=κ (show Below w w (w.alloc (.cells #[.int .u8 2,.int .u8 0,.int .i64 0,(),false,(),T,.slice none 0 0] 60)) from ρ);simp only [RC.val,rcT];go_enter func41,ntmps41;go_wp2;go_ret;exact ph
theorem qJ (T:ByteArray) (w0 W:World) (hb:Below w0 w0 W):Calls prog 41 #[(rcT T).val] W λe w'=>e=.returned (.string T)/\Below w0 w0 w' :=
 (wT T W).mono λ_ _ ⟨h1,h2⟩=>⟨h1,hb.trans (h2.mono hb.size)⟩
theorem Tq (w:World):Calls prog 41 #[(rc0 6 aJ).val] w λe w'=>e=.returned (.string rP)/\Below w w w':=by
 have HB:=κ (show Below w w (w.alloc (.cells #[.int .u8 6,.int .u8 0,.int .i64 0,(),false,(),.string ⟨#[67,79,85,78,84]⟩,.slice none 0 0] 60)) from ρ);simp only [RC.val,rc0,aJ];go_enter func41,ntmps41;go_wp2;go_ret;exact ph
theorem Ju (k i:Int) (s:ZS) (b:Bool) (w:World) (hi:inR i) (hs:s.length<=1000000):Calls prog 41 #[(rcL k i s b).val] w λe w'=>e=.returned (.string (yB k i s b))/\Below w w w':=by
 have hb0:=IN;have hs2:(s:ByteArray).size<=1000000:=by show s.toArray.size<=_;rw [List.size_toArray];exact hs
 have HL:=κ (λW=>Wc k i s b W hi hs2);have hsz:=Hi k i s b hi hs2;obtain ⟨T,hTT⟩:∃ T:ByteArray,T=⟨(Lp.lit ⟨k,i,⟨s.toArray⟩,b⟩).toArray⟩:=da;rw [<-hTT] at HL hsz;have HTT:=κ hTT;have HB:=se;simp only [RC.val,rcL];clear hTT hi hs hs2 hb0;generalize (s:ByteArray)=sb at *
 by_cases h1:k=1
 ·have e1:(k==1)=true:=beq_iff_eq.2 h1
  by_cases h2:i<0
  ·have HE:=κ (Hk HTT.o h1 h2);clear h1;go_enter func41,ntmps41;go_wp2_with fail;refine (HL.o _).mono ?_;rintro e w' ⟨rfl,hb⟩;have HB2:=ut;clear hb;go_wp2;go_ret;exact KH
  ·have HE:=κ (sS HTT.o (λh=>h2 h.2));clear h1;go_enter func41,ntmps41;go_wp2_with fail;refine (HL.o _).mono ?_;rintro e w' ⟨rfl,hb⟩;have HB2:=ut;clear hb;go_wp2;go_ret;exact KH
 ·have e1:(k==1)=false:=η h1;have HE:=κ (sS HTT.o (λh=>h1 h.1));clear h1;go_enter func41,ntmps41;go_wp2_with fail;refine (HL.o _).mono ?_;rintro e w' ⟨rfl,hb⟩;have HB2:=ut;clear hb;go_wp2;go_ret;exact KH
def TCell (w:World) (b off:Nat) (T:ByteArray):Prop :=
 w.cell? ⟨b,off,none⟩=some (.int .u8 2)/\w.cell? ⟨b,off+1,none⟩=some (.int .u8 0)/\w.cell? ⟨b,off+2,none⟩=some (.int .i64 0)/\w.cell? ⟨b,off+3,none⟩=some (.string ⟨#[]⟩)/\w.cell? ⟨b,off+4,none⟩=some (.bool false)/\w.cell? ⟨b,off+5,none⟩=some (.string ⟨#[]⟩)/\w.cell? ⟨b,off+6,none⟩=some (.string T)/\w.cell? ⟨b,off+7,none⟩=some (.slice none 0 0)
theorem TCell.below {w':World} (h:TCell w b off T) (hb:Below w w w'):TCell w' b off T :=
 ⟨bW h.1 hb,bW h.2.1 hb,bW h.2.2.1 hb,bW h.2.2.2.1 hb,bW h.2.2.2.2.1 hb,bW h.2.2.2.2.2.1 hb,bW h.2.2.2.2.2.2.1 hb,bW h.2.2.2.2.2.2.2 hb⟩
theorem oY {A:ZT} {Ts:List ByteArray} (h:Rds w A (rcs (Ts.map rcT))) {i:Nat} (hi:i<Ts.length):∃ b off,A=some ⟨b,off,none⟩/\TCell w b (off+i*8) Ts[i]:=by
 obtain ⟨b,off,hA,q0,q1,q2,q3,q4,q5,q6,q7⟩:=iW h (i:=i) IA;simp only [List.getElem_map,rcT] at q0 q1 q2 q3 q4 q5 q6 q7;exact ⟨b,off,hA,q0,q1,q2,q3,q4,q5,q6,q7⟩
theorem wS (hb:Below w w W) (h6:w.cell? ⟨g,6,none⟩=some u6) (h7:w.cell? ⟨g,7,none⟩=some u7) (h:TCell w b off T) :
 W.cell? ⟨g,6,none⟩=some u6/\W.cell? ⟨g,7,none⟩=some u7/\W.cell? ⟨b,off,none⟩=some (.int .u8 2)/\W.cell? ⟨b,off+1,none⟩=some (.int .u8 0)/\W.cell? ⟨b,off+2,none⟩=some (.int .i64 0)/\W.cell? ⟨b,off+3,none⟩=some (.string ⟨#[]⟩)/\W.cell? ⟨b,off+4,none⟩=some (.bool false)/\W.cell? ⟨b,off+5,none⟩=some (.string ⟨#[]⟩)/\W.cell? ⟨b,off+6,none⟩=some (.string T)/\W.cell? ⟨b,off+7,none⟩=some (.slice none 0 0):=⟨bW h6 hb,bW h7 hb,h.below hb⟩
theorem aBT (op:ZS) (hop:op.length<=10) (T:ByteArray) (hT:T.size<=50000000) (A:ZT) (c:Nat) (w:World) (h:Rds w A (rcs [rcT T])) :
 Calls prog 41 #[.agg #[.int .u8 3,.int .u8 0,.int .i64 0,(),false,(),op,.slice A 1 c]] w λe w'=>e=.returned (.string (⟨#[40]⟩++⟨op.toArray⟩++⟨#[32]⟩++T++⟨#[41]⟩))/\Below w w w':=by
 have hb0:Below w w (w.alloc (.cells #[.int .u8 3,.int .u8 0,.int .i64 0,(),false,(),op,.slice A 1 c] 60)):=ρ;obtain ⟨b,off,hA,ht⟩:=KK;subst hA;have hc:=β (heap_alloc_new w (.cells #[.int .u8 3,.int .u8 0,.int .i64 0,(),false,(),op,.slice (some ⟨b,off,none⟩) 1 c] 60));have hsO:=KJ
 obtain ⟨Y1,y1,z1,A1⟩:=dG ⟨#[40]⟩ op (ν _) hsO am;obtain ⟨Y2,y2,z2,A2⟩:=sj;obtain ⟨Y3,y3,z3,A3⟩:=dG Y2 T z2 hT am;obtain ⟨Y4,y4,z4,A4⟩:=dG Y3 ⟨#[41]⟩ z3 (ν _) am;rw [y1,y2,y3,y4];have HB:=se;clear hb0 h hsO y1 y2 y3 y4 z1 z2 z3 z4 hT hop;simp only [Nat.zero_mul,Nat.add_zero,List.getElem_cons_zero] at ht;have HX:=κ (qJ T (w.alloc (.cells #[.int .u8 3,.int .u8 0,.int .i64 0,(),false,(),op,.slice (some ⟨b,off,none⟩) 1 c] 60)));generalize (op:ByteArray)=O at *;have c0:=hc 0;have c6:=hc 6;have c7:=hc 7;simp only [γ,δ,ε] at c0 c6 c7;have t0:=ht;obtain ⟨q0,q1,q2,q3,q4,q5,q6,q7⟩:=ht;clear hc;go_enter func41,ntmps41;go_wp2_with fail
 go_region_held3 (λw'=>w'.cell? ⟨w,6,none⟩=some (.string O)/\w'.cell? ⟨w,7,none⟩=some (.slice (some ⟨b,off,none⟩) 1 c)/\w'.cell? ⟨b,off,none⟩=some (.int .u8 2)/\w'.cell? ⟨b,off+1,none⟩=some (.int .u8 0)/\w'.cell? ⟨b,off+2,none⟩=some (.int .i64 0)/\w'.cell? ⟨b,off+3,none⟩=some (.string ⟨#[]⟩)/\w'.cell? ⟨b,off+4,none⟩=some (.bool false)/\w'.cell? ⟨b,off+5,none⟩=some (.string ⟨#[]⟩)/\w'.cell? ⟨b,off+6,none⟩=some (.string T)/\w'.cell? ⟨b,off+7,none⟩=some (.slice none 0 0))
  (first|go_keep|exact hd2)
  ((go_at_call 41;refine (HX.o _ sk).mono ?_;rintro e w2 ⟨rfl,hb⟩;have hd2:=wS hb c6 c7 t0))
 all_goals
  go_wp2;go_ret;exact sd
theorem wR {T2:ByteArray} (hb:Below w w W) (h6:w.cell? ⟨g,6,none⟩=some u6) (h7:w.cell? ⟨g,7,none⟩=some u7) (h:TCell w b off T) (h2:TCell w b (off+8) T2) :
 W.cell? ⟨g,6,none⟩=some u6/\W.cell? ⟨g,7,none⟩=some u7/\(W.cell? ⟨b,off,none⟩=some (.int .u8 2)/\W.cell? ⟨b,off+1,none⟩=some (.int .u8 0)/\W.cell? ⟨b,off+2,none⟩=some (.int .i64 0)/\W.cell? ⟨b,off+3,none⟩=some (.string ⟨#[]⟩)/\W.cell? ⟨b,off+4,none⟩=some (.bool false)/\W.cell? ⟨b,off+5,none⟩=some (.string ⟨#[]⟩)/\W.cell? ⟨b,off+6,none⟩=some (.string T)/\W.cell? ⟨b,off+7,none⟩=some (.slice none 0 0))/\W.cell? ⟨b,off+8,none⟩=some (.int .u8 2)/\W.cell? ⟨b,off+8+1,none⟩=some (.int .u8 0)/\W.cell? ⟨b,off+8+2,none⟩=some (.int .i64 0)/\W.cell? ⟨b,off+8+3,none⟩=some (.string ⟨#[]⟩)/\W.cell? ⟨b,off+8+4,none⟩=some (.bool false)/\W.cell? ⟨b,off+8+5,none⟩=some (.string ⟨#[]⟩)/\W.cell? ⟨b,off+8+6,none⟩=some (.string T2)/\W.cell? ⟨b,off+8+7,none⟩=some (.slice none 0 0):=⟨bW h6 hb,bW h7 hb,h.below hb,h2.below hb⟩
theorem Tt (op:ZS) (hop:op.length<=10) (T:ByteArray) (hT:T.size<=50000000) (A:ZT) (c:Nat) (w:World) (h:Rds w A (rcs [rcT T])) :
 Calls prog 41 #[.agg #[.int .u8 6,.int .u8 0,.int .i64 0,(),false,(),op,.slice A 1 c]] w λe w'=>e=.returned (.string (⟨op.toArray⟩++⟨#[40]⟩++T++⟨#[41]⟩))/\Below w w w':=by
 have hb0:Below w w (w.alloc (.cells #[.int .u8 6,.int .u8 0,.int .i64 0,(),false,(),op,.slice A 1 c] 60)):=ρ;obtain ⟨b,off,hA,ht⟩:=KK;subst hA;have hc:=β (heap_alloc_new w (.cells #[.int .u8 6,.int .u8 0,.int .i64 0,(),false,(),op,.slice (some ⟨b,off,none⟩) 1 c] 60));have hsO:=KJ
 obtain ⟨Y1,y1,z1,A1⟩:=dG op ⟨#[40]⟩ hsO (ν _) am;obtain ⟨Y2,y2,z2,A2⟩:=dG Y1 T z1 hT am;obtain ⟨Y3,y3,z3,A3⟩:=dG Y2 ⟨#[41]⟩ z2 (ν _) am;rw [y1,y2,y3];have HB:=se;clear hb0 h hsO y1 y2 y3 z1 z2 z3 hT hop;simp only [Nat.zero_mul,Nat.add_zero,List.getElem_cons_zero] at ht;have HX:=κ (qJ T (w.alloc (.cells #[.int .u8 6,.int .u8 0,.int .i64 0,(),false,(),op,.slice (some ⟨b,off,none⟩) 1 c] 60)));generalize (op:ByteArray)=O at *;have c0:=hc 0;have c6:=hc 6;have c7:=hc 7;simp only [γ,δ,ε] at c0 c6 c7;have t0:=ht;obtain ⟨q0,q1,q2,q3,q4,q5,q6,q7⟩:=ht;clear hc;go_enter func41,ntmps41;go_wp2_with fail
 go_region_held3 (λw'=>w'.cell? ⟨w,6,none⟩=some (.string O)/\w'.cell? ⟨w,7,none⟩=some (.slice (some ⟨b,off,none⟩) 1 c)/\w'.cell? ⟨b,off,none⟩=some (.int .u8 2)/\w'.cell? ⟨b,off+1,none⟩=some (.int .u8 0)/\w'.cell? ⟨b,off+2,none⟩=some (.int .i64 0)/\w'.cell? ⟨b,off+3,none⟩=some (.string ⟨#[]⟩)/\w'.cell? ⟨b,off+4,none⟩=some (.bool false)/\w'.cell? ⟨b,off+5,none⟩=some (.string ⟨#[]⟩)/\w'.cell? ⟨b,off+6,none⟩=some (.string T)/\w'.cell? ⟨b,off+7,none⟩=some (.slice none 0 0))
  (first|go_keep|exact hd2)
  ((go_at_call 41;refine (HX.o _ sk).mono ?_;rintro e w2 ⟨rfl,hb⟩;have hd2:=wS hb c6 c7 t0))
 all_goals
  go_wp2;go_ret;exact sd
theorem Tp (n:Bool) (T:ByteArray) (hT:T.size<=50000000) (A:ZT) (c:Nat) (w:World) (h:Rds w A (rcs [rcT T])) :
 Calls prog 41 #[.agg #[.int .u8 5,.int .u8 0,.int .i64 0,(),false,(),.string ⟨(if n then fG else []).toArray⟩,.slice A 1 c]] w λe w'=>e=.returned (.string (⟨#[40]⟩++T++⟨(32::(isN n++[41])).toArray⟩))/\Below w w w':=by
 have key:∀ (op:ZS) (bb:Bool) (V:ByteArray),(op==[78,79,84])=bb->V=(if bb then ⟨#[32,73,83,32,78,79,84,32,78,85,76,76,41]⟩ else ⟨#[32,73,83,32,78,85,76,76,41]⟩)->Calls prog 41 #[.agg #[.int .u8 5,.int .u8 0,.int .i64 0,(),false,(),op,.slice A 1 c]] w λe w'=>e=.returned (.string (⟨#[40]⟩++T++V))/\Below w w w':=by
  intro op bb V ho hV;have hb0:Below w w (w.alloc (.cells #[.int .u8 5,.int .u8 0,.int .i64 0,(),false,(),op,.slice A 1 c] 60)):=ρ;obtain ⟨b,off,hA,ht⟩:=KK;subst hA;have hc:=β (heap_alloc_new w (.cells #[.int .u8 5,.int .u8 0,.int .i64 0,(),false,(),op,.slice (some ⟨b,off,none⟩) 1 c] 60));have HB:=se;simp only [Nat.zero_mul,Nat.add_zero,List.getElem_cons_zero] at ht;obtain ⟨q0,q1,q2,q3,q4,q5,q6,q7⟩:=ht;obtain ⟨Y1,y1,z1,A1⟩:=dG ⟨#[40]⟩ T (ν _) hT am;clear hb0 h hT;cases bb
  all_goals
   simp only [φ,if_false,if_true] at hV;obtain ⟨Y2,y2,z2,A2⟩:=dG Y1 V (n:=20) z1 (by rw [hV];decide) am;rw [y1,y2];subst hV;clear y1 y2 z1 z2;go_enter func41,ntmps41;go_wp2_with fail;refine (wT T _).mono ?_;rintro e w2 ⟨rfl,hb⟩;have HQ:=ut;clear hb;go_wp2;go_ret;exact ⟨rfl,HQ.o⟩
 cases n
 ·exact key [] false _ am rfl
 ·exact key fG true _ am rfl
theorem Tr (op:ZS) (hop:op.length<=10) (T T2:ByteArray) (hT:T.size<=50000000) (hT2:T2.size<=50000000) (A:ZT) (c:Nat) (w:World) (h:Rds w A (rcs [rcT T,rcT T2])) :
 Calls prog 41 #[.agg #[.int .u8 4,.int .u8 0,.int .i64 0,(),false,(),op,.slice A 2 c]] w λe w'=>e=.returned (.string (⟨#[40]⟩++T++⟨#[32]⟩++⟨op.toArray⟩++⟨#[32]⟩++T2++⟨#[41]⟩))/\Below w w w':=by
 have hb0:Below w w (w.alloc (.cells #[.int .u8 4,.int .u8 0,.int .i64 0,(),false,(),op,.slice A 2 c] 60)):=ρ;obtain ⟨b,off,hA,ht⟩:=oY (Ts:=[T,T2]) (h.below hb0) (i:=0) aa;obtain ⟨b',off',hA',ht2⟩:=oY (Ts:=[T,T2]) (h.below hb0) (i:=1) aa;subst hA;simp only [Option.some.injEq,Addr.mk.injEq,and_true] at hA';obtain ⟨rfl,rfl⟩:=hA';have hc:=β (heap_alloc_new w (.cells #[.int .u8 4,.int .u8 0,.int .i64 0,(),false,(),op,.slice (some ⟨b,off,none⟩) 2 c] 60));have hsO:=KJ
 obtain ⟨Y1,y1,z1,A1⟩:=dG ⟨#[40]⟩ T (ν _) hT am;obtain ⟨Y2,y2,z2,A2⟩:=sj;obtain ⟨Y3,y3,z3,A3⟩:=dG Y2 op z2 hsO am;obtain ⟨Y4,y4,z4,A4⟩:=dG Y3 ⟨#[32]⟩ z3 (ν _) am;obtain ⟨Y5,y5,z5,A5⟩:=dG Y4 T2 z4 hT2 am;obtain ⟨Y6,y6,z6,A6⟩:=dG Y5 ⟨#[41]⟩ z5 (ν _) am;rw [y1,y2,y3,y4,y5,y6];have HB:=se;clear hb0 h hsO y1 y2 y3 y4 y5 y6 z1 z2 z3 z4 z5 z6 hT hT2 hop;simp only [Nat.zero_mul,Nat.one_mul,Nat.add_zero,List.getElem_cons_zero,List.getElem_cons_succ] at ht ht2;have HX:=κ (qJ T (w.alloc (.cells #[.int .u8 4,.int .u8 0,.int .i64 0,(),false,(),op,.slice (some ⟨b,off,none⟩) 2 c] 60)));have HX2:=κ (qJ T2 (w.alloc (.cells #[.int .u8 4,.int .u8 0,.int .i64 0,(),false,(),op,.slice (some ⟨b,off,none⟩) 2 c] 60)));generalize (op:ByteArray)=O at *;have c0:=hc 0;have c6:=hc 6;have c7:=hc 7;simp only [γ,δ,ε] at c0 c6 c7;have t0:=ht;have t2:=ht2;obtain ⟨q0,q1,q2,q3,q4,q5,q6,q7⟩:=ht;obtain ⟨r0,r1,r2,r3,r4,r5,r6,r7⟩:=ht2;clear hc;go_enter func41,ntmps41;go_wp2_with fail
 go_region_held3 (λw'=>w'.cell? ⟨w,6,none⟩=some (.string O)/\w'.cell? ⟨w,7,none⟩=some (.slice (some ⟨b,off,none⟩) 2 c)/\(w'.cell? ⟨b,off,none⟩=some (.int .u8 2)/\w'.cell? ⟨b,off+1,none⟩=some (.int .u8 0)/\w'.cell? ⟨b,off+2,none⟩=some (.int .i64 0)/\w'.cell? ⟨b,off+3,none⟩=some (.string ⟨#[]⟩)/\w'.cell? ⟨b,off+4,none⟩=some (.bool false)/\w'.cell? ⟨b,off+5,none⟩=some (.string ⟨#[]⟩)/\w'.cell? ⟨b,off+6,none⟩=some (.string T)/\w'.cell? ⟨b,off+7,none⟩=some (.slice none 0 0))/\w'.cell? ⟨b,off+8,none⟩=some (.int .u8 2)/\w'.cell? ⟨b,off+8+1,none⟩=some (.int .u8 0)/\w'.cell? ⟨b,off+8+2,none⟩=some (.int .i64 0)/\w'.cell? ⟨b,off+8+3,none⟩=some (.string ⟨#[]⟩)/\w'.cell? ⟨b,off+8+4,none⟩=some (.bool false)/\w'.cell? ⟨b,off+8+5,none⟩=some (.string ⟨#[]⟩)/\w'.cell? ⟨b,off+8+6,none⟩=some (.string T2)/\w'.cell? ⟨b,off+8+7,none⟩=some (.slice none 0 0))
  (first|go_keep|exact hd2)
  ((first
    | (go_at_call_of 41 (Value.agg #[.int .u8 2,.int .u8 0,.int .i64 0,(),false,(),T,.slice none 0 0]);refine (HX.o _ sk).mono ?_;rintro e w2 ⟨rfl,hb⟩;have hd2:=wR hb c6 c7 t0 t2)
    | (go_at_call_of 41 (Value.agg #[.int .u8 2,.int .u8 0,.int .i64 0,(),false,(),T2,.slice none 0 0]);refine (HX2.o _ sk).mono ?_;rintro e w2 ⟨rfl,hb⟩;have hd2:=wR hb c6 c7 t0 t2)))
 all_goals
  go_wp2;go_ret;exact sd
theorem Yu (S:Lp.SS):(((S.map (·.2)).bind (aD Lp.rG)).bind bB).map (·.2)=(S.bind st2).map (·.2)/\∀ q',S.bind st2=some q'->∃ q,S=some q/\q'.1=q.1:=by
 cases S with
 | none=>exact ⟨rfl,λq' h=>ao⟩
 | some q =>
   simp only [Option.map_some,Option.bind_some];unfold st2 oO;rcases h1:aD Lp.rG q.2 with _|r1
   ·exact KV
   ·simp only [Option.bind_some];rcases h2:bB r1 with _|p
    ·exact KV
    ·exact KW
theorem Nx (S:Lp.SS) (h0:lC wG (S.map (·.2))=false):S.map (·.2)=(S.bind st3).map (·.2)/\∀ q',S.bind st3=some q'->∃ q,S=some q/\q'.1={ q.1 with on:=none }:=by
 cases S with
 | none=>exact ⟨rfl,λq' h=>ao⟩
 | some q =>
   have h1:isF wG q.2=false:=h0;simp only [Option.map_some,Option.bind_some];unfold st3 onF;rw [h1];exact KW
theorem Bz (S:Lp.SS) (h0:lC wG (S.map (·.2))=true):((((((S.map (·.2)).map List.tail).bind bB).map (·.2)).bind (aD Lp.wOn)).bind (pX 1 0)).map (·.2)=(S.bind st3).map (·.2)/\∀ q',S.bind st3=some q'->∃ q p,S=some q/\(((((S.map (·.2)).map List.tail).bind bB).map (·.2)).bind (aD Lp.wOn)).bind (pX 1 0)=some p/\q'.1={ q.1 with on:=some p.1 }:=by
 cases S with
 | none=>exact ⟨rfl,λq' h=>ao⟩
 | some q =>
   have h1:isF wG q.2=true:=h0;simp only [Option.map_some,Option.bind_some];unfold st3 onF;rw [h1];simp only [if_true];rcases h2:bB q.2.tail with _|p2
   ·exact KV
   ·simp only [Option.map_some,Option.bind_some];rcases h3:aD Lp.wOn p2.2 with _|r3
    ·exact KV
    ·simp only [Option.bind_some];rcases h4:pX 1 0 r3 with _|p
     ·exact KV
     ·exact KX
theorem aJS (S:Lp.SS):whO (S.map (·.2))=(S.bind st4).map (·.2)/\∀ q',S.bind st4=some q'->∃ q p,S=some q/\(S.map (·.2)).bind whF=some p/\q'.1={ q.1 with wh:=p.1 }:=by
 cases S with
 | none=>exact ⟨rfl,λq' h=>ao⟩
 | some q =>
   unfold whO;simp only [Option.map_some,Option.bind_some];unfold st4;rcases h1:whF q.2 with _|p
   ·exact KV
   ·exact KX
theorem Ol {α:Type} (w:ZS) (f:ZW->Option (α×ZW)) (u:Sel->List α->Sel) (S:Lp.SS) (h0:lC w (S.map (·.2))=false):S.map (·.2)=(S.bind λq=>(byF w f q.2).map λa=>(u q.1 a.1,a.2)).map (·.2)/\∀ q',(S.bind λq=>(byF w f q.2).map λa=>(u q.1 a.1,a.2))=some q'->∃ q,S=some q/\q'.1=u q.1 []:=by
 cases S with
 | none=>exact ⟨rfl,λq' h=>ao⟩
 | some q =>
   have h1:isF w q.2=false:=h0;simp only [Option.map_some,Option.bind_some];unfold byF;rw [h1];exact KW
theorem Mb {α:Type} (w:ZS) (f:ZW->Option (α×ZW)) (u:Sel->List α->Sel) (S:Lp.SS) (h0:lC w (S.map (·.2))=true):((((S.map (·.2)).map List.tail).bind (aD wBy)).bind (dO f 8)).map (·.2)=(S.bind λq=>(byF w f q.2).map λa=>(u q.1 a.1,a.2)).map (·.2)/\∀ q',(S.bind λq=>(byF w f q.2).map λa=>(u q.1 a.1,a.2))=some q'->∃ q p,S=some q/\(((S.map (·.2)).map List.tail).bind (aD wBy)).bind (dO f 8)=some p/\q'.1=u q.1 p.1:=by
 cases S with
 | none=>exact ⟨rfl,λq' h=>ao⟩
 | some q =>
   have h1:isF w q.2=true:=h0;simp only [Option.map_some,Option.bind_some];unfold byF;rw [h1];simp only [if_true];rcases h2:aD wBy q.2.tail with _|r2
   ·exact KV
   ·simp only [Option.bind_some];rcases h3:dO f 8 r2 with _|p
    ·exact KV
    ·exact KX
theorem Xx (S:Lp.SS) (h0:lC oW (S.map (·.2))=false):S.map (·.2)=(S.bind st7).map (·.2)/\∀ q',S.bind st7=some q'->∃ q,S=some q/\q'.1={ q.1 with limit := -1 }:=by
 cases S with
 | none=>exact ⟨rfl,λq' h=>ao⟩
 | some q =>
   have h1:isF oW q.2=false:=h0;simp only [Option.map_some,Option.bind_some];unfold st7 uH;rw [h1];exact KW
theorem sT (S:Lp.SS) (h0:lC oW (S.map (·.2))=true):(((S.map (·.2)).map List.tail).bind rD).map (·.2)=(S.bind st7).map (·.2)/\∀ q',S.bind st7=some q'->∃ q p,S=some q/\((S.map (·.2)).map List.tail).bind rD=some p/\q'.1={ q.1 with limit:=p.1 }:=by
 cases S with
 | none=>exact ⟨rfl,λq' h=>ao⟩
 | some q =>
   have h1:isF oW q.2=true:=h0;simp only [Option.map_some,Option.bind_some];unfold st7 uH;rw [h1];simp only [if_true];rcases h2:rD q.2.tail with _|p
   ·exact KV
   ·exact KX
theorem Ny (o:Option ZW) (h0:lC wAs ((o.bind (pX 1 0)).map (·.2))=false):(o.bind (pX 1 0)).map (·.2)=(o.bind dA).map (·.2)/\∀ p,(o.bind dA).map (·.1)=some p->(o.bind (pX 1 0)).map (·.1)=some p.1/\p.2=[]:=by
 cases o with
 | none=>exact ⟨rfl,λp h=>ao⟩
 | some l =>
   rw [Option.bind_some] at h0 |-;rw [Option.bind_some];unfold dA;rcases h1:pX 1 0 l with _|⟨x,r⟩
   ·exact KY
   ·rw [h1] at h0;have h2:isF wAs r=false:=h0;simp only [h2,φ,if_false];exact KZ
theorem Hs (o:Option ZW) (h0:lC wAs ((o.bind (pX 1 0)).map (·.2))=true):((((o.bind (pX 1 0)).map (·.2)).map List.tail).bind bB).map (·.2)=(o.bind dA).map (·.2)/\∀ p,(o.bind dA).map (·.1)=some p->(o.bind (pX 1 0)).map (·.1)=some p.1/\∃ r,(((o.bind (pX 1 0)).map (·.2)).map List.tail).bind bB=some (p.2,r):=by
 cases o with
 | none=>exact ⟨rfl,λp h=>ao⟩
 | some l =>
   rw [Option.bind_some] at h0 |-;rw [Option.bind_some];unfold dA;rcases h1:pX 1 0 l with _|⟨x,r⟩
   ·exact KY
   ·rw [h1] at h0;have h2:isF wAs r=true:=h0;simp only [h2,if_true,Option.map_some,Option.bind_some];rcases h3:bB r.tail with _|⟨n,r3⟩
    ·exact KY
    ·exact ⟨rfl,λp h=>by injection h with h;subst h;exact ⟨rfl,r3,rfl⟩⟩
theorem Bq (o:Option ZW) (h0:lC wH ((o.bind (pX 1 0)).map (·.2))=true):((o.bind (pX 1 0)).map (·.2)).map List.tail=(o.bind bK).map (·.2)/\∀ p,(o.bind bK).map (·.1)=some p->(o.bind (pX 1 0)).map (·.1)=some p.1/\p.2=true:=by
 cases o with
 | none=>exact ⟨rfl,λp h=>ao⟩
 | some l =>
   rw [Option.bind_some] at h0 |-;rw [Option.bind_some];unfold bK;rcases h1:pX 1 0 l with _|⟨x,r⟩
   ·exact KY
   ·rw [h1] at h0;have h2:isF wH r=true:=h0;simp only [h2,if_true];exact KZ
theorem Gw (o:Option ZW) (b:Bool) (h0:lC wH ((o.bind (pX 1 0)).map (·.2))=false) (hb:lC Tj ((o.bind (pX 1 0)).map (·.2))=b):(if b then ((o.bind (pX 1 0)).map (·.2)).map List.tail else (o.bind (pX 1 0)).map (·.2))=(o.bind bK).map (·.2)/\∀ p,(o.bind bK).map (·.1)=some p->(o.bind (pX 1 0)).map (·.1)=some p.1/\p.2=false:=by
 cases o with
 | none=>subst hb;exact KY
 | some l =>
   rw [Option.bind_some] at h0 hb |-;rw [Option.bind_some];unfold bK;rcases h1:pX 1 0 l with _|⟨x,r⟩
   ·rw [h1] at hb;subst hb;exact KY
   ·rw [h1] at h0 hb;have h2:isF wH r=false:=h0;have h3:isF Tj r=b:=hb;simp only [h2,h3];cases b<;>exact ⟨rfl,λp h=>LA⟩
