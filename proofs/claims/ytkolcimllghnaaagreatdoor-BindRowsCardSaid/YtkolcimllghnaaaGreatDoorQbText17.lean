/-
 Contracts. Conditions: those of each.
-/
import Derived.Test.YtkolcimllghnaaaGreatDoorQbZE
import Derived.Test.YtkolcimllghnaaaGreatDoorQbRLitB
set_option maxRecDepth 100000
set_option maxHeartbeats 8000000
namespace Go.Proofs.YtkolcimllghnaaaGreatDoor
open Lp Go.Proofs.Tryz
open Go.RowKit
def rcT (T:ByteArray):RC:=⟨2,0,0,⟨#[]⟩,false,⟨#[]⟩,T,none,0,0⟩
theorem sS (T:ByteArray) (w:World):Calls prog 41 #[(rcT T).val] w fun e w'=>e=.returned (.string T)∧Below w.heap.size w w':=by
 have HB:=κ (show Below w.heap.size w (w.alloc (.cells #[.int .u8 2,.int .u8 0,.int .i64 0,.string ⟨#[]⟩,.bool false,.string ⟨#[]⟩,.string T,.slice none 0 0] 60)) from ρ)
 simp only [RC.val,rcT]
 go_enter func41,ntmps41
 go_wp2
 go_ret
 exact ⟨rfl,HB.out⟩
theorem nR (T:ByteArray) (w0 W:World) (hb:Below w0.heap.size w0 W):Calls prog 41 #[(rcT T).val] W fun e w'=>e=.returned (.string T)∧Below w0.heap.size w0 w' :=
 (sS T W).mono fun _ _ ⟨h1,h2⟩=>⟨h1,hb.trans (h2.mono hb.size)⟩
theorem Lo (w:World):Calls prog 41 #[(rc0 6 aU).val] w fun e w'=>e=.returned (.string ⟨xW.toArray⟩)∧Below w.heap.size w w':=by
 have HB:=κ (show Below w.heap.size w (w.alloc (.cells #[.int .u8 6,.int .u8 0,.int .i64 0,.string ⟨#[]⟩,.bool false,.string ⟨#[]⟩,.string ⟨#[67,79,85,78,84]⟩,.slice none 0 0] 60)) from ρ)
 simp only [RC.val,rc0,aU]
 go_enter func41,ntmps41
 go_wp2
 go_ret
 exact ⟨rfl,HB.out⟩
theorem Dp (k i:Int) (s:List UInt8) (b:Bool) (w:World) (hi:inR i) (hs:s.length≤1000000):Calls prog 41 #[(rcL k i s b).val] w fun e w'=>e=.returned (.string (uG k i ⟨s.toArray⟩ b))∧Below w.heap.size w w':=by
 have hb0:Below w.heap.size w (w.alloc (.cells #[.int .u8 1,.int .u8 k,.int .i64 i,.string ⟨s.toArray⟩,.bool b,.string ⟨#[]⟩,.string ⟨#[]⟩,.slice none 0 0] 60)):=ρ
 have hs2:(⟨s.toArray⟩:ByteArray).size≤1000000:=by show s.toArray.size≤_;rw [List.size_toArray];exact hs
 have HL:=κ (fun W=>Ns k i ⟨s.toArray⟩ b W hi hs2)
 have hsz:=Bt k i ⟨s.toArray⟩ b hi hs2
 obtain ⟨T,hTT⟩:∃ T:ByteArray,T=⟨(Lp.lit ⟨k,i,⟨s.toArray⟩,b⟩).toArray⟩:=⟨_,rfl⟩
 rw [←hTT] at HL hsz
 have HTT:=κ hTT
 have HB:=κ hb0
 simp only [RC.val,rcL]
 clear hTT hi hs hs2 hb0
 generalize (⟨s.toArray⟩:ByteArray)=sb at *
 by_cases h1:k=1
 ·have e1:(k==1)=true:=beq_iff_eq.2 h1
  by_cases h2:i<0
  ·have HE:=κ (Bu HTT.out h1 h2)
   clear h1
   go_enter func41,ntmps41
   go_wp2_with fail
   refine (HL.out _).mono ?_
   rintro e w' ⟨rfl,hb⟩
   have HB2:=κ (HB.out.trans (hb.mono HB.out.size))
   clear hb
   go_wp2
   go_ret
   exact ⟨congrArg (fun x=>Ending.returned (.string x)) HE.out,HB2.out⟩
  ·have HE:=κ (pO HTT.out (fun h=>h2 h.2))
   clear h1
   go_enter func41,ntmps41
   go_wp2_with fail
   refine (HL.out _).mono ?_
   rintro e w' ⟨rfl,hb⟩
   have HB2:=κ (HB.out.trans (hb.mono HB.out.size))
   clear hb
   go_wp2
   go_ret
   exact ⟨congrArg (fun x=>Ending.returned (.string x)) HE.out,HB2.out⟩
 ·have e1:(k==1)=false:=η h1
  have HE:=κ (pO HTT.out (fun h=>h1 h.1))
  clear h1
  go_enter func41,ntmps41
  go_wp2_with fail
  refine (HL.out _).mono ?_
  rintro e w' ⟨rfl,hb⟩
  have HB2:=κ (HB.out.trans (hb.mono HB.out.size))
  clear hb
  go_wp2
  go_ret
  exact ⟨congrArg (fun x=>Ending.returned (.string x)) HE.out,HB2.out⟩
def TCell (w:World) (b off:Nat) (T:ByteArray):Prop :=
 w.cell? ⟨b,off,none⟩=some (.int .u8 2)∧w.cell? ⟨b,off+1,none⟩=some (.int .u8 0)∧w.cell? ⟨b,off+2,none⟩=some (.int .i64 0)∧w.cell? ⟨b,off+3,none⟩=some (.string ⟨#[]⟩)∧w.cell? ⟨b,off+4,none⟩=some (.bool false)∧w.cell? ⟨b,off+5,none⟩=some (.string ⟨#[]⟩)∧w.cell? ⟨b,off+6,none⟩=some (.string T)∧w.cell? ⟨b,off+7,none⟩=some (.slice none 0 0)
theorem TCell.below {w w':World} {b off:Nat} {T:ByteArray} (h:TCell w b off T) (hb:Below w.heap.size w w'):TCell w' b off T :=
 ⟨aH h.1 hb,aH h.2.1 hb,aH h.2.2.1 hb,aH h.2.2.2.1 hb,aH h.2.2.2.2.1 hb,aH h.2.2.2.2.2.1 hb,aH h.2.2.2.2.2.2.1 hb,aH h.2.2.2.2.2.2.2 hb⟩
theorem mP {w:World} {A:Option Addr} {Ts:List ByteArray} (h:Rds w A (rcs (Ts.map rcT))) {i:Nat} (hi:i<Ts.length):∃ b off,A=some ⟨b,off,none⟩∧TCell w b (off+i*8) Ts[i]:=by
 obtain ⟨b,off,hA,q0,q1,q2,q3,q4,q5,q6,q7⟩:=lL h (i:=i) (by simpa using hi)
 simp only [List.getElem_map,rcT] at q0 q1 q2 q3 q4 q5 q6 q7
 exact ⟨b,off,hA,q0,q1,q2,q3,q4,q5,q6,q7⟩
theorem sR {w W:World} {g b off:Nat} {u6 u7:Value} {T:ByteArray} (hb:Below w.heap.size w W) (h6:w.cell? ⟨g,6,none⟩=some u6) (h7:w.cell? ⟨g,7,none⟩=some u7) (h:TCell w b off T) :
 W.cell? ⟨g,6,none⟩=some u6∧W.cell? ⟨g,7,none⟩=some u7∧W.cell? ⟨b,off,none⟩=some (.int .u8 2)∧W.cell? ⟨b,off+1,none⟩=some (.int .u8 0)∧W.cell? ⟨b,off+2,none⟩=some (.int .i64 0)∧W.cell? ⟨b,off+3,none⟩=some (.string ⟨#[]⟩)∧W.cell? ⟨b,off+4,none⟩=some (.bool false)∧W.cell? ⟨b,off+5,none⟩=some (.string ⟨#[]⟩)∧W.cell? ⟨b,off+6,none⟩=some (.string T)∧W.cell? ⟨b,off+7,none⟩=some (.slice none 0 0):=⟨aH h6 hb,aH h7 hb,h.below hb⟩
theorem Sw (op:List UInt8) (hop:op.length≤10) (T:ByteArray) (hT:T.size≤50000000) (A:Option Addr) (c:Nat) (w:World) (h:Rds w A (rcs [rcT T])) :
 Calls prog 41 #[.agg #[.int .u8 3,.int .u8 0,.int .i64 0,.string ⟨#[]⟩,.bool false,.string ⟨#[]⟩,.string ⟨op.toArray⟩,.slice A 1 c]] w fun e w'=>e=.returned (.string (⟨#[40]⟩++⟨op.toArray⟩++⟨#[32]⟩++T++⟨#[41]⟩))∧Below w.heap.size w w':=by
 have hb0:Below w.heap.size w (w.alloc (.cells #[.int .u8 3,.int .u8 0,.int .i64 0,.string ⟨#[]⟩,.bool false,.string ⟨#[]⟩,.string ⟨op.toArray⟩,.slice A 1 c] 60)):=ρ
 obtain ⟨b,off,hA,ht⟩:=mP (Ts:=[T]) (h.below hb0) (i:=0) (by simp)
 subst hA
 have hc:=β (heap_alloc_new w (.cells #[.int .u8 3,.int .u8 0,.int .i64 0,.string ⟨#[]⟩,.bool false,.string ⟨#[]⟩,.string ⟨op.toArray⟩,.slice (some ⟨b,off,none⟩) 1 c] 60))
 have hsO:(⟨op.toArray⟩:ByteArray).size≤10:=by show op.toArray.size≤_;rw [List.size_toArray];exact hop
 obtain ⟨Y1,y1,z1,A1⟩:=dA ⟨#[40]⟩ ⟨op.toArray⟩ (ν _) hsO (by decide)
 obtain ⟨Y2,y2,z2,A2⟩:=dA Y1 ⟨#[32]⟩ z1 (ν _) (by decide)
 obtain ⟨Y3,y3,z3,A3⟩:=dA Y2 T z2 hT (by decide)
 obtain ⟨Y4,y4,z4,A4⟩:=dA Y3 ⟨#[41]⟩ z3 (ν _) (by decide)
 rw [y1,y2,y3,y4]
 have HB:=κ hb0
 clear hb0 h hsO y1 y2 y3 y4 z1 z2 z3 z4 hT hop
 simp only [Nat.zero_mul,Nat.add_zero,List.getElem_cons_zero] at ht
 have HX:=κ (nR T (w.alloc (.cells #[.int .u8 3,.int .u8 0,.int .i64 0,.string ⟨#[]⟩,.bool false,.string ⟨#[]⟩,.string ⟨op.toArray⟩,.slice (some ⟨b,off,none⟩) 1 c] 60)))
 generalize (⟨op.toArray⟩:ByteArray)=O at *
 have c0:=hc 0
 have c6:=hc 6
 have c7:=hc 7
 simp only [γ,δ,ε] at c0 c6 c7
 have t0:=ht
 obtain ⟨q0,q1,q2,q3,q4,q5,q6,q7⟩:=ht
 clear hc
 go_enter func41,ntmps41
 go_wp2_with fail
 go_region_held3 (fun w'=>w'.cell? ⟨w.heap.size,6,none⟩=some (.string O)∧w'.cell? ⟨w.heap.size,7,none⟩=some (.slice (some ⟨b,off,none⟩) 1 c)∧w'.cell? ⟨b,off,none⟩=some (.int .u8 2)∧w'.cell? ⟨b,off+1,none⟩=some (.int .u8 0)∧w'.cell? ⟨b,off+2,none⟩=some (.int .i64 0)∧w'.cell? ⟨b,off+3,none⟩=some (.string ⟨#[]⟩)∧w'.cell? ⟨b,off+4,none⟩=some (.bool false)∧w'.cell? ⟨b,off+5,none⟩=some (.string ⟨#[]⟩)∧w'.cell? ⟨b,off+6,none⟩=some (.string T)∧w'.cell? ⟨b,off+7,none⟩=some (.slice none 0 0))
  (first|go_keep|exact hd2)
  ((go_at_call 41;refine (HX.out _ (by first|exact θ|assumption|exact (θ).drew)).mono ?_;rintro e w2 ⟨rfl,hb⟩;have hd2:=sR hb c6 c7 t0))
 all_goals
  go_wp2
  go_ret
  exact ⟨rfl,HB.out.trans (hb.mono HB.out.size)⟩
theorem sQ {w W:World} {g b off:Nat} {u6 u7:Value} {T T2:ByteArray} (hb:Below w.heap.size w W) (h6:w.cell? ⟨g,6,none⟩=some u6) (h7:w.cell? ⟨g,7,none⟩=some u7) (h:TCell w b off T) (h2:TCell w b (off+8) T2) :
 W.cell? ⟨g,6,none⟩=some u6∧W.cell? ⟨g,7,none⟩=some u7∧(W.cell? ⟨b,off,none⟩=some (.int .u8 2)∧W.cell? ⟨b,off+1,none⟩=some (.int .u8 0)∧W.cell? ⟨b,off+2,none⟩=some (.int .i64 0)∧W.cell? ⟨b,off+3,none⟩=some (.string ⟨#[]⟩)∧W.cell? ⟨b,off+4,none⟩=some (.bool false)∧W.cell? ⟨b,off+5,none⟩=some (.string ⟨#[]⟩)∧W.cell? ⟨b,off+6,none⟩=some (.string T)∧W.cell? ⟨b,off+7,none⟩=some (.slice none 0 0))∧W.cell? ⟨b,off+8,none⟩=some (.int .u8 2)∧W.cell? ⟨b,off+8+1,none⟩=some (.int .u8 0)∧W.cell? ⟨b,off+8+2,none⟩=some (.int .i64 0)∧W.cell? ⟨b,off+8+3,none⟩=some (.string ⟨#[]⟩)∧W.cell? ⟨b,off+8+4,none⟩=some (.bool false)∧W.cell? ⟨b,off+8+5,none⟩=some (.string ⟨#[]⟩)∧W.cell? ⟨b,off+8+6,none⟩=some (.string T2)∧W.cell? ⟨b,off+8+7,none⟩=some (.slice none 0 0):=⟨aH h6 hb,aH h7 hb,h.below hb,h2.below hb⟩
theorem Lr (op:List UInt8) (hop:op.length≤10) (T:ByteArray) (hT:T.size≤50000000) (A:Option Addr) (c:Nat) (w:World) (h:Rds w A (rcs [rcT T])) :
 Calls prog 41 #[.agg #[.int .u8 6,.int .u8 0,.int .i64 0,.string ⟨#[]⟩,.bool false,.string ⟨#[]⟩,.string ⟨op.toArray⟩,.slice A 1 c]] w fun e w'=>e=.returned (.string (⟨op.toArray⟩++⟨#[40]⟩++T++⟨#[41]⟩))∧Below w.heap.size w w':=by
 have hb0:Below w.heap.size w (w.alloc (.cells #[.int .u8 6,.int .u8 0,.int .i64 0,.string ⟨#[]⟩,.bool false,.string ⟨#[]⟩,.string ⟨op.toArray⟩,.slice A 1 c] 60)):=ρ
 obtain ⟨b,off,hA,ht⟩:=mP (Ts:=[T]) (h.below hb0) (i:=0) (by simp)
 subst hA
 have hc:=β (heap_alloc_new w (.cells #[.int .u8 6,.int .u8 0,.int .i64 0,.string ⟨#[]⟩,.bool false,.string ⟨#[]⟩,.string ⟨op.toArray⟩,.slice (some ⟨b,off,none⟩) 1 c] 60))
 have hsO:(⟨op.toArray⟩:ByteArray).size≤10:=by show op.toArray.size≤_;rw [List.size_toArray];exact hop
 obtain ⟨Y1,y1,z1,A1⟩:=dA ⟨op.toArray⟩ ⟨#[40]⟩ hsO (ν _) (by decide)
 obtain ⟨Y2,y2,z2,A2⟩:=dA Y1 T z1 hT (by decide)
 obtain ⟨Y3,y3,z3,A3⟩:=dA Y2 ⟨#[41]⟩ z2 (ν _) (by decide)
 rw [y1,y2,y3]
 have HB:=κ hb0
 clear hb0 h hsO y1 y2 y3 z1 z2 z3 hT hop
 simp only [Nat.zero_mul,Nat.add_zero,List.getElem_cons_zero] at ht
 have HX:=κ (nR T (w.alloc (.cells #[.int .u8 6,.int .u8 0,.int .i64 0,.string ⟨#[]⟩,.bool false,.string ⟨#[]⟩,.string ⟨op.toArray⟩,.slice (some ⟨b,off,none⟩) 1 c] 60)))
 generalize (⟨op.toArray⟩:ByteArray)=O at *
 have c0:=hc 0
 have c6:=hc 6
 have c7:=hc 7
 simp only [γ,δ,ε] at c0 c6 c7
 have t0:=ht
 obtain ⟨q0,q1,q2,q3,q4,q5,q6,q7⟩:=ht
 clear hc
 go_enter func41,ntmps41
 go_wp2_with fail
 go_region_held3 (fun w'=>w'.cell? ⟨w.heap.size,6,none⟩=some (.string O)∧w'.cell? ⟨w.heap.size,7,none⟩=some (.slice (some ⟨b,off,none⟩) 1 c)∧w'.cell? ⟨b,off,none⟩=some (.int .u8 2)∧w'.cell? ⟨b,off+1,none⟩=some (.int .u8 0)∧w'.cell? ⟨b,off+2,none⟩=some (.int .i64 0)∧w'.cell? ⟨b,off+3,none⟩=some (.string ⟨#[]⟩)∧w'.cell? ⟨b,off+4,none⟩=some (.bool false)∧w'.cell? ⟨b,off+5,none⟩=some (.string ⟨#[]⟩)∧w'.cell? ⟨b,off+6,none⟩=some (.string T)∧w'.cell? ⟨b,off+7,none⟩=some (.slice none 0 0))
  (first|go_keep|exact hd2)
  ((go_at_call 41;refine (HX.out _ (by first|exact θ|assumption|exact (θ).drew)).mono ?_;rintro e w2 ⟨rfl,hb⟩;have hd2:=sR hb c6 c7 t0))
 all_goals
  go_wp2
  go_ret
  exact ⟨rfl,HB.out.trans (hb.mono HB.out.size)⟩
theorem Ln (n:Bool) (T:ByteArray) (hT:T.size≤50000000) (A:Option Addr) (c:Nat) (w:World) (h:Rds w A (rcs [rcT T])) :
 Calls prog 41 #[.agg #[.int .u8 5,.int .u8 0,.int .i64 0,.string ⟨#[]⟩,.bool false,.string ⟨#[]⟩,.string ⟨(if n then fW else []).toArray⟩,.slice A 1 c]] w fun e w'=>e=.returned (.string (⟨#[40]⟩++T++⟨(32::(isN n++[41])).toArray⟩))∧Below w.heap.size w w':=by
 have key:∀ (op:List UInt8) (bb:Bool) (V:ByteArray),(op==[78,79,84])=bb→V=(if bb then ⟨#[32,73,83,32,78,79,84,32,78,85,76,76,41]⟩ else ⟨#[32,73,83,32,78,85,76,76,41]⟩)→Calls prog 41 #[.agg #[.int .u8 5,.int .u8 0,.int .i64 0,.string ⟨#[]⟩,.bool false,.string ⟨#[]⟩,.string ⟨op.toArray⟩,.slice A 1 c]] w fun e w'=>e=.returned (.string (⟨#[40]⟩++T++V))∧Below w.heap.size w w':=by
  intro op bb V ho hV
  have hb0:Below w.heap.size w (w.alloc (.cells #[.int .u8 5,.int .u8 0,.int .i64 0,.string ⟨#[]⟩,.bool false,.string ⟨#[]⟩,.string ⟨op.toArray⟩,.slice A 1 c] 60)):=ρ
  obtain ⟨b,off,hA,ht⟩:=mP (Ts:=[T]) (h.below hb0) (i:=0) (by simp)
  subst hA
  have hc:=β (heap_alloc_new w (.cells #[.int .u8 5,.int .u8 0,.int .i64 0,.string ⟨#[]⟩,.bool false,.string ⟨#[]⟩,.string ⟨op.toArray⟩,.slice (some ⟨b,off,none⟩) 1 c] 60))
  have HB:=κ hb0
  simp only [Nat.zero_mul,Nat.add_zero,List.getElem_cons_zero] at ht
  obtain ⟨q0,q1,q2,q3,q4,q5,q6,q7⟩:=ht
  obtain ⟨Y1,y1,z1,A1⟩:=dA ⟨#[40]⟩ T (ν _) hT (by decide)
  clear hb0 h hT
  cases bb
  all_goals
   simp only [φ,if_false,if_true] at hV
   obtain ⟨Y2,y2,z2,A2⟩:=dA Y1 V (n:=20) z1 (by rw [hV];decide) (by decide)
   rw [y1,y2]
   subst hV
   clear y1 y2 z1 z2
   go_enter func41,ntmps41
   go_wp2_with fail
   refine (sS T _).mono ?_
   rintro e w2 ⟨rfl,hb⟩
   have HQ:=κ (HB.out.trans (hb.mono HB.out.size))
   clear hb
   go_wp2
   go_ret
   exact ⟨rfl,HQ.out⟩
 cases n
 ·exact key [] false _ (by decide) rfl
 ·exact key fW true _ (by decide) rfl
theorem Lq (op:List UInt8) (hop:op.length≤10) (T T2:ByteArray) (hT:T.size≤50000000) (hT2:T2.size≤50000000) (A:Option Addr) (c:Nat) (w:World) (h:Rds w A (rcs [rcT T,rcT T2])) :
 Calls prog 41 #[.agg #[.int .u8 4,.int .u8 0,.int .i64 0,.string ⟨#[]⟩,.bool false,.string ⟨#[]⟩,.string ⟨op.toArray⟩,.slice A 2 c]] w fun e w'=>e=.returned (.string (⟨#[40]⟩++T++⟨#[32]⟩++⟨op.toArray⟩++⟨#[32]⟩++T2++⟨#[41]⟩))∧Below w.heap.size w w':=by
 have hb0:Below w.heap.size w (w.alloc (.cells #[.int .u8 4,.int .u8 0,.int .i64 0,.string ⟨#[]⟩,.bool false,.string ⟨#[]⟩,.string ⟨op.toArray⟩,.slice A 2 c] 60)):=ρ
 obtain ⟨b,off,hA,ht⟩:=mP (Ts:=[T,T2]) (h.below hb0) (i:=0) (by simp)
 obtain ⟨b',off',hA',ht2⟩:=mP (Ts:=[T,T2]) (h.below hb0) (i:=1) (by simp)
 subst hA
 simp only [Option.some.injEq,Addr.mk.injEq,and_true] at hA'
 obtain ⟨rfl,rfl⟩:=hA'
 have hc:=β (heap_alloc_new w (.cells #[.int .u8 4,.int .u8 0,.int .i64 0,.string ⟨#[]⟩,.bool false,.string ⟨#[]⟩,.string ⟨op.toArray⟩,.slice (some ⟨b,off,none⟩) 2 c] 60))
 have hsO:(⟨op.toArray⟩:ByteArray).size≤10:=by show op.toArray.size≤_;rw [List.size_toArray];exact hop
 obtain ⟨Y1,y1,z1,A1⟩:=dA ⟨#[40]⟩ T (ν _) hT (by decide)
 obtain ⟨Y2,y2,z2,A2⟩:=dA Y1 ⟨#[32]⟩ z1 (ν _) (by decide)
 obtain ⟨Y3,y3,z3,A3⟩:=dA Y2 ⟨op.toArray⟩ z2 hsO (by decide)
 obtain ⟨Y4,y4,z4,A4⟩:=dA Y3 ⟨#[32]⟩ z3 (ν _) (by decide)
 obtain ⟨Y5,y5,z5,A5⟩:=dA Y4 T2 z4 hT2 (by decide)
 obtain ⟨Y6,y6,z6,A6⟩:=dA Y5 ⟨#[41]⟩ z5 (ν _) (by decide)
 rw [y1,y2,y3,y4,y5,y6]
 have HB:=κ hb0
 clear hb0 h hsO y1 y2 y3 y4 y5 y6 z1 z2 z3 z4 z5 z6 hT hT2 hop
 simp only [Nat.zero_mul,Nat.one_mul,Nat.add_zero,List.getElem_cons_zero,List.getElem_cons_succ] at ht ht2
 have HX:=κ (nR T (w.alloc (.cells #[.int .u8 4,.int .u8 0,.int .i64 0,.string ⟨#[]⟩,.bool false,.string ⟨#[]⟩,.string ⟨op.toArray⟩,.slice (some ⟨b,off,none⟩) 2 c] 60)))
 have HX2:=κ (nR T2 (w.alloc (.cells #[.int .u8 4,.int .u8 0,.int .i64 0,.string ⟨#[]⟩,.bool false,.string ⟨#[]⟩,.string ⟨op.toArray⟩,.slice (some ⟨b,off,none⟩) 2 c] 60)))
 generalize (⟨op.toArray⟩:ByteArray)=O at *
 have c0:=hc 0
 have c6:=hc 6
 have c7:=hc 7
 simp only [γ,δ,ε] at c0 c6 c7
 have t0:=ht
 have t2:=ht2
 obtain ⟨q0,q1,q2,q3,q4,q5,q6,q7⟩:=ht
 obtain ⟨r0,r1,r2,r3,r4,r5,r6,r7⟩:=ht2
 clear hc
 go_enter func41,ntmps41
 go_wp2_with fail
 go_region_held3 (fun w'=>w'.cell? ⟨w.heap.size,6,none⟩=some (.string O)∧w'.cell? ⟨w.heap.size,7,none⟩=some (.slice (some ⟨b,off,none⟩) 2 c)∧(w'.cell? ⟨b,off,none⟩=some (.int .u8 2)∧w'.cell? ⟨b,off+1,none⟩=some (.int .u8 0)∧w'.cell? ⟨b,off+2,none⟩=some (.int .i64 0)∧w'.cell? ⟨b,off+3,none⟩=some (.string ⟨#[]⟩)∧w'.cell? ⟨b,off+4,none⟩=some (.bool false)∧w'.cell? ⟨b,off+5,none⟩=some (.string ⟨#[]⟩)∧w'.cell? ⟨b,off+6,none⟩=some (.string T)∧w'.cell? ⟨b,off+7,none⟩=some (.slice none 0 0))∧w'.cell? ⟨b,off+8,none⟩=some (.int .u8 2)∧w'.cell? ⟨b,off+8+1,none⟩=some (.int .u8 0)∧w'.cell? ⟨b,off+8+2,none⟩=some (.int .i64 0)∧w'.cell? ⟨b,off+8+3,none⟩=some (.string ⟨#[]⟩)∧w'.cell? ⟨b,off+8+4,none⟩=some (.bool false)∧w'.cell? ⟨b,off+8+5,none⟩=some (.string ⟨#[]⟩)∧w'.cell? ⟨b,off+8+6,none⟩=some (.string T2)∧w'.cell? ⟨b,off+8+7,none⟩=some (.slice none 0 0))
  (first|go_keep|exact hd2)
  ((first
    | (go_at_call_of 41 (Value.agg #[.int .u8 2,.int .u8 0,.int .i64 0,.string ⟨#[]⟩,.bool false,.string ⟨#[]⟩,.string T,.slice none 0 0]);refine (HX.out _ (by first|exact θ|assumption|exact (θ).drew)).mono ?_;rintro e w2 ⟨rfl,hb⟩;have hd2:=sQ hb c6 c7 t0 t2)
    | (go_at_call_of 41 (Value.agg #[.int .u8 2,.int .u8 0,.int .i64 0,.string ⟨#[]⟩,.bool false,.string ⟨#[]⟩,.string T2,.slice none 0 0]);refine (HX2.out _ (by first|exact θ|assumption|exact (θ).drew)).mono ?_;rintro e w2 ⟨rfl,hb⟩;have hd2:=sQ hb c6 c7 t0 t2)))
 all_goals
  go_wp2
  go_ret
  exact ⟨rfl,HB.out.trans (hb.mono HB.out.size)⟩
