/-
 Contracts. Conditions: those of each.
-/
import Derived.Lib.OthersKept
import Derived.Test.YtkolcimllghnaaaGreatDoorQbShelf
import Derived.Deep.Draws
import Derived.Test.YtkolcimllghnaaaGreatDoorQbGB
import Derived.BigCall
import Derived.Lib.IndexAny
import Derived.Lib.MapLaws
import Derived.Deep.RegionHeld3
import Derived.Deep.LoopGhost
set_option maxRecDepth 100000
set_option maxHeartbeats 8000000
namespace Go.Proofs.YtkolcimllghnaaaGreatDoor
open Lp Go.Proofs.Tryz
open Go.RowKit
def rU (r:Int):Bool:=(decide (97≤r)&&decide (r≤122))||(decide (65≤r)&&decide (r≤90))||decide (r=95)
def oB (r:Int):Bool:=decide (48≤r)&&decide (r≤57)
def mI (r:Int):Int:=if 65≤r∧r≤90 then r+32 else r
theorem eW (c:UInt8):rU (c.toNat:Int)=fO c:=by
 unfold rU fO
 rw [Bool.eq_iff_iff];simp;omega
theorem eB (c:UInt8):oB (c.toNat:Int)=aN c:=by
 unfold oB aN
 rw [Bool.eq_iff_iff];simp;omega
theorem yQ {r:Int} (h:r<65∨(90<r∧r<95)∨r=96∨122<r):rU r=false:=by
 rw [←Bool.not_eq_true];unfold rU;simp;omega
theorem sF {r:Int} (h:r<48∨57<r):oB r=false:=by
 rw [←Bool.not_eq_true];unfold oB;simp;omega
def aW (b:Bool) (w:World) (e:Ending) (w':World):Prop:=e=.returned (.bool b)∧w=w'
theorem jG {b c:Bool} {w:World} (h:b=c):aW b w (.returned (.bool c)) w:=by subst h;exact ⟨rfl,rfl⟩
theorem fC (r:Int) (w:World):Calls prog 73 #[.int .u8 r] w (aW (rU r) w):=by
 go_enter func73,ntmps73
 go_wp2
 all_goals (go_ret;refine jG ?_;unfold rU;rw [Bool.eq_iff_iff];simp;omega)
theorem gF (r:Int) (w:World):Calls prog 74 #[.int .u8 r] w (aW (oB r) w):=by
 go_enter func74,ntmps74
 go_wp2
 all_goals (go_ret;refine jG ?_;unfold oB;rw [Bool.eq_iff_iff];simp;omega)
theorem dR (r:Int) (w:World):Calls prog 108 #[.int .i32 r] w (aW (rU r) w):=by
 go_enter func108,ntmps108
 go_wp2
 all_goals (go_ret;refine jG ?_;unfold rU;rw [Bool.eq_iff_iff];simp;omega)
theorem dV (r:Int) (w:World):Calls prog 111 #[.int .i32 r] w (aW (oB r) w):=by
 go_enter func111,ntmps111
 go_wp2
 all_goals (go_ret;refine jG ?_;unfold oB;rw [Bool.eq_iff_iff];simp;omega)
theorem Hr (r:Int) (w:World) (h0:0≤r) (h1:r≤1114111):Calls prog 113 #[.int .i32 r] w fun e w'=>e=.returned (.int .i32 (mI r))∧w=w':=by
 by_cases h:65≤r∧r≤90
 ·obtain ⟨h2,h3⟩:=h
  have HF:Hid (mI r=r+97-65):=by show _=_;unfold mI;rw [if_pos ⟨h2,h3⟩];omega
  go_enter func113,ntmps113
  go_wp2
  go_ret
  exact ⟨congrArg (fun x=>Ending.returned (.int .i32 x)) HF.out.symm,rfl⟩
 ·have HF:Hid (mI r=r):=by show _=_;unfold mI;rw [if_neg h]
  rcases (show r<65∨90<r by omega) with h2|h2
  ·clear h
   go_enter func113,ntmps113
   go_wp2
   go_ret
   exact ⟨congrArg (fun x=>Ending.returned (.int .i32 x)) HF.out.symm,rfl⟩
  ·clear h
   go_enter func113,ntmps113
   go_wp2
   go_ret
   exact ⟨congrArg (fun x=>Ending.returned (.int .i32 x)) HF.out.symm,rfl⟩
def mD (r:Int):Bool:=rU r||oB r
theorem sI (c:UInt8):mD (c.toNat:Int)=bO c:=by unfold mD bO;rw [eW,eB]
theorem wE (r:Int) (w:World):Calls prog 110 #[.int .i32 r] w (aW (mD r) w):=by
 have c1:=dR r
 have c2:=dV r
 unfold aW at c1 c2
 cases h1:rU r
 ·rw [h1] at c1
  have C1:=κ c1
  have C2:=κ c2
  have HF:Hid (mD r=oB r):=by show _=_;unfold mD;rw [h1];rfl
  clear c1 c2 h1
  go_enter func110,ntmps110
  go_wp2_with fail
  refine (C1.out _).mono ?_
  rintro e w' ⟨rfl,rfl⟩
  go_wp2_with fail
  refine (C2.out _).mono ?_
  rintro e w' ⟨rfl,rfl⟩
  go_wp2
  go_ret
  exact jG HF.out
 ·rw [h1] at c1
  have C1:=κ c1
  have HF:Hid (mD r=true):=by show _=_;unfold mD;rw [h1];rfl
  clear c1 c2 h1
  go_enter func110,ntmps110
  go_wp2_with fail
  refine (C1.out _).mono ?_
  rintro e w' ⟨rfl,rfl⟩
  go_wp2
  go_ret
  exact jG HF.out
theorem Aq (c:UInt8) (w:World):Calls prog 79 #[.int .u8 c.toNat] w (aW (mT c) w):=by
 go_enter func79,ntmps79
 go_wp2
 go_loop [3] (fun i=>∃ k:Nat,k≤13∧i=.int .i64 k∧Hid ((Ag.take k).contains c=false)) (fun i=>13-(intOf i).toNat)
 case atStart=>exact ⟨0,by omega,rfl,rfl⟩
 case round =>
  obtain ⟨k,hk,rfl,HC⟩:=hrel
  by_cases hlt:k<13
  ·have hk0:(0:Int)≤(k:Int):=by omega
   have hk1:(k:Int)<13:=by omega
   have HD:=κ (show (Ag.take (k+1)).contains c=(decide ((((⟨#[40,41,44,59,42,43,45,47,37,61,60,62,46]⟩:ByteArray)[k]'hlt).toNat:Int)=(c.toNat:Int))) by
    have e:Ag.take (k+1)=Ag.take k++[(⟨#[40,41,44,59,42,43,45,47,37,61,60,62,46]⟩:ByteArray)[k]'hlt]:=gI ⟨#[40,41,44,59,42,43,45,47,37,61,60,62,46]⟩ k hlt
    have hc:=HC.out
    generalize (⟨#[40,41,44,59,42,43,45,47,37,61,60,62,46]⟩:ByteArray)[k]'hlt=d at *
    rw [e,Bool.eq_iff_iff]
    rw [←Bool.not_eq_true,List.contains_iff_mem] at hc
    simp only [List.contains_iff_mem,List.mem_append,List.mem_singleton,hc,false_or,decide_eq_true_eq]
    constructor
    ·rintro rfl;rfl
    ·intro h;exact (UInt8.toNat_inj.1 (by omega)).symm)
   go_wp2
   ·go_ret
    have hm:=HD.out
    rename_i ht _
    rw [beq_iff_eq] at ht
    rw [decide_eq_true ht] at hm
    refine jG ?_
    unfold mT
    rw [List.contains_iff_mem] at hm ⊢
    exact List.mem_of_mem_take hm
   ·rename_i ht
    rw [beq_eq_false_iff_ne] at ht
    go_round
    case rel=>exact ⟨k+1,by omega,by go_num,by show _=_;rw [HD.out,decide_eq_false ht]⟩
    case measure=>simp [intOf];omega
  ·obtain rfl:k=13:=by omega
   have HF:Hid (mT c=false):=by show _=_;unfold mT;have:=HC.out;exact this
   go_wp2
   go_ret
   exact jG HF.out
theorem eP {w:World} {k:Nat} {s:ByteArray} {p:Nat} (h:w.heap[k]? = some (.stringIter s p)):w.iterPos k=p:=by simp [World.iterPos,h]
theorem sB {a b:Nat} (h:a=b):Ending.returned (.int .i64 (a:Int))=.returned (.int .i64 (b:Int)):=by rw [h]
theorem jO {p:UInt8→Bool}:∀ {l:List UInt8} {k:Nat} (h:k<l.length),(l.take k).all p=true→p l[k]=false→(l.takeWhile p).length=k
 | c::l,0,_,_,h2=>by rw [List.takeWhile_cons];simp only [List.getElem_cons_zero] at h2;rw [h2];rfl
 | c::l,k+1,h,h1,h2=>by
   rw [List.take_succ_cons,List.all_cons,Bool.and_eq_true] at h1
   rw [List.takeWhile_cons,h1.1]
   simp only [List.getElem_cons_succ] at h2
   have:=jO (l:=l) (k:=k) (by simpa using h) h1.2 h2
   simp [this]
theorem lA {p:UInt8→Bool} {l:List UInt8} (h:l.all p=true):l.takeWhile p=l:=by
 induction l with
 | nil=>rfl
 | cons c l ih =>
   rw [List.all_cons,Bool.and_eq_true] at h
   rw [List.takeWhile_cons,h.1,ih h.2];rfl
theorem sH {c:UInt8} (h:bO c=true):c.toNat<128:=by
 unfold bO fO aN at h
 simp at h;omega
theorem Jy {c:UInt8} (h:aN c=true):c.toNat<128:=by
 unfold aN at h
 simp at h;omega
theorem Hj {r:Int} (h:128≤r):mD r=false:=by
 unfold mD;rw [yQ (by omega),sF (by omega)];rfl
theorem Ra {r:Int} (h:128≤r):oB r=false:=sF (by omega)
theorem vQ (s:ByteArray) (pos:Nat) (h:pos<s.size) (hd:bO (s[pos]'h)=true):Utf8.decode s pos=((s[pos]'h).toNat,1)∧mD ((s[pos]'h).toNat:Int)=true :=
 ⟨decode_ascii s pos h (sH hd),by rw [sI];exact hd⟩
theorem xX (s:ByteArray) (pos:Nat) (h:pos<s.size) (hd:bO (s[pos]'h)=false):mD ((Utf8.decode s pos).1:Int)=false:=by
 by_cases ha:(s[pos]'h).toNat<128
 ·rw [decode_ascii s pos h ha];show mD ((s[pos]'h).toNat:Int)=false;rw [sI];exact hd
 ·exact Hj (by have:=(decode_high s pos h (by omega)).1;omega)
theorem Dg (s:ByteArray) (w:World) :
 Calls prog 109 #[.string s,.func (.func 110) #[] #[]] w fun e w'=>e=.returned (.int .i64 ((s.data.toList.takeWhile bO).length))∧Below w.heap.size w w':=by
 go_enter func109,ntmps109
 go_wp2
 go_loopw [5,6] (fun _ _ wr=>∃ pos:Nat,wr.heap[w.heap.size]? = some (.stringIter s pos)∧Below w.heap.size w wr∧pos≤s.size∧Hid ((s.data.toList.take pos).all bO=true)) (fun _ _ wr=>s.size-wr.iterPos w.heap.size)
 case atStart=>exact ⟨0,World.iter_heap w s 0,ρ,Nat.zero_le _,by rfl⟩
 case round =>
  obtain ⟨pos,hit,hbw,hle,HD⟩:=hrel
  have hpos0:=eP hit
  by_cases hp:pos<s.size
  ·have hnx0:∀ ty,(Instr.next (.pointer (some ⟨w.heap.size,0,none⟩)) true ty).run prog wr=_:=fun ty=>Lib.run_next_any_at wr w.heap.size s pos ty hit hp
   cases hd:bO (s[pos]'hp)
   ·have hr:=xX s pos hp hd
    have HF:Hid ((s.data.toList.takeWhile bO).length=pos):=jO (by simpa using hp) HD.out hd
    have hb2:=Lib.below_iterAt hbw (k:=w.heap.size) (ν _) s (pos+(Utf8.decode s pos).2)
    generalize (Utf8.decode s pos).1=c at *
    generalize (Utf8.decode s pos).2=k at *
    have C:=wE (c:Int)
    unfold aW at C
    rw [hr] at C
    have HC:=κ C
    clear C hr HD hd
    go_wp2_with fail
    refine (HC.out _).mono ?_
    rintro e w' ⟨rfl,rfl⟩
    go_wp2
    go_ret
    exact ⟨sB HF.out.symm,hb2⟩
   ·obtain ⟨hdec,hr⟩:=vQ s pos hp hd
    have HD2:Hid ((s.data.toList.take (pos+1)).all bO=true):=by
     show _=_
     rw [gI s pos hp];simp [HD.out,hd]
    have hnx:=hnx0
    rw [hdec] at hnx
    have hit2:=Lib.iterAt_heap wr w.heap.size s pos (pos+1) hit
    have hb2:=Lib.below_iterAt hbw (k:=w.heap.size) (ν _) s (pos+1)
    have hp2:=eP hit2
    generalize (s[pos]'hp).toNat=c at *
    have C:=wE (c:Int)
    unfold aW at C
    rw [hr] at C
    have HC:=κ C
    clear hnx0 hdec hd HD C hr
    go_wp2_with fail
    refine (HC.out _).mono ?_
    rintro e w' ⟨rfl,rfl⟩
    go_wp2
    go_roundw
    case rel=>exact ⟨pos+1,hit2,hb2,by omega,HD2⟩
    case measure=>rw [hp2,hpos0];omega
  ·have hnx:∀ ty,(Instr.next (.pointer (some ⟨w.heap.size,0,none⟩)) true ty).run prog wr=_:=fun ty=>Lib.run_next_end_at wr w.heap.size s pos ty hit hp
   obtain rfl:pos=s.size:=by omega
   have HF:Hid ((s.data.toList.takeWhile bO).length=s.size):=by
    show _=_
    have:=HD.out;rw [iY] at this
    rw [lA this];simp
   clear HD
   go_wp2
   go_ret
   exact ⟨sB HF.out.symm,hbw⟩
theorem xY (s:ByteArray) (pos:Nat) (h:pos<s.size) (hd:aN (s[pos]'h)=true):Utf8.decode s pos=((s[pos]'h).toNat,1)∧oB ((s[pos]'h).toNat:Int)=true :=
 ⟨decode_ascii s pos h (Jy hd),by rw [eB];exact hd⟩
theorem Aj (s:ByteArray) (pos:Nat) (h:pos<s.size) (hd:aN (s[pos]'h)=false):oB ((Utf8.decode s pos).1:Int)=false:=by
 by_cases ha:(s[pos]'h).toNat<128
 ·rw [decode_ascii s pos h ha];show oB ((s[pos]'h).toNat:Int)=false;rw [eB];exact hd
 ·exact Ra (by have:=(decode_high s pos h (by omega)).1;omega)
theorem Hk (s:ByteArray) (w:World) :
 Calls prog 109 #[.string s,.func (.func 111) #[] #[]] w fun e w'=>e=.returned (.int .i64 ((s.data.toList.takeWhile aN).length))∧Below w.heap.size w w':=by
 go_enter func109,ntmps109
 go_wp2
 go_loopw [5,6] (fun _ _ wr=>∃ pos:Nat,wr.heap[w.heap.size]? = some (.stringIter s pos)∧Below w.heap.size w wr∧pos≤s.size∧Hid ((s.data.toList.take pos).all aN=true)) (fun _ _ wr=>s.size-wr.iterPos w.heap.size)
 case atStart=>exact ⟨0,World.iter_heap w s 0,ρ,Nat.zero_le _,by rfl⟩
 case round =>
  obtain ⟨pos,hit,hbw,hle,HD⟩:=hrel
  have hpos0:=eP hit
  by_cases hp:pos<s.size
  ·have hnx0:∀ ty,(Instr.next (.pointer (some ⟨w.heap.size,0,none⟩)) true ty).run prog wr=_:=fun ty=>Lib.run_next_any_at wr w.heap.size s pos ty hit hp
   cases hd:aN (s[pos]'hp)
   ·have hr:=Aj s pos hp hd
    have HF:Hid ((s.data.toList.takeWhile aN).length=pos):=jO (by simpa using hp) HD.out hd
    have hb2:=Lib.below_iterAt hbw (k:=w.heap.size) (ν _) s (pos+(Utf8.decode s pos).2)
    generalize (Utf8.decode s pos).1=c at *
    generalize (Utf8.decode s pos).2=k at *
    have C:=dV (c:Int)
    unfold aW at C
    rw [hr] at C
    have HC:=κ C
    clear C hr HD hd
    go_wp2_with fail
    refine (HC.out _).mono ?_
    rintro e w' ⟨rfl,rfl⟩
    go_wp2
    go_ret
    exact ⟨sB HF.out.symm,hb2⟩
   ·obtain ⟨hdec,hr⟩:=xY s pos hp hd
    have HD2:Hid ((s.data.toList.take (pos+1)).all aN=true):=by
     show _=_
     rw [gI s pos hp];simp [HD.out,hd]
    have hnx:=hnx0
    rw [hdec] at hnx
    have hit2:=Lib.iterAt_heap wr w.heap.size s pos (pos+1) hit
    have hb2:=Lib.below_iterAt hbw (k:=w.heap.size) (ν _) s (pos+1)
    have hp2:=eP hit2
    generalize (s[pos]'hp).toNat=c at *
    have C:=dV (c:Int)
    unfold aW at C
    rw [hr] at C
    have HC:=κ C
    clear hnx0 hdec hd HD C hr
    go_wp2_with fail
    refine (HC.out _).mono ?_
    rintro e w' ⟨rfl,rfl⟩
    go_wp2
    go_roundw
    case rel=>exact ⟨pos+1,hit2,hb2,by omega,HD2⟩
    case measure=>rw [hp2,hpos0];omega
  ·have hnx:∀ ty,(Instr.next (.pointer (some ⟨w.heap.size,0,none⟩)) true ty).run prog wr=_:=fun ty=>Lib.run_next_end_at wr w.heap.size s pos ty hit hp
   obtain rfl:pos=s.size:=by omega
   have HF:Hid ((s.data.toList.takeWhile aN).length=s.size):=by
    show _=_
    have:=HD.out;rw [iY] at this
    rw [lA this];simp
   clear HD
   go_wp2
   go_ret
   exact ⟨sB HF.out.symm,hbw⟩
def dZ (w:World):Prop:=Lib.Utf8Tabs 0 1 w
theorem eA (s:ByteArray) (w:World) (hs:s.size≤9223372036854775807) (hT:dZ w) :
 Calls prog 116 #[.string s] w fun e w'=>e=.returned (.bool (Lib.validD s.data.toList))∧Below w.heap.size w w' :=
 Any.utf8_ValidString Tryz.laysValid s w hs hT
theorem aP {w w':World} (h:dZ w) (hb:Below w.heap.size w w'):dZ w':=Utf8Tabs_below h hb
theorem dG {w:World} (h:dZ w) (o:Obj):dZ (w.alloc o):=aP h ((θ).alloc (ν _) o)
theorem rM {W w1:World} (hb:Below W.heap.size W w1):(∀ b o,b<W.heap.size→w1.cell? ⟨b,o,none⟩=W.cell? ⟨b,o,none⟩)∧(∀ b o,b<W.heap.size→w1.frozen? ⟨b,o,none⟩=W.frozen? ⟨b,o,none⟩) :=
 ⟨fun b o h=>hb.cell (p:=⟨b,o,none⟩) h,fun b o h=>hb.frozen (p:=⟨b,o,none⟩) h⟩
theorem qT (s:ByteArray) (w:World) (h:s.data.toList.contains 0=false) :
 Calls prog 62 #[.string s,.int .u8 0] w fun e w'=>e=.returned (.int .i64 (-1))∧w=w':=by
 refine (Tryz.strings_IndexByte s 0 w).mono ?_
 rintro e w' ⟨rfl,rfl⟩
 have h1:=Lib.indexByte_ge s.data.toList (Int.toNat 0).toUInt8
 have h2:Lib.indexByte s.data.toList (Int.toNat 0).toUInt8 = -1:=by
  rcases Int.lt_or_le (Lib.indexByte s.data.toList (Int.toNat 0).toUInt8) 0 with h3|h3
  ·omega
  ·obtain ⟨n,hn⟩:=Int.eq_ofNat_of_zero_le h3
   have h4:=(Lib.indexByte_some hn).1
   have h5:s.data.toList.contains 0=true:=List.contains_iff_mem.2 (List.mem_of_getElem? h4)
   rw [h5] at h;cases h
 rw [h2];exact ⟨rfl,rfl⟩
def Wy (e:Ending):Prop:=∃ n:Nat,e=.returned (.int .i64 n)
theorem pU (s:ByteArray) (w:World) (h:s.data.toList.contains 0=true) :
 Calls prog 62 #[.string s,.int .u8 0] w fun e w'=>Wy e∧w=w':=by
 refine (Tryz.strings_IndexByte s 0 w).mono ?_
 rintro e w' ⟨rfl,rfl⟩
 refine ⟨?_,rfl⟩
 have e0:(Int.toNat 0).toUInt8=0:=rfl
 rw [e0]
 rcases Int.lt_or_le (Lib.indexByte s.data.toList 0) 0 with h3|h3
 ·have h1:=Lib.indexByte_ge s.data.toList 0
  obtain ⟨k,hk⟩:=List.mem_iff_getElem?.1 (List.contains_iff_mem.1 h)
  exact absurd hk (Lib.indexByte_none (by omega) k)
 ·obtain ⟨n,hn⟩:=Int.eq_ofNat_of_zero_le h3
  exact ⟨n,by rw [hn]⟩
theorem eQ {s:ByteArray} (h:s.data=#[]):s.size=0:=by show s.data.size=0;rw [h];rfl
def iU (k i:Int) (s:ByteArray) (b:Bool) (w:World) (e:Ending) (w':World):Prop:=e=.returned (.bool (bX k i s b))∧Below w.heap.size w w'
theorem cO {k i:Int} {s:ByteArray} {b r:Bool} {w w':World} (h:r=bX k i s b) (hb:Below w.heap.size w w'):iU k i s b w (.returned (.bool r)) w':=by
 subst h;exact ⟨rfl,hb⟩
theorem Tx (i:Int) (s:ByteArray) (b:Bool) (w:World) (hs:s.size≤9223372036854775807) (hT:dZ w) :
 Calls prog 117 #[.agg #[.int .u8 0,.int .i64 i,.string s,.bool b]] w (iU 0 i s b w):=by
 have hT2:∀ o1 o2,dZ ((w.alloc o1).alloc o2):=fun o1 o2=>dG (dG hT o1) o2
 have hB2:∀ o1 o2,Below w.heap.size w ((w.alloc o1).alloc o2):=fun o1 o2=>((Below.refl w.heap.size w).alloc (ν _) o1).alloc (by simp) o2
 cases hz:s.data.toList.contains 0
 ·go_enter func117,ntmps117
  go_wp2_with (first|(go_at_call 116;refine (eA _ _ hs (hT2 _ _)).mono ?_;rintro e w1 ⟨rfl,hb1⟩;obtain ⟨hc1,hf1⟩:=rM hb1)|(go_at_call 62;refine (qT _ _ hz).mono ?_;rintro e w' ⟨rfl,rfl⟩))
  all_goals (go_ret;first|exact cO (by clear hB2 hT2;simp_all [bX,ByteArray.toList_eq,eQ]) (hB2 _ _)|exact cO (by clear hB2 hT2 hc1 hf1 hb1;simp_all [bX,ByteArray.toList_eq,Lib.validD_nil,eQ]) ((hB2 _ _).trans (hb1.mono (by simp;omega))))
 ·go_enter func117,ntmps117
  go_wp2_with (first|(go_at_call 116;refine (eA _ _ hs (hT2 _ _)).mono ?_;rintro e w1 ⟨rfl,hb1⟩;obtain ⟨hc1,hf1⟩:=rM hb1)|(go_at_call 62;refine (pU _ _ hz).mono ?_;rintro e w' ⟨⟨n0,rfl⟩,rfl⟩))
  all_goals (go_ret;first|exact cO (by clear hB2 hT2;simp_all [bX,ByteArray.toList_eq,eQ]) (hB2 _ _)|exact cO (by clear hB2 hT2 hc1 hf1 hb1;simp_all [bX,ByteArray.toList_eq,Lib.validD_nil,eQ]) ((hB2 _ _).trans (hb1.mono (by simp;omega))))
theorem Tw (i:Int) (s:ByteArray) (b:Bool) (w:World) (hs:s.size≤9223372036854775807) (hT:dZ w) :
 Calls prog 117 #[.agg #[.int .u8 1,.int .i64 i,.string s,.bool b]] w (iU 1 i s b w):=by
 have hT2:∀ o1 o2,dZ ((w.alloc o1).alloc o2):=fun o1 o2=>dG (dG hT o1) o2
 have hB2:∀ o1 o2,Below w.heap.size w ((w.alloc o1).alloc o2):=fun o1 o2=>((Below.refl w.heap.size w).alloc (ν _) o1).alloc (by simp) o2
 cases hz:s.data.toList.contains 0
 ·go_enter func117,ntmps117
  go_wp2_with (first|(go_at_call 116;refine (eA _ _ hs (hT2 _ _)).mono ?_;rintro e w1 ⟨rfl,hb1⟩;obtain ⟨hc1,hf1⟩:=rM hb1)|(go_at_call 62;refine (qT _ _ hz).mono ?_;rintro e w' ⟨rfl,rfl⟩))
  all_goals (go_ret;first|exact cO (by clear hB2 hT2;simp_all [bX,ByteArray.toList_eq,eQ]) (hB2 _ _)|exact cO (by clear hB2 hT2 hc1 hf1 hb1;simp_all [bX,ByteArray.toList_eq,Lib.validD_nil,eQ]) ((hB2 _ _).trans (hb1.mono (by simp;omega))))
 ·go_enter func117,ntmps117
  go_wp2_with (first|(go_at_call 116;refine (eA _ _ hs (hT2 _ _)).mono ?_;rintro e w1 ⟨rfl,hb1⟩;obtain ⟨hc1,hf1⟩:=rM hb1)|(go_at_call 62;refine (pU _ _ hz).mono ?_;rintro e w' ⟨⟨n0,rfl⟩,rfl⟩))
  all_goals (go_ret;first|exact cO (by clear hB2 hT2;simp_all [bX,ByteArray.toList_eq,eQ]) (hB2 _ _)|exact cO (by clear hB2 hT2 hc1 hf1 hb1;simp_all [bX,ByteArray.toList_eq,Lib.validD_nil,eQ]) ((hB2 _ _).trans (hb1.mono (by simp;omega))))
theorem Tv (i:Int) (s:ByteArray) (b:Bool) (w:World) (hs:s.size≤9223372036854775807) (hT:dZ w) :
 Calls prog 117 #[.agg #[.int .u8 2,.int .i64 i,.string s,.bool b]] w (iU 2 i s b w):=by
 have hT2:∀ o1 o2,dZ ((w.alloc o1).alloc o2):=fun o1 o2=>dG (dG hT o1) o2
 have hB2:∀ o1 o2,Below w.heap.size w ((w.alloc o1).alloc o2):=fun o1 o2=>((Below.refl w.heap.size w).alloc (ν _) o1).alloc (by simp) o2
 cases hz:s.data.toList.contains 0
 ·go_enter func117,ntmps117
  go_wp2_with (first|(go_at_call 116;refine (eA _ _ hs (hT2 _ _)).mono ?_;rintro e w1 ⟨rfl,hb1⟩;obtain ⟨hc1,hf1⟩:=rM hb1)|(go_at_call 62;refine (qT _ _ hz).mono ?_;rintro e w' ⟨rfl,rfl⟩))
  all_goals (go_ret;first|exact cO (by clear hB2 hT2;simp_all [bX,aS]<;>(intros;omega)) (hB2 _ _)|exact cO (by clear hB2 hT2 hc1 hf1 hb1;simp_all [bX,aS]<;>(intros;omega)) ((hB2 _ _).trans (hb1.mono (by simp;omega))))
 ·go_enter func117,ntmps117
  go_wp2_with (first|(go_at_call 116;refine (eA _ _ hs (hT2 _ _)).mono ?_;rintro e w1 ⟨rfl,hb1⟩;obtain ⟨hc1,hf1⟩:=rM hb1)|(go_at_call 62;refine (pU _ _ hz).mono ?_;rintro e w' ⟨⟨n0,rfl⟩,rfl⟩))
  all_goals (go_ret;first|exact cO (by clear hB2 hT2;simp_all [bX,aS]<;>(intros;omega)) (hB2 _ _)|exact cO (by clear hB2 hT2 hc1 hf1 hb1;simp_all [bX,aS]<;>(intros;omega)) ((hB2 _ _).trans (hb1.mono (by simp;omega))))
theorem Tu (i:Int) (s:ByteArray) (b:Bool) (w:World) (hs:s.size≤9223372036854775807) (hT:dZ w) :
 Calls prog 117 #[.agg #[.int .u8 3,.int .i64 i,.string s,.bool b]] w (iU 3 i s b w):=by
 have hT2:∀ o1 o2,dZ ((w.alloc o1).alloc o2):=fun o1 o2=>dG (dG hT o1) o2
 have hB2:∀ o1 o2,Below w.heap.size w ((w.alloc o1).alloc o2):=fun o1 o2=>((Below.refl w.heap.size w).alloc (ν _) o1).alloc (by simp) o2
 cases hz:s.data.toList.contains 0
 ·go_enter func117,ntmps117
  go_wp2_with (first|(go_at_call 116;refine (eA _ _ hs (hT2 _ _)).mono ?_;rintro e w1 ⟨rfl,hb1⟩;obtain ⟨hc1,hf1⟩:=rM hb1)|(go_at_call 62;refine (qT _ _ hz).mono ?_;rintro e w' ⟨rfl,rfl⟩))
  all_goals (go_ret;first|exact cO (by clear hB2 hT2;simp_all [bX,ByteArray.toList_eq,eQ]) (hB2 _ _)|exact cO (by clear hB2 hT2 hc1 hf1 hb1;simp_all [bX,ByteArray.toList_eq,Lib.validD_nil,eQ]) ((hB2 _ _).trans (hb1.mono (by simp;omega))))
 ·go_enter func117,ntmps117
  go_wp2_with (first|(go_at_call 116;refine (eA _ _ hs (hT2 _ _)).mono ?_;rintro e w1 ⟨rfl,hb1⟩;obtain ⟨hc1,hf1⟩:=rM hb1)|(go_at_call 62;refine (pU _ _ hz).mono ?_;rintro e w' ⟨⟨n0,rfl⟩,rfl⟩))
  all_goals (go_ret;first|exact cO (by clear hB2 hT2;simp_all [bX,ByteArray.toList_eq,eQ]) (hB2 _ _)|exact cO (by clear hB2 hT2 hc1 hf1 hb1;simp_all [bX,ByteArray.toList_eq,Lib.validD_nil,eQ]) ((hB2 _ _).trans (hb1.mono (by simp;omega))))
theorem As (k i:Int) (s:ByteArray) (b:Bool) (w:World) (h0:(k==0)=false) (h1:(k==1)=false) (h2:(k==2)=false) (h3:(k==3)=false) :
 Calls prog 117 #[.agg #[.int .u8 k,.int .i64 i,.string s,.bool b]] w (iU k i s b w):=by
 have hB2:∀ o1 o2,Below w.heap.size w ((w.alloc o1).alloc o2):=fun o1 o2=>((Below.refl w.heap.size w).alloc (ν _) o1).alloc (by simp) o2
 go_enter func117,ntmps117
 go_wp2
 go_ret
 exact cO (by simp_all [bX]) (hB2 _ _)
theorem Im (k i:Int) (s:ByteArray) (b:Bool) (w:World) (hs:s.size≤9223372036854775807) (hT:dZ w) :
 Calls prog 117 #[.agg #[.int .u8 k,.int .i64 i,.string s,.bool b]] w (iU k i s b w):=by
 by_cases h0:k=0
 ·subst h0;exact Tx i s b w hs hT
 ·by_cases h1:k=1
  ·subst h1;exact Tw i s b w hs hT
  ·by_cases h2:k=2
   ·subst h2;exact Tv i s b w hs hT
   ·by_cases h3:k=3
    ·subst h3;exact Tu i s b w hs hT
    ·exact As k i s b w (by simpa using h0) (by simpa using h1) (by simpa using h2) (by simpa using h3)
theorem Zp (w:World):Lib.IsBuilderF 250 5 w.heap.size w.heap.size (Lib.byteCells []) (w.alloc (.cells #[.pointer none,.slice none 0 0] 250)):=Lib.IsBuilderF.of (Lib.fresh_isBuilder 250 5 w)
theorem aAR (B b:Nat) (bs:List Value) (c:Int) (w:World) (h:Lib.IsBuilderF 250 5 B b bs w) (hlen:bs.length+1≤140737488355328) (hBw:B≤w.heap.size) :
 Calls prog 143 #[.pointer (some ⟨b,0,none⟩),.int .u8 c] w fun e w'=>e=.returned .nilIface∧(Lib.IsBuilderF 250 5 B b (bs++[.int .u8 c]) w'∧Below B w w'∧Lib.OthersKept 5 (some b) w w') :=
 (Any.Builder_WriteByte_k (ρ:=Tryz.lays230_ren) { lays230 with } Tryz.Builder_Extra_230 B b bs c w h hlen hBw).mono fun _ _ h=>⟨h.1,Or.inr h.2.1,h.2.2⟩
theorem Wg (B b:Nat) (bs:List Value) (s:ByteArray) (w:World) (h:Lib.IsBuilderF 250 5 B b bs w) (hlen:bs.length+s.size≤140737488355328) (hBw:B≤w.heap.size) :
 Calls prog 142 #[.pointer (some ⟨b,0,none⟩),.string s] w fun e w'=>e=.returned (.tuple #[.int .i64 s.size,.nilIface])∧(Lib.IsBuilderF 250 5 B b (bs++Lib.strCells s) w'∧Below B w w'∧Lib.OthersKept 5 (some b) w w') :=
 (Any.Builder_WriteString_k (ρ:=Tryz.lays230_ren) { lays230 with } Tryz.Builder_Extra_230 B b bs s w h hlen hBw).mono fun _ _ h=>⟨h.1,Or.inr h.2.1,h.2.2⟩
theorem eG (s:ByteArray) (w:World) (hT:dZ w) :
 Calls prog 107 #[.string s] w fun e w'=>e=.returned (.tuple #[.int .i32 (Lib.decodeGo s).1,.int .i64 (Lib.decodeGo s).2])∧Below w.heap.size w w':=Tryz.utf8_DecodeRuneInString s w hT
def gC (l:List UInt8) (w:World) (e:Ending) (w':World):Prop :=
 e=.returned (.tuple #[.string ⟨(aAW (txt l)).toArray⟩,.int .i64 (aAX (txt l):Nat)])∧Below w.heap.size w w'
theorem vK {l:List UInt8} {w w':World} (h:txt l=none) (hb:Below w.heap.size w w'):gC l w (.returned (.tuple #[.string ⟨#[]⟩,.int .i64 0])) w':=by
 unfold gC;rw [h];exact ⟨rfl,hb⟩
theorem oF {l acc:List UInt8} {n:Nat} {w w':World} (h:txt l=some (acc,n)) (hb:Below w.heap.size w w'):gC l w (.returned (.tuple #[.string ⟨acc.toArray⟩,.int .i64 ((n:Int)+1)])) w':=by
 unfold gC;rw [h];exact ⟨rfl,hb⟩
theorem mO (s:ByteArray) (w:World) (hs:s.size≤1000000000) (h1:1≤s.size) (hT:dZ w) :
 Calls prog 115 #[.string s] w (gC (s.data.toList.drop 1) w):=by
 have HSD:Hid ((s.extract 1 s.size).data.toList=s.data.toList.drop 1):=by show _=_;rw [Lib.extract_data,List.take_of_length_le (by simp)]
 have HSS:Hid ((s.extract 1 s.size).size=s.size-1):=by show _=_;simp
 rw [←HSD.out]
 have hss1:(s.extract 1 s.size).size≤1000000000:=by rw [HSS.out];omega
 have hss2:(s.extract 1 s.size).size+1≤s.size:=by rw [HSS.out];omega
 have hss3:s.size≤(s.extract 1 s.size).size+1:=by rw [HSS.out];omega
 have hb0:=((Below.refl w.heap.size w).alloc (ν _) (.cells #[.pointer none,.slice none 0 0] 250)).alloc (by simp) (.stringIter (s.extract 1 s.size) 0)
 have hI0:=(Zp w).alloc (.stringIter (s.extract 1 s.size) 0)
 have hit0:((w.alloc (.cells #[.pointer none,.slice none 0 0] 250)).alloc (.stringIter (s.extract 1 s.size) 0)).heap[w.heap.size+1]? = some (.stringIter (s.extract 1 s.size) 0):=bN w _ _
 go_enter func115,ntmps115
 go_wp2
 go_loopw [5,6,7,8,9] (fun q _ _ _ _ wr=>∃ (pos:Nat) (acc:List UInt8) (qq:Bool),q=.bool qq∧Lib.IsBuilderF 250 5 w.heap.size w.heap.size (Lib.byteCells acc) wr∧wr.heap[w.heap.size+1]? = some (.stringIter (s.extract 1 s.size) pos)∧Below w.heap.size w wr∧pos≤(s.extract 1 s.size).size∧acc.length≤pos∧Hid (fH (s.extract 1 s.size).data.toList acc pos qq)) (fun _ _ _ _ _ wr=>s.size-wr.iterPos (w.heap.size+1))
 case atStart=>exact ⟨0,[],false,rfl,hI0,hit0,hb0,Nat.zero_le _,ν _,pD _⟩
 case round =>
  clear hI0 hit0 hb0
  obtain ⟨pos,acc,qq,rfl,hI,hit,hbw,hle,hal,HA⟩:=hrel
  have hpos0:=eP hit
  have hsz:w.heap.size+1<wr.heap.size:=(Array.getElem?_eq_some_iff.1 hit).1
  have hsz0:=hbw.size
  by_cases hp:pos<(s.extract 1 s.size).size
  ·have hnx0:∀ ty,(Instr.next (.pointer (some ⟨w.heap.size+1,0,none⟩)) true ty).run prog wr=_:=fun ty=>Lib.run_next_any_at wr (w.heap.size+1) (s.extract 1 s.size) pos ty hit hp
   have hgt:(s.extract 1 s.size).data.toList[pos]? = some ((s.extract 1 s.size)[pos]'hp):=gU _ _ hp
   have hI2:=hI.iterAt hit (pos+(Utf8.decode (s.extract 1 s.size) pos).2)
   have hit2:=Lib.iterAt_heap wr (w.heap.size+1) (s.extract 1 s.size) pos (pos+(Utf8.decode (s.extract 1 s.size) pos).2) hit
   have hbw2:=Lib.below_iterAt hbw (k:=w.heap.size+1) (by omega) (s.extract 1 s.size) (pos+(Utf8.decode (s.extract 1 s.size) pos).2)
   have hsz2:w.heap.size≤(wr.iterAt (w.heap.size+1) (s.extract 1 s.size) (pos+(Utf8.decode (s.extract 1 s.size) pos).2)).heap.size:=by rw [Lib.iterAt_size];omega
   by_cases hr:(Utf8.decode (s.extract 1 s.size) pos).1=39
   ·obtain ⟨hc,hk⟩:=Ec _ _ hp hr
    rw [hc] at hgt
    have hnx:=hnx0
    rw [hr,hk] at hnx
    rw [hk] at hI2 hit2 hbw2 hsz2
    have hp2:=eP hit2
    cases qq
    ·have HA2:=κ (pE HA.out hgt)
     clear hnx0 hr hk hgt hc HA
     go_wp2
     go_roundw
     case rel=>exact ⟨pos+1,acc,true,rfl,hI2,hit2,hbw2,by omega,by omega,HA2⟩
     case measure=>rw [hp2,hpos0];omega
    ·have HA2:=κ (sT HA.out hgt)
     clear hnx0 hr hk hgt hc HA
     go_wp2_with fail
     refine (aAR w.heap.size w.heap.size _ 39 _ hI2 (by rw [Lib.byteCells_length];omega) hsz2).mono ?_
     rintro e W1 ⟨rfl,g1,b1,k1⟩
     have hit3:=k1.iter hit2 (by omega)
     have hp3:=eP hit3
     have hbw3:=hbw2.trans b1
     go_wp2
     go_roundw
     case rel=>exact ⟨pos+1,acc++[39],false,rfl,by rw [Lib.byteCells_append];exact g1,hit3,hbw3,by omega,by simp;omega,HA2⟩
     case measure=>rw [hp3,hpos0];omega
   ·obtain ⟨hk1,hk2,hk3⟩:=Ib _ _ hp hr
    have hc:=Ed _ _ hp hr
    have hce:(((Utf8.decode (s.extract 1 s.size) pos).1:Int)==39)=false:=by rw [beq_eq_false_iff_ne];omega
    cases qq
    ·have HA2:=κ (rG HA.out (by simpa using hk1) hk3)
     have hdg:Lib.decodeGo (s.extract (1+pos) s.size)=Utf8.decode (s.extract 1 s.size) pos:=by
      rw [Ia,Lib.decodeGo_extract s (1+pos) (by omega)]
     have hst:Hid (Lib.strCells (s.extract (1+pos) (1+pos+(Utf8.decode (s.extract 1 s.size) pos).2))=Lib.byteCells (((s.extract 1 s.size).data.toList.drop pos).take (Utf8.decode (s.extract 1 s.size) pos).2)):=by
      show _=_
      rw [Lib.strCells_eq,Lib.extract_data,HSD.out,List.drop_drop]
      congr 2
      omega
     have hlt:(((s.extract 1 s.size).data.toList.drop pos).take (Utf8.decode (s.extract 1 s.size) pos).2).length≤(Utf8.decode (s.extract 1 s.size) pos).2:=List.length_take_le _ _
     have HDG:=κ hdg
     generalize ((s.extract 1 s.size).data.toList.drop pos).take (Utf8.decode (s.extract 1 s.size) pos).2=T at *
     generalize (Utf8.decode (s.extract 1 s.size) pos)=ck at *
     obtain ⟨c,k⟩:=ck
     simp only at hk1 hk2 hlt hce hnx0 hI2 hit2 hbw2 hsz2
     have hp2:=eP hit2
     have hT2:=aP hT hbw2
     clear hdg hgt hc HA hk3 hr hI
     have hD:=fun W h=>eG (s.extract (1+pos) s.size) W h
     rw [HDG.out] at hD
     have HDC:=κ hD
     have hxs:(s.extract (1+pos) (1+pos+k)).size=k:=by simp;simp at hk1;omega
     have HXS:=κ hxs
     clear hD hxs
     go_wp2_with fail
     refine (HDC.out _ hT2).mono ?_
     rintro e W1 ⟨rfl,b1⟩
     have hI3:=hI2.below b1
     have hit3:=aA hit2 b1
     have hbw3:=hbw2.trans (b1.mono hsz2)
     have hsz3:=hbw3.size
     clear hI2 b1
     go_wp2_with fail
     refine (Wg w.heap.size w.heap.size _ _ _ hI3 (by rw [Lib.byteCells_length,HXS.out];omega) hsz3).mono ?_
     rintro e W2 ⟨rfl,g2,b2,k2⟩
     rw [hst.out, ←Lib.byteCells_append] at g2
     have hit4:=k2.iter hit3 (by omega)
     have hp4:=eP hit4
     have hbw4:=hbw3.trans b2
     have hal2:(acc++T).length≤pos+k:=by rw [List.length_append];omega
     clear hI3 hit3 hbw3 hit2 hbw2 hbw hit
     go_wp2
     go_roundw
     case rel=>exact ⟨pos+k,acc++T,false,rfl,g2,hit4,hbw4,hk1,hal2,HA2⟩
     case measure=>rw [hp4,hpos0];omega
    ·have HA2:=κ (sU HA.out hgt hc)
     generalize (Utf8.decode (s.extract 1 s.size) pos).1=c at *
     generalize (Utf8.decode (s.extract 1 s.size) pos).2=k at *
     clear hgt hc HA hk3 hr hI
     go_wp2_with fail
     refine (Tryz.Builder_String_any_k w.heap.size w.heap.size acc _ hI2 hsz2).mono ?_
     rintro e W1 ⟨rfl,_,b1,_⟩
     go_wp2
     go_ret2
     exact oF HA2.out (hbw2.trans b1)
  ·have hnx:∀ ty,(Instr.next (.pointer (some ⟨w.heap.size+1,0,none⟩)) true ty).run prog wr=_:=fun ty=>Lib.run_next_end_at wr (w.heap.size+1) (s.extract 1 s.size) pos ty hit hp
   cases qq
   ·have HA2:=κ (rH HA.out (by simp;simp at hp;omega))
    clear HA
    go_wp2
    go_ret2
    exact vK HA2.out hbw
   ·have HA2:=κ (rI HA.out (by simp;simp at hp;omega))
    have hps:Hid ((s.size:Int)=(pos:Int)+1):=by show _=_;omega
    clear HA
    go_wp2_with fail
    refine (Tryz.Builder_String_any_k w.heap.size w.heap.size acc _ hI hsz0).mono ?_
    rintro e W1 ⟨rfl,_,b1,_⟩
    go_wp2
    go_ret2
    rw [hps.out]
    exact oF HA2.out (hbw.trans b1)
theorem Mk (c:UInt8):mT c=decide (0≤Lib.indexByte [40,41,44,59,42,43,45,47,37,61,60,62,46] c):=Lib.contains_iff_indexByte _ _
theorem Pj {s:ByteArray} (h:s.size=1):s.data.toList=[s[0]'(by omega)]:=by
 have:=iO s 0 (by omega)
 rw [List.drop_zero] at this
 rw [this,List.drop_eq_nil_of_le (by simp;omega)]
theorem Bv {s:ByteArray} (h:1<s.size):s.data.toList=s[0]'(by omega)::s[1]'h::s.data.toList.drop 2:=by
 have h1:=iO s 0 (by omega)
 have h2:=iO s 1 h
 rw [List.drop_zero] at h1
 rw [h1,h2];rfl
theorem Js {s:ByteArray} (h:1<s.size):(s.extract 0 2).toList=[s[0]'(by omega),s[1]'h]:=by
 rw [ByteArray.toList_eq,Lib.extract_data,Bv h];rfl
theorem Fh (c d:UInt8) (x y:UInt8):([c,d]==[x,y])=(decide (c.toNat=x.toNat)&&decide (d.toNat=y.toNat)):=by
 rw [Bool.eq_iff_iff]
 simp [←UInt8.toNat_inj]
theorem Xx (c d:UInt8):sM c d=(([c,d]==[60,61])||([c,d]==[62,61])||([c,d]==[60,62])):=by
 rw [Fh,Fh,Fh,Bool.eq_iff_iff]
 unfold sM
 simp
 omega
theorem fD {n:Nat} {z:Int} (h:(n:Int)=z):Ending.returned (.int .i64 z)=.returned (.int .i64 (n:Int)):=by rw [h]
theorem Ah (s:ByteArray) (w:World) (h1:1≤s.size):Calls prog 118 #[.string s] w fun e w'=>e=.returned (.int .i64 (bY s.data.toList:Nat))∧w=w':=by
 have hsg:=Mk (s[0]'h1)
 by_cases h2:1<s.size
 ·have hl:=Bv h2
  have ht:=Xx (s[0]'h1) (s[1]'h2)
  rw [←Js h2] at ht
  cases e1:(s.extract 0 2).toList==[60,61]
  ·cases e2:(s.extract 0 2).toList==[62,61]
   ·cases e3:(s.extract 0 2).toList==[60,62]
    ·rw [e1,e2,e3] at ht
     cases hg:mT (s[0]'h1)
     ·rw [hg] at hsg
      have hi:Lib.indexByte [40,41,44,59,42,43,45,47,37,61,60,62,46] (s[0]'h1)<0:=by have:=of_decide_eq_false hsg.symm;omega
      have HF:=κ (show ((bY s.data.toList:Nat):Int)=0 by rw [hl];simp [bY,ht,hg])
      clear hl ht hsg hg
      go_enter func118,ntmps118
      go_wp2_with (go_at_call 62;refine (Tryz.strings_IndexByte _ _ _).mono ?_;rintro e w' ⟨rfl,rfl⟩)
      go_ret
      exact ⟨fD HF.out,rfl⟩
     ·rw [hg] at hsg
      have hi:0≤Lib.indexByte [40,41,44,59,42,43,45,47,37,61,60,62,46] (s[0]'h1):=of_decide_eq_true hsg.symm
      have HF:=κ (show ((bY s.data.toList:Nat):Int)=1 by rw [hl];simp [bY,ht,hg])
      clear hl ht hsg hg
      go_enter func118,ntmps118
      go_wp2_with (go_at_call 62;refine (Tryz.strings_IndexByte _ _ _).mono ?_;rintro e w' ⟨rfl,rfl⟩)
      go_ret
      exact ⟨fD HF.out,rfl⟩
    ·rw [e1,e2,e3] at ht
     have HF:=κ (show ((bY s.data.toList:Nat):Int)=2 by rw [hl];simp [bY,ht])
     clear hl ht hsg
     go_enter func118,ntmps118
     go_wp2
     go_ret
     exact ⟨fD HF.out,rfl⟩
   ·rw [e1,e2] at ht
    have HF:=κ (show ((bY s.data.toList:Nat):Int)=2 by rw [hl];simp [bY,ht])
    clear hl ht hsg
    go_enter func118,ntmps118
    go_wp2
    go_ret
    exact ⟨fD HF.out,rfl⟩
  ·rw [e1] at ht
   have HF:=κ (show ((bY s.data.toList:Nat):Int)=2 by rw [hl];simp [bY,ht])
   clear hl ht hsg
   go_enter func118,ntmps118
   go_wp2
   go_ret
   exact ⟨fD HF.out,rfl⟩
 ·have hl:=Pj (s:=s) (by omega)
  have h2':¬(1:Int)<(s.size:Int):=by omega
  cases hg:mT (s[0]'h1)
  ·rw [hg] at hsg
   have hi:Lib.indexByte [40,41,44,59,42,43,45,47,37,61,60,62,46] (s[0]'h1)<0:=by have:=of_decide_eq_false hsg.symm;omega
   have HF:=κ (show ((bY s.data.toList:Nat):Int)=0 by rw [hl];simp [bY,hg])
   clear hl hsg hg
   go_enter func118,ntmps118
   go_wp2_with (go_at_call 62;refine (Tryz.strings_IndexByte _ _ _).mono ?_;rintro e w' ⟨rfl,rfl⟩)
   go_ret
   exact ⟨fD HF.out,rfl⟩
  ·rw [hg] at hsg
   have hi:0≤Lib.indexByte [40,41,44,59,42,43,45,47,37,61,60,62,46] (s[0]'h1):=of_decide_eq_true hsg.symm
   have HF:=κ (show ((bY s.data.toList:Nat):Int)=1 by rw [hl];simp [bY,hg])
   clear hl hsg hg
   go_enter func118,ntmps118
   go_wp2_with (go_at_call 62;refine (Tryz.strings_IndexByte _ _ _).mono ?_;rintro e w' ⟨rfl,rfl⟩)
   go_ret
   exact ⟨fD HF.out,rfl⟩
theorem zX (n:Int) (ok:Bool) (w:World) :
 Calls prog 166 #[.int .i64 n,.bool ok] w fun e w'=>e=.returned (.tuple #[.int .i64 (tv ok n),.int .i64 (te ok)])∧w=w':=by
 cases ok
 ·go_enter func166,ntmps166
  go_wp2
  go_ret2
  exact ⟨rfl,rfl⟩
 ·go_enter func166,ntmps166
  go_wp2
  go_ret2
  exact ⟨rfl,rfl⟩
theorem He (a b:Int) (w:World) (ha:inR a) (hb:inR b) :
 Calls prog 153 #[.int .i64 a,.int .i64 b] w fun e w'=>e=.returned (.tuple #[.int .i64 (val (a+b)),.int .i64 (err (a+b))])∧w=w':=by
 have e1:=Xd (Sg a b ha hb) oX
 have e2:=Xf (Sg a b ha hb)
 rw [←e1, ←e2];clear e1 e2
 go_enter func153,ntmps153
 go_wp2_with (go_at_call 166;refine (zX _ _ _).mono ?_;rintro e w' ⟨rfl,rfl⟩)
 go_ret2
 exact ⟨rfl,rfl⟩
theorem Gp (a b:Int) (w:World) (ha:inR a) (hb:inR b) :
 Calls prog 152 #[.int .i64 a,.int .i64 b] w fun e w'=>e=.returned (.tuple #[.int .i64 (val (a*b)),.int .i64 (err (a*b))])∧w=w':=by
 by_cases h0:a=0
 ·subst h0
  rw [Int.zero_mul]
  go_enter func152,ntmps152
  go_wp2
  go_ret2
  exact ⟨rfl,rfl⟩
 ·by_cases h1:b=0
  ·subst h1
   rw [Int.mul_zero]
   go_enter func152,ntmps152
   go_wp2
   go_ret2
   exact ⟨rfl,rfl⟩
  ·have e1:=Xd (Oz a b ha hb h1) oX
   have e2:=Xf (Oz a b ha hb h1)
   rw [←e1, ←e2];clear e1 e2 ha hb
   go_enter func152,ntmps152
   go_wp2_with (go_at_call 166;refine (zX _ _ _).mono ?_;rintro e w' ⟨rfl,rfl⟩)
   all_goals
    go_ret2
    simp_all [aBC]
theorem Pa (a b:Int) (w:World) (ha:inR a) (hb:inR b) (h:inR (a*b)) :
 Calls prog 152 #[.int .i64 a,.int .i64 b] w fun e w'=>e=.returned (.tuple #[.int .i64 (a*b),.int .i64 0])∧w=w':=by
 have:=Gp a b w ha hb;rw [xN h,yU h] at this;exact this
theorem Up (a b:Int) (w:World) (ha:inR a) (hb:inR b) (h:¬inR (a*b)) :
 Calls prog 152 #[.int .i64 a,.int .i64 b] w fun e w'=>e=.returned (.tuple #[.int .i64 0,.int .i64 9])∧w=w':=by
 have:=Gp a b w ha hb;rw [rY h,sE h] at this;exact this
theorem Zt (a b:Int) (w:World) (ha:inR a) (hb:inR b) (h:inR (a+b)) :
 Calls prog 153 #[.int .i64 a,.int .i64 b] w fun e w'=>e=.returned (.tuple #[.int .i64 (a+b),.int .i64 0])∧w=w':=by
 have:=He a b w ha hb;rw [xN h,yU h] at this;exact this
theorem Wv (a b:Int) (w:World) (ha:inR a) (hb:inR b) (h:¬inR (a+b)) :
 Calls prog 153 #[.int .i64 a,.int .i64 b] w fun e w'=>e=.returned (.tuple #[.int .i64 0,.int .i64 9])∧w=w':=by
 have:=He a b w ha hb;rw [rY h,sE h] at this;exact this
def jJ (s:ByteArray) (w:World) (e:Ending) (w':World):Prop :=
 e=.returned (.tuple #[.int .i64 (jA s.data.toList),.int .i64 (kT s.data.toList)])∧Below w.heap.size w w'
theorem lU {s:ByteArray} {w w':World} (h:kR s.data.toList=false) (hb:Below w.heap.size w w'):jJ s w (.returned (.tuple #[.int .i64 0,.int .i64 3])) w':=by
 rw [jJ,wO h,qP h];exact ⟨rfl,hb⟩
theorem yE {s:ByteArray} {w w':World} {m:Int} (h:kR s.data.toList=true) (hm:m=dvf 0 s.data.toList) (hin:inR m) (hb:Below w.heap.size w w'):jJ s w (.returned (.tuple #[.int .i64 m,.int .i64 0])) w':=by
 subst hm;rw [jJ,lJ h,lK h,xN hin,yU hin];exact ⟨rfl,hb⟩
theorem pJ {s:ByteArray} {w w':World} (h:kR s.data.toList=true) (hin:¬inR (dvf 0 s.data.toList)) (hb:Below w.heap.size w w'):jJ s w (.returned (.tuple #[.int .i64 0,.int .i64 9])) w':=by
 rw [jJ,lJ h,lK h,rY hin,sE hin];exact ⟨rfl,hb⟩
theorem lY {w:World} {k:Nat} {s:ByteArray} {p:Nat} (h:w.heap[k]? = some (.stringIter s p)):w.iterPos k=p:=by simp [World.iterPos,h]
theorem Nz (s:ByteArray) (w:World) :
 Calls prog 114 #[.string s] w (jJ s w):=by
 go_enter func114,ntmps114
 go_wp2
 go_loopw [6] (fun _ wr=>∃ pos:Nat,wr.heap[w.heap.size]? = some (.stringIter s pos)∧Below w.heap.size w wr∧pos≤s.size∧Hid ((s.data.toList.take pos).all aN=true)) (fun _ wr=>s.size-wr.iterPos w.heap.size)
 case atStart=>exact ⟨0,World.iter_heap w s 0,ρ,Nat.zero_le _,by rfl⟩
 case round =>
  obtain ⟨pos,hit,hbw,hle,HD⟩:=hrel
  have hpos0:=lY hit
  by_cases hp:pos<s.size
  ·have hnx0:∀ ty,(Instr.next (.pointer (some ⟨w.heap.size,0,none⟩)) true ty).run prog wr=_:=fun ty=>Lib.run_next_any_at wr w.heap.size s pos ty hit hp
   cases hd:aN (s[pos]'hp)
   ·have hr:=Nc s pos hp hd
    have hall:=Dd s pos hp hd
    have hb2:=Lib.below_iterAt hbw (k:=w.heap.size) (ν _) s (pos+(Utf8.decode s pos).2)
    generalize (Utf8.decode s pos).1=c at *
    generalize (Utf8.decode s pos).2=k at *
    have Hall:=κ hall
    clear hall hd HD
    rcases hr with hr|hr
    ·go_wp2
     go_ret2
     exact lU Hall.out hb2
    ·have hr2:¬c<48:=by omega
     go_wp2
     go_ret2
     exact lU Hall.out hb2
   ·have hdec:=Ak s pos hp hd
    have hbd:=fZ hd
    have HD2:=κ (Lp.gB s pos hp HD.out hd)
    have hnx:=hnx0
    rw [hdec] at hnx
    have hit2:=Lib.iterAt_heap wr w.heap.size s pos (pos+1) hit
    have hb2:=Lib.below_iterAt hbw (k:=w.heap.size) (ν _) s (pos+1)
    clear hnx0 hdec hd HD
    generalize (s[pos]'hp).toNat=c at *
    obtain ⟨hc1,hc2⟩:=hbd
    have hc3:¬c<48:=by omega
    have hc4:¬57<c:=by omega
    have hp2:=lY hit2
    go_wp2
    go_roundw
    case rel=>exact ⟨pos+1,hit2,hb2,by omega,HD2⟩
    case measure=>rw [hp2,hpos0];omega
  ·have hnx:∀ ty,(Instr.next (.pointer (some ⟨w.heap.size,0,none⟩)) true ty).run prog wr=_:=fun ty=>Lib.run_next_end_at wr w.heap.size s pos ty hit hp
   obtain rfl:pos=s.size:=by omega
   have HA:Hid (s.data.toList.all aN=true):=by have:=HD.out;rw [iY] at this;exact this
   clear HD
   obtain ⟨wo,rfl⟩:∃ wo:World,wo=wr:=⟨_,rfl⟩
   by_cases h0:s.size=0
   ·have h0l:s.data.toList=[]:=List.eq_nil_of_length_eq_zero (by simpa using h0)
    have Hall:=κ (show kR s.data.toList=false by rw [h0l];rfl)
    have h0e:s.toList.isEmpty=true:=by rw [ByteArray.toList_eq,h0l];rfl
    clear h0l
    go_wp2
    go_ret2
    exact lU Hall.out hbw
   ·have h0e:s.toList.isEmpty=false:=by rw [ByteArray.toList_eq,List.isEmpty_eq_false_iff];intro h;exact h0 (by simpa using congrArg List.length h)
    have Hall:=κ (show kR s.data.toList=true by rw [ByteArray.toList_eq] at h0e;simp [kR,h0e];simpa using HA.out)
    have hlt:=(Array.getElem?_eq_some_iff.1 hit).1
    clear hit hpos0
    go_wp2
    have hKw:w.heap.size≤wo.heap.size:=by omega
    have hstart:=World.iter_heap wo s 0
    have hbstart:=hbw.alloc (by omega) (.stringIter s 0)
    clear hnx
    go_loopw [4,8,9,10] (fun n _ _ _ wr=>∃ (pos:Nat) (m:Int),n=.int .i64 m∧Hid (m=dvf 0 (s.data.toList.take pos))∧Hid (inR m)∧wr.heap[wo.heap.size]? = some (.stringIter s pos)∧Below w.heap.size w wr∧pos≤s.size) (fun _ _ _ _ wr=>s.size-wr.iterPos wo.heap.size)
    case atStart=>exact ⟨0,0,rfl,rfl,by show inR 0;decide,hstart,hbstart,Nat.zero_le _⟩
    case round =>
     clear hstart hbstart h0e hbw hp
     obtain ⟨pos,m,rfl,Hm,Hin,hit,hbw,hle⟩:=hrel
     have hpos0:=lY hit
     by_cases hp:pos<s.size
     ·have hd:=Se s pos hp HA.out
      have hdec:=Ak s pos hp hd
      have hbd:=fZ hd
      have hnx:∀ ty,(Instr.next (.pointer (some ⟨wo.heap.size,0,none⟩)) true ty).run prog wr=_:=fun ty=>Lib.run_next_any_at wr wo.heap.size s pos ty hit hp
      rw [hdec] at hnx
      have hit2:=Lib.iterAt_heap wr wo.heap.size s pos (pos+1) hit
      have hb2:=Lib.below_iterAt hbw (k:=wo.heap.size) hKw s (pos+1)
      have Hm2:Hid (m*10+(((s[pos]'hp).toNat:Int)-48)=dvf 0 (s.data.toList.take (pos+1))):=by
       show _=_
       rw [gI s pos hp,Cp, ←Hm.out]
      have Hge:Hid (¬inR m→¬inR (dvf 0 s.data.toList)):=fun h=>Es s pos HA.out (by rw [←Hm.out];exact h)
      have Hge2:Hid (¬inR (m*10+(((s[pos]'hp).toNat:Int)-48))→¬inR (dvf 0 s.data.toList)):=fun h=>Es s (pos+1) HA.out (by rw [←Hm2.out];exact h)
      have Hnn:Hid (0≤m):=by
       show 0≤m
       rw [Hm.out]
       exact iN (by have:=HA.out;rw [List.all_eq_true] at *;intro x hx;exact this x (List.mem_of_mem_take hx))
      clear hdec hd Hm
      generalize (s[pos]'hp).toNat=c at *
      obtain ⟨hc1,hc2⟩:=hbd
      have hc3:inR ((c:Int)-48):=⟨by omega,by omega⟩
      have hp2:=lY hit2
      by_cases h1:inR (m*10)
      ·by_cases h2:inR (m*10+((c:Int)-48))
       ·go_wp2_with (first|(go_at_call 152;refine (Pa _ _ _ Hin.out (by decide) h1).mono ?_;rintro e w' ⟨rfl,rfl⟩)|(go_at_call 153;refine (Zt _ _ _ h1 hc3 h2).mono ?_;rintro e w' ⟨rfl,rfl⟩))
        go_roundw
        case rel=>exact ⟨pos+1,_,rfl,Hm2,κ h2,hit2,hb2,by omega⟩
        case measure=>rw [hp2,hpos0];omega
       ·have Hout:=κ (Hge2.out h2)
        go_wp2_with (first|(go_at_call 152;refine (Pa _ _ _ Hin.out (by decide) h1).mono ?_;rintro e w' ⟨rfl,rfl⟩)|(go_at_call 153;refine (Wv _ _ _ h1 hc3 h2).mono ?_;rintro e w' ⟨rfl,rfl⟩))
        go_ret2
        exact pJ Hall.out Hout.out hb2
      ·have Hout:=κ (Hge2.out (fun h=>h1 (by have:=Hnn.out;unfold inR at *;omega)))
       go_wp2_with (first|(go_at_call 152;refine (Up _ _ _ Hin.out (by decide) h1).mono ?_;rintro e w' ⟨rfl,rfl⟩))
       go_ret2
       exact pJ Hall.out Hout.out hb2
     ·have hnx:∀ ty,(Instr.next (.pointer (some ⟨wo.heap.size,0,none⟩)) true ty).run prog wr=_:=fun ty=>Lib.run_next_end_at wr wo.heap.size s pos ty hit hp
      have Hm2:Hid (m=dvf 0 s.data.toList):=by
       show _=_
       obtain rfl:pos=s.size:=by omega
       have:=Hm.out;rw [iY] at this;exact this
      clear Hm
      go_wp2
      go_ret2
      exact yE Hall.out Hm2.out Hin.out hbw
theorem Uz (c:UInt8) (h:c.toNat<128):(if 0≤mI (c.toNat:Int) then Lib.encodeRune (mI (c.toNat:Int)) else [])=[gR c]:=by
 have h0:0≤mI (c.toNat:Int):=by unfold mI;split<;>omega
 have h1:mI (c.toNat:Int)≤127:=by unfold mI;split<;>omega
 rw [if_pos h0]
 unfold Lib.encodeRune
 rw [Lib.encodeRuneZ_one h0 h1]
 simp only [List.map_cons,List.map_nil,List.cons.injEq,and_true]
 apply UInt8.toNat_inj.1
 unfold mI gR
 by_cases g:65≤c.toNat∧c.toNat≤90
 ·rw [if_pos (by omega),if_pos g]
  have e:((c.toNat:Int)+32).toNat=c.toNat+32:=by omega
  rw [e]
  simp [Nat.toUInt8,UInt8.toNat_add]
 ·rw [if_neg (by omega),if_neg g]
  simp [Nat.toUInt8]
theorem Bs:∀ (l:List UInt8),(∀ c∈l,c.toNat<128)→Lib.mapD mI l=l.map gR
 | [],_=>rfl
 | c::l,h=>by
   have hc:=h c (by simp)
   rw [Lib.mapD_step _ _ (by simp),Lib.decodeL_ascii c l hc]
   show (if 0≤mI (c.toNat:Int) then Lib.encodeRune (mI (c.toNat:Int)) else [])++Lib.mapD mI ((c::l).drop 1)=_
   rw [Uz c hc]
   have:=Bs l (fun d hd=>h d (by simp [hd]))
   rw [show (c::l).drop 1=l from rfl,this];rfl
theorem vO {p:UInt8→Bool} {l:List UInt8} {c:UInt8} (h:c∈l.takeWhile p):p c=true:=by
 induction l with
 | nil=>cases h
 | cons d l ih =>
   rw [List.takeWhile_cons] at h
   cases hd:p d
   ·rw [hd] at h;cases h
   ·rw [hd,if_pos rfl] at h
    rcases List.mem_cons.1 h with rfl|h
    ·exact hd
    ·exact ih h
theorem kC {p:UInt8→Bool} (l:List UInt8):l.take (l.takeWhile p).length=l.takeWhile p:=by
 induction l with
 | nil=>rfl
 | cons d l ih =>
   rw [List.takeWhile_cons]
   cases hd:p d
   ·rfl
   ·simp [ih]
theorem Uu (s:ByteArray) (w:World) (hs:s.size≤1000000000) (hl:∀ c∈s.data.toList,c.toNat<128) (hT:dZ w) :
 Calls prog 112 #[.func (.func 113) #[] #[],.string s] w fun e w'=>e=.returned (.string ⟨(s.data.toList.map gR).toArray⟩)∧Below w.heap.size w w':=by
 rw [←Bs _ hl]
 refine Tryz.strings_Map_grows 113 #[] (enters_of func113 (by kernel_rfl) rfl) mI s w (by omega) ?_ ?_ hT
 ·intro W x hx _
  refine (Hr (x:Int) W (by omega) (by omega)).mono ?_
  rintro e w' ⟨rfl,rfl⟩
  exact ⟨rfl,θ⟩
 ·intro x hx
  unfold mI;split<;>omega
theorem jS {s:ByteArray} {c:UInt8} {r:List UInt8} (hl:s.data.toList=c::r):∃ k,Lib.decodeGo s=((Utf8.decode s 0).1,k)∧(c.toNat<128→(Utf8.decode s 0).1=c.toNat)∧(128≤c.toNat→128≤(Utf8.decode s 0).1):=by
 have hz:0<s.size:=by
  have:=congrArg List.length hl
  rw [Array.length_toList] at this
  show 0<s.data.size
  rw [this];simp
 have hc:s[0]'hz=c:=by
  have:=gU s 0 hz
  rw [hl] at this
  simpa using this.symm
 refine ⟨(Utf8.decode s 0).2, ?_, ?_, ?_⟩
 ·unfold Lib.decodeGo;rw [if_neg (by omega)]
 ·intro h;rw [decode_ascii s 0 hz (by rw [hc];exact h),hc]
 ·intro h;exact (decode_high s 0 hz (by rw [hc];exact h)).1
def eD (l:List UInt8) (w:World) (e:Ending) (w':World):Prop :=
 e=.returned (.tuple #[.agg #[.int .u8 (bE l).1.k,.string ⟨(bE l).1.s.toArray⟩,.int .i64 (bE l).1.n],.int .i64 ((bE l).2.1:Nat),.int .i64 (bE l).2.2])∧Below w.heap.size w w'
theorem gQ {l:List UInt8} {w w':World} {k n E:Int} {s:List UInt8} {m:Nat} (h:bE l=(⟨k,s,n⟩,m,E)) (hb:Below w.heap.size w w') :
 eD l w (.returned (.tuple #[.agg #[.int .u8 k,.string ⟨s.toArray⟩,.int .i64 n],.int .i64 (m:Int),.int .i64 E])) w':=by
 unfold eD;rw [h];exact ⟨rfl,hb⟩
theorem fN {c:UInt8} {r:Nat} (h1:c.toNat<128→r=c.toNat) (h2:128≤c.toNat→128≤r):rU (r:Int)=fO c∧oB (r:Int)=aN c∧(((r:Int)==39)=decide (c=39)):=by
 by_cases h:c.toNat<128
 ·rw [h1 h]
  refine ⟨eW c,eB c, ?_⟩
  rw [Bool.eq_iff_iff,beq_iff_eq,decide_eq_true_iff, ←UInt8.toNat_inj]
  show _↔c.toNat=39
  omega
 ·have h3:=h2 (by omega)
  have e1:rU (c.toNat:Int)=false:=yQ (by omega)
  have e2:oB (c.toNat:Int)=false:=sF (by omega)
  refine ⟨?_, ?_, ?_⟩
  ·rw [yQ (by omega), ←eW,e1]
  ·rw [sF (by omega), ←eB,e2]
  ·rw [Bool.eq_iff_iff,beq_iff_eq,decide_eq_true_iff, ←UInt8.toNat_inj]
   show _↔c.toNat=39
   omega
theorem Jc (s:ByteArray) (c:UInt8) (r:List UInt8) (hl:s.data.toList=c::r) (w:World) (hs:s.size≤1000000000) (hc:fO c=true) (hT:dZ w) :
 Calls prog 63 #[.string s] w (eD (c::r) w):=by
 have HN:=κ (fE r hc)
 have hb0:Below w.heap.size w (w.alloc (.cells #[.int .u8 0,.string ⟨#[]⟩,.int .i64 0] 160)):=ρ
 have hx0:=heap_alloc_new w (.cells #[.int .u8 0,.string ⟨#[]⟩,.int .i64 0] 160)
 have hT0:=aP hT hb0
 obtain ⟨kd,hd,hd1,hd2⟩:=jS hl
 obtain ⟨f1,_,_⟩:=fN hd1 hd2
 generalize (Utf8.decode s 0).1=rn at *
 have cD:=fun W h=>eG s W h
 rw [hd] at cD
 have CD:=κ cD
 have cL:=fun W=>dR (rn:Int) W
 rw [f1,hc] at cL
 unfold aW at cL
 have CL:=κ cL
 have cW:=fun W=>Dg s W
 have hle:(s.data.toList.takeWhile bO).length≤s.size:=by
  have:=fJ bO s.data.toList
  rw [Array.length_toList] at this;exact this
 have htk:(s.extract 0 (s.data.toList.takeWhile bO).length).data.toList=s.data.toList.takeWhile bO:=by
  rw [Lib.extract_data,List.drop_zero];simp only [Nat.sub_zero];exact kC _
 have hsm:∀ d∈(s.extract 0 (s.data.toList.takeWhile bO).length).data.toList,d.toNat<128:=by
  rw [htk];intro d hd;exact sH (vO hd)
 have hxz:(s.extract 0 (s.data.toList.takeWhile bO).length).size≤1000000000:=by
  have e:(s.extract 0 (s.data.toList.takeWhile bO).length).size=(s.extract 0 (s.data.toList.takeWhile bO).length).data.toList.length:=by rw [Array.length_toList];rfl
  rw [e,htk];omega
 have cM:=fun W hW=>Uu (s.extract 0 (s.data.toList.takeWhile bO).length) W hxz hsm hW
 rw [htk,hl] at cM
 rw [hl] at cW hle
 have CW:=κ cW
 have CM:=κ cM
 clear hd hd1 hd2 f1 hc hl cD cL cW cM htk hsm hT hxz
 generalize ((c::r).takeWhile bO).length=m at *
 go_enter func63,ntmps63
 go_wp2_with fail
 refine (CD.out _ hT0).mono ?_
 rintro e w1 ⟨rfl,b1⟩
 have x1:=aA hx0 b1
 have k1:=hb0.trans (b1.mono hb0.size)
 have hT1:=aP hT0 b1
 clear hx0 hb0 b1 hT0
 go_wp2_with fail
 refine (CL.out _).mono ?_
 rintro e w' ⟨rfl,rfl⟩
 go_wp2_with fail
 refine (CW.out _).mono ?_
 rintro e w2 ⟨rfl,b2⟩
 have x2:=aA x1 b2
 have k2:=k1.trans (b2.mono k1.size)
 have hT2:=aP hT1 b2
 clear x1 k1 b2 hT1
 go_wp2_with fail
 refine (CM.out _ hT2).mono ?_
 rintro e w3 ⟨rfl,b3⟩
 have x3:=aA x2 b3
 have k3:=k2.trans (b3.mono k2.size)
 have c3:=β x3
 have f3:=fun j=>frozen_of_row w3 w.heap.size j _ _ x3
 clear x2 k2 b3 hT2
 go_wp2
 have hbE:=((k3.setCell (p:=⟨w.heap.size,0,none⟩) (ν _) (.int .u8 1)).setCell (p:=⟨w.heap.size,1,none⟩) (ν _) (.string ⟨(((c::r).takeWhile bO).map gR).toArray⟩)).setCell (p:=⟨w.heap.size,2,none⟩) (ν _) (.int .i64 0)
 exact bodyPost_ret (v:=.tuple #[.agg #[.int .u8 1,.string ⟨(((c::r).takeWhile bO).map gR).toArray⟩,.int .i64 0],.int .i64 (m:Int),.int .i64 0]) (by simp [results,results63,go_sem,c3]) rfl (gQ HN.out hbE)
theorem gO {s:ByteArray} {l:List UInt8} (h:s.data.toList=l):s.size=l.length:=by rw [←h,Array.length_toList];rfl
theorem eO (T:List UInt8):bX 2 0 ⟨T.toArray⟩ false=(decide (T.length≤60)&&aS T):=by
 unfold bX
 simp [ByteArray.size]
theorem pC {t:List UInt8} {n:Nat} (h:aS t=false):jL (some (t,n))=(⟨0,[],0⟩,0,4):=by simp only [jL,h];rfl
theorem oK {t:List UInt8} {n:Nat} (h:aS t=true) (h2:¬t.length≤60):jL (some (t,n))=(⟨0,[],0⟩,0,2):=by simp only [jL,h,h2,if_true,if_false];rfl
theorem oL {t:List UInt8} {n:Nat} (h:aS t=true) (h2:t.length≤60):jL (some (t,n))=(⟨3,t,0⟩,n+1,0):=by simp only [jL,h,h2,if_true]
theorem Au (k i:Int) (s:ByteArray) (b r:Bool) (hr:bX k i s b=r) (w:World) (hs:s.size≤9223372036854775807) (hT:dZ w) :
 Calls prog 117 #[.agg #[.int .u8 k,.int .i64 i,.string s,.bool b]] w fun e w'=>e=.returned (.bool r)∧Below w.heap.size w w':=by
 subst hr;exact Im k i s b w hs hT
theorem Ot (s:ByteArray) (c:UInt8) (r:List UInt8) (hl:s.data.toList=c::r) (w:World) (_:s.size≤1000000000) (hc:fO c=false) (hi:aN c=true) (hT:dZ w) :
 Calls prog 63 #[.string s] w (eD (c::r) w):=by
 have HN:=κ (gL r hc hi)
 have hb0:Below w.heap.size w (w.alloc (.cells #[.int .u8 0,.string ⟨#[]⟩,.int .i64 0] 160)):=ρ
 have hx0:=heap_alloc_new w (.cells #[.int .u8 0,.string ⟨#[]⟩,.int .i64 0] 160)
 have hT0:=aP hT hb0
 obtain ⟨kd,hd,hd1,hd2⟩:=jS hl
 obtain ⟨f1,f2,f3⟩:=fN hd1 hd2
 generalize (Utf8.decode s 0).1=rn at *
 have cD:=fun W h=>eG s W h
 rw [hd] at cD
 have CD:=κ cD
 have cL:=fun W=>dR (rn:Int) W
 rw [f1,hc] at cL
 unfold aW at cL
 have CL:=κ cL
 have cI:=fun W=>dV (rn:Int) W
 rw [f2,hi] at cI
 unfold aW at cI
 have CI:=κ cI
 clear hd hd1 hd2 f1 f2 cD cL cI
 have cW:=fun W=>Hk s W
 have hle:(s.data.toList.takeWhile aN).length≤s.size:=by
  have:=fJ aN s.data.toList
  rw [Array.length_toList] at this;exact this
 have htk:(s.extract 0 (s.data.toList.takeWhile aN).length).data.toList=s.data.toList.takeWhile aN:=by
  rw [Lib.extract_data,List.drop_zero];simp only [Nat.sub_zero];exact kC _
 have cR:=fun W=>Nz (s.extract 0 (s.data.toList.takeWhile aN).length) W
 unfold jJ at cR
 rw [htk,hl] at cR
 rw [hl] at cW hle
 have CW:=κ cW
 have CR:=κ cR
 clear hc hi hl cW cR htk hT f3
 generalize ((c::r).takeWhile aN).length=m at *
 go_enter func63,ntmps63
 go_wp2_with fail
 refine (CD.out _ hT0).mono ?_
 rintro e w1 ⟨rfl,b1⟩
 have x1:=aA hx0 b1
 have k1:=hb0.trans (b1.mono hb0.size)
 have hT1:=aP hT0 b1
 clear hx0 hb0 b1 hT0
 go_wp2_with fail
 refine (CL.out _).mono ?_
 rintro e w' ⟨rfl,rfl⟩
 go_wp2_with fail
 refine (CI.out _).mono ?_
 rintro e w' ⟨rfl,rfl⟩
 go_wp2_with fail
 refine (CW.out _).mono ?_
 rintro e w2 ⟨rfl,b2⟩
 have x2:=aA x1 b2
 have k2:=k1.trans (b2.mono k1.size)
 clear x1 k1 b2 hT1
 go_wp2_with fail
 refine (CR.out _).mono ?_
 rintro e w3 ⟨rfl,b3⟩
 have x3:=aA x2 b3
 have k3:=k2.trans (b3.mono k2.size)
 have c3:=β x3
 have f3:=fun j=>frozen_of_row w3 w.heap.size j _ _ x3
 clear x2 k2 b3
 go_wp2
 have hbE:=((k3.setCell (p:=⟨w.heap.size,0,none⟩) (ν _) (.int .u8 2)).setCell (p:=⟨w.heap.size,1,none⟩) (ν _) (.string ⟨#[]⟩)).setCell (p:=⟨w.heap.size,2,none⟩) (ν _) (.int .i64 (jA ((c::r).takeWhile aN)))
 exact bodyPost_ret (v:=.tuple #[.agg #[.int .u8 2,.string ⟨#[]⟩,.int .i64 (jA ((c::r).takeWhile aN))],.int .i64 (m:Int),.int .i64 (kT ((c::r).takeWhile aN))]) (by simp [results,results63,go_sem,c3]) rfl (gQ HN.out hbE)
theorem Bn (s:ByteArray) (c:UInt8) (r:List UInt8) (hl:s.data.toList=c::r) (w:World) (_:s.size≤1000000000) (hc:fO c=false) (hi:aN c=false) (h39:c≠39) (hg:bY (c::r)=0) (hT:dZ w) :
 Calls prog 63 #[.string s] w (eD (c::r) w):=by
 have HN:=κ ((fF r hc hi h39).trans (if_pos hg))
 have hb0:Below w.heap.size w (w.alloc (.cells #[.int .u8 0,.string ⟨#[]⟩,.int .i64 0] 160)):=ρ
 have hx0:=heap_alloc_new w (.cells #[.int .u8 0,.string ⟨#[]⟩,.int .i64 0] 160)
 have hT0:=aP hT hb0
 obtain ⟨kd,hd,hd1,hd2⟩:=jS hl
 obtain ⟨f1,f2,f3⟩:=fN hd1 hd2
 generalize (Utf8.decode s 0).1=rn at *
 have cD:=fun W h=>eG s W h
 rw [hd] at cD
 have CD:=κ cD
 have cL:=fun W=>dR (rn:Int) W
 rw [f1,hc] at cL
 unfold aW at cL
 have CL:=κ cL
 have cI:=fun W=>dV (rn:Int) W
 rw [f2,hi] at cI
 unfold aW at cI
 have CI:=κ cI
 clear hd hd1 hd2 f1 f2 cD cL cI
 rw [decide_eq_false h39] at f3
 have hz:=gO hl
 have hz1:1≤s.size:=by rw [hz];simp
 have hle:bY (c::r)≤s.size:=by rw [hz];exact mU _
 have cS:=fun W=>Ah s W hz1
 rw [hl] at cS
 rw [hg] at cS
 have CS:=κ cS
 clear hc hi h39 hg hl cS hT hz hle
 go_enter func63,ntmps63
 go_wp2_with fail
 refine (CD.out _ hT0).mono ?_
 rintro e w1 ⟨rfl,b1⟩
 have x1:=aA hx0 b1
 have k1:=hb0.trans (b1.mono hb0.size)
 have hT1:=aP hT0 b1
 clear hx0 hb0 b1 hT0
 go_wp2_with fail
 refine (CL.out _).mono ?_
 rintro e w' ⟨rfl,rfl⟩
 go_wp2_with fail
 refine (CI.out _).mono ?_
 rintro e w' ⟨rfl,rfl⟩
 go_wp2_with fail
 refine (CS.out _).mono ?_
 rintro e w' ⟨rfl,rfl⟩
 have c3:=β x1
 have f4:=fun j=>frozen_of_row w1 w.heap.size j _ _ x1
 clear hT1
 go_wp2
 have hbE:=((k1.setCell (p:=⟨w.heap.size,0,none⟩) (ν _) (.int .u8 0)).setCell (p:=⟨w.heap.size,1,none⟩) (ν _) (.string ⟨#[]⟩)).setCell (p:=⟨w.heap.size,2,none⟩) (ν _) (.int .i64 0)
 exact bodyPost_ret (v:=.tuple #[.agg #[.int .u8 0,.string ⟨#[]⟩,.int .i64 0],.int .i64 (0),.int .i64 (4)]) (by simp [results,results63,go_sem,c3]) rfl (gQ HN.out hbE)
theorem Jd (s:ByteArray) (c:UInt8) (r:List UInt8) (hl:s.data.toList=c::r) (w:World) (_:s.size≤1000000000) (hc:fO c=false) (hi:aN c=false) (h39:c≠39) (hg:bY (c::r)≠0) (hT:dZ w) :
 Calls prog 63 #[.string s] w (eD (c::r) w):=by
 have HN:=κ ((fF r hc hi h39).trans (if_neg hg))
 have hb0:Below w.heap.size w (w.alloc (.cells #[.int .u8 0,.string ⟨#[]⟩,.int .i64 0] 160)):=ρ
 have hx0:=heap_alloc_new w (.cells #[.int .u8 0,.string ⟨#[]⟩,.int .i64 0] 160)
 have hT0:=aP hT hb0
 obtain ⟨kd,hd,hd1,hd2⟩:=jS hl
 obtain ⟨f1,f2,f3⟩:=fN hd1 hd2
 generalize (Utf8.decode s 0).1=rn at *
 have cD:=fun W h=>eG s W h
 rw [hd] at cD
 have CD:=κ cD
 have cL:=fun W=>dR (rn:Int) W
 rw [f1,hc] at cL
 unfold aW at cL
 have CL:=κ cL
 have cI:=fun W=>dV (rn:Int) W
 rw [f2,hi] at cI
 unfold aW at cI
 have CI:=κ cI
 clear hd hd1 hd2 f1 f2 cD cL cI
 rw [decide_eq_false h39] at f3
 have hz:=gO hl
 have hz1:1≤s.size:=by rw [hz];simp
 have hle:bY (c::r)≤s.size:=by rw [hz];exact mU _
 have cS:=fun W=>Ah s W hz1
 rw [hl] at cS
 have CS:=κ cS
 have HX:Hid (s.extract 0 (bY (c::r))=⟨((c::r).take (bY (c::r))).toArray⟩):=by
  show _=_
  apply ByteArray.ext
  apply Array.ext'
  rw [Lib.extract_data,List.drop_zero,Nat.sub_zero,hl]
 have hge:(((bY (c::r):Nat):Int)==0)=false:=by rw [beq_eq_false_iff_ne];omega
 clear hc hi h39 hg hl cS hT hz
 generalize bY (c::r)=m at *
 go_enter func63,ntmps63
 go_wp2_with fail
 refine (CD.out _ hT0).mono ?_
 rintro e w1 ⟨rfl,b1⟩
 have x1:=aA hx0 b1
 have k1:=hb0.trans (b1.mono hb0.size)
 have hT1:=aP hT0 b1
 clear hx0 hb0 b1 hT0
 go_wp2_with fail
 refine (CL.out _).mono ?_
 rintro e w' ⟨rfl,rfl⟩
 go_wp2_with fail
 refine (CI.out _).mono ?_
 rintro e w' ⟨rfl,rfl⟩
 go_wp2_with fail
 refine (CS.out _).mono ?_
 rintro e w' ⟨rfl,rfl⟩
 have c3:=β x1
 have f4:=fun j=>frozen_of_row w1 w.heap.size j _ _ x1
 clear hT1
 go_wp2
 rw [HX.out]
 have hbE:=((k1.setCell (p:=⟨w.heap.size,0,none⟩) (ν _) (.int .u8 4)).setCell (p:=⟨w.heap.size,1,none⟩) (ν _) (.string ⟨((c::r).take m).toArray⟩)).setCell (p:=⟨w.heap.size,2,none⟩) (ν _) (.int .i64 0)
 exact bodyPost_ret (v:=.tuple #[.agg #[.int .u8 4,.string ⟨((c::r).take m).toArray⟩,.int .i64 0],.int .i64 (m:Int),.int .i64 (0)]) (by simp [results,results63,go_sem,c3]) rfl (gQ HN.out hbE)
theorem tV (s:ByteArray) (r:List UInt8) (hl:s.data.toList=39::r) (w:World) (hs:s.size≤1000000000) (ht:txt r=none) (hT:dZ w) :
 Calls prog 63 #[.string s] w (eD (39::r) w):=by
 have HN:Hid (bE (39::r)=(⟨0,[],0⟩,0,4)):=by show _=_;rw [cY,ht];rfl
 have hc:fO 39=false:=rfl
 have hi:aN 39=false:=rfl
 have hb0:Below w.heap.size w (w.alloc (.cells #[.int .u8 0,.string ⟨#[]⟩,.int .i64 0] 160)):=ρ
 have hx0:=heap_alloc_new w (.cells #[.int .u8 0,.string ⟨#[]⟩,.int .i64 0] 160)
 have hT0:=aP hT hb0
 obtain ⟨kd,hd,hd1,hd2⟩:=jS hl
 obtain ⟨f1,f2,f3⟩:=fN hd1 hd2
 generalize (Utf8.decode s 0).1=rn at *
 have cD:=fun W h=>eG s W h
 rw [hd] at cD
 have CD:=κ cD
 have cL:=fun W=>dR (rn:Int) W
 rw [f1,hc] at cL
 unfold aW at cL
 have CL:=κ cL
 have cI:=fun W=>dV (rn:Int) W
 rw [f2,hi] at cI
 unfold aW at cI
 have CI:=κ cI
 clear hd hd1 hd2 f1 f2 cD cL cI
 rw [decide_eq_true rfl] at f3
 have hz:=gO hl
 have hz1:1≤s.size:=by rw [hz];simp
 have cS:=fun W h=>mO s W hs hz1 h
 rw [hl] at cS
 unfold gC at cS
 rw [show (39::r).drop 1=r from rfl,ht] at cS
 have CS:Hid (∀ W,dZ W→Calls prog 115 #[.string s] W fun e w'=>e=.returned (.tuple #[.string ⟨#[]⟩,.int .i64 0])∧Below W.heap.size W w'):=κ cS
 clear hc hi ht hl cS hT hz hs
 go_enter func63,ntmps63
 go_wp2_with fail
 refine (CD.out _ hT0).mono ?_
 rintro e w1 ⟨rfl,b1⟩
 have x1:=aA hx0 b1
 have k1:=hb0.trans (b1.mono hb0.size)
 have hT1:=aP hT0 b1
 clear hx0 hb0 b1 hT0
 go_wp2_with fail
 refine (CL.out _).mono ?_
 rintro e w' ⟨rfl,rfl⟩
 go_wp2_with fail
 refine (CI.out _).mono ?_
 rintro e w' ⟨rfl,rfl⟩
 go_wp2_with fail
 refine (CS.out _ hT1).mono ?_
 rintro e w2 ⟨rfl,b2⟩
 have x2:=aC (aA x1 b2) (.cells #[.int .u8 2,.int .i64 0,.string ⟨#[]⟩,.bool false] 58)
 have k2:=(k1.trans (b2.mono k1.size)).alloc (Nat.le_trans k1.size b2.size) (.cells #[.int .u8 2,.int .i64 0,.string ⟨#[]⟩,.bool false] 58)
 have v2:=heap_alloc_new w2 (.cells #[.int .u8 2,.int .i64 0,.string ⟨#[]⟩,.bool false] 58)
 have hT2:=dG (aP hT1 b2) (.cells #[.int .u8 2,.int .i64 0,.string ⟨#[]⟩,.bool false] 58)
 clear x1 k1 b2 hT1
 have c9:=β x2
 have f9:=fun j=>frozen_of_row _ w.heap.size j _ _ x2
 clear hT2 v2
 go_wp2
 have hbE:=((k2.setCell (p:=⟨w.heap.size,0,none⟩) (ν _) (.int .u8 0)).setCell (p:=⟨w.heap.size,1,none⟩) (ν _) (.string ⟨#[]⟩)).setCell (p:=⟨w.heap.size,2,none⟩) (ν _) (.int .i64 0)
 exact bodyPost_ret (v:=.tuple #[.agg #[.int .u8 0,.string ⟨#[]⟩,.int .i64 0],.int .i64 (0),.int .i64 (4)]) (by simp [results,results63,go_sem,c9]) rfl (gQ HN.out hbE)
theorem vV (s:ByteArray) (r:List UInt8) (hl:s.data.toList=39::r) (w:World) (hs:s.size≤1000000000) (t:List UInt8) (n:Nat) (ht:txt r=some (t,n)) (hv:Lib.validD t=false) (hT:dZ w) :
 Calls prog 63 #[.string s] w (eD (39::r) w):=by
 have HN:Hid (bE (39::r)=(⟨0,[],0⟩,0,4)):=by show _=_;rw [cY,ht];exact pC (by unfold aS;rw [hv];rfl)
 have hc:fO 39=false:=rfl
 have hi:aN 39=false:=rfl
 have hb0:Below w.heap.size w (w.alloc (.cells #[.int .u8 0,.string ⟨#[]⟩,.int .i64 0] 160)):=ρ
 have hx0:=heap_alloc_new w (.cells #[.int .u8 0,.string ⟨#[]⟩,.int .i64 0] 160)
 have hT0:=aP hT hb0
 obtain ⟨kd,hd,hd1,hd2⟩:=jS hl
 obtain ⟨f1,f2,f3⟩:=fN hd1 hd2
 generalize (Utf8.decode s 0).1=rn at *
 have cD:=fun W h=>eG s W h
 rw [hd] at cD
 have CD:=κ cD
 have cL:=fun W=>dR (rn:Int) W
 rw [f1,hc] at cL
 unfold aW at cL
 have CL:=κ cL
 have cI:=fun W=>dV (rn:Int) W
 rw [f2,hi] at cI
 unfold aW at cI
 have CI:=κ cI
 clear hd hd1 hd2 f1 f2 cD cL cI
 rw [decide_eq_true rfl] at f3
 have hz:=gO hl
 have hz1:1≤s.size:=by rw [hz];simp
 have cS:=fun W h=>mO s W hs hz1 h
 rw [hl] at cS
 unfold gC at cS
 rw [show (39::r).drop 1=r from rfl,ht] at cS
 have CS:Hid (∀ W,dZ W→Calls prog 115 #[.string s] W fun e w'=>e=.returned (.tuple #[.string ⟨t.toArray⟩,.int .i64 ((n:Int)+1)])∧Below W.heap.size W w'):=κ cS
 have hne:(((n:Int)+1)==0)=false:=by rw [beq_eq_false_iff_ne];omega
 have htn:=sL _ _ _ _ (ν _) ht
 simp only [List.length_cons] at hz
 have htl:(⟨t.toArray⟩:ByteArray).size≤9223372036854775807:=by show t.toArray.size≤_;simp;omega
 have hn0:n≤1000000000:=by omega
 have cV:=fun W h=>eA ⟨t.toArray⟩ W htl h
 rw [show (⟨t.toArray⟩:ByteArray).data.toList=t from rfl,hv] at cV
 have CV:=κ cV
 clear hc hi ht hl cS hT hz hs hv cV htn
 go_enter func63,ntmps63
 go_wp2_with fail
 refine (CD.out _ hT0).mono ?_
 rintro e w1 ⟨rfl,b1⟩
 have x1:=aA hx0 b1
 have k1:=hb0.trans (b1.mono hb0.size)
 have hT1:=aP hT0 b1
 clear hx0 hb0 b1 hT0
 go_wp2_with fail
 refine (CL.out _).mono ?_
 rintro e w' ⟨rfl,rfl⟩
 go_wp2_with fail
 refine (CI.out _).mono ?_
 rintro e w' ⟨rfl,rfl⟩
 go_wp2_with fail
 refine (CS.out _ hT1).mono ?_
 rintro e w2 ⟨rfl,b2⟩
 have x2:=aC (aA x1 b2) (.cells #[.int .u8 2,.int .i64 0,.string ⟨t.toArray⟩,.bool false] 58)
 have k2:=(k1.trans (b2.mono k1.size)).alloc (Nat.le_trans k1.size b2.size) (.cells #[.int .u8 2,.int .i64 0,.string ⟨t.toArray⟩,.bool false] 58)
 have v2:=heap_alloc_new w2 (.cells #[.int .u8 2,.int .i64 0,.string ⟨t.toArray⟩,.bool false] 58)
 have hT2:=dG (aP hT1 b2) (.cells #[.int .u8 2,.int .i64 0,.string ⟨t.toArray⟩,.bool false] 58)
 clear x1 k1 b2 hT1
 go_wp2_with fail
 refine (CV.out _ hT2).mono ?_
 rintro e w3 ⟨rfl,b3⟩
 have x3:=aA x2 b3
 have k3:=k2.trans (b3.mono k2.size)
 have v3:=aA v2 b3
 have hT3:=aP hT2 b3
 clear x2 k2 b3 hT2 v2
 have c9:=β x3
 have f9:=fun j=>frozen_of_row _ w.heap.size j _ _ x3
 go_wp2
 have hbE:=((k3.setCell (p:=⟨w.heap.size,0,none⟩) (ν _) (.int .u8 0)).setCell (p:=⟨w.heap.size,1,none⟩) (ν _) (.string ⟨#[]⟩)).setCell (p:=⟨w.heap.size,2,none⟩) (ν _) (.int .i64 0)
 exact bodyPost_ret (v:=.tuple #[.agg #[.int .u8 0,.string ⟨#[]⟩,.int .i64 0],.int .i64 (0),.int .i64 (4)]) (by simp [results,results63,go_sem,c9]) rfl (gQ HN.out hbE)
theorem tU (s:ByteArray) (r:List UInt8) (hl:s.data.toList=39::r) (w:World) (hs:s.size≤1000000000) (t:List UInt8) (n:Nat) (ht:txt r=some (t,n)) (hv:Lib.validD t=true) (hz0:t.contains 0=true) (hT:dZ w) :
 Calls prog 63 #[.string s] w (eD (39::r) w):=by
 have HN:Hid (bE (39::r)=(⟨0,[],0⟩,0,4)):=by show _=_;rw [cY,ht];exact pC (by unfold aS;rw [hv,hz0];rfl)
 have hc:fO 39=false:=rfl
 have hi:aN 39=false:=rfl
 have hb0:Below w.heap.size w (w.alloc (.cells #[.int .u8 0,.string ⟨#[]⟩,.int .i64 0] 160)):=ρ
 have hx0:=heap_alloc_new w (.cells #[.int .u8 0,.string ⟨#[]⟩,.int .i64 0] 160)
 have hT0:=aP hT hb0
 obtain ⟨kd,hd,hd1,hd2⟩:=jS hl
 obtain ⟨f1,f2,f3⟩:=fN hd1 hd2
 generalize (Utf8.decode s 0).1=rn at *
 have cD:=fun W h=>eG s W h
 rw [hd] at cD
 have CD:=κ cD
 have cL:=fun W=>dR (rn:Int) W
 rw [f1,hc] at cL
 unfold aW at cL
 have CL:=κ cL
 have cI:=fun W=>dV (rn:Int) W
 rw [f2,hi] at cI
 unfold aW at cI
 have CI:=κ cI
 clear hd hd1 hd2 f1 f2 cD cL cI
 rw [decide_eq_true rfl] at f3
 have hz:=gO hl
 have hz1:1≤s.size:=by rw [hz];simp
 have cS:=fun W h=>mO s W hs hz1 h
 rw [hl] at cS
 unfold gC at cS
 rw [show (39::r).drop 1=r from rfl,ht] at cS
 have CS:Hid (∀ W,dZ W→Calls prog 115 #[.string s] W fun e w'=>e=.returned (.tuple #[.string ⟨t.toArray⟩,.int .i64 ((n:Int)+1)])∧Below W.heap.size W w'):=κ cS
 have hne:(((n:Int)+1)==0)=false:=by rw [beq_eq_false_iff_ne];omega
 have htn:=sL _ _ _ _ (ν _) ht
 simp only [List.length_cons] at hz
 have htl:(⟨t.toArray⟩:ByteArray).size≤9223372036854775807:=by show t.toArray.size≤_;simp;omega
 have hn0:n≤1000000000:=by omega
 have cV:=fun W h=>eA ⟨t.toArray⟩ W htl h
 rw [show (⟨t.toArray⟩:ByteArray).data.toList=t from rfl,hv] at cV
 have CV:=κ cV
 have CX:=κ (fun W=>pU ⟨t.toArray⟩ W hz0)
 clear hc hi ht hl cS hT hz hs hv cV htn hz0
 go_enter func63,ntmps63
 go_wp2_with fail
 refine (CD.out _ hT0).mono ?_
 rintro e w1 ⟨rfl,b1⟩
 have x1:=aA hx0 b1
 have k1:=hb0.trans (b1.mono hb0.size)
 have hT1:=aP hT0 b1
 clear hx0 hb0 b1 hT0
 go_wp2_with fail
 refine (CL.out _).mono ?_
 rintro e w' ⟨rfl,rfl⟩
 go_wp2_with fail
 refine (CI.out _).mono ?_
 rintro e w' ⟨rfl,rfl⟩
 go_wp2_with fail
 refine (CS.out _ hT1).mono ?_
 rintro e w2 ⟨rfl,b2⟩
 have x2:=aC (aA x1 b2) (.cells #[.int .u8 2,.int .i64 0,.string ⟨t.toArray⟩,.bool false] 58)
 have k2:=(k1.trans (b2.mono k1.size)).alloc (Nat.le_trans k1.size b2.size) (.cells #[.int .u8 2,.int .i64 0,.string ⟨t.toArray⟩,.bool false] 58)
 have v2:=heap_alloc_new w2 (.cells #[.int .u8 2,.int .i64 0,.string ⟨t.toArray⟩,.bool false] 58)
 have hT2:=dG (aP hT1 b2) (.cells #[.int .u8 2,.int .i64 0,.string ⟨t.toArray⟩,.bool false] 58)
 clear x1 k1 b2 hT1
 go_wp2_with fail
 refine (CV.out _ hT2).mono ?_
 rintro e w3 ⟨rfl,b3⟩
 have x3:=aA x2 b3
 have k3:=k2.trans (b3.mono k2.size)
 have v3:=aA v2 b3
 have hT3:=aP hT2 b3
 clear x2 k2 b3 hT2 v2
 go_wp2_with fail
 refine (CX.out _).mono ?_
 rintro e w' ⟨⟨n9,rfl⟩,rfl⟩
 have c9:=β x3
 have f9:=fun j=>frozen_of_row _ w.heap.size j _ _ x3
 go_wp2
 have hbE:=((k3.setCell (p:=⟨w.heap.size,0,none⟩) (ν _) (.int .u8 0)).setCell (p:=⟨w.heap.size,1,none⟩) (ν _) (.string ⟨#[]⟩)).setCell (p:=⟨w.heap.size,2,none⟩) (ν _) (.int .i64 0)
 exact bodyPost_ret (v:=.tuple #[.agg #[.int .u8 0,.string ⟨#[]⟩,.int .i64 0],.int .i64 (0),.int .i64 (4)]) (by simp [results,results63,go_sem,c9]) rfl (gQ HN.out hbE)
theorem tW (s:ByteArray) (r:List UInt8) (hl:s.data.toList=39::r) (w:World) (hs:s.size≤1000000000) (t:List UInt8) (n:Nat) (ht:txt r=some (t,n)) (hv:Lib.validD t=true) (hz0:t.contains 0=false) (h60:¬t.length≤60) (hT:dZ w) :
 Calls prog 63 #[.string s] w (eD (39::r) w):=by
 have HN:Hid (bE (39::r)=(⟨0,[],0⟩,0,2)):=by show _=_;rw [cY,ht];exact oK (by unfold aS;rw [hv,hz0];rfl) h60
 have hc:fO 39=false:=rfl
 have hi:aN 39=false:=rfl
 have hb0:Below w.heap.size w (w.alloc (.cells #[.int .u8 0,.string ⟨#[]⟩,.int .i64 0] 160)):=ρ
 have hx0:=heap_alloc_new w (.cells #[.int .u8 0,.string ⟨#[]⟩,.int .i64 0] 160)
 have hT0:=aP hT hb0
 obtain ⟨kd,hd,hd1,hd2⟩:=jS hl
 obtain ⟨f1,f2,f3⟩:=fN hd1 hd2
 generalize (Utf8.decode s 0).1=rn at *
 have cD:=fun W h=>eG s W h
 rw [hd] at cD
 have CD:=κ cD
 have cL:=fun W=>dR (rn:Int) W
 rw [f1,hc] at cL
 unfold aW at cL
 have CL:=κ cL
 have cI:=fun W=>dV (rn:Int) W
 rw [f2,hi] at cI
 unfold aW at cI
 have CI:=κ cI
 clear hd hd1 hd2 f1 f2 cD cL cI
 rw [decide_eq_true rfl] at f3
 have hz:=gO hl
 have hz1:1≤s.size:=by rw [hz];simp
 have cS:=fun W h=>mO s W hs hz1 h
 rw [hl] at cS
 unfold gC at cS
 rw [show (39::r).drop 1=r from rfl,ht] at cS
 have CS:Hid (∀ W,dZ W→Calls prog 115 #[.string s] W fun e w'=>e=.returned (.tuple #[.string ⟨t.toArray⟩,.int .i64 ((n:Int)+1)])∧Below W.heap.size W w'):=κ cS
 have hne:(((n:Int)+1)==0)=false:=by rw [beq_eq_false_iff_ne];omega
 have htn:=sL _ _ _ _ (ν _) ht
 simp only [List.length_cons] at hz
 have htl:(⟨t.toArray⟩:ByteArray).size≤9223372036854775807:=by show t.toArray.size≤_;simp;omega
 have hn0:n≤1000000000:=by omega
 have cV:=fun W h=>eA ⟨t.toArray⟩ W htl h
 rw [show (⟨t.toArray⟩:ByteArray).data.toList=t from rfl,hv] at cV
 have CV:=κ cV
 have CX:=κ (fun W=>qT ⟨t.toArray⟩ W hz0)
 have hR:bX 2 0 ⟨t.toArray⟩ false=false:=by rw [eO,show aS t=true by unfold aS;rw [hv,hz0];rfl,Bool.and_true];exact decide_eq_false h60
 have CR:=κ (fun W h=>Au 2 0 ⟨t.toArray⟩ false _ hR W htl h)
 clear hc hi ht hl cS hT hz hs hv cV htn hz0 h60 hR
 go_enter func63,ntmps63
 go_wp2_with fail
 refine (CD.out _ hT0).mono ?_
 rintro e w1 ⟨rfl,b1⟩
 have x1:=aA hx0 b1
 have k1:=hb0.trans (b1.mono hb0.size)
 have hT1:=aP hT0 b1
 clear hx0 hb0 b1 hT0
 go_wp2_with fail
 refine (CL.out _).mono ?_
 rintro e w' ⟨rfl,rfl⟩
 go_wp2_with fail
 refine (CI.out _).mono ?_
 rintro e w' ⟨rfl,rfl⟩
 go_wp2_with fail
 refine (CS.out _ hT1).mono ?_
 rintro e w2 ⟨rfl,b2⟩
 have x2:=aC (aA x1 b2) (.cells #[.int .u8 2,.int .i64 0,.string ⟨t.toArray⟩,.bool false] 58)
 have k2:=(k1.trans (b2.mono k1.size)).alloc (Nat.le_trans k1.size b2.size) (.cells #[.int .u8 2,.int .i64 0,.string ⟨t.toArray⟩,.bool false] 58)
 have v2:=heap_alloc_new w2 (.cells #[.int .u8 2,.int .i64 0,.string ⟨t.toArray⟩,.bool false] 58)
 have hT2:=dG (aP hT1 b2) (.cells #[.int .u8 2,.int .i64 0,.string ⟨t.toArray⟩,.bool false] 58)
 clear x1 k1 b2 hT1
 go_wp2_with fail
 refine (CV.out _ hT2).mono ?_
 rintro e w3 ⟨rfl,b3⟩
 have x3:=aA x2 b3
 have k3:=k2.trans (b3.mono k2.size)
 have v3:=aA v2 b3
 have hT3:=aP hT2 b3
 clear x2 k2 b3 hT2 v2
 have cv3:=β v3
 go_wp2_with fail
 refine (CX.out _).mono ?_
 rintro e w' ⟨rfl,rfl⟩
 go_wp2_with fail
 refine (CR.out _ hT3).mono ?_
 rintro e w4 ⟨rfl,b4⟩
 have x4:=aA x3 b4
 have k4:=k3.trans (b4.mono k3.size)
 clear x3 k3 b4 hT3 v3 cv3
 have c9:=β x4
 have f9:=fun j=>frozen_of_row _ w.heap.size j _ _ x4
 go_wp2
 have hbE:=((k4.setCell (p:=⟨w.heap.size,0,none⟩) (ν _) (.int .u8 0)).setCell (p:=⟨w.heap.size,1,none⟩) (ν _) (.string ⟨#[]⟩)).setCell (p:=⟨w.heap.size,2,none⟩) (ν _) (.int .i64 0)
 exact bodyPost_ret (v:=.tuple #[.agg #[.int .u8 0,.string ⟨#[]⟩,.int .i64 0],.int .i64 (0),.int .i64 (2)]) (by simp [results,results63,go_sem,c9]) rfl (gQ HN.out hbE)
theorem tX (s:ByteArray) (r:List UInt8) (hl:s.data.toList=39::r) (w:World) (hs:s.size≤1000000000) (t:List UInt8) (n:Nat) (ht:txt r=some (t,n)) (hv:Lib.validD t=true) (hz0:t.contains 0=false) (h60:t.length≤60) (hT:dZ w) :
 Calls prog 63 #[.string s] w (eD (39::r) w):=by
 have HN:Hid (bE (39::r)=(⟨3,t,0⟩,n+1,0)):=by show _=_;rw [cY,ht];exact oL (by unfold aS;rw [hv,hz0];rfl) h60
 have hc:fO 39=false:=rfl
 have hi:aN 39=false:=rfl
 have hb0:Below w.heap.size w (w.alloc (.cells #[.int .u8 0,.string ⟨#[]⟩,.int .i64 0] 160)):=ρ
 have hx0:=heap_alloc_new w (.cells #[.int .u8 0,.string ⟨#[]⟩,.int .i64 0] 160)
 have hT0:=aP hT hb0
 obtain ⟨kd,hd,hd1,hd2⟩:=jS hl
 obtain ⟨f1,f2,f3⟩:=fN hd1 hd2
 generalize (Utf8.decode s 0).1=rn at *
 have cD:=fun W h=>eG s W h
 rw [hd] at cD
 have CD:=κ cD
 have cL:=fun W=>dR (rn:Int) W
 rw [f1,hc] at cL
 unfold aW at cL
 have CL:=κ cL
 have cI:=fun W=>dV (rn:Int) W
 rw [f2,hi] at cI
 unfold aW at cI
 have CI:=κ cI
 clear hd hd1 hd2 f1 f2 cD cL cI
 rw [decide_eq_true rfl] at f3
 have hz:=gO hl
 have hz1:1≤s.size:=by rw [hz];simp
 have cS:=fun W h=>mO s W hs hz1 h
 rw [hl] at cS
 unfold gC at cS
 rw [show (39::r).drop 1=r from rfl,ht] at cS
 have CS:Hid (∀ W,dZ W→Calls prog 115 #[.string s] W fun e w'=>e=.returned (.tuple #[.string ⟨t.toArray⟩,.int .i64 ((n:Int)+1)])∧Below W.heap.size W w'):=κ cS
 have hne:(((n:Int)+1)==0)=false:=by rw [beq_eq_false_iff_ne];omega
 have htn:=sL _ _ _ _ (ν _) ht
 simp only [List.length_cons] at hz
 have htl:(⟨t.toArray⟩:ByteArray).size≤9223372036854775807:=by show t.toArray.size≤_;simp;omega
 have hn0:n≤1000000000:=by omega
 have cV:=fun W h=>eA ⟨t.toArray⟩ W htl h
 rw [show (⟨t.toArray⟩:ByteArray).data.toList=t from rfl,hv] at cV
 have CV:=κ cV
 have CX:=κ (fun W=>qT ⟨t.toArray⟩ W hz0)
 have hR:bX 2 0 ⟨t.toArray⟩ false=true:=by rw [eO,show aS t=true by unfold aS;rw [hv,hz0];rfl,Bool.and_true];exact decide_eq_true h60
 have CR:=κ (fun W h=>Au 2 0 ⟨t.toArray⟩ false _ hR W htl h)
 clear hc hi ht hl cS hT hz hs hv cV htn hz0 h60 hR
 go_enter func63,ntmps63
 go_wp2_with fail
 refine (CD.out _ hT0).mono ?_
 rintro e w1 ⟨rfl,b1⟩
 have x1:=aA hx0 b1
 have k1:=hb0.trans (b1.mono hb0.size)
 have hT1:=aP hT0 b1
 clear hx0 hb0 b1 hT0
 go_wp2_with fail
 refine (CL.out _).mono ?_
 rintro e w' ⟨rfl,rfl⟩
 go_wp2_with fail
 refine (CI.out _).mono ?_
 rintro e w' ⟨rfl,rfl⟩
 go_wp2_with fail
 refine (CS.out _ hT1).mono ?_
 rintro e w2 ⟨rfl,b2⟩
 have x2:=aC (aA x1 b2) (.cells #[.int .u8 2,.int .i64 0,.string ⟨t.toArray⟩,.bool false] 58)
 have k2:=(k1.trans (b2.mono k1.size)).alloc (Nat.le_trans k1.size b2.size) (.cells #[.int .u8 2,.int .i64 0,.string ⟨t.toArray⟩,.bool false] 58)
 have v2:=heap_alloc_new w2 (.cells #[.int .u8 2,.int .i64 0,.string ⟨t.toArray⟩,.bool false] 58)
 have hT2:=dG (aP hT1 b2) (.cells #[.int .u8 2,.int .i64 0,.string ⟨t.toArray⟩,.bool false] 58)
 clear x1 k1 b2 hT1
 go_wp2_with fail
 refine (CV.out _ hT2).mono ?_
 rintro e w3 ⟨rfl,b3⟩
 have x3:=aA x2 b3
 have k3:=k2.trans (b3.mono k2.size)
 have v3:=aA v2 b3
 have hT3:=aP hT2 b3
 clear x2 k2 b3 hT2 v2
 have cv3:=β v3
 go_wp2_with fail
 refine (CX.out _).mono ?_
 rintro e w' ⟨rfl,rfl⟩
 go_wp2_with fail
 refine (CR.out _ hT3).mono ?_
 rintro e w4 ⟨rfl,b4⟩
 have x4:=aA x3 b4
 have k4:=k3.trans (b4.mono k3.size)
 clear x3 k3 b4 hT3 v3 cv3
 have c9:=β x4
 have f9:=fun j=>frozen_of_row _ w.heap.size j _ _ x4
 go_wp2
 have hbE:=((k4.setCell (p:=⟨w.heap.size,0,none⟩) (ν _) (.int .u8 3)).setCell (p:=⟨w.heap.size,1,none⟩) (ν _) (.string ⟨t.toArray⟩)).setCell (p:=⟨w.heap.size,2,none⟩) (ν _) (.int .i64 0)
 exact bodyPost_ret (v:=.tuple #[.agg #[.int .u8 3,.string ⟨t.toArray⟩,.int .i64 0],.int .i64 ((n+1:Nat)),.int .i64 (0)]) (by simp [results,results63,go_sem,c9]) rfl (gQ HN.out hbE)
theorem Ou (s:ByteArray) (c:UInt8) (r:List UInt8) (hl:s.data.toList=c::r) (w:World) (hs:s.size≤1000000000) (hT:dZ w) :
 Calls prog 63 #[.string s] w (eD (c::r) w):=by
 cases hc:fO c
 ·cases hi:aN c
  ·by_cases h39:c=39
   ·subst h39
    cases ht:txt r with
    | none=>exact tV s r hl w hs ht hT
    | some p =>
      obtain ⟨t,n⟩:=p
      cases hv:Lib.validD t
      ·exact vV s r hl w hs t n ht hv hT
      ·cases hz:t.contains 0
       ·by_cases h60:t.length≤60
        ·exact tX s r hl w hs t n ht hv hz h60 hT
        ·exact tW s r hl w hs t n ht hv hz h60 hT
       ·exact tU s r hl w hs t n ht hv hz hT
   ·by_cases hg:bY (c::r)=0
    ·exact Bn s c r hl w hs hc hi h39 hg hT
    ·exact Jd s c r hl w hs hc hi h39 hg hT
  ·exact Ot s c r hl w hs hc hi hT
 ·exact Jc s c r hl w hs hc hT
theorem aQ {w w':World} {B n size:Nat} {e:TypeId} {v:Value} {xs:List Value} (h:w.ownsRow B e size v n xs) (hb:Below w.heap.size w w'):w'.ownsRow B e size v n xs:=by
 have hg:w.grownBy w' none:=⟨hb.os,hb.tape,hb.output,hb.size,fun i hi _=>hb.block i hi⟩
 refine h.kept hg ?_
 cases hv:v.ownBlock
 ·exact .inl rfl
 ·exact .inr (by simp)
theorem yN {w:World} {B n c:Nat} {e:TypeId} {size:Nat} {A:Option Addr} {xs:List Value} (h:w.ownsRow B e size (.slice A n c) n xs):n≤c:=by
 obtain ⟨A',c',hv,h1⟩:=Bl h
 injection hv with _ _ hc
 omega
theorem sP (l m:List Tok):tkv (l++m)=tkv l++tkv m:=by simp [tkv]
theorem Sv:(prog.info? 160).map (fun i=>(i.zero,i.size,i.bytes))=some (some (.agg #[.int .u8 0,.string ⟨#[]⟩,.int .i64 0]),3,32):=by kernel_rfl
theorem Nd:(prog.info? 173).map (fun i=>(i.zero,i.size,i.bytes))=some (some (.agg #[.int .u8 0,.string ⟨#[]⟩,.int .i64 0]),3,32):=by kernel_rfl
theorem Kh (c:UInt8):dY c=decide (0≤Lib.indexByte [32,9,10,13] c):=by
 rw [←Lib.contains_iff_indexByte,Bool.eq_iff_iff,List.contains_iff_mem]
 unfold dY
 simp [←UInt8.toNat_inj]
 omega
def iW (t:TypeId) (w:World) (p:List Tok×Int) (e:Ending) (w':World):Prop :=
 Below w.heap.size w w'∧∃ A c,e=.returned (.tuple #[.slice A p.1.length c,.int .i64 p.2])∧p.1.length≤c∧w'.ownsRow w.heap.size t 3 (.slice A p.1.length c) p.1.length (tkv p.1)
theorem dC {t:TypeId} {w w':World} {p:List Tok×Int} {E:Int} (hp:p=([],E)) (hb:Below w.heap.size w w'):iW t w p (.returned (.tuple #[.slice none 0 0,.int .i64 E])) w':=by
 subst hp;exact ⟨hb,none,0,rfl,ν _,World.ownsRow_nil _ _ _ _⟩
theorem uF (s:ByteArray) (w:World) (hT:dZ w) (hs0:s.size≤9223372036854775807) :
 Calls prog 27 #[.string s] w (iW 160 w (dT s.data.toList)):=by
 have hsz:s.data.toList.length=s.size:=by rw [Array.length_toList];rfl
 by_cases hlong:2000<s.size
 ·have HF:=κ (qH (l:=s.data.toList) (by rw [hsz];exact hlong))
  have h2:(2000:Int)<(s.size:Int):=by omega
  clear hsz
  go_enter func27,ntmps27
  go_wp2
  go_ret2
  exact dC HF.out (θ)
 ·have HF:=κ (jZ (l:=s.data.toList) (by rw [hsz];omega))
  have h2:¬(2000:Int)<(s.size:Int):=by omega
  obtain ⟨iT,hiT,hz0,hz1,hz2⟩:=info_parts Sv
  clear hsz
  go_enter func27,ntmps27
  go_wp2_with fail
  go_loopg [0,4,5,6,7] (s.size+1) (fun gk s0 s4 _ _ _ wr=>∃ (B:ByteArray) (L:List Tok) (A:Option Addr) (c:Nat),s0=.string B∧gk=B.size+1∧B.size≤2000∧s4=.slice A L.length c∧wr.ownsRow w.heap.size 160 3 (.slice A L.length c) L.length (tkv L)∧L.length+B.size≤2000∧Hid (dT s.data.toList=dF L B.data.toList)∧Below w.heap.size w wr)
  case atStart=>exact ⟨s,[],none,0,rfl,rfl,by omega,rfl,World.ownsRow_nil _ _ _ _,by simp;omega,HF.out,θ⟩
  case round =>
   clear HF
   obtain ⟨B,L,A,c,rfl,rfl,hB,rfl,hown,hLB,HR,hbw⟩:=hrel
   have hsz:=hbw.size
   have hTr:=aP hT hbw
   rcases hl:B.data.toList with _|⟨x,r⟩
   ·have hB0:B.size=0:=gO hl
    have h0e:B.toList.isEmpty=true:=by rw [ByteArray.toList_eq,hl];rfl
    have HF:Hid (dT s.data.toList=(L,0)):=by show _=_;rw [HR.out,hl,iZ]
    clear HR hl hB0
    go_wp2
    go_ret2
    show iW _ _ _ _ _
    rw [HF.out]
    exact ⟨hbw,A,c,rfl,yN hown,hown⟩
   ·have hB1:B.size=r.length+1:=gO hl
    have h0e:B.toList.isEmpty=false:=by rw [ByteArray.toList_eq,hl];rfl
    have hb1:1≤B.size:=by omega
    have hx:B[0]'hb1=x:=by
     have:=gU B 0 hb1
     rw [hl] at this
     simpa using this.symm
    have hbi:=Kh x
    cases hbl:dY x
    ·rw [hbl] at hbi
     have hi:Lib.indexByte [32,9,10,13] x<0:=by have:=of_decide_eq_false hbi.symm;omega
     have hN:=fun W h=>Ou B x r hl W (by omega) h
     have HE:Hid (∀ n,(B.extract n B.size).data.toList=(x::r).drop n):=by
      intro n;rw [Lib.extract_data,List.take_of_length_le (by simp),hl]
     have HEZ:Hid (∀ n,(B.extract n B.size).size=(r.length+1)-n):=fun n=>by
      have:=gO (HE.out n);rw [this,List.length_drop,List.length_cons]
     by_cases h0:(bE (x::r)).2.2=0
     ·have HR2:Hid (dT s.data.toList=dF (L++[(bE (x::r)).1]) ((x::r).drop (bE (x::r)).2.1)):=by show _=_;rw [HR.out,hl,dE _ hbl h0]
      have hn:=kW h0
      have e0:((bE (x::r)).2.2==0)=true:=by rw [h0];rfl
      unfold eD at hN
      generalize bE (x::r)=T at *
      obtain ⟨⟨tk,ts,tn⟩,n,E⟩:=T
      simp only at hN h0 hn HR2 e0
      obtain ⟨hn1,hn2⟩:=hn
      have HN:=κ hN
      have HB1:=κ hB1
      have HBS:Hid (r.length+1=B.size):=hB1.symm
      have hnB:(n:Int)≤(B.size:Int):=by omega
      have hn0:(0:Int)≤(n:Int):=by omega
      clear hl hbi hbl HR hB1 hN h0
      go_wp2_with fail
      refine (Tryz.strings_IndexByte _ _ _).mono ?_
      rintro e w' ⟨rfl,rfl⟩
      go_wp2_with fail
      refine (HN.out _ hTr).mono ?_
      rintro e w1 ⟨rfl,b1⟩
      have hrel_own:=aQ hown b1
      have hown1:=aQ hrel_own ((θ).alloc (ν _) (.cells #[.int .u8 tk,.string ⟨ts.toArray⟩,.int .i64 tn] 160))
      have hbw1:=(hbw.trans (b1.mono hsz)).alloc (Nat.le_trans hsz b1.size) (.cells #[.int .u8 tk,.string ⟨ts.toArray⟩,.int .i64 tn] 160)
      have hx1:=heap_alloc_new w1 (.cells #[.int .u8 tk,.string ⟨ts.toArray⟩,.int .i64 tn] 160)
      have hcx:=β hx1
      have hZ1:=hbw1.size
      have HZ:Hid (w.heap.size≤w1.heap.size):=Nat.le_trans hsz b1.size
      clear hown hbw b1
      have HNE:Hid (some w1.heap.size≠Value.ownBlock (.slice A L.length c)):=κ (eI (w:=w1) (by
       refine aQ (hrel_own) ?_
       exact θ) (ν _))
      go_wp2_with fail
      go_region_held3 (fun w'=>w'.cell? ⟨w1.heap.size,0,none⟩=some (.int .u8 tk)∧w'.cell? ⟨w1.heap.size,1,none⟩=some (.string ⟨ts.toArray⟩)∧w'.cell? ⟨w1.heap.size,2,none⟩=some (.int .i64 tn))
       (first|go_keep|exact ⟨hx4 0,hx4 1,hx4 2⟩)
       ((refine eC _ rfl (.tmp 28) (.tmp 30) _ rfl w.heap.size 160 iT _ 3 32 underlying93 hiT hz0 hz1 hz2 rfl (by decide) _ _ _ (tkv L) rfl ?_ _ 1 1 (tkv [(⟨tk,ts,tn⟩:Tok)]) rfl rfl ?_ ?_ ?_ ?_ ?_ ?_
         ·exact (aQ hown1 (by repeat (first|exact θ|apply Below.drew|refine Below.alloc ?_ (by simp) _)))
         ·(first|exact bD (tkv [(⟨tk,ts,tn⟩:Tok)]) (bN w1 _ _)|exact mX (bD (tkv [(⟨tk,ts,tn⟩:Tok)]) (bN w1 _ _)))
         ·simp [Value.oneCell',tkv,Tok.cells]
         ·simp only [maxLen];omega
         ·omega
         ·have:=HZ.out;simp;omega
         intro A4 c4 w4 hown4 hb4 hg4 hk4
         have hx4:=β (hk4 w1.heap.size _ (aA hx1 (by repeat (first|exact θ|apply Below.drew|refine Below.alloc ?_ (by simp) _))) HNE.out).1))
      all_goals
       have hb14:Below w.heap.size (w1.alloc (.cells #[.int .u8 tk,.string ⟨ts.toArray⟩,.int .i64 tn] 160)) w4:=Below.trans (by repeat (first|exact θ|apply Below.drew|refine Below.alloc ?_ (by have:=HZ.out;simp;omega) _)) hb4
       have hbw4:=hbw1.trans hb14
       have hown5:w4.ownsRow w.heap.size 160 3 (.slice A4 (L++[(⟨tk,ts,tn⟩:Tok)]).length c4) (L++[(⟨tk,ts,tn⟩:Tok)]).length (tkv (L++[(⟨tk,ts,tn⟩:Tok)])):=by
        rw [sP,List.length_append];exact hown4
       clear hown4 hb4 hg4 hk4 hown1 hbw1 hb14 hx4
       go_wp2
       go_roundg ((B.extract n B.size).size+1)
       case measure=>rw [HEZ.out,HB1.out];omega
       case rel=>exact ⟨B.extract n B.size,L++[(⟨tk,ts,tn⟩:Tok)],A4,c4,rfl,rfl,by rw [HEZ.out];have:=HB1.out;omega,by simp,hown5,by rw [HEZ.out];have:=HB1.out;simp;omega,by rw [HE.out];exact HR2,hbw4⟩
     ·have HF:Hid (dT s.data.toList=([],(bE (x::r)).2.2)):=by show _=_;rw [HR.out,hl,dM _ hbl h0]
      have e0:((bE (x::r)).2.2==0)=false:=η h0
      unfold eD at hN
      generalize bE (x::r)=T at *
      obtain ⟨⟨tk,ts,tn⟩,n,E⟩:=T
      simp only at hN h0 HF e0
      have HN:=κ hN
      clear hl hbi hbl HR hB1 hN h0
      go_wp2_with fail
      refine (Tryz.strings_IndexByte _ _ _).mono ?_
      rintro e w' ⟨rfl,rfl⟩
      go_wp2_with fail
      refine (HN.out _ hTr).mono ?_
      rintro e w1 ⟨rfl,b1⟩
      go_wp2
      go_ret2
      exact dC HF.out ((hbw.trans (b1.mono hsz)).alloc (Nat.le_trans hsz b1.size) _)
    ·rw [hbl] at hbi
     have hi:0≤Lib.indexByte [32,9,10,13] x:=of_decide_eq_true hbi.symm
     have HE:Hid ((B.extract 1 B.size).data.toList=r):=by show _=_;rw [Lib.extract_data,List.take_of_length_le (by simp),hl];rfl
     have hez:(B.extract 1 B.size).size=r.length:=gO HE.out
     have HR2:Hid (dT s.data.toList=dF L (B.extract 1 B.size).data.toList):=by show _=_;rw [HR.out,HE.out,hl,eE _ _ hbl]
     have HEZ:=κ hez
     have HB1:=κ hB1
     clear hl hbi hbl HR hez hB1
     go_wp2_with fail
     refine (Tryz.strings_IndexByte _ _ _).mono ?_
     rintro e w' ⟨rfl,rfl⟩
     go_wp2
     go_roundg (r.length+1)
     case measure=>rw [HB1.out];omega
     case rel=>exact ⟨B.extract 1 B.size,L,A,c,rfl,by rw [HEZ.out],by rw [HEZ.out, ←Nat.add_sub_cancel (n:=r.length) (m:=1), ←HB1.out];omega,rfl,hown,by rw [HEZ.out];have:=HB1.out;omega,HR2,hbw⟩
