/-
 Contracts and laws, joined: LexA, LexW, Right, LexT, LexN, CalcA, ReadA, LexX, LexY, LexS. Conditions: those of each.
-/
import Derived.Test.YtkfjmgmjbljnbaaGreatDoorQGA
import Derived.Test.YtkfjmgmjbljnbaaGreatDoorRows
import Derived.WalkKit
import Derived.WalkSpells
import Derived.WalkLawsBesides
import Derived.Lib.Hide
import Derived.Lib.OthersKept
import Derived.Laws.RangeAny
import Derived.Test.YtkfjmgmjbljnbaaGreatDoorQShelf
import Derived.Deep.Draws
import Derived.Test.YtkfjmgmjbljnbaaGreatDoorQGB
import Derived.BigCall
import Derived.Lib.IndexAny
import Derived.Lib.MapLaws
import Derived.Deep.RegionHeld3
import Derived.Deep.LoopGhost
set_option maxRecDepth 100000
set_option maxHeartbeats 8000000
namespace Go.Proofs.YtkfjmgmjbljnbaaGreatDoor
open Go.RowKit
def letR (r:Int):Bool:=(decide (97≤r)&&decide (r≤122))||(decide (65≤r)&&decide (r≤90))||decide (r=95)
def digR (r:Int):Bool:=decide (48≤r)&&decide (r≤57)
def lowR (r:Int):Int:=if 65≤r∧r≤90 then r+32 else r
theorem letR_byte (c:UInt8):letR (c.toNat:Int)=Lp.letB c:=by
 unfold letR Lp.letB
 rw [Bool.eq_iff_iff];simp;omega
theorem digR_byte (c:UInt8):digR (c.toNat:Int)=Lp.isDig c:=by
 unfold digR Lp.isDig
 rw [Bool.eq_iff_iff];simp;omega
theorem letR_no {r:Int} (h:r<65∨(90<r∧r<95)∨r=96∨122<r):letR r=false:=by
 rw [←Bool.not_eq_true];unfold letR;simp;omega
theorem digR_no {r:Int} (h:r<48∨57<r):digR r=false:=by
 rw [←Bool.not_eq_true];unfold digR;simp;omega
def BoolPost (b:Bool) (w:World) (e:Ending) (w':World):Prop:=e=.returned (.bool b)∧w=w'
theorem boolPost {b c:Bool} {w:World} (h:b=c):BoolPost b w (.returned (.bool c)) w:=by subst h;exact ⟨rfl,rfl⟩
theorem rletter_any (r:Int) (w:World):Calls Tryz.prog 167 #[.int .u8 r] w (BoolPost (letR r) w):=by
 go_enter Tryz.func167,Tryz.ntmps167
 go_wp2
 all_goals (go_ret;refine boolPost ?_;unfold letR;rw [Bool.eq_iff_iff];simp;omega)
theorem rdigit_any (r:Int) (w:World):Calls Tryz.prog 168 #[.int .u8 r] w (BoolPost (digR r) w):=by
 go_enter Tryz.func168,Tryz.ntmps168
 go_wp2
 all_goals (go_ret;refine boolPost ?_;unfold digR;rw [Bool.eq_iff_iff];simp;omega)
theorem lletter_any (r:Int) (w:World):Calls Tryz.prog 144 #[.int .i32 r] w (BoolPost (letR r) w):=by
 go_enter Tryz.func144,Tryz.ntmps144
 go_wp2
 all_goals (go_ret;refine boolPost ?_;unfold letR;rw [Bool.eq_iff_iff];simp;omega)
theorem ldigit_any (r:Int) (w:World):Calls Tryz.prog 147 #[.int .i32 r] w (BoolPost (digR r) w):=by
 go_enter Tryz.func147,Tryz.ntmps147
 go_wp2
 all_goals (go_ret;refine boolPost ?_;unfold digR;rw [Bool.eq_iff_iff];simp;omega)
theorem small_any (r:Int) (w:World) (h0:0≤r) (h1:r≤1114111):Calls Tryz.prog 149 #[.int .i32 r] w fun e w'=>e=.returned (.int .i32 (lowR r))∧w=w':=by
 by_cases h:65≤r∧r≤90
 ·obtain ⟨h2,h3⟩:=h
  have HF:Hid (lowR r=r+97-65):=by show _=_;unfold lowR;rw [if_pos ⟨h2,h3⟩];omega
  go_enter Tryz.func149,Tryz.ntmps149
  go_wp2
  go_ret
  exact ⟨congrArg (fun x=>Ending.returned (.int .i32 x)) HF.out.symm,rfl⟩
 ·have HF:Hid (lowR r=r):=by show _=_;unfold lowR;rw [if_neg h]
  rcases (show r<65∨90<r by omega) with h2|h2
  ·clear h
   go_enter Tryz.func149,Tryz.ntmps149
   go_wp2
   go_ret
   exact ⟨congrArg (fun x=>Ending.returned (.int .i32 x)) HF.out.symm,rfl⟩
  ·clear h
   go_enter Tryz.func149,Tryz.ntmps149
   go_wp2
   go_ret
   exact ⟨congrArg (fun x=>Ending.returned (.int .i32 x)) HF.out.symm,rfl⟩
def wordR (r:Int):Bool:=letR r||digR r
theorem wordR_byte (c:UInt8):wordR (c.toNat:Int)=Lp.wordB c:=by unfold wordR Lp.wordB;rw [letR_byte,digR_byte]
theorem wordr_any (r:Int) (w:World):Calls Tryz.prog 146 #[.int .i32 r] w (BoolPost (wordR r) w):=by
 have c1:=lletter_any r
 have c2:=ldigit_any r
 unfold BoolPost at c1 c2
 cases h1:letR r
 ·rw [h1] at c1
  have C1:=κ c1
  have C2:=κ c2
  have HF:Hid (wordR r=digR r):=by show _=_;unfold wordR;rw [h1];rfl
  clear c1 c2 h1
  go_enter Tryz.func146,Tryz.ntmps146
  go_wp2_with fail
  refine (C1.out _).mono ?_
  rintro e w' ⟨rfl,rfl⟩
  go_wp2_with fail
  refine (C2.out _).mono ?_
  rintro e w' ⟨rfl,rfl⟩
  go_wp2
  go_ret
  exact boolPost HF.out
 ·rw [h1] at c1
  have C1:=κ c1
  have HF:Hid (wordR r=true):=by show _=_;unfold wordR;rw [h1];rfl
  clear c1 c2 h1
  go_enter Tryz.func146,Tryz.ntmps146
  go_wp2_with fail
  refine (C1.out _).mono ?_
  rintro e w' ⟨rfl,rfl⟩
  go_wp2
  go_ret
  exact boolPost HF.out
theorem rsingle_any (c:UInt8) (w:World):Calls Tryz.prog 172 #[.int .u8 c.toNat] w (BoolPost (Lp.singB c) w):=by
 go_enter Tryz.func172,Tryz.ntmps172
 go_wp2
 go_loop [3] (fun i=>∃ k:Nat,k≤13∧i=.int .i64 k∧Hid ((Lp.signs.take k).contains c=false)) (fun i=>13-(intOf i).toNat)
 case atStart=>exact ⟨0,by omega,rfl,rfl⟩
 case round =>
  obtain ⟨k,hk,rfl,HC⟩:=hrel
  by_cases hlt:k<13
  ·have hk0:(0:Int)≤(k:Int):=by omega
   have hk1:(k:Int)<13:=by omega
   have HD:=κ (show (Lp.signs.take (k+1)).contains c=(decide ((((⟨#[40,41,44,59,42,43,45,47,37,61,60,62,46]⟩:ByteArray)[k]'hlt).toNat:Int)=(c.toNat:Int))) by
    have e:Lp.signs.take (k+1)=Lp.signs.take k++[(⟨#[40,41,44,59,42,43,45,47,37,61,60,62,46]⟩:ByteArray)[k]'hlt]:=Lp.take_snoc ⟨#[40,41,44,59,42,43,45,47,37,61,60,62,46]⟩ k hlt
    have hc:=HC.out
    generalize (⟨#[40,41,44,59,42,43,45,47,37,61,60,62,46]⟩:ByteArray)[k]'hlt=d at *
    rw [e,Bool.eq_iff_iff]
    rw [←Bool.not_eq_true,List.contains_iff_mem] at hc
    simp only [List.contains_iff_mem,List.mem_append,List.mem_singleton,hc,false_or,decide_eq_true_eq]
    constructor
    ·rintro rfl;rfl
    ·intro h;exact (UInt8.toNat_inj.1 (by omega)).symm)
   go_wp2
   ·go_ret
    have hm:=HD.out
    rename_i ht _
    rw [beq_iff_eq] at ht
    rw [decide_eq_true ht] at hm
    refine boolPost ?_
    unfold Lp.singB
    rw [List.contains_iff_mem] at hm ⊢
    exact List.mem_of_mem_take hm
   ·rename_i ht
    rw [beq_eq_false_iff_ne] at ht
    go_round
    case rel=>exact ⟨k+1,by omega,by go_num,by show _=_;rw [HD.out,decide_eq_false ht]⟩
    case measure=>simp [intOf];omega
  ·obtain rfl:k=13:=by omega
   have HF:Hid (Lp.singB c=false):=by show _=_;unfold Lp.singB;have:=HC.out;exact this
   go_wp2
   go_ret
   exact boolPost HF.out
theorem iterPos_at {w:World} {k:Nat} {s:ByteArray} {p:Nat} (h:w.heap[k]? = some (.stringIter s p)):w.iterPos k=p:=by simp [World.iterPos,h]
theorem ret_nat {a b:Nat} (h:a=b):Ending.returned (.int .i64 (a:Int))=.returned (.int .i64 (b:Int)):=by rw [h]
theorem takeWhile_at {p:UInt8→Bool}:∀ {l:List UInt8} {k:Nat} (h:k<l.length),(l.take k).all p=true→p l[k]=false→(l.takeWhile p).length=k
 | c::l,0,_,_,h2=>by rw [List.takeWhile_cons];simp only [List.getElem_cons_zero] at h2;rw [h2];rfl
 | c::l,k+1,h,h1,h2=>by
   rw [List.take_succ_cons,List.all_cons,Bool.and_eq_true] at h1
   rw [List.takeWhile_cons,h1.1]
   simp only [List.getElem_cons_succ] at h2
   have:=takeWhile_at (l:=l) (k:=k) (by simpa using h) h1.2 h2
   simp [this]
theorem takeWhile_all {p:UInt8→Bool} {l:List UInt8} (h:l.all p=true):l.takeWhile p=l:=by
 induction l with
 | nil=>rfl
 | cons c l ih =>
   rw [List.all_cons,Bool.and_eq_true] at h
   rw [List.takeWhile_cons,h.1,ih h.2];rfl
theorem word_small {c:UInt8} (h:Lp.wordB c=true):c.toNat<128:=by
 unfold Lp.wordB Lp.letB Lp.isDig at h
 simp at h;omega
theorem dig_small {c:UInt8} (h:Lp.isDig c=true):c.toNat<128:=by
 unfold Lp.isDig at h
 simp at h;omega
theorem wordR_big {r:Int} (h:128≤r):wordR r=false:=by
 unfold wordR;rw [letR_no (by omega),digR_no (by omega)];rfl
theorem digR_big {r:Int} (h:128≤r):digR r=false:=digR_no (by omega)
theorem rune_word_yes (s:ByteArray) (pos:Nat) (h:pos<s.size) (hd:Lp.wordB (s[pos]'h)=true):Utf8.decode s pos=((s[pos]'h).toNat,1)∧wordR ((s[pos]'h).toNat:Int)=true :=
 ⟨decode_ascii s pos h (word_small hd),by rw [wordR_byte];exact hd⟩
theorem rune_word_no (s:ByteArray) (pos:Nat) (h:pos<s.size) (hd:Lp.wordB (s[pos]'h)=false):wordR ((Utf8.decode s pos).1:Int)=false:=by
 by_cases ha:(s[pos]'h).toNat<128
 ·rw [decode_ascii s pos h ha];show wordR ((s[pos]'h).toNat:Int)=false;rw [wordR_byte];exact hd
 ·exact wordR_big (by have:=(decode_high s pos h (by omega)).1;omega)
theorem while_word (s:ByteArray) (w:World) :
 Calls Tryz.prog 145 #[.string s,.func (.func 146) #[] #[]] w fun e w'=>e=.returned (.int .i64 ((s.data.toList.takeWhile Lp.wordB).length))∧Below w.heap.size w w':=by
 go_enter Tryz.func145,Tryz.ntmps145
 go_wp2
 go_loopw [5,6] (fun _ _ wr=>∃ pos:Nat,wr.heap[w.heap.size]? = some (.stringIter s pos)∧Below w.heap.size w wr∧pos≤s.size∧Hid ((s.data.toList.take pos).all Lp.wordB=true)) (fun _ _ wr=>s.size-wr.iterPos w.heap.size)
 case atStart=>exact ⟨0,World.iter_heap w s 0,(Below.refl _ _).alloc (Nat.le_refl _) _,Nat.zero_le _,by rfl⟩
 case round =>
  obtain ⟨pos,hit,hbw,hle,HD⟩:=hrel
  have hpos0:=iterPos_at hit
  by_cases hp:pos<s.size
  ·have hnx0:∀ ty,(Instr.next (.pointer (some ⟨w.heap.size,0,none⟩)) true ty).run Tryz.prog wr=_:=fun ty=>Lib.run_next_any_at wr w.heap.size s pos ty hit hp
   cases hd:Lp.wordB (s[pos]'hp)
   ·have hr:=rune_word_no s pos hp hd
    have HF:Hid ((s.data.toList.takeWhile Lp.wordB).length=pos):=takeWhile_at (by simpa using hp) HD.out hd
    have hb2:=Lib.below_iterAt hbw (k:=w.heap.size) (Nat.le_refl _) s (pos+(Utf8.decode s pos).2)
    generalize (Utf8.decode s pos).1=c at *
    generalize (Utf8.decode s pos).2=k at *
    have C:=wordr_any (c:Int)
    unfold BoolPost at C
    rw [hr] at C
    have HC:=κ C
    clear C hr HD hd
    go_wp2_with fail
    refine (HC.out _).mono ?_
    rintro e w' ⟨rfl,rfl⟩
    go_wp2
    go_ret
    exact ⟨ret_nat HF.out.symm,hb2⟩
   ·obtain ⟨hdec,hr⟩:=rune_word_yes s pos hp hd
    have HD2:Hid ((s.data.toList.take (pos+1)).all Lp.wordB=true):=by
     show _=_
     rw [Lp.take_snoc s pos hp];simp [HD.out,hd]
    have hnx:=hnx0
    rw [hdec] at hnx
    have hit2:=Lib.iterAt_heap wr w.heap.size s pos (pos+1) hit
    have hb2:=Lib.below_iterAt hbw (k:=w.heap.size) (Nat.le_refl _) s (pos+1)
    have hp2:=iterPos_at hit2
    generalize (s[pos]'hp).toNat=c at *
    have C:=wordr_any (c:Int)
    unfold BoolPost at C
    rw [hr] at C
    have HC:=κ C
    clear hnx0 hdec hd HD C hr
    go_wp2_with fail
    refine (HC.out _).mono ?_
    rintro e w' ⟨rfl,rfl⟩
    go_wp2
    go_roundw
    case rel=>exact ⟨pos+1,hit2,hb2,by omega,HD2⟩
    case measure=>rw [hp2,hpos0];omega
  ·have hnx:∀ ty,(Instr.next (.pointer (some ⟨w.heap.size,0,none⟩)) true ty).run Tryz.prog wr=_:=fun ty=>Lib.run_next_end_at wr w.heap.size s pos ty hit hp
   obtain rfl:pos=s.size:=by omega
   have HF:Hid ((s.data.toList.takeWhile Lp.wordB).length=s.size):=by
    show _=_
    have:=HD.out;rw [Lp.take_all] at this
    rw [takeWhile_all this];simp
   clear HD
   go_wp2
   go_ret
   exact ⟨ret_nat HF.out.symm,hbw⟩
theorem rune_dig_yes (s:ByteArray) (pos:Nat) (h:pos<s.size) (hd:Lp.isDig (s[pos]'h)=true):Utf8.decode s pos=((s[pos]'h).toNat,1)∧digR ((s[pos]'h).toNat:Int)=true :=
 ⟨decode_ascii s pos h (dig_small hd),by rw [digR_byte];exact hd⟩
theorem rune_dig_no (s:ByteArray) (pos:Nat) (h:pos<s.size) (hd:Lp.isDig (s[pos]'h)=false):digR ((Utf8.decode s pos).1:Int)=false:=by
 by_cases ha:(s[pos]'h).toNat<128
 ·rw [decode_ascii s pos h ha];show digR ((s[pos]'h).toNat:Int)=false;rw [digR_byte];exact hd
 ·exact digR_big (by have:=(decode_high s pos h (by omega)).1;omega)
theorem while_dig (s:ByteArray) (w:World) :
 Calls Tryz.prog 145 #[.string s,.func (.func 147) #[] #[]] w fun e w'=>e=.returned (.int .i64 ((s.data.toList.takeWhile Lp.isDig).length))∧Below w.heap.size w w':=by
 go_enter Tryz.func145,Tryz.ntmps145
 go_wp2
 go_loopw [5,6] (fun _ _ wr=>∃ pos:Nat,wr.heap[w.heap.size]? = some (.stringIter s pos)∧Below w.heap.size w wr∧pos≤s.size∧Hid ((s.data.toList.take pos).all Lp.isDig=true)) (fun _ _ wr=>s.size-wr.iterPos w.heap.size)
 case atStart=>exact ⟨0,World.iter_heap w s 0,(Below.refl _ _).alloc (Nat.le_refl _) _,Nat.zero_le _,by rfl⟩
 case round =>
  obtain ⟨pos,hit,hbw,hle,HD⟩:=hrel
  have hpos0:=iterPos_at hit
  by_cases hp:pos<s.size
  ·have hnx0:∀ ty,(Instr.next (.pointer (some ⟨w.heap.size,0,none⟩)) true ty).run Tryz.prog wr=_:=fun ty=>Lib.run_next_any_at wr w.heap.size s pos ty hit hp
   cases hd:Lp.isDig (s[pos]'hp)
   ·have hr:=rune_dig_no s pos hp hd
    have HF:Hid ((s.data.toList.takeWhile Lp.isDig).length=pos):=takeWhile_at (by simpa using hp) HD.out hd
    have hb2:=Lib.below_iterAt hbw (k:=w.heap.size) (Nat.le_refl _) s (pos+(Utf8.decode s pos).2)
    generalize (Utf8.decode s pos).1=c at *
    generalize (Utf8.decode s pos).2=k at *
    have C:=ldigit_any (c:Int)
    unfold BoolPost at C
    rw [hr] at C
    have HC:=κ C
    clear C hr HD hd
    go_wp2_with fail
    refine (HC.out _).mono ?_
    rintro e w' ⟨rfl,rfl⟩
    go_wp2
    go_ret
    exact ⟨ret_nat HF.out.symm,hb2⟩
   ·obtain ⟨hdec,hr⟩:=rune_dig_yes s pos hp hd
    have HD2:Hid ((s.data.toList.take (pos+1)).all Lp.isDig=true):=by
     show _=_
     rw [Lp.take_snoc s pos hp];simp [HD.out,hd]
    have hnx:=hnx0
    rw [hdec] at hnx
    have hit2:=Lib.iterAt_heap wr w.heap.size s pos (pos+1) hit
    have hb2:=Lib.below_iterAt hbw (k:=w.heap.size) (Nat.le_refl _) s (pos+1)
    have hp2:=iterPos_at hit2
    generalize (s[pos]'hp).toNat=c at *
    have C:=ldigit_any (c:Int)
    unfold BoolPost at C
    rw [hr] at C
    have HC:=κ C
    clear hnx0 hdec hd HD C hr
    go_wp2_with fail
    refine (HC.out _).mono ?_
    rintro e w' ⟨rfl,rfl⟩
    go_wp2
    go_roundw
    case rel=>exact ⟨pos+1,hit2,hb2,by omega,HD2⟩
    case measure=>rw [hp2,hpos0];omega
  ·have hnx:∀ ty,(Instr.next (.pointer (some ⟨w.heap.size,0,none⟩)) true ty).run Tryz.prog wr=_:=fun ty=>Lib.run_next_end_at wr w.heap.size s pos ty hit hp
   obtain rfl:pos=s.size:=by omega
   have HF:Hid ((s.data.toList.takeWhile Lp.isDig).length=s.size):=by
    show _=_
    have:=HD.out;rw [Lp.take_all] at this
    rw [takeWhile_all this];simp
   clear HD
   go_wp2
   go_ret
   exact ⟨ret_nat HF.out.symm,hbw⟩
def Tabs (w:World):Prop:=Lib.Utf8Tabs 0 1 w
theorem valid_any (s:ByteArray) (w:World) (hs:s.size≤9223372036854775807) (hT:Tabs w) :
 Calls Tryz.prog 152 #[.string s] w fun e w'=>e=.returned (.bool (Lib.validD s.data.toList))∧Below w.heap.size w w' :=
 Any.utf8_ValidString Tryz.laysValid s w hs hT
theorem tabs_below {w w':World} (h:Tabs w) (hb:Below w.heap.size w w'):Tabs w':=Utf8Tabs_below h hb
theorem tabs_alloc {w:World} (h:Tabs w) (o:Obj):Tabs (w.alloc o):=tabs_below h ((Below.refl _ _).alloc (Nat.le_refl _) o)
theorem bcell {W w1:World} (hb:Below W.heap.size W w1):(∀ b o,b<W.heap.size→w1.cell? ⟨b,o,none⟩=W.cell? ⟨b,o,none⟩)∧(∀ b o,b<W.heap.size→w1.frozen? ⟨b,o,none⟩=W.frozen? ⟨b,o,none⟩) :=
 ⟨fun b o h=>hb.cell (p:=⟨b,o,none⟩) h,fun b o h=>hb.frozen (p:=⟨b,o,none⟩) h⟩
theorem idx_no (s:ByteArray) (w:World) (h:s.data.toList.contains 0=false) :
 Calls Tryz.prog 108 #[.string s,.int .u8 0] w fun e w'=>e=.returned (.int .i64 (-1))∧w=w':=by
 refine (Tryz.strings_IndexByte s 0 w).mono ?_
 rintro e w' ⟨rfl,rfl⟩
 have h1:=Lib.indexByte_ge s.data.toList (Int.toNat 0).toUInt8
 have h2:Lib.indexByte s.data.toList (Int.toNat 0).toUInt8 = -1:=by
  rcases Int.lt_or_le (Lib.indexByte s.data.toList (Int.toNat 0).toUInt8) 0 with h3|h3
  ·omega
  ·obtain ⟨n,hn⟩:=Int.eq_ofNat_of_zero_le h3
   have h4:=(Lib.indexByte_some hn).1
   have h5:s.data.toList.contains 0=true:=List.contains_iff_mem.2 (List.mem_of_getElem? h4)
   rw [h5] at h;cases h
 rw [h2];exact ⟨rfl,rfl⟩
def SomeNat (e:Ending):Prop:=∃ n:Nat,e=.returned (.int .i64 n)
theorem idx_yes (s:ByteArray) (w:World) (h:s.data.toList.contains 0=true) :
 Calls Tryz.prog 108 #[.string s,.int .u8 0] w fun e w'=>SomeNat e∧w=w':=by
 refine (Tryz.strings_IndexByte s 0 w).mono ?_
 rintro e w' ⟨rfl,rfl⟩
 refine ⟨?_,rfl⟩
 have e0:(Int.toNat 0).toUInt8=0:=rfl
 rw [e0]
 rcases Int.lt_or_le (Lib.indexByte s.data.toList 0) 0 with h3|h3
 ·have h1:=Lib.indexByte_ge s.data.toList 0
  obtain ⟨k,hk⟩:=List.mem_iff_getElem?.1 (List.contains_iff_mem.1 h)
  exact absurd hk (Lib.indexByte_none (by omega) k)
 ·obtain ⟨n,hn⟩:=Int.eq_ofNat_of_zero_le h3
  exact ⟨n,by rw [hn]⟩
theorem size_nil {s:ByteArray} (h:s.data=#[]):s.size=0:=by show s.data.size=0;rw [h];rfl
def RightPost (k i:Int) (s:ByteArray) (b:Bool) (w:World) (e:Ending) (w':World):Prop:=e=.returned (.bool (Lp.rightB k i s b))∧Below w.heap.size w w'
theorem rightPost {k i:Int} {s:ByteArray} {b r:Bool} {w w':World} (h:r=Lp.rightB k i s b) (hb:Below w.heap.size w w'):RightPost k i s b w (.returned (.bool r)) w':=by
 subst h;exact ⟨rfl,hb⟩
theorem right_0 (i:Int) (s:ByteArray) (b:Bool) (w:World) (hs:s.size≤9223372036854775807) (hT:Tabs w) :
 Calls Tryz.prog 153 #[.agg #[.int .u8 0,.int .i64 i,.string s,.bool b]] w (RightPost 0 i s b w):=by
 have hT2:∀ o1 o2,Tabs ((w.alloc o1).alloc o2):=fun o1 o2=>tabs_alloc (tabs_alloc hT o1) o2
 have hB2:∀ o1 o2,Below w.heap.size w ((w.alloc o1).alloc o2):=fun o1 o2=>((Below.refl w.heap.size w).alloc (Nat.le_refl _) o1).alloc (by simp) o2
 cases hz:s.data.toList.contains 0
 ·go_enter Tryz.func153,Tryz.ntmps153
  go_wp2_with (first|(go_at_call 152;refine (valid_any _ _ hs (hT2 _ _)).mono ?_;rintro e w1 ⟨rfl,hb1⟩;obtain ⟨hc1,hf1⟩:=bcell hb1)|(go_at_call 108;refine (idx_no _ _ hz).mono ?_;rintro e w' ⟨rfl,rfl⟩))
  all_goals (go_ret;first|exact rightPost (by clear hB2 hT2;simp_all [Lp.rightB,ByteArray.toList_eq,size_nil]) (hB2 _ _)|exact rightPost (by clear hB2 hT2 hc1 hf1 hb1;simp_all [Lp.rightB,ByteArray.toList_eq,Lib.validD_nil,size_nil]) ((hB2 _ _).trans (hb1.mono (by simp;omega))))
 ·go_enter Tryz.func153,Tryz.ntmps153
  go_wp2_with (first|(go_at_call 152;refine (valid_any _ _ hs (hT2 _ _)).mono ?_;rintro e w1 ⟨rfl,hb1⟩;obtain ⟨hc1,hf1⟩:=bcell hb1)|(go_at_call 108;refine (idx_yes _ _ hz).mono ?_;rintro e w' ⟨⟨n0,rfl⟩,rfl⟩))
  all_goals (go_ret;first|exact rightPost (by clear hB2 hT2;simp_all [Lp.rightB,ByteArray.toList_eq,size_nil]) (hB2 _ _)|exact rightPost (by clear hB2 hT2 hc1 hf1 hb1;simp_all [Lp.rightB,ByteArray.toList_eq,Lib.validD_nil,size_nil]) ((hB2 _ _).trans (hb1.mono (by simp;omega))))
theorem right_1 (i:Int) (s:ByteArray) (b:Bool) (w:World) (hs:s.size≤9223372036854775807) (hT:Tabs w) :
 Calls Tryz.prog 153 #[.agg #[.int .u8 1,.int .i64 i,.string s,.bool b]] w (RightPost 1 i s b w):=by
 have hT2:∀ o1 o2,Tabs ((w.alloc o1).alloc o2):=fun o1 o2=>tabs_alloc (tabs_alloc hT o1) o2
 have hB2:∀ o1 o2,Below w.heap.size w ((w.alloc o1).alloc o2):=fun o1 o2=>((Below.refl w.heap.size w).alloc (Nat.le_refl _) o1).alloc (by simp) o2
 cases hz:s.data.toList.contains 0
 ·go_enter Tryz.func153,Tryz.ntmps153
  go_wp2_with (first|(go_at_call 152;refine (valid_any _ _ hs (hT2 _ _)).mono ?_;rintro e w1 ⟨rfl,hb1⟩;obtain ⟨hc1,hf1⟩:=bcell hb1)|(go_at_call 108;refine (idx_no _ _ hz).mono ?_;rintro e w' ⟨rfl,rfl⟩))
  all_goals (go_ret;first|exact rightPost (by clear hB2 hT2;simp_all [Lp.rightB,ByteArray.toList_eq,size_nil]) (hB2 _ _)|exact rightPost (by clear hB2 hT2 hc1 hf1 hb1;simp_all [Lp.rightB,ByteArray.toList_eq,Lib.validD_nil,size_nil]) ((hB2 _ _).trans (hb1.mono (by simp;omega))))
 ·go_enter Tryz.func153,Tryz.ntmps153
  go_wp2_with (first|(go_at_call 152;refine (valid_any _ _ hs (hT2 _ _)).mono ?_;rintro e w1 ⟨rfl,hb1⟩;obtain ⟨hc1,hf1⟩:=bcell hb1)|(go_at_call 108;refine (idx_yes _ _ hz).mono ?_;rintro e w' ⟨⟨n0,rfl⟩,rfl⟩))
  all_goals (go_ret;first|exact rightPost (by clear hB2 hT2;simp_all [Lp.rightB,ByteArray.toList_eq,size_nil]) (hB2 _ _)|exact rightPost (by clear hB2 hT2 hc1 hf1 hb1;simp_all [Lp.rightB,ByteArray.toList_eq,Lib.validD_nil,size_nil]) ((hB2 _ _).trans (hb1.mono (by simp;omega))))
theorem right_2 (i:Int) (s:ByteArray) (b:Bool) (w:World) (hs:s.size≤9223372036854775807) (hT:Tabs w) :
 Calls Tryz.prog 153 #[.agg #[.int .u8 2,.int .i64 i,.string s,.bool b]] w (RightPost 2 i s b w):=by
 have hT2:∀ o1 o2,Tabs ((w.alloc o1).alloc o2):=fun o1 o2=>tabs_alloc (tabs_alloc hT o1) o2
 have hB2:∀ o1 o2,Below w.heap.size w ((w.alloc o1).alloc o2):=fun o1 o2=>((Below.refl w.heap.size w).alloc (Nat.le_refl _) o1).alloc (by simp) o2
 cases hz:s.data.toList.contains 0
 ·go_enter Tryz.func153,Tryz.ntmps153
  go_wp2_with (first|(go_at_call 152;refine (valid_any _ _ hs (hT2 _ _)).mono ?_;rintro e w1 ⟨rfl,hb1⟩;obtain ⟨hc1,hf1⟩:=bcell hb1)|(go_at_call 108;refine (idx_no _ _ hz).mono ?_;rintro e w' ⟨rfl,rfl⟩))
  all_goals (go_ret;first|exact rightPost (by clear hB2 hT2;simp_all [Lp.rightB,Lp.textOk]<;>(intros;omega)) (hB2 _ _)|exact rightPost (by clear hB2 hT2 hc1 hf1 hb1;simp_all [Lp.rightB,Lp.textOk]<;>(intros;omega)) ((hB2 _ _).trans (hb1.mono (by simp;omega))))
 ·go_enter Tryz.func153,Tryz.ntmps153
  go_wp2_with (first|(go_at_call 152;refine (valid_any _ _ hs (hT2 _ _)).mono ?_;rintro e w1 ⟨rfl,hb1⟩;obtain ⟨hc1,hf1⟩:=bcell hb1)|(go_at_call 108;refine (idx_yes _ _ hz).mono ?_;rintro e w' ⟨⟨n0,rfl⟩,rfl⟩))
  all_goals (go_ret;first|exact rightPost (by clear hB2 hT2;simp_all [Lp.rightB,Lp.textOk]<;>(intros;omega)) (hB2 _ _)|exact rightPost (by clear hB2 hT2 hc1 hf1 hb1;simp_all [Lp.rightB,Lp.textOk]<;>(intros;omega)) ((hB2 _ _).trans (hb1.mono (by simp;omega))))
theorem right_3 (i:Int) (s:ByteArray) (b:Bool) (w:World) (hs:s.size≤9223372036854775807) (hT:Tabs w) :
 Calls Tryz.prog 153 #[.agg #[.int .u8 3,.int .i64 i,.string s,.bool b]] w (RightPost 3 i s b w):=by
 have hT2:∀ o1 o2,Tabs ((w.alloc o1).alloc o2):=fun o1 o2=>tabs_alloc (tabs_alloc hT o1) o2
 have hB2:∀ o1 o2,Below w.heap.size w ((w.alloc o1).alloc o2):=fun o1 o2=>((Below.refl w.heap.size w).alloc (Nat.le_refl _) o1).alloc (by simp) o2
 cases hz:s.data.toList.contains 0
 ·go_enter Tryz.func153,Tryz.ntmps153
  go_wp2_with (first|(go_at_call 152;refine (valid_any _ _ hs (hT2 _ _)).mono ?_;rintro e w1 ⟨rfl,hb1⟩;obtain ⟨hc1,hf1⟩:=bcell hb1)|(go_at_call 108;refine (idx_no _ _ hz).mono ?_;rintro e w' ⟨rfl,rfl⟩))
  all_goals (go_ret;first|exact rightPost (by clear hB2 hT2;simp_all [Lp.rightB,ByteArray.toList_eq,size_nil]) (hB2 _ _)|exact rightPost (by clear hB2 hT2 hc1 hf1 hb1;simp_all [Lp.rightB,ByteArray.toList_eq,Lib.validD_nil,size_nil]) ((hB2 _ _).trans (hb1.mono (by simp;omega))))
 ·go_enter Tryz.func153,Tryz.ntmps153
  go_wp2_with (first|(go_at_call 152;refine (valid_any _ _ hs (hT2 _ _)).mono ?_;rintro e w1 ⟨rfl,hb1⟩;obtain ⟨hc1,hf1⟩:=bcell hb1)|(go_at_call 108;refine (idx_yes _ _ hz).mono ?_;rintro e w' ⟨⟨n0,rfl⟩,rfl⟩))
  all_goals (go_ret;first|exact rightPost (by clear hB2 hT2;simp_all [Lp.rightB,ByteArray.toList_eq,size_nil]) (hB2 _ _)|exact rightPost (by clear hB2 hT2 hc1 hf1 hb1;simp_all [Lp.rightB,ByteArray.toList_eq,Lib.validD_nil,size_nil]) ((hB2 _ _).trans (hb1.mono (by simp;omega))))
theorem right_other (k i:Int) (s:ByteArray) (b:Bool) (w:World) (h0:(k==0)=false) (h1:(k==1)=false) (h2:(k==2)=false) (h3:(k==3)=false) :
 Calls Tryz.prog 153 #[.agg #[.int .u8 k,.int .i64 i,.string s,.bool b]] w (RightPost k i s b w):=by
 have hB2:∀ o1 o2,Below w.heap.size w ((w.alloc o1).alloc o2):=fun o1 o2=>((Below.refl w.heap.size w).alloc (Nat.le_refl _) o1).alloc (by simp) o2
 go_enter Tryz.func153,Tryz.ntmps153
 go_wp2
 go_ret
 exact rightPost (by simp_all [Lp.rightB]) (hB2 _ _)
theorem right_any (k i:Int) (s:ByteArray) (b:Bool) (w:World) (hs:s.size≤9223372036854775807) (hT:Tabs w) :
 Calls Tryz.prog 153 #[.agg #[.int .u8 k,.int .i64 i,.string s,.bool b]] w (RightPost k i s b w):=by
 by_cases h0:k=0
 ·subst h0;exact right_0 i s b w hs hT
 ·by_cases h1:k=1
  ·subst h1;exact right_1 i s b w hs hT
  ·by_cases h2:k=2
   ·subst h2;exact right_2 i s b w hs hT
   ·by_cases h3:k=3
    ·subst h3;exact right_3 i s b w hs hT
    ·exact right_other k i s b w (by simpa using h0) (by simpa using h1) (by simpa using h2) (by simpa using h3)
theorem bstart (w:World):Lib.IsBuilderF 289 5 w.heap.size w.heap.size (Lib.byteCells []) (w.alloc (.cells #[.pointer none,.slice none 0 0] 289)):=Lib.IsBuilderF.of (Lib.fresh_isBuilder 289 5 w)
theorem bbyte (B b:Nat) (bs:List Value) (c:Int) (w:World) (h:Lib.IsBuilderF 289 5 B b bs w) (hlen:bs.length+1≤140737488355328) (hBw:B≤w.heap.size) :
 Calls Tryz.prog 193 #[.pointer (some ⟨b,0,none⟩),.int .u8 c] w fun e w'=>e=.returned .nilIface∧(Lib.IsBuilderF 289 5 B b (bs++[.int .u8 c]) w'∧Below B w w'∧Lib.OthersKept 5 (some b) w w') :=
 (Any.Builder_WriteByte_k (ρ:=Tryz.lays230_ren) { Tryz.lays230 with } Tryz.Builder_Extra_230 B b bs c w h hlen hBw).mono fun _ _ h=>⟨h.1,Or.inr h.2.1,h.2.2⟩
theorem bstring (B b:Nat) (bs:List Value) (s:ByteArray) (w:World) (h:Lib.IsBuilderF 289 5 B b bs w) (hlen:bs.length+s.size≤140737488355328) (hBw:B≤w.heap.size) :
 Calls Tryz.prog 190 #[.pointer (some ⟨b,0,none⟩),.string s] w fun e w'=>e=.returned (.tuple #[.int .i64 s.size,.nilIface])∧(Lib.IsBuilderF 289 5 B b (bs++Lib.strCells s) w'∧Below B w w'∧Lib.OthersKept 5 (some b) w w') :=
 (Any.Builder_WriteString_k (ρ:=Tryz.lays230_ren) { Tryz.lays230 with } Tryz.Builder_Extra_230 B b bs s w h hlen hBw).mono fun _ _ h=>⟨h.1,Or.inr h.2.1,h.2.2⟩
theorem decode_any (s:ByteArray) (w:World) (hT:Tabs w) :
 Calls Tryz.prog 143 #[.string s] w fun e w'=>e=.returned (.tuple #[.int .i32 (Lib.decodeGo s).1,.int .i64 (Lib.decodeGo s).2])∧Below w.heap.size w w':=Tryz.utf8_DecodeRuneInString s w hT
def TextPost (l:List UInt8) (w:World) (e:Ending) (w':World):Prop :=
 e=.returned (.tuple #[.string ⟨(Lp.txtS (Lp.txt l)).toArray⟩,.int .i64 (Lp.txtN (Lp.txt l):Nat)])∧Below w.heap.size w w'
theorem textPost_none {l:List UInt8} {w w':World} (h:Lp.txt l=none) (hb:Below w.heap.size w w'):TextPost l w (.returned (.tuple #[.string ⟨#[]⟩,.int .i64 0])) w':=by
 unfold TextPost;rw [h];exact ⟨rfl,hb⟩
theorem textPost_some {l acc:List UInt8} {n:Nat} {w w':World} (h:Lp.txt l=some (acc,n)) (hb:Below w.heap.size w w'):TextPost l w (.returned (.tuple #[.string ⟨acc.toArray⟩,.int .i64 ((n:Int)+1)])) w':=by
 unfold TextPost;rw [h];exact ⟨rfl,hb⟩
theorem text_any (s:ByteArray) (w:World) (hs:s.size≤1000000000) (h1:1≤s.size) (hT:Tabs w) :
 Calls Tryz.prog 151 #[.string s] w (TextPost (s.data.toList.drop 1) w):=by
 have HSD:Hid ((s.extract 1 s.size).data.toList=s.data.toList.drop 1):=by show _=_;rw [Lib.extract_data,List.take_of_length_le (by simp)]
 have HSS:Hid ((s.extract 1 s.size).size=s.size-1):=by show _=_;simp
 rw [←HSD.out]
 have hss1:(s.extract 1 s.size).size≤1000000000:=by rw [HSS.out];omega
 have hss2:(s.extract 1 s.size).size+1≤s.size:=by rw [HSS.out];omega
 have hss3:s.size≤(s.extract 1 s.size).size+1:=by rw [HSS.out];omega
 have hb0:=((Below.refl w.heap.size w).alloc (Nat.le_refl _) (.cells #[.pointer none,.slice none 0 0] 289)).alloc (by simp) (.stringIter (s.extract 1 s.size) 0)
 have hI0:=(bstart w).alloc (.stringIter (s.extract 1 s.size) 0)
 have hit0:((w.alloc (.cells #[.pointer none,.slice none 0 0] 289)).alloc (.stringIter (s.extract 1 s.size) 0)).heap[w.heap.size+1]? = some (.stringIter (s.extract 1 s.size) 0):=heap_new2 w _ _
 go_enter Tryz.func151,Tryz.ntmps151
 go_wp2
 go_loopw [5,6,7,8,9] (fun q _ _ _ _ wr=>∃ (pos:Nat) (acc:List UInt8) (qq:Bool),q=.bool qq∧Lib.IsBuilderF 289 5 w.heap.size w.heap.size (Lib.byteCells acc) wr∧wr.heap[w.heap.size+1]? = some (.stringIter (s.extract 1 s.size) pos)∧Below w.heap.size w wr∧pos≤(s.extract 1 s.size).size∧acc.length≤pos∧Hid (Lp.TextAt (s.extract 1 s.size).data.toList acc pos qq)) (fun _ _ _ _ _ wr=>s.size-wr.iterPos (w.heap.size+1))
 case atStart=>exact ⟨0,[],false,rfl,hI0,hit0,hb0,Nat.zero_le _,Nat.le_refl _,Lp.textAt_start _⟩
 case round =>
  clear hI0 hit0 hb0
  obtain ⟨pos,acc,qq,rfl,hI,hit,hbw,hle,hal,HA⟩:=hrel
  have hpos0:=iterPos_at hit
  have hsz:w.heap.size+1<wr.heap.size:=(Array.getElem?_eq_some_iff.1 hit).1
  have hsz0:=hbw.size
  by_cases hp:pos<(s.extract 1 s.size).size
  ·have hnx0:∀ ty,(Instr.next (.pointer (some ⟨w.heap.size+1,0,none⟩)) true ty).run Tryz.prog wr=_:=fun ty=>Lib.run_next_any_at wr (w.heap.size+1) (s.extract 1 s.size) pos ty hit hp
   have hgt:(s.extract 1 s.size).data.toList[pos]? = some ((s.extract 1 s.size)[pos]'hp):=Lp.get_data _ _ hp
   have hI2:=hI.iterAt hit (pos+(Utf8.decode (s.extract 1 s.size) pos).2)
   have hit2:=Lib.iterAt_heap wr (w.heap.size+1) (s.extract 1 s.size) pos (pos+(Utf8.decode (s.extract 1 s.size) pos).2) hit
   have hbw2:=Lib.below_iterAt hbw (k:=w.heap.size+1) (by omega) (s.extract 1 s.size) (pos+(Utf8.decode (s.extract 1 s.size) pos).2)
   have hsz2:w.heap.size≤(wr.iterAt (w.heap.size+1) (s.extract 1 s.size) (pos+(Utf8.decode (s.extract 1 s.size) pos).2)).heap.size:=by rw [Lib.iterAt_size];omega
   by_cases hr:(Utf8.decode (s.extract 1 s.size) pos).1=39
   ·obtain ⟨hc,hk⟩:=Lp.rune_quote _ _ hp hr
    rw [hc] at hgt
    have hnx:=hnx0
    rw [hr,hk] at hnx
    rw [hk] at hI2 hit2 hbw2 hsz2
    have hp2:=iterPos_at hit2
    cases qq
    ·have HA2:=κ (Lp.textAt_quote HA.out hgt)
     clear hnx0 hr hk hgt hc HA
     go_wp2
     go_roundw
     case rel=>exact ⟨pos+1,acc,true,rfl,hI2,hit2,hbw2,by omega,by omega,HA2⟩
     case measure=>rw [hp2,hpos0];omega
    ·have HA2:=κ (Lp.textAt_two HA.out hgt)
     clear hnx0 hr hk hgt hc HA
     go_wp2_with fail
     refine (bbyte w.heap.size w.heap.size _ 39 _ hI2 (by rw [Lib.byteCells_length];omega) hsz2).mono ?_
     rintro e W1 ⟨rfl,g1,b1,k1⟩
     have hit3:=k1.iter hit2 (by omega)
     have hp3:=iterPos_at hit3
     have hbw3:=hbw2.trans b1
     go_wp2
     go_roundw
     case rel=>exact ⟨pos+1,acc++[39],false,rfl,by rw [Lib.byteCells_append];exact g1,hit3,hbw3,by omega,by simp;omega,HA2⟩
     case measure=>rw [hp3,hpos0];omega
   ·obtain ⟨hk1,hk2,hk3⟩:=Lp.rune_free _ _ hp hr
    have hc:=Lp.rune_other _ _ hp hr
    have hce:(((Utf8.decode (s.extract 1 s.size) pos).1:Int)==39)=false:=by rw [beq_eq_false_iff_ne];omega
    cases qq
    ·have HA2:=κ (Lp.textAt_rune HA.out (by simpa using hk1) hk3)
     have hdg:Lib.decodeGo (s.extract (1+pos) s.size)=Utf8.decode (s.extract 1 s.size) pos:=by
      rw [Lp.rune_tail,Lib.decodeGo_extract s (1+pos) (by omega)]
     have hst:Hid (Lib.strCells (s.extract (1+pos) (1+pos+(Utf8.decode (s.extract 1 s.size) pos).2))=Lib.byteCells (((s.extract 1 s.size).data.toList.drop pos).take (Utf8.decode (s.extract 1 s.size) pos).2)):=by
      show _=_
      rw [Lib.strCells_eq,Lib.extract_data,HSD.out,List.drop_drop]
      congr 2
      omega
     have hlt:(((s.extract 1 s.size).data.toList.drop pos).take (Utf8.decode (s.extract 1 s.size) pos).2).length≤(Utf8.decode (s.extract 1 s.size) pos).2:=List.length_take_le _ _
     have HDG:=κ hdg
     generalize ((s.extract 1 s.size).data.toList.drop pos).take (Utf8.decode (s.extract 1 s.size) pos).2=T at *
     generalize (Utf8.decode (s.extract 1 s.size) pos)=ck at *
     obtain ⟨c,k⟩:=ck
     simp only at hk1 hk2 hlt hce hnx0 hI2 hit2 hbw2 hsz2
     have hp2:=iterPos_at hit2
     have hT2:=tabs_below hT hbw2
     clear hdg hgt hc HA hk3 hr hI
     have hD:=fun W h=>decode_any (s.extract (1+pos) s.size) W h
     rw [HDG.out] at hD
     have HDC:=κ hD
     have hxs:(s.extract (1+pos) (1+pos+k)).size=k:=by simp;simp at hk1;omega
     have HXS:=κ hxs
     clear hD hxs
     go_wp2_with fail
     refine (HDC.out _ hT2).mono ?_
     rintro e W1 ⟨rfl,b1⟩
     have hI3:=hI2.below b1
     have hit3:=box_below hit2 b1
     have hbw3:=hbw2.trans (b1.mono hsz2)
     have hsz3:=hbw3.size
     clear hI2 b1
     go_wp2_with fail
     refine (bstring w.heap.size w.heap.size _ _ _ hI3 (by rw [Lib.byteCells_length,HXS.out];omega) hsz3).mono ?_
     rintro e W2 ⟨rfl,g2,b2,k2⟩
     rw [hst.out, ←Lib.byteCells_append] at g2
     have hit4:=k2.iter hit3 (by omega)
     have hp4:=iterPos_at hit4
     have hbw4:=hbw3.trans b2
     have hal2:(acc++T).length≤pos+k:=by rw [List.length_append];omega
     clear hI3 hit3 hbw3 hit2 hbw2 hbw hit
     go_wp2
     go_roundw
     case rel=>exact ⟨pos+k,acc++T,false,rfl,g2,hit4,hbw4,hk1,hal2,HA2⟩
     case measure=>rw [hp4,hpos0];omega
    ·have HA2:=κ (Lp.textAt_end HA.out hgt hc)
     generalize (Utf8.decode (s.extract 1 s.size) pos).1=c at *
     generalize (Utf8.decode (s.extract 1 s.size) pos).2=k at *
     clear hgt hc HA hk3 hr hI
     go_wp2_with fail
     refine (Tryz.Builder_String_any_k w.heap.size w.heap.size acc _ hI2 hsz2).mono ?_
     rintro e W1 ⟨rfl,_,b1,_⟩
     go_wp2
     go_ret2
     exact textPost_some HA2.out (hbw2.trans b1)
  ·have hnx:∀ ty,(Instr.next (.pointer (some ⟨w.heap.size+1,0,none⟩)) true ty).run Tryz.prog wr=_:=fun ty=>Lib.run_next_end_at wr (w.heap.size+1) (s.extract 1 s.size) pos ty hit hp
   cases qq
   ·have HA2:=κ (Lp.textAt_none HA.out (by simp;simp at hp;omega))
    clear HA
    go_wp2
    go_ret2
    exact textPost_none HA2.out hbw
   ·have HA2:=κ (Lp.textAt_last HA.out (by simp;simp at hp;omega))
    have hps:Hid ((s.size:Int)=(pos:Int)+1):=by show _=_;omega
    clear HA
    go_wp2_with fail
    refine (Tryz.Builder_String_any_k w.heap.size w.heap.size acc _ hI hsz0).mono ?_
    rintro e W1 ⟨rfl,_,b1,_⟩
    go_wp2
    go_ret2
    rw [hps.out]
    exact textPost_some HA2.out (hbw.trans b1)
theorem sing_idx (c:UInt8):Lp.singB c=decide (0≤Lib.indexByte [40,41,44,59,42,43,45,47,37,61,60,62,46] c):=Lib.contains_iff_indexByte _ _
theorem list_one {s:ByteArray} (h:s.size=1):s.data.toList=[s[0]'(by omega)]:=by
 have:=Lp.drop_cons s 0 (by omega)
 rw [List.drop_zero] at this
 rw [this,List.drop_eq_nil_of_le (by simp;omega)]
theorem list_two {s:ByteArray} (h:1<s.size):s.data.toList=s[0]'(by omega)::s[1]'h::s.data.toList.drop 2:=by
 have h1:=Lp.drop_cons s 0 (by omega)
 have h2:=Lp.drop_cons s 1 h
 rw [List.drop_zero] at h1
 rw [h1,h2];rfl
theorem front_two {s:ByteArray} (h:1<s.size):(s.extract 0 2).toList=[s[0]'(by omega),s[1]'h]:=by
 rw [ByteArray.toList_eq,Lib.extract_data,list_two h];rfl
theorem eq_two (c d:UInt8) (x y:UInt8):([c,d]==[x,y])=(decide (c.toNat=x.toNat)&&decide (d.toNat=y.toNat)):=by
 rw [Bool.eq_iff_iff]
 simp [←UInt8.toNat_inj]
theorem two_is (c d:UInt8):Lp.twoB c d=(([c,d]==[60,61])||([c,d]==[62,61])||([c,d]==[60,62])):=by
 rw [eq_two,eq_two,eq_two,Bool.eq_iff_iff]
 unfold Lp.twoB
 simp
 omega
theorem ret_int_nat {n:Nat} {z:Int} (h:(n:Int)=z):Ending.returned (.int .i64 z)=.returned (.int .i64 (n:Int)):=by rw [h]
theorem sign_any (s:ByteArray) (w:World) (h1:1≤s.size):Calls Tryz.prog 154 #[.string s] w fun e w'=>e=.returned (.int .i64 (Lp.signN s.data.toList:Nat))∧w=w':=by
 have hsg:=sing_idx (s[0]'h1)
 by_cases h2:1<s.size
 ·have hl:=list_two h2
  have ht:=two_is (s[0]'h1) (s[1]'h2)
  rw [←front_two h2] at ht
  cases e1:(s.extract 0 2).toList==[60,61]
  ·cases e2:(s.extract 0 2).toList==[62,61]
   ·cases e3:(s.extract 0 2).toList==[60,62]
    ·rw [e1,e2,e3] at ht
     cases hg:Lp.singB (s[0]'h1)
     ·rw [hg] at hsg
      have hi:Lib.indexByte [40,41,44,59,42,43,45,47,37,61,60,62,46] (s[0]'h1)<0:=by have:=of_decide_eq_false hsg.symm;omega
      have HF:=κ (show ((Lp.signN s.data.toList:Nat):Int)=0 by rw [hl];simp [Lp.signN,ht,hg])
      clear hl ht hsg hg
      go_enter Tryz.func154,Tryz.ntmps154
      go_wp2_with (go_at_call 108;refine (Tryz.strings_IndexByte _ _ _).mono ?_;rintro e w' ⟨rfl,rfl⟩)
      go_ret
      exact ⟨ret_int_nat HF.out,rfl⟩
     ·rw [hg] at hsg
      have hi:0≤Lib.indexByte [40,41,44,59,42,43,45,47,37,61,60,62,46] (s[0]'h1):=of_decide_eq_true hsg.symm
      have HF:=κ (show ((Lp.signN s.data.toList:Nat):Int)=1 by rw [hl];simp [Lp.signN,ht,hg])
      clear hl ht hsg hg
      go_enter Tryz.func154,Tryz.ntmps154
      go_wp2_with (go_at_call 108;refine (Tryz.strings_IndexByte _ _ _).mono ?_;rintro e w' ⟨rfl,rfl⟩)
      go_ret
      exact ⟨ret_int_nat HF.out,rfl⟩
    ·rw [e1,e2,e3] at ht
     have HF:=κ (show ((Lp.signN s.data.toList:Nat):Int)=2 by rw [hl];simp [Lp.signN,ht])
     clear hl ht hsg
     go_enter Tryz.func154,Tryz.ntmps154
     go_wp2
     go_ret
     exact ⟨ret_int_nat HF.out,rfl⟩
   ·rw [e1,e2] at ht
    have HF:=κ (show ((Lp.signN s.data.toList:Nat):Int)=2 by rw [hl];simp [Lp.signN,ht])
    clear hl ht hsg
    go_enter Tryz.func154,Tryz.ntmps154
    go_wp2
    go_ret
    exact ⟨ret_int_nat HF.out,rfl⟩
  ·rw [e1] at ht
   have HF:=κ (show ((Lp.signN s.data.toList:Nat):Int)=2 by rw [hl];simp [Lp.signN,ht])
   clear hl ht hsg
   go_enter Tryz.func154,Tryz.ntmps154
   go_wp2
   go_ret
   exact ⟨ret_int_nat HF.out,rfl⟩
 ·have hl:=list_one (s:=s) (by omega)
  have h2':¬(1:Int)<(s.size:Int):=by omega
  cases hg:Lp.singB (s[0]'h1)
  ·rw [hg] at hsg
   have hi:Lib.indexByte [40,41,44,59,42,43,45,47,37,61,60,62,46] (s[0]'h1)<0:=by have:=of_decide_eq_false hsg.symm;omega
   have HF:=κ (show ((Lp.signN s.data.toList:Nat):Int)=0 by rw [hl];simp [Lp.signN,hg])
   clear hl hsg hg
   go_enter Tryz.func154,Tryz.ntmps154
   go_wp2_with (go_at_call 108;refine (Tryz.strings_IndexByte _ _ _).mono ?_;rintro e w' ⟨rfl,rfl⟩)
   go_ret
   exact ⟨ret_int_nat HF.out,rfl⟩
  ·rw [hg] at hsg
   have hi:0≤Lib.indexByte [40,41,44,59,42,43,45,47,37,61,60,62,46] (s[0]'h1):=of_decide_eq_true hsg.symm
   have HF:=κ (show ((Lp.signN s.data.toList:Nat):Int)=1 by rw [hl];simp [Lp.signN,hg])
   clear hl hsg hg
   go_enter Tryz.func154,Tryz.ntmps154
   go_wp2_with (go_at_call 108;refine (Tryz.strings_IndexByte _ _ _).mono ?_;rintro e w' ⟨rfl,rfl⟩)
   go_ret
   exact ⟨ret_int_nat HF.out,rfl⟩
theorem told_any (n:Int) (ok:Bool) (w:World) :
 Calls Tryz.prog 183 #[.int .i64 n,.bool ok] w fun e w'=>e=.returned (.tuple #[.int .i64 (Lp.tv ok n),.int .i64 (Lp.te ok)])∧w=w':=by
 cases ok
 ·go_enter Tryz.func183,Tryz.ntmps183
  go_wp2
  go_ret2
  exact ⟨rfl,rfl⟩
 ·go_enter Tryz.func183,Tryz.ntmps183
  go_wp2
  go_ret2
  exact ⟨rfl,rfl⟩
theorem add_any (a b:Int) (w:World) (ha:Lp.inR a) (hb:Lp.inR b) :
 Calls Tryz.prog 128 #[.int .i64 a,.int .i64 b] w fun e w'=>e=.returned (.tuple #[.int .i64 (Lp.val (a+b)),.int .i64 (Lp.err (a+b))])∧w=w':=by
 have e1:=Lp.tv_of (Lp.add_ok a b ha hb) Lp.wrap_in
 have e2:=Lp.te_of (Lp.add_ok a b ha hb)
 rw [←e1, ←e2];clear e1 e2
 go_enter Tryz.func128,Tryz.ntmps128
 go_wp2_with (go_at_call 183;refine (told_any _ _ _).mono ?_;rintro e w' ⟨rfl,rfl⟩)
 go_ret2
 exact ⟨rfl,rfl⟩
theorem mul_any (a b:Int) (w:World) (ha:Lp.inR a) (hb:Lp.inR b) :
 Calls Tryz.prog 130 #[.int .i64 a,.int .i64 b] w fun e w'=>e=.returned (.tuple #[.int .i64 (Lp.val (a*b)),.int .i64 (Lp.err (a*b))])∧w=w':=by
 by_cases h0:a=0
 ·subst h0
  rw [Int.zero_mul]
  go_enter Tryz.func130,Tryz.ntmps130
  go_wp2
  go_ret2
  exact ⟨rfl,rfl⟩
 ·by_cases h1:b=0
  ·subst h1
   rw [Int.mul_zero]
   go_enter Tryz.func130,Tryz.ntmps130
   go_wp2
   go_ret2
   exact ⟨rfl,rfl⟩
  ·have e1:=Lp.tv_of (Lp.mul_ok a b ha hb h1) Lp.wrap_in
   have e2:=Lp.te_of (Lp.mul_ok a b ha hb h1)
   rw [←e1, ←e2];clear e1 e2 ha hb
   go_enter Tryz.func130,Tryz.ntmps130
   go_wp2_with (go_at_call 183;refine (told_any _ _ _).mono ?_;rintro e w' ⟨rfl,rfl⟩)
   all_goals
    go_ret2
    simp_all [Lp.beqd]
theorem mul_in (a b:Int) (w:World) (ha:Lp.inR a) (hb:Lp.inR b) (h:Lp.inR (a*b)) :
 Calls Tryz.prog 130 #[.int .i64 a,.int .i64 b] w fun e w'=>e=.returned (.tuple #[.int .i64 (a*b),.int .i64 0])∧w=w':=by
 have:=mul_any a b w ha hb;rw [Lp.val_in h,Lp.err_in h] at this;exact this
theorem mul_out (a b:Int) (w:World) (ha:Lp.inR a) (hb:Lp.inR b) (h:¬Lp.inR (a*b)) :
 Calls Tryz.prog 130 #[.int .i64 a,.int .i64 b] w fun e w'=>e=.returned (.tuple #[.int .i64 0,.int .i64 9])∧w=w':=by
 have:=mul_any a b w ha hb;rw [Lp.val_out h,Lp.err_out h] at this;exact this
theorem add_in (a b:Int) (w:World) (ha:Lp.inR a) (hb:Lp.inR b) (h:Lp.inR (a+b)) :
 Calls Tryz.prog 128 #[.int .i64 a,.int .i64 b] w fun e w'=>e=.returned (.tuple #[.int .i64 (a+b),.int .i64 0])∧w=w':=by
 have:=add_any a b w ha hb;rw [Lp.val_in h,Lp.err_in h] at this;exact this
theorem add_out (a b:Int) (w:World) (ha:Lp.inR a) (hb:Lp.inR b) (h:¬Lp.inR (a+b)) :
 Calls Tryz.prog 128 #[.int .i64 a,.int .i64 b] w fun e w'=>e=.returned (.tuple #[.int .i64 0,.int .i64 9])∧w=w':=by
 have:=add_any a b w ha hb;rw [Lp.val_out h,Lp.err_out h] at this;exact this
def ReadPost (s:ByteArray) (w:World) (e:Ending) (w':World):Prop :=
 e=.returned (.tuple #[.int .i64 (Lp.readV s.data.toList),.int .i64 (Lp.readE s.data.toList)])∧Below w.heap.size w w'
theorem readPost_not {s:ByteArray} {w w':World} (h:Lp.allD s.data.toList=false) (hb:Below w.heap.size w w'):ReadPost s w (.returned (.tuple #[.int .i64 0,.int .i64 3])) w':=by
 rw [ReadPost,Lp.readV_not h,Lp.readE_not h];exact ⟨rfl,hb⟩
theorem readPost_yes {s:ByteArray} {w w':World} {m:Int} (h:Lp.allD s.data.toList=true) (hm:m=Lp.dvf 0 s.data.toList) (hin:Lp.inR m) (hb:Below w.heap.size w w'):ReadPost s w (.returned (.tuple #[.int .i64 m,.int .i64 0])) w':=by
 subst hm;rw [ReadPost,Lp.readV_yes h,Lp.readE_yes h,Lp.val_in hin,Lp.err_in hin];exact ⟨rfl,hb⟩
theorem readPost_out {s:ByteArray} {w w':World} (h:Lp.allD s.data.toList=true) (hin:¬Lp.inR (Lp.dvf 0 s.data.toList)) (hb:Below w.heap.size w w'):ReadPost s w (.returned (.tuple #[.int .i64 0,.int .i64 9])) w':=by
 rw [ReadPost,Lp.readV_yes h,Lp.readE_yes h,Lp.val_out hin,Lp.err_out hin];exact ⟨rfl,hb⟩
theorem iterPos_of {w:World} {k:Nat} {s:ByteArray} {p:Nat} (h:w.heap[k]? = some (.stringIter s p)):w.iterPos k=p:=by simp [World.iterPos,h]
theorem read_any (s:ByteArray) (w:World) :
 Calls Tryz.prog 150 #[.string s] w (ReadPost s w):=by
 go_enter Tryz.func150,Tryz.ntmps150
 go_wp2
 go_loopw [6] (fun _ wr=>∃ pos:Nat,wr.heap[w.heap.size]? = some (.stringIter s pos)∧Below w.heap.size w wr∧pos≤s.size∧Hid ((s.data.toList.take pos).all Lp.isDig=true)) (fun _ wr=>s.size-wr.iterPos w.heap.size)
 case atStart=>exact ⟨0,World.iter_heap w s 0,(Below.refl _ _).alloc (Nat.le_refl _) _,Nat.zero_le _,by rfl⟩
 case round =>
  obtain ⟨pos,hit,hbw,hle,HD⟩:=hrel
  have hpos0:=iterPos_of hit
  by_cases hp:pos<s.size
  ·have hnx0:∀ ty,(Instr.next (.pointer (some ⟨w.heap.size,0,none⟩)) true ty).run Tryz.prog wr=_:=fun ty=>Lib.run_next_any_at wr w.heap.size s pos ty hit hp
   cases hd:Lp.isDig (s[pos]'hp)
   ·have hr:=Lp.rune_not s pos hp hd
    have hall:=Lp.allD_not s pos hp hd
    have hb2:=Lib.below_iterAt hbw (k:=w.heap.size) (Nat.le_refl _) s (pos+(Utf8.decode s pos).2)
    generalize (Utf8.decode s pos).1=c at *
    generalize (Utf8.decode s pos).2=k at *
    have Hall:=κ hall
    clear hall hd HD
    rcases hr with hr|hr
    ·go_wp2
     go_ret2
     exact readPost_not Hall.out hb2
    ·have hr2:¬c<48:=by omega
     go_wp2
     go_ret2
     exact readPost_not Hall.out hb2
   ·have hdec:=Lp.rune_dig s pos hp hd
    have hbd:=Lp.isDig_bd hd
    have HD2:=κ (Lp.all_snoc s pos hp HD.out hd)
    have hnx:=hnx0
    rw [hdec] at hnx
    have hit2:=Lib.iterAt_heap wr w.heap.size s pos (pos+1) hit
    have hb2:=Lib.below_iterAt hbw (k:=w.heap.size) (Nat.le_refl _) s (pos+1)
    clear hnx0 hdec hd HD
    generalize (s[pos]'hp).toNat=c at *
    obtain ⟨hc1,hc2⟩:=hbd
    have hc3:¬c<48:=by omega
    have hc4:¬57<c:=by omega
    have hp2:=iterPos_of hit2
    go_wp2
    go_roundw
    case rel=>exact ⟨pos+1,hit2,hb2,by omega,HD2⟩
    case measure=>rw [hp2,hpos0];omega
  ·have hnx:∀ ty,(Instr.next (.pointer (some ⟨w.heap.size,0,none⟩)) true ty).run Tryz.prog wr=_:=fun ty=>Lib.run_next_end_at wr w.heap.size s pos ty hit hp
   obtain rfl:pos=s.size:=by omega
   have HA:Hid (s.data.toList.all Lp.isDig=true):=by have:=HD.out;rw [Lp.take_all] at this;exact this
   clear HD
   obtain ⟨wo,rfl⟩:∃ wo:World,wo=wr:=⟨_,rfl⟩
   by_cases h0:s.size=0
   ·have h0l:s.data.toList=[]:=List.eq_nil_of_length_eq_zero (by simpa using h0)
    have Hall:=κ (show Lp.allD s.data.toList=false by rw [h0l];rfl)
    have h0e:s.toList.isEmpty=true:=by rw [ByteArray.toList_eq,h0l];rfl
    clear h0l
    go_wp2
    go_ret2
    exact readPost_not Hall.out hbw
   ·have h0e:s.toList.isEmpty=false:=by rw [ByteArray.toList_eq,List.isEmpty_eq_false_iff];intro h;exact h0 (by simpa using congrArg List.length h)
    have Hall:=κ (show Lp.allD s.data.toList=true by rw [ByteArray.toList_eq] at h0e;simp [Lp.allD,h0e];simpa using HA.out)
    have hlt:=(Array.getElem?_eq_some_iff.1 hit).1
    clear hit hpos0
    go_wp2
    have hKw:w.heap.size≤wo.heap.size:=by omega
    have hstart:=World.iter_heap wo s 0
    have hbstart:=hbw.alloc (by omega) (.stringIter s 0)
    clear hnx
    go_loopw [4,8,9,10] (fun n _ _ _ wr=>∃ (pos:Nat) (m:Int),n=.int .i64 m∧Hid (m=Lp.dvf 0 (s.data.toList.take pos))∧Hid (Lp.inR m)∧wr.heap[wo.heap.size]? = some (.stringIter s pos)∧Below w.heap.size w wr∧pos≤s.size) (fun _ _ _ _ wr=>s.size-wr.iterPos wo.heap.size)
    case atStart=>exact ⟨0,0,rfl,rfl,by show Lp.inR 0;decide,hstart,hbstart,Nat.zero_le _⟩
    case round =>
     clear hstart hbstart h0e hbw hp
     obtain ⟨pos,m,rfl,Hm,Hin,hit,hbw,hle⟩:=hrel
     have hpos0:=iterPos_of hit
     by_cases hp:pos<s.size
     ·have hd:=Lp.all_at s pos hp HA.out
      have hdec:=Lp.rune_dig s pos hp hd
      have hbd:=Lp.isDig_bd hd
      have hnx:∀ ty,(Instr.next (.pointer (some ⟨wo.heap.size,0,none⟩)) true ty).run Tryz.prog wr=_:=fun ty=>Lib.run_next_any_at wr wo.heap.size s pos ty hit hp
      rw [hdec] at hnx
      have hit2:=Lib.iterAt_heap wr wo.heap.size s pos (pos+1) hit
      have hb2:=Lib.below_iterAt hbw (k:=wo.heap.size) hKw s (pos+1)
      have Hm2:Hid (m*10+(((s[pos]'hp).toNat:Int)-48)=Lp.dvf 0 (s.data.toList.take (pos+1))):=by
       show _=_
       rw [Lp.take_snoc s pos hp,Lp.dvf_snoc, ←Hm.out]
      have Hge:Hid (¬Lp.inR m→¬Lp.inR (Lp.dvf 0 s.data.toList)):=fun h=>Lp.out_of s pos HA.out (by rw [←Hm.out];exact h)
      have Hge2:Hid (¬Lp.inR (m*10+(((s[pos]'hp).toNat:Int)-48))→¬Lp.inR (Lp.dvf 0 s.data.toList)):=fun h=>Lp.out_of s (pos+1) HA.out (by rw [←Hm2.out];exact h)
      have Hnn:Hid (0≤m):=by
       show 0≤m
       rw [Hm.out]
       exact Lp.dvf_nonneg (by have:=HA.out;rw [List.all_eq_true] at *;intro x hx;exact this x (List.mem_of_mem_take hx))
      clear hdec hd Hm
      generalize (s[pos]'hp).toNat=c at *
      obtain ⟨hc1,hc2⟩:=hbd
      have hc3:Lp.inR ((c:Int)-48):=⟨by omega,by omega⟩
      have hp2:=iterPos_of hit2
      by_cases h1:Lp.inR (m*10)
      ·by_cases h2:Lp.inR (m*10+((c:Int)-48))
       ·go_wp2_with (first|(go_at_call 130;refine (mul_in _ _ _ Hin.out (by decide) h1).mono ?_;rintro e w' ⟨rfl,rfl⟩)|(go_at_call 128;refine (add_in _ _ _ h1 hc3 h2).mono ?_;rintro e w' ⟨rfl,rfl⟩))
        go_roundw
        case rel=>exact ⟨pos+1,_,rfl,Hm2,κ h2,hit2,hb2,by omega⟩
        case measure=>rw [hp2,hpos0];omega
       ·have Hout:=κ (Hge2.out h2)
        go_wp2_with (first|(go_at_call 130;refine (mul_in _ _ _ Hin.out (by decide) h1).mono ?_;rintro e w' ⟨rfl,rfl⟩)|(go_at_call 128;refine (add_out _ _ _ h1 hc3 h2).mono ?_;rintro e w' ⟨rfl,rfl⟩))
        go_ret2
        exact readPost_out Hall.out Hout.out hb2
      ·have Hout:=κ (Hge2.out (fun h=>h1 (by have:=Hnn.out;unfold Lp.inR at *;omega)))
       go_wp2_with (first|(go_at_call 130;refine (mul_out _ _ _ Hin.out (by decide) h1).mono ?_;rintro e w' ⟨rfl,rfl⟩))
       go_ret2
       exact readPost_out Hall.out Hout.out hb2
     ·have hnx:∀ ty,(Instr.next (.pointer (some ⟨wo.heap.size,0,none⟩)) true ty).run Tryz.prog wr=_:=fun ty=>Lib.run_next_end_at wr wo.heap.size s pos ty hit hp
      have Hm2:Hid (m=Lp.dvf 0 s.data.toList):=by
       show _=_
       obtain rfl:pos=s.size:=by omega
       have:=Hm.out;rw [Lp.take_all] at this;exact this
      clear Hm
      go_wp2
      go_ret2
      exact readPost_yes Hall.out Hm2.out Hin.out hbw
theorem low_one (c:UInt8) (h:c.toNat<128):(if 0≤lowR (c.toNat:Int) then Lib.encodeRune (lowR (c.toNat:Int)) else [])=[Lp.lowB c]:=by
 have h0:0≤lowR (c.toNat:Int):=by unfold lowR;split<;>omega
 have h1:lowR (c.toNat:Int)≤127:=by unfold lowR;split<;>omega
 rw [if_pos h0]
 unfold Lib.encodeRune
 rw [Lib.encodeRuneZ_one h0 h1]
 simp only [List.map_cons,List.map_nil,List.cons.injEq,and_true]
 apply UInt8.toNat_inj.1
 unfold lowR Lp.lowB
 by_cases g:65≤c.toNat∧c.toNat≤90
 ·rw [if_pos (by omega),if_pos g]
  have e:((c.toNat:Int)+32).toNat=c.toNat+32:=by omega
  rw [e]
  simp [Nat.toUInt8,UInt8.toNat_add]
 ·rw [if_neg (by omega),if_neg g]
  simp [Nat.toUInt8]
theorem mapD_low:∀ (l:List UInt8),(∀ c∈l,c.toNat<128)→Lib.mapD lowR l=l.map Lp.lowB
 | [],_=>rfl
 | c::l,h=>by
   have hc:=h c (by simp)
   rw [Lib.mapD_step _ _ (by simp),Lib.decodeL_ascii c l hc]
   show (if 0≤lowR (c.toNat:Int) then Lib.encodeRune (lowR (c.toNat:Int)) else [])++Lib.mapD lowR ((c::l).drop 1)=_
   rw [low_one c hc]
   have:=mapD_low l (fun d hd=>h d (by simp [hd]))
   rw [show (c::l).drop 1=l from rfl,this];rfl
theorem takeWhile_mem {p:UInt8→Bool} {l:List UInt8} {c:UInt8} (h:c∈l.takeWhile p):p c=true:=by
 induction l with
 | nil=>cases h
 | cons d l ih =>
   rw [List.takeWhile_cons] at h
   cases hd:p d
   ·rw [hd] at h;cases h
   ·rw [hd,if_pos rfl] at h
    rcases List.mem_cons.1 h with rfl|h
    ·exact hd
    ·exact ih h
theorem takeWhile_take {p:UInt8→Bool} (l:List UInt8):l.take (l.takeWhile p).length=l.takeWhile p:=by
 induction l with
 | nil=>rfl
 | cons d l ih =>
   rw [List.takeWhile_cons]
   cases hd:p d
   ·rfl
   ·simp [ih]
theorem map_any (s:ByteArray) (w:World) (hs:s.size≤1000000000) (hl:∀ c∈s.data.toList,c.toNat<128) (hT:Tabs w) :
 Calls Tryz.prog 148 #[.func (.func 149) #[] #[],.string s] w fun e w'=>e=.returned (.string ⟨(s.data.toList.map Lp.lowB).toArray⟩)∧Below w.heap.size w w':=by
 rw [←mapD_low _ hl]
 refine Tryz.strings_Map_grows 149 #[] (enters_of Tryz.func149 (by kernel_rfl) rfl) lowR s w (by omega) ?_ ?_ hT
 ·intro W x hx _
  refine (small_any (x:Int) W (by omega) (by omega)).mono ?_
  rintro e w' ⟨rfl,rfl⟩
  exact ⟨rfl,Below.refl _ _⟩
 ·intro x hx
  unfold lowR;split<;>omega
theorem decode0 {s:ByteArray} {c:UInt8} {r:List UInt8} (hl:s.data.toList=c::r):∃ k,Lib.decodeGo s=((Utf8.decode s 0).1,k)∧(c.toNat<128→(Utf8.decode s 0).1=c.toNat)∧(128≤c.toNat→128≤(Utf8.decode s 0).1):=by
 have hz:0<s.size:=by
  have:=congrArg List.length hl
  rw [Array.length_toList] at this
  show 0<s.data.size
  rw [this];simp
 have hc:s[0]'hz=c:=by
  have:=Lp.get_data s 0 hz
  rw [hl] at this
  simpa using this.symm
 refine ⟨(Utf8.decode s 0).2, ?_, ?_, ?_⟩
 ·unfold Lib.decodeGo;rw [if_neg (by omega)]
 ·intro h;rw [decode_ascii s 0 hz (by rw [hc];exact h),hc]
 ·intro h;exact (decode_high s 0 hz (by rw [hc];exact h)).1
def NextPost (l:List UInt8) (w:World) (e:Ending) (w':World):Prop :=
 e=.returned (.tuple #[.agg #[.int .u8 (Lp.nextT l).1.k,.string ⟨(Lp.nextT l).1.s.toArray⟩,.int .i64 (Lp.nextT l).1.n],.int .i64 ((Lp.nextT l).2.1:Nat),.int .i64 (Lp.nextT l).2.2])∧Below w.heap.size w w'
theorem nextPost {l:List UInt8} {w w':World} {k n E:Int} {s:List UInt8} {m:Nat} (h:Lp.nextT l=(⟨k,s,n⟩,m,E)) (hb:Below w.heap.size w w') :
 NextPost l w (.returned (.tuple #[.agg #[.int .u8 k,.string ⟨s.toArray⟩,.int .i64 n],.int .i64 (m:Int),.int .i64 E])) w':=by
 unfold NextPost;rw [h];exact ⟨rfl,hb⟩
theorem letR_fact {c:UInt8} {r:Nat} (h1:c.toNat<128→r=c.toNat) (h2:128≤c.toNat→128≤r):letR (r:Int)=Lp.letB c∧digR (r:Int)=Lp.isDig c∧(((r:Int)==39)=decide (c=39)):=by
 by_cases h:c.toNat<128
 ·rw [h1 h]
  refine ⟨letR_byte c,digR_byte c, ?_⟩
  rw [Bool.eq_iff_iff,beq_iff_eq,decide_eq_true_iff, ←UInt8.toNat_inj]
  show _↔c.toNat=39
  omega
 ·have h3:=h2 (by omega)
  have e1:letR (c.toNat:Int)=false:=letR_no (by omega)
  have e2:digR (c.toNat:Int)=false:=digR_no (by omega)
  refine ⟨?_, ?_, ?_⟩
  ·rw [letR_no (by omega), ←letR_byte,e1]
  ·rw [digR_no (by omega), ←digR_byte,e2]
  ·rw [Bool.eq_iff_iff,beq_iff_eq,decide_eq_true_iff, ←UInt8.toNat_inj]
   show _↔c.toNat=39
   omega
theorem next_word (s:ByteArray) (c:UInt8) (r:List UInt8) (hl:s.data.toList=c::r) (w:World) (hs:s.size≤1000000000) (hc:Lp.letB c=true) (hT:Tabs w) :
 Calls Tryz.prog 109 #[.string s] w (NextPost (c::r) w):=by
 have HN:=κ (Lp.nextT_word r hc)
 have hb0:Below w.heap.size w (w.alloc (.cells #[.int .u8 0,.string ⟨#[]⟩,.int .i64 0] 183)):=(Below.refl _ _).alloc (Nat.le_refl _) _
 have hx0:=heap_alloc_new w (.cells #[.int .u8 0,.string ⟨#[]⟩,.int .i64 0] 183)
 have hT0:=tabs_below hT hb0
 obtain ⟨kd,hd,hd1,hd2⟩:=decode0 hl
 obtain ⟨f1,_,_⟩:=letR_fact hd1 hd2
 generalize (Utf8.decode s 0).1=rn at *
 have cD:=fun W h=>decode_any s W h
 rw [hd] at cD
 have CD:=κ cD
 have cL:=fun W=>lletter_any (rn:Int) W
 rw [f1,hc] at cL
 unfold BoolPost at cL
 have CL:=κ cL
 have cW:=fun W=>while_word s W
 have hle:(s.data.toList.takeWhile Lp.wordB).length≤s.size:=by
  have:=Lp.takeWhile_le Lp.wordB s.data.toList
  rw [Array.length_toList] at this;exact this
 have htk:(s.extract 0 (s.data.toList.takeWhile Lp.wordB).length).data.toList=s.data.toList.takeWhile Lp.wordB:=by
  rw [Lib.extract_data,List.drop_zero];simp only [Nat.sub_zero];exact takeWhile_take _
 have hsm:∀ d∈(s.extract 0 (s.data.toList.takeWhile Lp.wordB).length).data.toList,d.toNat<128:=by
  rw [htk];intro d hd;exact word_small (takeWhile_mem hd)
 have hxz:(s.extract 0 (s.data.toList.takeWhile Lp.wordB).length).size≤1000000000:=by
  have e:(s.extract 0 (s.data.toList.takeWhile Lp.wordB).length).size=(s.extract 0 (s.data.toList.takeWhile Lp.wordB).length).data.toList.length:=by rw [Array.length_toList];rfl
  rw [e,htk];omega
 have cM:=fun W hW=>map_any (s.extract 0 (s.data.toList.takeWhile Lp.wordB).length) W hxz hsm hW
 rw [htk,hl] at cM
 rw [hl] at cW hle
 have CW:=κ cW
 have CM:=κ cM
 clear hd hd1 hd2 f1 hc hl cD cL cW cM htk hsm hT hxz
 generalize ((c::r).takeWhile Lp.wordB).length=m at *
 go_enter Tryz.func109,Tryz.ntmps109
 go_wp2_with fail
 refine (CD.out _ hT0).mono ?_
 rintro e w1 ⟨rfl,b1⟩
 have x1:=box_below hx0 b1
 have k1:=hb0.trans (b1.mono hb0.size)
 have hT1:=tabs_below hT0 b1
 clear hx0 hb0 b1 hT0
 go_wp2_with fail
 refine (CL.out _).mono ?_
 rintro e w' ⟨rfl,rfl⟩
 go_wp2_with fail
 refine (CW.out _).mono ?_
 rintro e w2 ⟨rfl,b2⟩
 have x2:=box_below x1 b2
 have k2:=k1.trans (b2.mono k1.size)
 have hT2:=tabs_below hT1 b2
 clear x1 k1 b2 hT1
 go_wp2_with fail
 refine (CM.out _ hT2).mono ?_
 rintro e w3 ⟨rfl,b3⟩
 have x3:=box_below x2 b3
 have k3:=k2.trans (b3.mono k2.size)
 have c3:=β x3
 have f3:=fun j=>frozen_of_row w3 w.heap.size j _ _ x3
 clear x2 k2 b3 hT2
 go_wp2
 have hbE:=((k3.setCell (p:=⟨w.heap.size,0,none⟩) (Nat.le_refl _) (.int .u8 1)).setCell (p:=⟨w.heap.size,1,none⟩) (Nat.le_refl _) (.string ⟨(((c::r).takeWhile Lp.wordB).map Lp.lowB).toArray⟩)).setCell (p:=⟨w.heap.size,2,none⟩) (Nat.le_refl _) (.int .i64 0)
 exact bodyPost_ret (v:=.tuple #[.agg #[.int .u8 1,.string ⟨(((c::r).takeWhile Lp.wordB).map Lp.lowB).toArray⟩,.int .i64 0],.int .i64 (m:Int),.int .i64 0]) (by simp [results,Tryz.results109,go_sem,c3]) rfl (nextPost HN.out hbE)
theorem size_of {s:ByteArray} {l:List UInt8} (h:s.data.toList=l):s.size=l.length:=by rw [←h,Array.length_toList];rfl
theorem rightB_text (T:List UInt8):Lp.rightB 2 0 ⟨T.toArray⟩ false=(decide (T.length≤60)&&Lp.textOk T):=by
 unfold Lp.rightB
 simp [ByteArray.size]
theorem textT_no {t:List UInt8} {n:Nat} (h:Lp.textOk t=false):Lp.textT (some (t,n))=(⟨0,[],0⟩,0,4):=by simp only [Lp.textT,h];rfl
theorem textT_long {t:List UInt8} {n:Nat} (h:Lp.textOk t=true) (h2:¬t.length≤60):Lp.textT (some (t,n))=(⟨0,[],0⟩,0,2):=by simp only [Lp.textT,h,h2,if_true,if_false];rfl
theorem textT_good {t:List UInt8} {n:Nat} (h:Lp.textOk t=true) (h2:t.length≤60):Lp.textT (some (t,n))=(⟨3,t,0⟩,n+1,0):=by simp only [Lp.textT,h,h2,if_true]
theorem right_is (k i:Int) (s:ByteArray) (b r:Bool) (hr:Lp.rightB k i s b=r) (w:World) (hs:s.size≤9223372036854775807) (hT:Tabs w) :
 Calls Tryz.prog 153 #[.agg #[.int .u8 k,.int .i64 i,.string s,.bool b]] w fun e w'=>e=.returned (.bool r)∧Below w.heap.size w w':=by
 subst hr;exact right_any k i s b w hs hT
theorem next_num (s:ByteArray) (c:UInt8) (r:List UInt8) (hl:s.data.toList=c::r) (w:World) (_:s.size≤1000000000) (hc:Lp.letB c=false) (hi:Lp.isDig c=true) (hT:Tabs w) :
 Calls Tryz.prog 109 #[.string s] w (NextPost (c::r) w):=by
 have HN:=κ (Lp.nextT_num r hc hi)
 have hb0:Below w.heap.size w (w.alloc (.cells #[.int .u8 0,.string ⟨#[]⟩,.int .i64 0] 183)):=(Below.refl _ _).alloc (Nat.le_refl _) _
 have hx0:=heap_alloc_new w (.cells #[.int .u8 0,.string ⟨#[]⟩,.int .i64 0] 183)
 have hT0:=tabs_below hT hb0
 obtain ⟨kd,hd,hd1,hd2⟩:=decode0 hl
 obtain ⟨f1,f2,f3⟩:=letR_fact hd1 hd2
 generalize (Utf8.decode s 0).1=rn at *
 have cD:=fun W h=>decode_any s W h
 rw [hd] at cD
 have CD:=κ cD
 have cL:=fun W=>lletter_any (rn:Int) W
 rw [f1,hc] at cL
 unfold BoolPost at cL
 have CL:=κ cL
 have cI:=fun W=>ldigit_any (rn:Int) W
 rw [f2,hi] at cI
 unfold BoolPost at cI
 have CI:=κ cI
 clear hd hd1 hd2 f1 f2 cD cL cI
 have cW:=fun W=>while_dig s W
 have hle:(s.data.toList.takeWhile Lp.isDig).length≤s.size:=by
  have:=Lp.takeWhile_le Lp.isDig s.data.toList
  rw [Array.length_toList] at this;exact this
 have htk:(s.extract 0 (s.data.toList.takeWhile Lp.isDig).length).data.toList=s.data.toList.takeWhile Lp.isDig:=by
  rw [Lib.extract_data,List.drop_zero];simp only [Nat.sub_zero];exact takeWhile_take _
 have cR:=fun W=>read_any (s.extract 0 (s.data.toList.takeWhile Lp.isDig).length) W
 unfold ReadPost at cR
 rw [htk,hl] at cR
 rw [hl] at cW hle
 have CW:=κ cW
 have CR:=κ cR
 clear hc hi hl cW cR htk hT f3
 generalize ((c::r).takeWhile Lp.isDig).length=m at *
 go_enter Tryz.func109,Tryz.ntmps109
 go_wp2_with fail
 refine (CD.out _ hT0).mono ?_
 rintro e w1 ⟨rfl,b1⟩
 have x1:=box_below hx0 b1
 have k1:=hb0.trans (b1.mono hb0.size)
 have hT1:=tabs_below hT0 b1
 clear hx0 hb0 b1 hT0
 go_wp2_with fail
 refine (CL.out _).mono ?_
 rintro e w' ⟨rfl,rfl⟩
 go_wp2_with fail
 refine (CI.out _).mono ?_
 rintro e w' ⟨rfl,rfl⟩
 go_wp2_with fail
 refine (CW.out _).mono ?_
 rintro e w2 ⟨rfl,b2⟩
 have x2:=box_below x1 b2
 have k2:=k1.trans (b2.mono k1.size)
 clear x1 k1 b2 hT1
 go_wp2_with fail
 refine (CR.out _).mono ?_
 rintro e w3 ⟨rfl,b3⟩
 have x3:=box_below x2 b3
 have k3:=k2.trans (b3.mono k2.size)
 have c3:=β x3
 have f3:=fun j=>frozen_of_row w3 w.heap.size j _ _ x3
 clear x2 k2 b3
 go_wp2
 have hbE:=((k3.setCell (p:=⟨w.heap.size,0,none⟩) (Nat.le_refl _) (.int .u8 2)).setCell (p:=⟨w.heap.size,1,none⟩) (Nat.le_refl _) (.string ⟨#[]⟩)).setCell (p:=⟨w.heap.size,2,none⟩) (Nat.le_refl _) (.int .i64 (Lp.readV ((c::r).takeWhile Lp.isDig)))
 exact bodyPost_ret (v:=.tuple #[.agg #[.int .u8 2,.string ⟨#[]⟩,.int .i64 (Lp.readV ((c::r).takeWhile Lp.isDig))],.int .i64 (m:Int),.int .i64 (Lp.readE ((c::r).takeWhile Lp.isDig))]) (by simp [results,Tryz.results109,go_sem,c3]) rfl (nextPost HN.out hbE)
theorem next_nosign (s:ByteArray) (c:UInt8) (r:List UInt8) (hl:s.data.toList=c::r) (w:World) (_:s.size≤1000000000) (hc:Lp.letB c=false) (hi:Lp.isDig c=false) (h39:c≠39) (hg:Lp.signN (c::r)=0) (hT:Tabs w) :
 Calls Tryz.prog 109 #[.string s] w (NextPost (c::r) w):=by
 have HN:=κ ((Lp.nextT_sign r hc hi h39).trans (if_pos hg))
 have hb0:Below w.heap.size w (w.alloc (.cells #[.int .u8 0,.string ⟨#[]⟩,.int .i64 0] 183)):=(Below.refl _ _).alloc (Nat.le_refl _) _
 have hx0:=heap_alloc_new w (.cells #[.int .u8 0,.string ⟨#[]⟩,.int .i64 0] 183)
 have hT0:=tabs_below hT hb0
 obtain ⟨kd,hd,hd1,hd2⟩:=decode0 hl
 obtain ⟨f1,f2,f3⟩:=letR_fact hd1 hd2
 generalize (Utf8.decode s 0).1=rn at *
 have cD:=fun W h=>decode_any s W h
 rw [hd] at cD
 have CD:=κ cD
 have cL:=fun W=>lletter_any (rn:Int) W
 rw [f1,hc] at cL
 unfold BoolPost at cL
 have CL:=κ cL
 have cI:=fun W=>ldigit_any (rn:Int) W
 rw [f2,hi] at cI
 unfold BoolPost at cI
 have CI:=κ cI
 clear hd hd1 hd2 f1 f2 cD cL cI
 rw [decide_eq_false h39] at f3
 have hz:=size_of hl
 have hz1:1≤s.size:=by rw [hz];simp
 have hle:Lp.signN (c::r)≤s.size:=by rw [hz];exact Lp.signN_le _
 have cS:=fun W=>sign_any s W hz1
 rw [hl] at cS
 rw [hg] at cS
 have CS:=κ cS
 clear hc hi h39 hg hl cS hT hz hle
 go_enter Tryz.func109,Tryz.ntmps109
 go_wp2_with fail
 refine (CD.out _ hT0).mono ?_
 rintro e w1 ⟨rfl,b1⟩
 have x1:=box_below hx0 b1
 have k1:=hb0.trans (b1.mono hb0.size)
 have hT1:=tabs_below hT0 b1
 clear hx0 hb0 b1 hT0
 go_wp2_with fail
 refine (CL.out _).mono ?_
 rintro e w' ⟨rfl,rfl⟩
 go_wp2_with fail
 refine (CI.out _).mono ?_
 rintro e w' ⟨rfl,rfl⟩
 go_wp2_with fail
 refine (CS.out _).mono ?_
 rintro e w' ⟨rfl,rfl⟩
 have c3:=β x1
 have f4:=fun j=>frozen_of_row w1 w.heap.size j _ _ x1
 clear hT1
 go_wp2
 have hbE:=((k1.setCell (p:=⟨w.heap.size,0,none⟩) (Nat.le_refl _) (.int .u8 0)).setCell (p:=⟨w.heap.size,1,none⟩) (Nat.le_refl _) (.string ⟨#[]⟩)).setCell (p:=⟨w.heap.size,2,none⟩) (Nat.le_refl _) (.int .i64 0)
 exact bodyPost_ret (v:=.tuple #[.agg #[.int .u8 0,.string ⟨#[]⟩,.int .i64 0],.int .i64 (0),.int .i64 (4)]) (by simp [results,Tryz.results109,go_sem,c3]) rfl (nextPost HN.out hbE)
theorem next_sign (s:ByteArray) (c:UInt8) (r:List UInt8) (hl:s.data.toList=c::r) (w:World) (_:s.size≤1000000000) (hc:Lp.letB c=false) (hi:Lp.isDig c=false) (h39:c≠39) (hg:Lp.signN (c::r)≠0) (hT:Tabs w) :
 Calls Tryz.prog 109 #[.string s] w (NextPost (c::r) w):=by
 have HN:=κ ((Lp.nextT_sign r hc hi h39).trans (if_neg hg))
 have hb0:Below w.heap.size w (w.alloc (.cells #[.int .u8 0,.string ⟨#[]⟩,.int .i64 0] 183)):=(Below.refl _ _).alloc (Nat.le_refl _) _
 have hx0:=heap_alloc_new w (.cells #[.int .u8 0,.string ⟨#[]⟩,.int .i64 0] 183)
 have hT0:=tabs_below hT hb0
 obtain ⟨kd,hd,hd1,hd2⟩:=decode0 hl
 obtain ⟨f1,f2,f3⟩:=letR_fact hd1 hd2
 generalize (Utf8.decode s 0).1=rn at *
 have cD:=fun W h=>decode_any s W h
 rw [hd] at cD
 have CD:=κ cD
 have cL:=fun W=>lletter_any (rn:Int) W
 rw [f1,hc] at cL
 unfold BoolPost at cL
 have CL:=κ cL
 have cI:=fun W=>ldigit_any (rn:Int) W
 rw [f2,hi] at cI
 unfold BoolPost at cI
 have CI:=κ cI
 clear hd hd1 hd2 f1 f2 cD cL cI
 rw [decide_eq_false h39] at f3
 have hz:=size_of hl
 have hz1:1≤s.size:=by rw [hz];simp
 have hle:Lp.signN (c::r)≤s.size:=by rw [hz];exact Lp.signN_le _
 have cS:=fun W=>sign_any s W hz1
 rw [hl] at cS
 have CS:=κ cS
 have HX:Hid (s.extract 0 (Lp.signN (c::r))=⟨((c::r).take (Lp.signN (c::r))).toArray⟩):=by
  show _=_
  apply ByteArray.ext
  apply Array.ext'
  rw [Lib.extract_data,List.drop_zero,Nat.sub_zero,hl]
 have hge:(((Lp.signN (c::r):Nat):Int)==0)=false:=by rw [beq_eq_false_iff_ne];omega
 clear hc hi h39 hg hl cS hT hz
 generalize Lp.signN (c::r)=m at *
 go_enter Tryz.func109,Tryz.ntmps109
 go_wp2_with fail
 refine (CD.out _ hT0).mono ?_
 rintro e w1 ⟨rfl,b1⟩
 have x1:=box_below hx0 b1
 have k1:=hb0.trans (b1.mono hb0.size)
 have hT1:=tabs_below hT0 b1
 clear hx0 hb0 b1 hT0
 go_wp2_with fail
 refine (CL.out _).mono ?_
 rintro e w' ⟨rfl,rfl⟩
 go_wp2_with fail
 refine (CI.out _).mono ?_
 rintro e w' ⟨rfl,rfl⟩
 go_wp2_with fail
 refine (CS.out _).mono ?_
 rintro e w' ⟨rfl,rfl⟩
 have c3:=β x1
 have f4:=fun j=>frozen_of_row w1 w.heap.size j _ _ x1
 clear hT1
 go_wp2
 rw [HX.out]
 have hbE:=((k1.setCell (p:=⟨w.heap.size,0,none⟩) (Nat.le_refl _) (.int .u8 4)).setCell (p:=⟨w.heap.size,1,none⟩) (Nat.le_refl _) (.string ⟨((c::r).take m).toArray⟩)).setCell (p:=⟨w.heap.size,2,none⟩) (Nat.le_refl _) (.int .i64 0)
 exact bodyPost_ret (v:=.tuple #[.agg #[.int .u8 4,.string ⟨((c::r).take m).toArray⟩,.int .i64 0],.int .i64 (m:Int),.int .i64 (0)]) (by simp [results,Tryz.results109,go_sem,c3]) rfl (nextPost HN.out hbE)
theorem next_text_none (s:ByteArray) (r:List UInt8) (hl:s.data.toList=39::r) (w:World) (hs:s.size≤1000000000) (ht:Lp.txt r=none) (hT:Tabs w) :
 Calls Tryz.prog 109 #[.string s] w (NextPost (39::r) w):=by
 have HN:Hid (Lp.nextT (39::r)=(⟨0,[],0⟩,0,4)):=by show _=_;rw [Lp.nextT_text,ht];rfl
 have hc:Lp.letB 39=false:=rfl
 have hi:Lp.isDig 39=false:=rfl
 have hb0:Below w.heap.size w (w.alloc (.cells #[.int .u8 0,.string ⟨#[]⟩,.int .i64 0] 183)):=(Below.refl _ _).alloc (Nat.le_refl _) _
 have hx0:=heap_alloc_new w (.cells #[.int .u8 0,.string ⟨#[]⟩,.int .i64 0] 183)
 have hT0:=tabs_below hT hb0
 obtain ⟨kd,hd,hd1,hd2⟩:=decode0 hl
 obtain ⟨f1,f2,f3⟩:=letR_fact hd1 hd2
 generalize (Utf8.decode s 0).1=rn at *
 have cD:=fun W h=>decode_any s W h
 rw [hd] at cD
 have CD:=κ cD
 have cL:=fun W=>lletter_any (rn:Int) W
 rw [f1,hc] at cL
 unfold BoolPost at cL
 have CL:=κ cL
 have cI:=fun W=>ldigit_any (rn:Int) W
 rw [f2,hi] at cI
 unfold BoolPost at cI
 have CI:=κ cI
 clear hd hd1 hd2 f1 f2 cD cL cI
 rw [decide_eq_true rfl] at f3
 have hz:=size_of hl
 have hz1:1≤s.size:=by rw [hz];simp
 have cS:=fun W h=>text_any s W hs hz1 h
 rw [hl] at cS
 unfold TextPost at cS
 rw [show (39::r).drop 1=r from rfl,ht] at cS
 have CS:Hid (∀ W,Tabs W→Calls Tryz.prog 151 #[.string s] W fun e w'=>e=.returned (.tuple #[.string ⟨#[]⟩,.int .i64 0])∧Below W.heap.size W w'):=κ cS
 clear hc hi ht hl cS hT hz hs
 go_enter Tryz.func109,Tryz.ntmps109
 go_wp2_with fail
 refine (CD.out _ hT0).mono ?_
 rintro e w1 ⟨rfl,b1⟩
 have x1:=box_below hx0 b1
 have k1:=hb0.trans (b1.mono hb0.size)
 have hT1:=tabs_below hT0 b1
 clear hx0 hb0 b1 hT0
 go_wp2_with fail
 refine (CL.out _).mono ?_
 rintro e w' ⟨rfl,rfl⟩
 go_wp2_with fail
 refine (CI.out _).mono ?_
 rintro e w' ⟨rfl,rfl⟩
 go_wp2_with fail
 refine (CS.out _ hT1).mono ?_
 rintro e w2 ⟨rfl,b2⟩
 have x2:=box_alloc (box_below x1 b2) (.cells #[.int .u8 2,.int .i64 0,.string ⟨#[]⟩,.bool false] 31)
 have k2:=(k1.trans (b2.mono k1.size)).alloc (Nat.le_trans k1.size b2.size) (.cells #[.int .u8 2,.int .i64 0,.string ⟨#[]⟩,.bool false] 31)
 have v2:=heap_alloc_new w2 (.cells #[.int .u8 2,.int .i64 0,.string ⟨#[]⟩,.bool false] 31)
 have hT2:=tabs_alloc (tabs_below hT1 b2) (.cells #[.int .u8 2,.int .i64 0,.string ⟨#[]⟩,.bool false] 31)
 clear x1 k1 b2 hT1
 have c9:=β x2
 have f9:=fun j=>frozen_of_row _ w.heap.size j _ _ x2
 clear hT2 v2
 go_wp2
 have hbE:=((k2.setCell (p:=⟨w.heap.size,0,none⟩) (Nat.le_refl _) (.int .u8 0)).setCell (p:=⟨w.heap.size,1,none⟩) (Nat.le_refl _) (.string ⟨#[]⟩)).setCell (p:=⟨w.heap.size,2,none⟩) (Nat.le_refl _) (.int .i64 0)
 exact bodyPost_ret (v:=.tuple #[.agg #[.int .u8 0,.string ⟨#[]⟩,.int .i64 0],.int .i64 (0),.int .i64 (4)]) (by simp [results,Tryz.results109,go_sem,c9]) rfl (nextPost HN.out hbE)
theorem next_text_bad (s:ByteArray) (r:List UInt8) (hl:s.data.toList=39::r) (w:World) (hs:s.size≤1000000000) (t:List UInt8) (n:Nat) (ht:Lp.txt r=some (t,n)) (hv:Lib.validD t=false) (hT:Tabs w) :
 Calls Tryz.prog 109 #[.string s] w (NextPost (39::r) w):=by
 have HN:Hid (Lp.nextT (39::r)=(⟨0,[],0⟩,0,4)):=by show _=_;rw [Lp.nextT_text,ht];exact textT_no (by unfold Lp.textOk;rw [hv];rfl)
 have hc:Lp.letB 39=false:=rfl
 have hi:Lp.isDig 39=false:=rfl
 have hb0:Below w.heap.size w (w.alloc (.cells #[.int .u8 0,.string ⟨#[]⟩,.int .i64 0] 183)):=(Below.refl _ _).alloc (Nat.le_refl _) _
 have hx0:=heap_alloc_new w (.cells #[.int .u8 0,.string ⟨#[]⟩,.int .i64 0] 183)
 have hT0:=tabs_below hT hb0
 obtain ⟨kd,hd,hd1,hd2⟩:=decode0 hl
 obtain ⟨f1,f2,f3⟩:=letR_fact hd1 hd2
 generalize (Utf8.decode s 0).1=rn at *
 have cD:=fun W h=>decode_any s W h
 rw [hd] at cD
 have CD:=κ cD
 have cL:=fun W=>lletter_any (rn:Int) W
 rw [f1,hc] at cL
 unfold BoolPost at cL
 have CL:=κ cL
 have cI:=fun W=>ldigit_any (rn:Int) W
 rw [f2,hi] at cI
 unfold BoolPost at cI
 have CI:=κ cI
 clear hd hd1 hd2 f1 f2 cD cL cI
 rw [decide_eq_true rfl] at f3
 have hz:=size_of hl
 have hz1:1≤s.size:=by rw [hz];simp
 have cS:=fun W h=>text_any s W hs hz1 h
 rw [hl] at cS
 unfold TextPost at cS
 rw [show (39::r).drop 1=r from rfl,ht] at cS
 have CS:Hid (∀ W,Tabs W→Calls Tryz.prog 151 #[.string s] W fun e w'=>e=.returned (.tuple #[.string ⟨t.toArray⟩,.int .i64 ((n:Int)+1)])∧Below W.heap.size W w'):=κ cS
 have hne:(((n:Int)+1)==0)=false:=by rw [beq_eq_false_iff_ne];omega
 have htn:=Lp.txt_n _ _ _ _ (Nat.le_refl _) ht
 simp only [List.length_cons] at hz
 have htl:(⟨t.toArray⟩:ByteArray).size≤9223372036854775807:=by show t.toArray.size≤_;simp;omega
 have hn0:n≤1000000000:=by omega
 have cV:=fun W h=>valid_any ⟨t.toArray⟩ W htl h
 rw [show (⟨t.toArray⟩:ByteArray).data.toList=t from rfl,hv] at cV
 have CV:=κ cV
 clear hc hi ht hl cS hT hz hs hv cV htn
 go_enter Tryz.func109,Tryz.ntmps109
 go_wp2_with fail
 refine (CD.out _ hT0).mono ?_
 rintro e w1 ⟨rfl,b1⟩
 have x1:=box_below hx0 b1
 have k1:=hb0.trans (b1.mono hb0.size)
 have hT1:=tabs_below hT0 b1
 clear hx0 hb0 b1 hT0
 go_wp2_with fail
 refine (CL.out _).mono ?_
 rintro e w' ⟨rfl,rfl⟩
 go_wp2_with fail
 refine (CI.out _).mono ?_
 rintro e w' ⟨rfl,rfl⟩
 go_wp2_with fail
 refine (CS.out _ hT1).mono ?_
 rintro e w2 ⟨rfl,b2⟩
 have x2:=box_alloc (box_below x1 b2) (.cells #[.int .u8 2,.int .i64 0,.string ⟨t.toArray⟩,.bool false] 31)
 have k2:=(k1.trans (b2.mono k1.size)).alloc (Nat.le_trans k1.size b2.size) (.cells #[.int .u8 2,.int .i64 0,.string ⟨t.toArray⟩,.bool false] 31)
 have v2:=heap_alloc_new w2 (.cells #[.int .u8 2,.int .i64 0,.string ⟨t.toArray⟩,.bool false] 31)
 have hT2:=tabs_alloc (tabs_below hT1 b2) (.cells #[.int .u8 2,.int .i64 0,.string ⟨t.toArray⟩,.bool false] 31)
 clear x1 k1 b2 hT1
 go_wp2_with fail
 refine (CV.out _ hT2).mono ?_
 rintro e w3 ⟨rfl,b3⟩
 have x3:=box_below x2 b3
 have k3:=k2.trans (b3.mono k2.size)
 have v3:=box_below v2 b3
 have hT3:=tabs_below hT2 b3
 clear x2 k2 b3 hT2 v2
 have c9:=β x3
 have f9:=fun j=>frozen_of_row _ w.heap.size j _ _ x3
 go_wp2
 have hbE:=((k3.setCell (p:=⟨w.heap.size,0,none⟩) (Nat.le_refl _) (.int .u8 0)).setCell (p:=⟨w.heap.size,1,none⟩) (Nat.le_refl _) (.string ⟨#[]⟩)).setCell (p:=⟨w.heap.size,2,none⟩) (Nat.le_refl _) (.int .i64 0)
 exact bodyPost_ret (v:=.tuple #[.agg #[.int .u8 0,.string ⟨#[]⟩,.int .i64 0],.int .i64 (0),.int .i64 (4)]) (by simp [results,Tryz.results109,go_sem,c9]) rfl (nextPost HN.out hbE)
theorem next_text_zero (s:ByteArray) (r:List UInt8) (hl:s.data.toList=39::r) (w:World) (hs:s.size≤1000000000) (t:List UInt8) (n:Nat) (ht:Lp.txt r=some (t,n)) (hv:Lib.validD t=true) (hz0:t.contains 0=true) (hT:Tabs w) :
 Calls Tryz.prog 109 #[.string s] w (NextPost (39::r) w):=by
 have HN:Hid (Lp.nextT (39::r)=(⟨0,[],0⟩,0,4)):=by show _=_;rw [Lp.nextT_text,ht];exact textT_no (by unfold Lp.textOk;rw [hv,hz0];rfl)
 have hc:Lp.letB 39=false:=rfl
 have hi:Lp.isDig 39=false:=rfl
 have hb0:Below w.heap.size w (w.alloc (.cells #[.int .u8 0,.string ⟨#[]⟩,.int .i64 0] 183)):=(Below.refl _ _).alloc (Nat.le_refl _) _
 have hx0:=heap_alloc_new w (.cells #[.int .u8 0,.string ⟨#[]⟩,.int .i64 0] 183)
 have hT0:=tabs_below hT hb0
 obtain ⟨kd,hd,hd1,hd2⟩:=decode0 hl
 obtain ⟨f1,f2,f3⟩:=letR_fact hd1 hd2
 generalize (Utf8.decode s 0).1=rn at *
 have cD:=fun W h=>decode_any s W h
 rw [hd] at cD
 have CD:=κ cD
 have cL:=fun W=>lletter_any (rn:Int) W
 rw [f1,hc] at cL
 unfold BoolPost at cL
 have CL:=κ cL
 have cI:=fun W=>ldigit_any (rn:Int) W
 rw [f2,hi] at cI
 unfold BoolPost at cI
 have CI:=κ cI
 clear hd hd1 hd2 f1 f2 cD cL cI
 rw [decide_eq_true rfl] at f3
 have hz:=size_of hl
 have hz1:1≤s.size:=by rw [hz];simp
 have cS:=fun W h=>text_any s W hs hz1 h
 rw [hl] at cS
 unfold TextPost at cS
 rw [show (39::r).drop 1=r from rfl,ht] at cS
 have CS:Hid (∀ W,Tabs W→Calls Tryz.prog 151 #[.string s] W fun e w'=>e=.returned (.tuple #[.string ⟨t.toArray⟩,.int .i64 ((n:Int)+1)])∧Below W.heap.size W w'):=κ cS
 have hne:(((n:Int)+1)==0)=false:=by rw [beq_eq_false_iff_ne];omega
 have htn:=Lp.txt_n _ _ _ _ (Nat.le_refl _) ht
 simp only [List.length_cons] at hz
 have htl:(⟨t.toArray⟩:ByteArray).size≤9223372036854775807:=by show t.toArray.size≤_;simp;omega
 have hn0:n≤1000000000:=by omega
 have cV:=fun W h=>valid_any ⟨t.toArray⟩ W htl h
 rw [show (⟨t.toArray⟩:ByteArray).data.toList=t from rfl,hv] at cV
 have CV:=κ cV
 have CX:=κ (fun W=>idx_yes ⟨t.toArray⟩ W hz0)
 clear hc hi ht hl cS hT hz hs hv cV htn hz0
 go_enter Tryz.func109,Tryz.ntmps109
 go_wp2_with fail
 refine (CD.out _ hT0).mono ?_
 rintro e w1 ⟨rfl,b1⟩
 have x1:=box_below hx0 b1
 have k1:=hb0.trans (b1.mono hb0.size)
 have hT1:=tabs_below hT0 b1
 clear hx0 hb0 b1 hT0
 go_wp2_with fail
 refine (CL.out _).mono ?_
 rintro e w' ⟨rfl,rfl⟩
 go_wp2_with fail
 refine (CI.out _).mono ?_
 rintro e w' ⟨rfl,rfl⟩
 go_wp2_with fail
 refine (CS.out _ hT1).mono ?_
 rintro e w2 ⟨rfl,b2⟩
 have x2:=box_alloc (box_below x1 b2) (.cells #[.int .u8 2,.int .i64 0,.string ⟨t.toArray⟩,.bool false] 31)
 have k2:=(k1.trans (b2.mono k1.size)).alloc (Nat.le_trans k1.size b2.size) (.cells #[.int .u8 2,.int .i64 0,.string ⟨t.toArray⟩,.bool false] 31)
 have v2:=heap_alloc_new w2 (.cells #[.int .u8 2,.int .i64 0,.string ⟨t.toArray⟩,.bool false] 31)
 have hT2:=tabs_alloc (tabs_below hT1 b2) (.cells #[.int .u8 2,.int .i64 0,.string ⟨t.toArray⟩,.bool false] 31)
 clear x1 k1 b2 hT1
 go_wp2_with fail
 refine (CV.out _ hT2).mono ?_
 rintro e w3 ⟨rfl,b3⟩
 have x3:=box_below x2 b3
 have k3:=k2.trans (b3.mono k2.size)
 have v3:=box_below v2 b3
 have hT3:=tabs_below hT2 b3
 clear x2 k2 b3 hT2 v2
 go_wp2_with fail
 refine (CX.out _).mono ?_
 rintro e w' ⟨⟨n9,rfl⟩,rfl⟩
 have c9:=β x3
 have f9:=fun j=>frozen_of_row _ w.heap.size j _ _ x3
 go_wp2
 have hbE:=((k3.setCell (p:=⟨w.heap.size,0,none⟩) (Nat.le_refl _) (.int .u8 0)).setCell (p:=⟨w.heap.size,1,none⟩) (Nat.le_refl _) (.string ⟨#[]⟩)).setCell (p:=⟨w.heap.size,2,none⟩) (Nat.le_refl _) (.int .i64 0)
 exact bodyPost_ret (v:=.tuple #[.agg #[.int .u8 0,.string ⟨#[]⟩,.int .i64 0],.int .i64 (0),.int .i64 (4)]) (by simp [results,Tryz.results109,go_sem,c9]) rfl (nextPost HN.out hbE)
theorem next_text_long (s:ByteArray) (r:List UInt8) (hl:s.data.toList=39::r) (w:World) (hs:s.size≤1000000000) (t:List UInt8) (n:Nat) (ht:Lp.txt r=some (t,n)) (hv:Lib.validD t=true) (hz0:t.contains 0=false) (h60:¬t.length≤60) (hT:Tabs w) :
 Calls Tryz.prog 109 #[.string s] w (NextPost (39::r) w):=by
 have HN:Hid (Lp.nextT (39::r)=(⟨0,[],0⟩,0,2)):=by show _=_;rw [Lp.nextT_text,ht];exact textT_long (by unfold Lp.textOk;rw [hv,hz0];rfl) h60
 have hc:Lp.letB 39=false:=rfl
 have hi:Lp.isDig 39=false:=rfl
 have hb0:Below w.heap.size w (w.alloc (.cells #[.int .u8 0,.string ⟨#[]⟩,.int .i64 0] 183)):=(Below.refl _ _).alloc (Nat.le_refl _) _
 have hx0:=heap_alloc_new w (.cells #[.int .u8 0,.string ⟨#[]⟩,.int .i64 0] 183)
 have hT0:=tabs_below hT hb0
 obtain ⟨kd,hd,hd1,hd2⟩:=decode0 hl
 obtain ⟨f1,f2,f3⟩:=letR_fact hd1 hd2
 generalize (Utf8.decode s 0).1=rn at *
 have cD:=fun W h=>decode_any s W h
 rw [hd] at cD
 have CD:=κ cD
 have cL:=fun W=>lletter_any (rn:Int) W
 rw [f1,hc] at cL
 unfold BoolPost at cL
 have CL:=κ cL
 have cI:=fun W=>ldigit_any (rn:Int) W
 rw [f2,hi] at cI
 unfold BoolPost at cI
 have CI:=κ cI
 clear hd hd1 hd2 f1 f2 cD cL cI
 rw [decide_eq_true rfl] at f3
 have hz:=size_of hl
 have hz1:1≤s.size:=by rw [hz];simp
 have cS:=fun W h=>text_any s W hs hz1 h
 rw [hl] at cS
 unfold TextPost at cS
 rw [show (39::r).drop 1=r from rfl,ht] at cS
 have CS:Hid (∀ W,Tabs W→Calls Tryz.prog 151 #[.string s] W fun e w'=>e=.returned (.tuple #[.string ⟨t.toArray⟩,.int .i64 ((n:Int)+1)])∧Below W.heap.size W w'):=κ cS
 have hne:(((n:Int)+1)==0)=false:=by rw [beq_eq_false_iff_ne];omega
 have htn:=Lp.txt_n _ _ _ _ (Nat.le_refl _) ht
 simp only [List.length_cons] at hz
 have htl:(⟨t.toArray⟩:ByteArray).size≤9223372036854775807:=by show t.toArray.size≤_;simp;omega
 have hn0:n≤1000000000:=by omega
 have cV:=fun W h=>valid_any ⟨t.toArray⟩ W htl h
 rw [show (⟨t.toArray⟩:ByteArray).data.toList=t from rfl,hv] at cV
 have CV:=κ cV
 have CX:=κ (fun W=>idx_no ⟨t.toArray⟩ W hz0)
 have hR:Lp.rightB 2 0 ⟨t.toArray⟩ false=false:=by rw [rightB_text,show Lp.textOk t=true by unfold Lp.textOk;rw [hv,hz0];rfl,Bool.and_true];exact decide_eq_false h60
 have CR:=κ (fun W h=>right_is 2 0 ⟨t.toArray⟩ false _ hR W htl h)
 clear hc hi ht hl cS hT hz hs hv cV htn hz0 h60 hR
 go_enter Tryz.func109,Tryz.ntmps109
 go_wp2_with fail
 refine (CD.out _ hT0).mono ?_
 rintro e w1 ⟨rfl,b1⟩
 have x1:=box_below hx0 b1
 have k1:=hb0.trans (b1.mono hb0.size)
 have hT1:=tabs_below hT0 b1
 clear hx0 hb0 b1 hT0
 go_wp2_with fail
 refine (CL.out _).mono ?_
 rintro e w' ⟨rfl,rfl⟩
 go_wp2_with fail
 refine (CI.out _).mono ?_
 rintro e w' ⟨rfl,rfl⟩
 go_wp2_with fail
 refine (CS.out _ hT1).mono ?_
 rintro e w2 ⟨rfl,b2⟩
 have x2:=box_alloc (box_below x1 b2) (.cells #[.int .u8 2,.int .i64 0,.string ⟨t.toArray⟩,.bool false] 31)
 have k2:=(k1.trans (b2.mono k1.size)).alloc (Nat.le_trans k1.size b2.size) (.cells #[.int .u8 2,.int .i64 0,.string ⟨t.toArray⟩,.bool false] 31)
 have v2:=heap_alloc_new w2 (.cells #[.int .u8 2,.int .i64 0,.string ⟨t.toArray⟩,.bool false] 31)
 have hT2:=tabs_alloc (tabs_below hT1 b2) (.cells #[.int .u8 2,.int .i64 0,.string ⟨t.toArray⟩,.bool false] 31)
 clear x1 k1 b2 hT1
 go_wp2_with fail
 refine (CV.out _ hT2).mono ?_
 rintro e w3 ⟨rfl,b3⟩
 have x3:=box_below x2 b3
 have k3:=k2.trans (b3.mono k2.size)
 have v3:=box_below v2 b3
 have hT3:=tabs_below hT2 b3
 clear x2 k2 b3 hT2 v2
 have cv3:=β v3
 go_wp2_with fail
 refine (CX.out _).mono ?_
 rintro e w' ⟨rfl,rfl⟩
 go_wp2_with fail
 refine (CR.out _ hT3).mono ?_
 rintro e w4 ⟨rfl,b4⟩
 have x4:=box_below x3 b4
 have k4:=k3.trans (b4.mono k3.size)
 clear x3 k3 b4 hT3 v3 cv3
 have c9:=β x4
 have f9:=fun j=>frozen_of_row _ w.heap.size j _ _ x4
 go_wp2
 have hbE:=((k4.setCell (p:=⟨w.heap.size,0,none⟩) (Nat.le_refl _) (.int .u8 0)).setCell (p:=⟨w.heap.size,1,none⟩) (Nat.le_refl _) (.string ⟨#[]⟩)).setCell (p:=⟨w.heap.size,2,none⟩) (Nat.le_refl _) (.int .i64 0)
 exact bodyPost_ret (v:=.tuple #[.agg #[.int .u8 0,.string ⟨#[]⟩,.int .i64 0],.int .i64 (0),.int .i64 (2)]) (by simp [results,Tryz.results109,go_sem,c9]) rfl (nextPost HN.out hbE)
theorem next_text_good (s:ByteArray) (r:List UInt8) (hl:s.data.toList=39::r) (w:World) (hs:s.size≤1000000000) (t:List UInt8) (n:Nat) (ht:Lp.txt r=some (t,n)) (hv:Lib.validD t=true) (hz0:t.contains 0=false) (h60:t.length≤60) (hT:Tabs w) :
 Calls Tryz.prog 109 #[.string s] w (NextPost (39::r) w):=by
 have HN:Hid (Lp.nextT (39::r)=(⟨3,t,0⟩,n+1,0)):=by show _=_;rw [Lp.nextT_text,ht];exact textT_good (by unfold Lp.textOk;rw [hv,hz0];rfl) h60
 have hc:Lp.letB 39=false:=rfl
 have hi:Lp.isDig 39=false:=rfl
 have hb0:Below w.heap.size w (w.alloc (.cells #[.int .u8 0,.string ⟨#[]⟩,.int .i64 0] 183)):=(Below.refl _ _).alloc (Nat.le_refl _) _
 have hx0:=heap_alloc_new w (.cells #[.int .u8 0,.string ⟨#[]⟩,.int .i64 0] 183)
 have hT0:=tabs_below hT hb0
 obtain ⟨kd,hd,hd1,hd2⟩:=decode0 hl
 obtain ⟨f1,f2,f3⟩:=letR_fact hd1 hd2
 generalize (Utf8.decode s 0).1=rn at *
 have cD:=fun W h=>decode_any s W h
 rw [hd] at cD
 have CD:=κ cD
 have cL:=fun W=>lletter_any (rn:Int) W
 rw [f1,hc] at cL
 unfold BoolPost at cL
 have CL:=κ cL
 have cI:=fun W=>ldigit_any (rn:Int) W
 rw [f2,hi] at cI
 unfold BoolPost at cI
 have CI:=κ cI
 clear hd hd1 hd2 f1 f2 cD cL cI
 rw [decide_eq_true rfl] at f3
 have hz:=size_of hl
 have hz1:1≤s.size:=by rw [hz];simp
 have cS:=fun W h=>text_any s W hs hz1 h
 rw [hl] at cS
 unfold TextPost at cS
 rw [show (39::r).drop 1=r from rfl,ht] at cS
 have CS:Hid (∀ W,Tabs W→Calls Tryz.prog 151 #[.string s] W fun e w'=>e=.returned (.tuple #[.string ⟨t.toArray⟩,.int .i64 ((n:Int)+1)])∧Below W.heap.size W w'):=κ cS
 have hne:(((n:Int)+1)==0)=false:=by rw [beq_eq_false_iff_ne];omega
 have htn:=Lp.txt_n _ _ _ _ (Nat.le_refl _) ht
 simp only [List.length_cons] at hz
 have htl:(⟨t.toArray⟩:ByteArray).size≤9223372036854775807:=by show t.toArray.size≤_;simp;omega
 have hn0:n≤1000000000:=by omega
 have cV:=fun W h=>valid_any ⟨t.toArray⟩ W htl h
 rw [show (⟨t.toArray⟩:ByteArray).data.toList=t from rfl,hv] at cV
 have CV:=κ cV
 have CX:=κ (fun W=>idx_no ⟨t.toArray⟩ W hz0)
 have hR:Lp.rightB 2 0 ⟨t.toArray⟩ false=true:=by rw [rightB_text,show Lp.textOk t=true by unfold Lp.textOk;rw [hv,hz0];rfl,Bool.and_true];exact decide_eq_true h60
 have CR:=κ (fun W h=>right_is 2 0 ⟨t.toArray⟩ false _ hR W htl h)
 clear hc hi ht hl cS hT hz hs hv cV htn hz0 h60 hR
 go_enter Tryz.func109,Tryz.ntmps109
 go_wp2_with fail
 refine (CD.out _ hT0).mono ?_
 rintro e w1 ⟨rfl,b1⟩
 have x1:=box_below hx0 b1
 have k1:=hb0.trans (b1.mono hb0.size)
 have hT1:=tabs_below hT0 b1
 clear hx0 hb0 b1 hT0
 go_wp2_with fail
 refine (CL.out _).mono ?_
 rintro e w' ⟨rfl,rfl⟩
 go_wp2_with fail
 refine (CI.out _).mono ?_
 rintro e w' ⟨rfl,rfl⟩
 go_wp2_with fail
 refine (CS.out _ hT1).mono ?_
 rintro e w2 ⟨rfl,b2⟩
 have x2:=box_alloc (box_below x1 b2) (.cells #[.int .u8 2,.int .i64 0,.string ⟨t.toArray⟩,.bool false] 31)
 have k2:=(k1.trans (b2.mono k1.size)).alloc (Nat.le_trans k1.size b2.size) (.cells #[.int .u8 2,.int .i64 0,.string ⟨t.toArray⟩,.bool false] 31)
 have v2:=heap_alloc_new w2 (.cells #[.int .u8 2,.int .i64 0,.string ⟨t.toArray⟩,.bool false] 31)
 have hT2:=tabs_alloc (tabs_below hT1 b2) (.cells #[.int .u8 2,.int .i64 0,.string ⟨t.toArray⟩,.bool false] 31)
 clear x1 k1 b2 hT1
 go_wp2_with fail
 refine (CV.out _ hT2).mono ?_
 rintro e w3 ⟨rfl,b3⟩
 have x3:=box_below x2 b3
 have k3:=k2.trans (b3.mono k2.size)
 have v3:=box_below v2 b3
 have hT3:=tabs_below hT2 b3
 clear x2 k2 b3 hT2 v2
 have cv3:=β v3
 go_wp2_with fail
 refine (CX.out _).mono ?_
 rintro e w' ⟨rfl,rfl⟩
 go_wp2_with fail
 refine (CR.out _ hT3).mono ?_
 rintro e w4 ⟨rfl,b4⟩
 have x4:=box_below x3 b4
 have k4:=k3.trans (b4.mono k3.size)
 clear x3 k3 b4 hT3 v3 cv3
 have c9:=β x4
 have f9:=fun j=>frozen_of_row _ w.heap.size j _ _ x4
 go_wp2
 have hbE:=((k4.setCell (p:=⟨w.heap.size,0,none⟩) (Nat.le_refl _) (.int .u8 3)).setCell (p:=⟨w.heap.size,1,none⟩) (Nat.le_refl _) (.string ⟨t.toArray⟩)).setCell (p:=⟨w.heap.size,2,none⟩) (Nat.le_refl _) (.int .i64 0)
 exact bodyPost_ret (v:=.tuple #[.agg #[.int .u8 3,.string ⟨t.toArray⟩,.int .i64 0],.int .i64 ((n+1:Nat)),.int .i64 (0)]) (by simp [results,Tryz.results109,go_sem,c9]) rfl (nextPost HN.out hbE)
theorem next_any (s:ByteArray) (c:UInt8) (r:List UInt8) (hl:s.data.toList=c::r) (w:World) (hs:s.size≤1000000000) (hT:Tabs w) :
 Calls Tryz.prog 109 #[.string s] w (NextPost (c::r) w):=by
 cases hc:Lp.letB c
 ·cases hi:Lp.isDig c
  ·by_cases h39:c=39
   ·subst h39
    cases ht:Lp.txt r with
    | none=>exact next_text_none s r hl w hs ht hT
    | some p =>
      obtain ⟨t,n⟩:=p
      cases hv:Lib.validD t
      ·exact next_text_bad s r hl w hs t n ht hv hT
      ·cases hz:t.contains 0
       ·by_cases h60:t.length≤60
        ·exact next_text_good s r hl w hs t n ht hv hz h60 hT
        ·exact next_text_long s r hl w hs t n ht hv hz h60 hT
       ·exact next_text_zero s r hl w hs t n ht hv hz hT
   ·by_cases hg:Lp.signN (c::r)=0
    ·exact next_nosign s c r hl w hs hc hi h39 hg hT
    ·exact next_sign s c r hl w hs hc hi h39 hg hT
  ·exact next_num s c r hl w hs hc hi hT
 ·exact next_word s c r hl w hs hc hT
theorem own_under {w w':World} {B n size:Nat} {e:TypeId} {v:Value} {xs:List Value} (h:w.ownsRow B e size v n xs) (hb:Below w.heap.size w w'):w'.ownsRow B e size v n xs:=by
 have hg:w.grownBy w' none:=⟨hb.os,hb.tape,hb.output,hb.size,fun i hi _=>hb.block i hi⟩
 refine h.kept hg ?_
 cases hv:v.ownBlock
 ·exact .inl rfl
 ·exact .inr (by simp)
theorem own_cap {w:World} {B n c:Nat} {e:TypeId} {size:Nat} {A:Option Addr} {xs:List Value} (h:w.ownsRow B e size (.slice A n c) n xs):n≤c:=by
 obtain ⟨A',c',hv,h1⟩:=own_form h
 injection hv with _ _ hc
 omega
theorem tkv_append (l m:List Lp.Tok):Lp.tkv (l++m)=Lp.tkv l++Lp.tkv m:=by simp [Lp.tkv]
theorem tokInfo:(Tryz.prog.info? 183).map (fun i=>(i.zero,i.size,i.bytes))=some (some (.agg #[.int .u8 0,.string ⟨#[]⟩,.int .i64 0]),3,32):=by kernel_rfl
theorem rtokInfo:(Tryz.prog.info? 270).map (fun i=>(i.zero,i.size,i.bytes))=some (some (.agg #[.int .u8 0,.string ⟨#[]⟩,.int .i64 0]),3,32):=by kernel_rfl
theorem blank_idx (c:UInt8):Lp.blankB c=decide (0≤Lib.indexByte [32,9,10,13] c):=by
 rw [←Lib.contains_iff_indexByte,Bool.eq_iff_iff,List.contains_iff_mem]
 unfold Lp.blankB
 simp [←UInt8.toNat_inj]
 omega
def SplPost (t:TypeId) (w:World) (p:List Lp.Tok×Int) (e:Ending) (w':World):Prop :=
 Below w.heap.size w w'∧∃ A c,e=.returned (.tuple #[.slice A p.1.length c,.int .i64 p.2])∧p.1.length≤c∧w'.ownsRow w.heap.size t 3 (.slice A p.1.length c) p.1.length (Lp.tkv p.1)
theorem splPost_err {t:TypeId} {w w':World} {p:List Lp.Tok×Int} {E:Int} (hp:p=([],E)) (hb:Below w.heap.size w w'):SplPost t w p (.returned (.tuple #[.slice none 0 0,.int .i64 E])) w':=by
 subst hp;exact ⟨hb,none,0,rfl,Nat.le_refl _,World.ownsRow_nil _ _ _ _⟩
theorem lsplit_any (s:ByteArray) (w:World) (hT:Tabs w) (hs0:s.size≤9223372036854775807) :
 Calls Tryz.prog 75 #[.string s] w (SplPost 183 w (Lp.toks s.data.toList)):=by
 have hsz:s.data.toList.length=s.size:=by rw [Array.length_toList];rfl
 by_cases hlong:2000<s.size
 ·have HF:=κ (Lp.toks_long (l:=s.data.toList) (by rw [hsz];exact hlong))
  have h2:(2000:Int)<(s.size:Int):=by omega
  clear hsz
  go_enter Tryz.func75,Tryz.ntmps75
  go_wp2
  go_ret2
  exact splPost_err HF.out (Below.refl _ _)
 ·have HF:=κ (Lp.toks_short (l:=s.data.toList) (by rw [hsz];omega))
  have h2:¬(2000:Int)<(s.size:Int):=by omega
  obtain ⟨iT,hiT,hz0,hz1,hz2⟩:=info_parts tokInfo
  clear hsz
  go_enter Tryz.func75,Tryz.ntmps75
  go_wp2_with fail
  go_loopg [0,4,5,6,7] (s.size+1) (fun gk s0 s4 _ _ _ wr=>∃ (B:ByteArray) (L:List Lp.Tok) (A:Option Addr) (c:Nat),s0=.string B∧gk=B.size+1∧B.size≤2000∧s4=.slice A L.length c∧wr.ownsRow w.heap.size 183 3 (.slice A L.length c) L.length (Lp.tkv L)∧L.length+B.size≤2000∧Hid (Lp.toks s.data.toList=Lp.splA L B.data.toList)∧Below w.heap.size w wr)
  case atStart=>exact ⟨s,[],none,0,rfl,rfl,by omega,rfl,World.ownsRow_nil _ _ _ _,by simp;omega,HF.out,Below.refl _ _⟩
  case round =>
   clear HF
   obtain ⟨B,L,A,c,rfl,rfl,hB,rfl,hown,hLB,HR,hbw⟩:=hrel
   have hsz:=hbw.size
   have hTr:=tabs_below hT hbw
   rcases hl:B.data.toList with _|⟨x,r⟩
   ·have hB0:B.size=0:=size_of hl
    have h0e:B.toList.isEmpty=true:=by rw [ByteArray.toList_eq,hl];rfl
    have HF:Hid (Lp.toks s.data.toList=(L,0)):=by show _=_;rw [HR.out,hl,Lp.splA_nil]
    clear HR hl hB0
    go_wp2
    go_ret2
    show SplPost _ _ _ _ _
    rw [HF.out]
    exact ⟨hbw,A,c,rfl,own_cap hown,hown⟩
   ·have hB1:B.size=r.length+1:=size_of hl
    have h0e:B.toList.isEmpty=false:=by rw [ByteArray.toList_eq,hl];rfl
    have hb1:1≤B.size:=by omega
    have hx:B[0]'hb1=x:=by
     have:=Lp.get_data B 0 hb1
     rw [hl] at this
     simpa using this.symm
    have hbi:=blank_idx x
    cases hbl:Lp.blankB x
    ·rw [hbl] at hbi
     have hi:Lib.indexByte [32,9,10,13] x<0:=by have:=of_decide_eq_false hbi.symm;omega
     have hN:=fun W h=>next_any B x r hl W (by omega) h
     have HE:Hid (∀ n,(B.extract n B.size).data.toList=(x::r).drop n):=by
      intro n;rw [Lib.extract_data,List.take_of_length_le (by simp),hl]
     have HEZ:Hid (∀ n,(B.extract n B.size).size=(r.length+1)-n):=fun n=>by
      have:=size_of (HE.out n);rw [this,List.length_drop,List.length_cons]
     by_cases h0:(Lp.nextT (x::r)).2.2=0
     ·have HR2:Hid (Lp.toks s.data.toList=Lp.splA (L++[(Lp.nextT (x::r)).1]) ((x::r).drop (Lp.nextT (x::r)).2.1)):=by show _=_;rw [HR.out,hl,Lp.splA_tok _ hbl h0]
      have hn:=Lp.nextT_n h0
      have e0:((Lp.nextT (x::r)).2.2==0)=true:=by rw [h0];rfl
      unfold NextPost at hN
      generalize Lp.nextT (x::r)=T at *
      obtain ⟨⟨tk,ts,tn⟩,n,E⟩:=T
      simp only at hN h0 hn HR2 e0
      obtain ⟨hn1,hn2⟩:=hn
      have HN:=κ hN
      have HB1:=κ hB1
      have HBS:Hid (r.length+1=B.size):=hB1.symm
      have hnB:(n:Int)≤(B.size:Int):=by omega
      have hn0:(0:Int)≤(n:Int):=by omega
      clear hl hbi hbl HR hB1 hN h0
      go_wp2_with fail
      refine (Tryz.strings_IndexByte _ _ _).mono ?_
      rintro e w' ⟨rfl,rfl⟩
      go_wp2_with fail
      refine (HN.out _ hTr).mono ?_
      rintro e w1 ⟨rfl,b1⟩
      have hrel_own:=own_under hown b1
      have hown1:=own_under hrel_own ((Below.refl _ _).alloc (Nat.le_refl _) (.cells #[.int .u8 tk,.string ⟨ts.toArray⟩,.int .i64 tn] 183))
      have hbw1:=(hbw.trans (b1.mono hsz)).alloc (Nat.le_trans hsz b1.size) (.cells #[.int .u8 tk,.string ⟨ts.toArray⟩,.int .i64 tn] 183)
      have hx1:=heap_alloc_new w1 (.cells #[.int .u8 tk,.string ⟨ts.toArray⟩,.int .i64 tn] 183)
      have hcx:=β hx1
      have hZ1:=hbw1.size
      have HZ:Hid (w.heap.size≤w1.heap.size):=Nat.le_trans hsz b1.size
      clear hown hbw b1
      have HNE:Hid (some w1.heap.size≠Value.ownBlock (.slice A L.length c)):=κ (own_old (w:=w1) (by
       refine own_under (hrel_own) ?_
       exact Below.refl _ _) (Nat.le_refl _))
      go_wp2_with fail
      go_region_held3 (fun w'=>w'.cell? ⟨w1.heap.size,0,none⟩=some (.int .u8 tk)∧w'.cell? ⟨w1.heap.size,1,none⟩=some (.string ⟨ts.toArray⟩)∧w'.cell? ⟨w1.heap.size,2,none⟩=some (.int .i64 tn))
       (first|go_keep|exact ⟨hx4 0,hx4 1,hx4 2⟩)
       ((refine step_app _ rfl (.tmp 28) (.tmp 30) _ rfl w.heap.size 183 iT _ 3 32 Tryz.underlying141 hiT hz0 hz1 hz2 rfl (by decide) _ _ _ (Lp.tkv L) rfl ?_ _ 1 1 (Lp.tkv [(⟨tk,ts,tn⟩:Lp.Tok)]) rfl rfl ?_ ?_ ?_ ?_ ?_ ?_
         ·exact (own_under hown1 (by repeat (first|exact Below.refl _ _|apply Below.drew|refine Below.alloc ?_ (by simp) _)))
         ·(first|exact rds_blk (Lp.tkv [(⟨tk,ts,tn⟩:Lp.Tok)]) (heap_new2 w1 _ _)|exact rds_drew (rds_blk (Lp.tkv [(⟨tk,ts,tn⟩:Lp.Tok)]) (heap_new2 w1 _ _)))
         ·simp [Value.oneCell',Lp.tkv,Lp.Tok.cells]
         ·simp only [maxLen];omega
         ·omega
         ·have:=HZ.out;simp;omega
         intro A4 c4 w4 hown4 hb4 hg4 hk4
         have hx4:=β (hk4 w1.heap.size _ (box_below hx1 (by repeat (first|exact Below.refl _ _|apply Below.drew|refine Below.alloc ?_ (by simp) _))) HNE.out).1))
      all_goals
       have hb14:Below w.heap.size (w1.alloc (.cells #[.int .u8 tk,.string ⟨ts.toArray⟩,.int .i64 tn] 183)) w4:=Below.trans (by repeat (first|exact Below.refl _ _|apply Below.drew|refine Below.alloc ?_ (by have:=HZ.out;simp;omega) _)) hb4
       have hbw4:=hbw1.trans hb14
       have hown5:w4.ownsRow w.heap.size 183 3 (.slice A4 (L++[(⟨tk,ts,tn⟩:Lp.Tok)]).length c4) (L++[(⟨tk,ts,tn⟩:Lp.Tok)]).length (Lp.tkv (L++[(⟨tk,ts,tn⟩:Lp.Tok)])):=by
        rw [tkv_append,List.length_append];exact hown4
       clear hown4 hb4 hg4 hk4 hown1 hbw1 hb14 hx4
       go_wp2
       go_roundg ((B.extract n B.size).size+1)
       case measure=>rw [HEZ.out,HB1.out];omega
       case rel=>exact ⟨B.extract n B.size,L++[(⟨tk,ts,tn⟩:Lp.Tok)],A4,c4,rfl,rfl,by rw [HEZ.out];have:=HB1.out;omega,by simp,hown5,by rw [HEZ.out];have:=HB1.out;simp;omega,by rw [HE.out];exact HR2,hbw4⟩
     ·have HF:Hid (Lp.toks s.data.toList=([],(Lp.nextT (x::r)).2.2)):=by show _=_;rw [HR.out,hl,Lp.splA_err _ hbl h0]
      have e0:((Lp.nextT (x::r)).2.2==0)=false:=beq_eq_false_iff_ne.2 h0
      unfold NextPost at hN
      generalize Lp.nextT (x::r)=T at *
      obtain ⟨⟨tk,ts,tn⟩,n,E⟩:=T
      simp only at hN h0 HF e0
      have HN:=κ hN
      clear hl hbi hbl HR hB1 hN h0
      go_wp2_with fail
      refine (Tryz.strings_IndexByte _ _ _).mono ?_
      rintro e w' ⟨rfl,rfl⟩
      go_wp2_with fail
      refine (HN.out _ hTr).mono ?_
      rintro e w1 ⟨rfl,b1⟩
      go_wp2
      go_ret2
      exact splPost_err HF.out ((hbw.trans (b1.mono hsz)).alloc (Nat.le_trans hsz b1.size) _)
    ·rw [hbl] at hbi
     have hi:0≤Lib.indexByte [32,9,10,13] x:=of_decide_eq_true hbi.symm
     have HE:Hid ((B.extract 1 B.size).data.toList=r):=by show _=_;rw [Lib.extract_data,List.take_of_length_le (by simp),hl];rfl
     have hez:(B.extract 1 B.size).size=r.length:=size_of HE.out
     have HR2:Hid (Lp.toks s.data.toList=Lp.splA L (B.extract 1 B.size).data.toList):=by show _=_;rw [HR.out,HE.out,hl,Lp.splA_blank _ _ hbl]
     have HEZ:=κ hez
     have HB1:=κ hB1
     clear hl hbi hbl HR hez hB1
     go_wp2_with fail
     refine (Tryz.strings_IndexByte _ _ _).mono ?_
     rintro e w' ⟨rfl,rfl⟩
     go_wp2
     go_roundg (r.length+1)
     case measure=>rw [HB1.out];omega
     case rel=>exact ⟨B.extract 1 B.size,L,A,c,rfl,by rw [HEZ.out],by rw [HEZ.out, ←Nat.add_sub_cancel (n:=r.length) (m:=1), ←HB1.out];omega,rfl,hown,by rw [HEZ.out];have:=HB1.out;omega,HR2,hbw⟩
end Go.Proofs.YtkfjmgmjbljnbaaGreatDoor
