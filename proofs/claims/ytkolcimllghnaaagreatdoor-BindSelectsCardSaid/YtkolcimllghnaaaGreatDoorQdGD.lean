/-
 Contracts. Conditions: those of each.
-/
import Derived.Lib.OthersKept
import Derived.Test.YtkolcimllghnaaaGreatDoorQdShelf
import Derived.Deep.Draws
import Derived.Test.YtkolcimllghnaaaGreatDoorQdGB
import Derived.BigCall
import Derived.Lib.IndexAny
import Derived.Lib.MapLaws
import Derived.Deep.RegionHeld3
import Derived.Deep.LoopGhost
set_option maxRecDepth 100000
set_option maxHeartbeats 8000000
namespace Go.Proofs.YtkolcimllghnaaaGreatDoor
open Lp Go.Proofs.Tryz
open Go.RowKit
variable{b:Bool}{s:ByteArray}{E r:Int}{B k n p size:Nat}{e:TypeId}{c:UInt8}{w w':World}{l t:ZS}{xs:ZU}
def vK (r:Int):Bool:=(decide (97≤r)&&decide (r≤122))||(decide (65≤r)&&decide (r≤90))||decide (r=95)
def rF (r:Int):Bool:=decide (48≤r)&&decide (r≤57)
def oS (r:Int):Int:=if 65≤r∧r≤90 then r+32 else r
theorem fS (c:UInt8):vK (c.toNat:Int)=gP c:=by
 unfold vK gP;rw [Bool.eq_iff_iff];simp;omega
theorem eU (c:UInt8):rF (c.toNat:Int)=aI c:=by
 unfold rF aI;rw [Bool.eq_iff_iff];simp;omega
theorem Dv (h:r<65∨(90<r∧r<95)∨r=96∨122<r):vK r=false:=by
 rw [<-Bool.not_eq_true];unfold vK;simp;omega
theorem wC (h:r<48∨57<r):rF r=false:=by
 rw [<-Bool.not_eq_true];unfold rF;simp;omega
def aW (b:Bool) (w:World) (e:Ending) (w':World):Prop:=e=.returned (.bool b)∧w=w'
theorem kW {c:Bool} (h:b=c):aW b w (.returned (.bool c)) w:=by subst h;exact ⟨rfl,rfl⟩
theorem gA (r:Int) (w:World):Calls prog 73 #[.int .u8 r] w (aW (vK r) w):=by
 go_enter func73,ntmps73;go_wp2
 all_goals (go_ret;refine kW ?_;unfold vK;rw [Bool.eq_iff_iff];simp;omega)
theorem iI (r:Int) (w:World):Calls prog 74 #[.int .u8 r] w (aW (rF r) w):=by
 go_enter func74,ntmps74;go_wp2
 all_goals (go_ret;refine kW ?_;unfold rF;rw [Bool.eq_iff_iff];simp;omega)
theorem eH (r:Int) (w:World):Calls prog 108 #[.int .i32 r] w (aW (vK r) w):=by
 go_enter func108,ntmps108;go_wp2
 all_goals (go_ret;refine kW ?_;unfold vK;rw [Bool.eq_iff_iff];simp;omega)
theorem eJ (r:Int) (w:World):Calls prog 111 #[.int .i32 r] w (aW (rF r) w):=by
 go_enter func111,ntmps111;go_wp2
 all_goals (go_ret;refine kW ?_;unfold rF;rw [Bool.eq_iff_iff];simp;omega)
theorem Pg (r:Int) (w:World) (h0:0≤r) (h1:r≤1114111):Calls prog 113 #[.int .i32 r] w λe w'=>e=.returned (.int .i32 (oS r))∧w=w':=by
 by_cases h:65≤r∧r≤90
 ·obtain ⟨h2,h3⟩:=h;have HF:Hd0 (oS r=r+97-65):=by show _=_;unfold oS;rw [if_pos ⟨h2,h3⟩];omega
  go_enter func113,ntmps113;go_wp2;go_ret;exact ev
 ·have HF:Hd0 (oS r=r):=by show _=_;unfold oS;rw [if_neg h]
  rcases (show r<65∨90<r by omega) with h2|h2
  ·clear h;go_enter func113,ntmps113;go_wp2;go_ret;exact ev
  ·clear h;go_enter func113,ntmps113;go_wp2;go_ret;exact ev
def oL (r:Int):Bool:=vK r||rF r
theorem wF (c:UInt8):oL (c.toNat:Int)=cB c:=by unfold oL cB;rw [fS,eU]
theorem Ap (r:Int) (w:World):Calls prog 110 #[.int .i32 r] w (aW (oL r) w):=by
 have c1:=eH r;have c2:=eJ r;unfold aW at c1 c2;cases h1:vK r
 ·rw [h1] at c1;have C1:=κ c1;have C2:=κ c2;have HF:Hd0 (oL r=rF r):=by show _=_;unfold oL;rw [h1];rfl
  clear c1 c2 h1;go_enter func110,ntmps110;go_wp2_with fail;refine (C1.o _).mono ?_;rintro e w' ⟨rfl,rfl⟩;go_wp2_with fail;refine (C2.o _).mono ?_;rintro e w' ⟨rfl,rfl⟩;go_wp2;go_ret;exact kW HF.o
 ·rw [h1] at c1;have C1:=κ c1;have HF:Hd0 (oL r=true):=by show _=_;unfold oL;rw [h1];rfl
  clear c1 c2 h1;go_enter func110,ntmps110;go_wp2_with fail;refine (C1.o _).mono ?_;rintro e w' ⟨rfl,rfl⟩;go_wp2;go_ret;exact kW HF.o
theorem Ga (c:UInt8) (w:World):Calls prog 79 #[.int .u8 c.toNat] w (aW (pC c) w):=by
 go_enter func79,ntmps79;go_wp2
 go_loop [3] (λi=>∃ k:Nat,k≤13∧i=.int .i64 k∧Hd0 ((Fs.take k).contains c=false)) (λi=>13-(intOf i).toNat)
 case atStart=>exact ⟨0,ac,rfl,rfl⟩
 case round =>
  obtain ⟨k,hk,rfl,HC⟩:=dd
  by_cases hlt:k<13
  ·have hk0:(0:Int)≤(k:Int):=ac
   have hk1:(k:Int)<13:=ac
   have HD:=κ (show (Fs.take (k+1)).contains c=(decide ((((⟨#[40,41,44,59,42,43,45,47,37,61,60,62,46]⟩:ByteArray)[k]'hlt).toNat:Int)=(c.toNat:Int))) by
    have e:Fs.take (k+1)=Fs.take k++[(⟨#[40,41,44,59,42,43,45,47,37,61,60,62,46]⟩:ByteArray)[k]'hlt]:=iV ⟨#[40,41,44,59,42,43,45,47,37,61,60,62,46]⟩ k hlt;have hc:=HC.o;generalize (⟨#[40,41,44,59,42,43,45,47,37,61,60,62,46]⟩:ByteArray)[k]'hlt=d at *;rw [e,Bool.eq_iff_iff];rw [<-Bool.not_eq_true,List.contains_iff_mem] at hc;simp only [List.contains_iff_mem,List.mem_append,List.mem_singleton,hc,false_or,decide_eq_true_eq]
    constructor
    ·rintro rfl;rfl
    ·intro h;exact (UInt8.toNat_inj.1 ac).symm)
   go_wp2
   ·go_ret;have hm:=HD.o
    rename_i ht _
    rw [beq_iff_eq] at ht;rw [decide_eq_true ht] at hm;refine kW ?_;unfold pC;rw [List.contains_iff_mem] at hm |-;exact List.mem_of_mem_take hm
   ·rename_i ht
    rw [beq_eq_false_iff_ne] at ht
    go_round
    case rel=>exact ⟨k+1,ac,de,by show _=_;rw [HD.o,decide_eq_false ht]⟩
    case measure=>simp [intOf];omega
  ·obtain rfl:k=13:=ac
   have HF:Hd0 (pC c=false):=by show _=_;unfold pC;have:=HC.o;exact this
   go_wp2;go_ret;exact kW HF.o
theorem fM (h:w.heap[k]? = some (.stringIter s p)):w.iterPos k=p:=by simp [World.iterPos,h]
theorem vU {a b:Nat} (h:a=b):Ending.returned (.int .i64 (a:Int))=.returned (.int .i64 (b:Int)):=ch
theorem lF {p:UInt8->Bool}:∀ {l:ZS} {k:Nat} (h:k<l.length),(l.take k).all p=true->p l[k]=false->(l.takeWhile p).length=k
 | c::l,0,_,_,h2=>by rw [List.takeWhile_cons];simp only [List.getElem_cons_zero] at h2;rw [h2];rfl
 | c::l,k+1,h,h1,h2=>by
   rw [List.take_succ_cons,List.all_cons,Bool.and_eq_true] at h1;rw [List.takeWhile_cons,h1.1];simp only [List.getElem_cons_succ] at h2;have:=lF (l:=l) (k:=k) an h1.2 h2;simp [this]
theorem nB {p:UInt8->Bool} (h:l.all p=true):l.takeWhile p=l:=by
 induction l with
 | nil=>rfl
 | cons c l ih =>
   rw [List.all_cons,Bool.and_eq_true] at h;rw [List.takeWhile_cons,h.1,ih h.2];rfl
theorem wE (h:cB c=true):c.toNat<128:=by
 unfold cB gP aI at h;simp at h;omega
theorem Rz (h:aI c=true):c.toNat<128:=by
 unfold aI at h;simp at h;omega
theorem Ou (h:128≤r):oL r=false:=by
 unfold oL;rw [Dv ac,wC ac];rfl
theorem Zp (h:128≤r):rF r=false:=wC ac
theorem zS (s:ByteArray) (pos:Nat) (h:pos<s.size) (hd:cB (s[pos]'h)=true):Utf8.decode s pos=((s[pos]'h).toNat,1)∧oL ((s[pos]'h).toNat:Int)=true :=
 ⟨decode_ascii s pos h (wE hd),by rw [wF];exact hd⟩
theorem Da (s:ByteArray) (pos:Nat) (h:pos<s.size) (hd:cB (s[pos]'h)=false):oL ((Utf8.decode s pos).1:Int)=false:=by
 by_cases ha:(s[pos]'h).toNat<128
 ·rw [decode_ascii s pos h ha];show oL ((s[pos]'h).toNat:Int)=false;rw [wF];exact hd
 ·exact Ou ew
theorem Jl (s:ByteArray) (w:World) :
 Calls prog 109 #[s,.func (.func 110) #[] #[]] w λe w'=>e=.returned (.int .i64 ((s.data.toList.takeWhile cB).length))∧Below w w w':=by
 go_enter func109,ntmps109;go_wp2
 go_loopw [5,6] (λ_ _ wr=>∃ pos:Nat,wr.heap[w.heap.size]? = some (.stringIter s pos)∧Below w w wr∧pos≤s.size∧Hd0 ((s.data.toList.take pos).all cB=true)) (λ_ _ wr=>s.size-wr.iterPos w)
 case atStart=>exact ⟨0,World.iter_heap w s 0,ρ,Nat.zero_le _,eh⟩
 case round =>
  obtain ⟨pos,hit,hbw,hle,HD⟩:=dd;have hpos0:=fM hit
  by_cases hp:pos<s.size
  ·have hnx0:=ez;cases hd:cB (s[pos]'hp)
   ·have hr:=Da s pos hp hd;have HF:Hd0 ((s.data.toList.takeWhile cB).length=pos):=lF (by simpa using hp) HD.o hd;have hb2:=fa;generalize (Utf8.decode s pos).1=c at *;generalize (Utf8.decode s pos).2=k at *;have C:=Ap (c:Int);unfold aW at C;rw [hr] at C;have HC:=κ C;clear C hr HD hd;go_wp2_with fail;refine (HC.o _).mono ?_;rintro e w' ⟨rfl,rfl⟩;go_wp2;go_ret;exact ⟨vU HF.o.symm,hb2⟩
   ·obtain ⟨hdec,hr⟩:=zS s pos hp hd;have HD2:Hd0 ((s.data.toList.take (pos+1)).all cB=true):=by
     show _=_;rw [iV s pos hp];simp [HD.o,hd]
    have hnx:=hnx0;rw [hdec] at hnx;have hit2:=fd;have hb2:=fc;have hp2:=fM hit2;generalize (s[pos]'hp).toNat=c at *;have C:=Ap (c:Int);unfold aW at C;rw [hr] at C;have HC:=κ C;clear hnx0 hdec hd HD C hr;go_wp2_with fail;refine (HC.o _).mono ?_;rintro e w' ⟨rfl,rfl⟩;go_wp2
    go_roundw
    case rel=>exact ⟨pos+1,hit2,hb2,ac,HD2⟩
    case measure=>rw [hp2,hpos0];omega
  ·have hnx:=fe;obtain rfl:pos=s.size:=ac
   have HF:Hd0 ((s.data.toList.takeWhile cB).length=s.size):=by
    show _=_;have:=HD.o;rw [kM] at this;rw [nB this];simp
   clear HD;go_wp2;go_ret;exact ⟨vU HF.o.symm,hbw⟩
theorem Db (s:ByteArray) (pos:Nat) (h:pos<s.size) (hd:aI (s[pos]'h)=true):Utf8.decode s pos=((s[pos]'h).toNat,1)∧rF ((s[pos]'h).toNat:Int)=true :=
 ⟨decode_ascii s pos h (Rz hd),by rw [eU];exact hd⟩
theorem Fw (s:ByteArray) (pos:Nat) (h:pos<s.size) (hd:aI (s[pos]'h)=false):rF ((Utf8.decode s pos).1:Int)=false:=by
 by_cases ha:(s[pos]'h).toNat<128
 ·rw [decode_ascii s pos h ha];show rF ((s[pos]'h).toNat:Int)=false;rw [eU];exact hd
 ·exact Zp ew
theorem Ov (s:ByteArray) (w:World) :
 Calls prog 109 #[s,.func (.func 111) #[] #[]] w λe w'=>e=.returned (.int .i64 ((s.data.toList.takeWhile aI).length))∧Below w w w':=by
 go_enter func109,ntmps109;go_wp2
 go_loopw [5,6] (λ_ _ wr=>∃ pos:Nat,wr.heap[w.heap.size]? = some (.stringIter s pos)∧Below w w wr∧pos≤s.size∧Hd0 ((s.data.toList.take pos).all aI=true)) (λ_ _ wr=>s.size-wr.iterPos w)
 case atStart=>exact ⟨0,World.iter_heap w s 0,ρ,Nat.zero_le _,eh⟩
 case round =>
  obtain ⟨pos,hit,hbw,hle,HD⟩:=dd;have hpos0:=fM hit
  by_cases hp:pos<s.size
  ·have hnx0:=ez;cases hd:aI (s[pos]'hp)
   ·have hr:=Fw s pos hp hd;have HF:Hd0 ((s.data.toList.takeWhile aI).length=pos):=lF (by simpa using hp) HD.o hd;have hb2:=fa;generalize (Utf8.decode s pos).1=c at *;generalize (Utf8.decode s pos).2=k at *;have C:=eJ (c:Int);unfold aW at C;rw [hr] at C;have HC:=κ C;clear C hr HD hd;go_wp2_with fail;refine (HC.o _).mono ?_;rintro e w' ⟨rfl,rfl⟩;go_wp2;go_ret;exact ⟨vU HF.o.symm,hb2⟩
   ·obtain ⟨hdec,hr⟩:=Db s pos hp hd;have HD2:Hd0 ((s.data.toList.take (pos+1)).all aI=true):=by
     show _=_;rw [iV s pos hp];simp [HD.o,hd]
    have hnx:=hnx0;rw [hdec] at hnx;have hit2:=fd;have hb2:=fc;have hp2:=fM hit2;generalize (s[pos]'hp).toNat=c at *;have C:=eJ (c:Int);unfold aW at C;rw [hr] at C;have HC:=κ C;clear hnx0 hdec hd HD C hr;go_wp2_with fail;refine (HC.o _).mono ?_;rintro e w' ⟨rfl,rfl⟩;go_wp2
    go_roundw
    case rel=>exact ⟨pos+1,hit2,hb2,ac,HD2⟩
    case measure=>rw [hp2,hpos0];omega
  ·have hnx:=fe;obtain rfl:pos=s.size:=ac
   have HF:Hd0 ((s.data.toList.takeWhile aI).length=s.size):=by
    show _=_;have:=HD.o;rw [kM] at this;rw [nB this];simp
   clear HD;go_wp2;go_ret;exact ⟨vU HF.o.symm,hbw⟩
def eQ (w:World):Prop:=Lib.Utf8Tabs 0 1 w
theorem eS (s:ByteArray) (w:World) (hs:s.size≤9223372036854775807) (hT:eQ w) :
 Calls prog 116 #[s] w λe w'=>e=.returned (.bool (Lib.validD s.data.toList))∧Below w w w' :=
 Any.utf8_ValidString Tryz.laysValid s w hs hT
theorem aQ (h:eQ w) (hb:Below w w w'):eQ w':=Utf8Tabs_below h hb
theorem dP (h:eQ w) (o:Obj):eQ (w.alloc o):=aQ h ((θ).alloc (ν _) o)
theorem uZ {W w1:World} (hb:Below W W w1):(∀ b o,b<W.heap.size->w1.cell? ⟨b,o,none⟩=W.cell? ⟨b,o,none⟩)∧(∀ b o,b<W.heap.size->w1.frozen? ⟨b,o,none⟩=W.frozen? ⟨b,o,none⟩) :=
 ⟨λb o h=>hb.cell (p:=⟨b,o,none⟩) h,λb o h=>hb.frozen (p:=⟨b,o,none⟩) h⟩
theorem uI (s:ByteArray) (w:World) (h:s.data.toList.contains 0=false) :
 Calls prog 62 #[s,.int .u8 0] w λe w'=>e=.returned (.int .i64 (-1))∧w=w':=by
 refine (Tryz.strings_IndexByte s 0 w).mono ?_;rintro e w' ⟨rfl,rfl⟩;have h1:=Lib.indexByte_ge s.data.toList (Int.toNat 0).toUInt8;have h2:Lib.indexByte s.data.toList (Int.toNat 0).toUInt8 = -1:=by
  rcases Int.lt_or_le (Lib.indexByte s.data.toList (Int.toNat 0).toUInt8) 0 with h3|h3
  ·omega
  ·obtain ⟨n,hn⟩:=Int.eq_ofNat_of_zero_le h3;have h4:=(Lib.indexByte_some hn).1;have h5:s.data.toList.contains 0=true:=List.contains_iff_mem.2 (List.mem_of_getElem? h4);rw [h5] at h;cases h
 rw [h2];exact cm
def aGE (e:Ending):Prop:=∃ n:Nat,e=.returned (.int .i64 n)
theorem tB (s:ByteArray) (w:World) (h:s.data.toList.contains 0=true) :
 Calls prog 62 #[s,.int .u8 0] w λe w'=>aGE e∧w=w':=by
 refine (Tryz.strings_IndexByte s 0 w).mono ?_;rintro e w' ⟨rfl,rfl⟩;refine ⟨?_,rfl⟩;have e0:(Int.toNat 0).toUInt8=0:=rfl;rw [e0];rcases Int.lt_or_le (Lib.indexByte s.data.toList 0) 0 with h3|h3
 ·have h1:=Lib.indexByte_ge s.data.toList 0;obtain ⟨k,hk⟩:=List.mem_iff_getElem?.1 (List.contains_iff_mem.1 h);exact absurd hk (Lib.indexByte_none ac k)
 ·obtain ⟨n,hn⟩:=Int.eq_ofNat_of_zero_le h3;exact ⟨n,by rw [hn]⟩
theorem fN (h:s.data=#[]):s.size=0:=by show s.data.size=0;rw [h];rfl
def kH (k i:Int) (s:ByteArray) (b:Bool) (w:World) (e:Ending) (w':World):Prop:=e=.returned (.bool (cG k i s b))∧Below w w w'
theorem cZ {k i:Int} {r:Bool} (h:r=cG k i s b) (hb:Below w w w'):kH k i s b w (.returned (.bool r)) w':=by
 subst h;exact fg
theorem aCW (i:Int) (s:ByteArray) (b:Bool) (w:World) (hs:s.size≤9223372036854775807) (hT:eQ w) :
 Calls prog 117 #[.agg #[.int .u8 0,.int .i64 i,s,b]] w (kH 0 i s b w):=by
 have hT2:=fj;have hB2:=fh;cases hz:s.data.toList.contains 0
 ·go_enter func117,ntmps117;go_wp2_with (first|(go_at_call 116;refine (eS _ _ hs (hT2 _ _)).mono ?_;rintro e w1 ⟨rfl,hb1⟩;obtain ⟨hc1,hf1⟩:=uZ hb1)|(go_at_call 62;refine (uI _ _ hz).mono ?_;rintro e w' ⟨rfl,rfl⟩))
  all_goals (go_ret;first|exact cZ fl (hB2 _ _)|exact cZ fk ((hB2 _ _).trans (hb1.mono bl)))
 ·go_enter func117,ntmps117;go_wp2_with (first|(go_at_call 116;refine (eS _ _ hs (hT2 _ _)).mono ?_;rintro e w1 ⟨rfl,hb1⟩;obtain ⟨hc1,hf1⟩:=uZ hb1)|(go_at_call 62;refine (tB _ _ hz).mono ?_;rintro e w' ⟨⟨n0,rfl⟩,rfl⟩))
  all_goals (go_ret;first|exact cZ fl (hB2 _ _)|exact cZ fk ((hB2 _ _).trans (hb1.mono bl)))
theorem aCV (i:Int) (s:ByteArray) (b:Bool) (w:World) (hs:s.size≤9223372036854775807) (hT:eQ w) :
 Calls prog 117 #[.agg #[.int .u8 1,.int .i64 i,s,b]] w (kH 1 i s b w):=by
 have hT2:=fj;have hB2:=fh;cases hz:s.data.toList.contains 0
 ·go_enter func117,ntmps117;go_wp2_with (first|(go_at_call 116;refine (eS _ _ hs (hT2 _ _)).mono ?_;rintro e w1 ⟨rfl,hb1⟩;obtain ⟨hc1,hf1⟩:=uZ hb1)|(go_at_call 62;refine (uI _ _ hz).mono ?_;rintro e w' ⟨rfl,rfl⟩))
  all_goals (go_ret;first|exact cZ fl (hB2 _ _)|exact cZ fk ((hB2 _ _).trans (hb1.mono bl)))
 ·go_enter func117,ntmps117;go_wp2_with (first|(go_at_call 116;refine (eS _ _ hs (hT2 _ _)).mono ?_;rintro e w1 ⟨rfl,hb1⟩;obtain ⟨hc1,hf1⟩:=uZ hb1)|(go_at_call 62;refine (tB _ _ hz).mono ?_;rintro e w' ⟨⟨n0,rfl⟩,rfl⟩))
  all_goals (go_ret;first|exact cZ fl (hB2 _ _)|exact cZ fk ((hB2 _ _).trans (hb1.mono bl)))
theorem aCU (i:Int) (s:ByteArray) (b:Bool) (w:World) (hs:s.size≤9223372036854775807) (hT:eQ w) :
 Calls prog 117 #[.agg #[.int .u8 2,.int .i64 i,s,b]] w (kH 2 i s b w):=by
 have hT2:=fj;have hB2:=fh;cases hz:s.data.toList.contains 0
 ·go_enter func117,ntmps117;go_wp2_with (first|(go_at_call 116;refine (eS _ _ hs (hT2 _ _)).mono ?_;rintro e w1 ⟨rfl,hb1⟩;obtain ⟨hc1,hf1⟩:=uZ hb1)|(go_at_call 62;refine (uI _ _ hz).mono ?_;rintro e w' ⟨rfl,rfl⟩))
  all_goals (go_ret;first|exact cZ fq (hB2 _ _)|exact cZ fm ((hB2 _ _).trans (hb1.mono bl)))
 ·go_enter func117,ntmps117;go_wp2_with (first|(go_at_call 116;refine (eS _ _ hs (hT2 _ _)).mono ?_;rintro e w1 ⟨rfl,hb1⟩;obtain ⟨hc1,hf1⟩:=uZ hb1)|(go_at_call 62;refine (tB _ _ hz).mono ?_;rintro e w' ⟨⟨n0,rfl⟩,rfl⟩))
  all_goals (go_ret;first|exact cZ fq (hB2 _ _)|exact cZ fm ((hB2 _ _).trans (hb1.mono bl)))
theorem aCT (i:Int) (s:ByteArray) (b:Bool) (w:World) (hs:s.size≤9223372036854775807) (hT:eQ w) :
 Calls prog 117 #[.agg #[.int .u8 3,.int .i64 i,s,b]] w (kH 3 i s b w):=by
 have hT2:=fj;have hB2:=fh;cases hz:s.data.toList.contains 0
 ·go_enter func117,ntmps117;go_wp2_with (first|(go_at_call 116;refine (eS _ _ hs (hT2 _ _)).mono ?_;rintro e w1 ⟨rfl,hb1⟩;obtain ⟨hc1,hf1⟩:=uZ hb1)|(go_at_call 62;refine (uI _ _ hz).mono ?_;rintro e w' ⟨rfl,rfl⟩))
  all_goals (go_ret;first|exact cZ fl (hB2 _ _)|exact cZ fk ((hB2 _ _).trans (hb1.mono bl)))
 ·go_enter func117,ntmps117;go_wp2_with (first|(go_at_call 116;refine (eS _ _ hs (hT2 _ _)).mono ?_;rintro e w1 ⟨rfl,hb1⟩;obtain ⟨hc1,hf1⟩:=uZ hb1)|(go_at_call 62;refine (tB _ _ hz).mono ?_;rintro e w' ⟨⟨n0,rfl⟩,rfl⟩))
  all_goals (go_ret;first|exact cZ fl (hB2 _ _)|exact cZ fk ((hB2 _ _).trans (hb1.mono bl)))
theorem Gb (k i:Int) (s:ByteArray) (b:Bool) (w:World) (h0:(k==0)=false) (h1:(k==1)=false) (h2:(k==2)=false) (h3:(k==3)=false) :
 Calls prog 117 #[.agg #[.int .u8 k,.int .i64 i,s,b]] w (kH k i s b w):=by
 have hB2:=fh;go_enter func117,ntmps117;go_wp2;go_ret;exact cZ (by simp_all [cG]) (hB2 _ _)
theorem Qe (k i:Int) (s:ByteArray) (b:Bool) (w:World) (hs:s.size≤9223372036854775807) (hT:eQ w) :
 Calls prog 117 #[.agg #[.int .u8 k,.int .i64 i,s,b]] w (kH k i s b w):=by
 by_cases h0:k=0
 ·subst h0;exact aCW i s b w hs hT
 ·by_cases h1:k=1
  ·subst h1;exact aCV i s b w hs hT
  ·by_cases h2:k=2
   ·subst h2;exact aCU i s b w hs hT
   ·by_cases h3:k=3
    ·subst h3;exact aCT i s b w hs hT
    ·exact Gb k i s b w fv fu db ft
theorem aJF (w:World):Lib.IsBuilderF 250 5 w w (Lib.byteCells []) (w.alloc (.cells #[.pointer none,.slice none 0 0] 250)):=Lib.IsBuilderF.of (Lib.fresh_isBuilder 250 5 w)
theorem aKT (B b:Nat) (bs:ZU) (c:Int) (w:World) (h:Lib.IsBuilderF 250 5 B b bs w) (hlen:bs.length+1≤140737488355328) (hBw:B≤w) :
 Calls prog 143 #[b,.int .u8 c] w λe w'=>e=.returned .nilIface∧(Lib.IsBuilderF 250 5 B b (bs++[.int .u8 c]) w'∧Below B w w'∧Lib.OthersKept 5 (some b) w w') :=
 (Any.Builder_WriteByte_k (ρ:=Tryz.lays230_ren) { lays230 with } Tryz.Builder_Extra_230 B b bs c w h hlen hBw).mono λ_ _ h=>⟨h.1,Or.inr h.2.1,h.2.2⟩
theorem aFM (B b:Nat) (bs:ZU) (s:ByteArray) (w:World) (h:Lib.IsBuilderF 250 5 B b bs w) (hlen:bs.length+s.size≤140737488355328) (hBw:B≤w) :
 Calls prog 142 #[b,s] w λe w'=>e=.returned (.tuple #[.int .i64 s.size,.nilIface])∧(Lib.IsBuilderF 250 5 B b (bs++Lib.strCells s) w'∧Below B w w'∧Lib.OthersKept 5 (some b) w w') :=
 (Any.Builder_WriteString_k (ρ:=Tryz.lays230_ren) { lays230 with } Tryz.Builder_Extra_230 B b bs s w h hlen hBw).mono λ_ _ h=>⟨h.1,Or.inr h.2.1,h.2.2⟩
theorem fA (s:ByteArray) (w:World) (hT:eQ w) :
 Calls prog 107 #[s] w λe w'=>e=.returned (.tuple #[.int .i32 (Lib.decodeGo s).1,.int .i64 (Lib.decodeGo s).2])∧Below w w w':=Tryz.utf8_DecodeRuneInString s w hT
def iF (l:ZS) (w:World) (e:Ending) (w':World):Prop :=
 e=.returned (.tuple #[.string ⟨(aLD (txt l)).toArray⟩,.int .i64 (aLE (txt l):Nat)])∧Below w w w'
theorem zM (h:txt l=none) (hb:Below w w w'):iF l w (.returned (.tuple #[(),.int .i64 0])) w':=by
 unfold iF;rw [h];exact fg
theorem rH {acc:ZS} (h:txt l=some (acc,n)) (hb:Below w w w'):iF l w (.returned (.tuple #[acc,((n:Int)+1:Int)])) w':=by
 unfold iF;rw [h];exact fg
theorem oX (s:ByteArray) (w:World) (hs:s.size≤1000000000) (h1:1≤s.size) (hT:eQ w) :
 Calls prog 115 #[s] w (iF (s.data.toList.drop 1) w):=by
 have HSD:Hd0 ((s.extract 1 s.size).data.toList=s.data.toList.drop 1):=by show _=_;rw [Lib.extract_data,List.take_of_length_le aa]
 have HSS:Hd0 ((s.extract 1 s.size).size=s.size-1):=fw
 rw [<-HSD.o];have hss1:(s.extract 1 s.size).size≤1000000000:=gc
 have hss2:(s.extract 1 s.size).size+1≤s.size:=gc
 have hss3:s.size≤(s.extract 1 s.size).size+1:=gc
 have hb0:=((Below.refl w w).alloc (ν _) (.cells #[.pointer none,.slice none 0 0] 250)).alloc aa (.stringIter (s.extract 1 s.size) 0);have hI0:=(aJF w).alloc (.stringIter (s.extract 1 s.size) 0);have hit0:((w.alloc (.cells #[.pointer none,.slice none 0 0] 250)).alloc (.stringIter (s.extract 1 s.size) 0)).heap[w.heap.size+1]? = some (.stringIter (s.extract 1 s.size) 0):=bG w _ _;go_enter func115,ntmps115;go_wp2
 go_loopw [5,6,7,8,9] (λq _ _ _ _ wr=>∃ (pos:Nat) (acc:ZS) (qq:Bool),q=.bool qq∧Lib.IsBuilderF 250 5 w w (Lib.byteCells acc) wr∧wr.heap[w.heap.size+1]? = some (.stringIter (s.extract 1 s.size) pos)∧Below w w wr∧pos≤(s.extract 1 s.size).size∧acc.length≤pos∧Hd0 (gF (s.extract 1 s.size).data.toList acc pos qq)) (λ_ _ _ _ _ wr=>s.size-wr.iterPos (w+1))
 case atStart=>exact ⟨0,[],false,rfl,hI0,hit0,hb0,Nat.zero_le _,ν _,sF _⟩
 case round =>
  clear hI0 hit0 hb0;obtain ⟨pos,acc,qq,rfl,hI,hit,hbw,hle,hal,HA⟩:=dd;have hpos0:=fM hit;have hsz:w+1<wr.heap.size:=(Array.getElem?_eq_some_iff.1 hit).1;have hsz0:=hbw.size
  by_cases hp:pos<(s.extract 1 s.size).size
  ·have hnx0:∀ ty,(Instr.next (.pointer (some ⟨w+1,0,none⟩)) true ty).run prog wr=_:=λty=>Lib.run_next_any_at wr (w+1) (s.extract 1 s.size) pos ty hit hp;have hgt:(s.extract 1 s.size).data.toList[pos]? = some ((s.extract 1 s.size)[pos]'hp):=jK _ _ hp;have hI2:=hI.iterAt hit (pos+(Utf8.decode (s.extract 1 s.size) pos).2);have hit2:=Lib.iterAt_heap wr (w+1) (s.extract 1 s.size) pos (pos+(Utf8.decode (s.extract 1 s.size) pos).2) hit;have hbw2:=Lib.below_iterAt hbw (k:=w.heap.size+1) ac (s.extract 1 s.size) (pos+(Utf8.decode (s.extract 1 s.size) pos).2);have hsz2:w.heap.size≤(wr.iterAt (w+1) (s.extract 1 s.size) (pos+(Utf8.decode (s.extract 1 s.size) pos).2)).heap.size:=by rw [Lib.iterAt_size];omega
   by_cases hr:(Utf8.decode (s.extract 1 s.size) pos).1=39
   ·obtain ⟨hc,hk⟩:=Kj _ _ hp hr;rw [hc] at hgt;have hnx:=hnx0;rw [hr,hk] at hnx;rw [hk] at hI2 hit2 hbw2 hsz2;have hp2:=fM hit2;cases qq
    ·have HA2:=κ (sG HA.o hgt);clear hnx0 hr hk hgt hc HA;go_wp2
     go_roundw
     case rel=>exact ⟨pos+1,acc,true,rfl,hI2,hit2,hbw2,ac,ac,HA2⟩
     case measure=>rw [hp2,hpos0];omega
    ·have HA2:=κ (wU HA.o hgt);clear hnx0 hr hk hgt hc HA;go_wp2_with fail;refine (aKT w w _ 39 _ hI2 (by rw [Lib.byteCells_length];omega) hsz2).mono ?_;rintro e W1 ⟨rfl,g1,b1,k1⟩;have hit3:=k1.iter hit2 ac;have hp3:=fM hit3;have hbw3:=hbw2.trans b1;go_wp2
     go_roundw
     case rel=>exact ⟨pos+1,acc++[39],false,rfl,by rw [Lib.byteCells_append];exact g1,hit3,hbw3,ac,bl,HA2⟩
     case measure=>rw [hp3,hpos0];omega
   ·obtain ⟨hk1,hk2,hk3⟩:=Pw _ _ hp hr;have hc:=Kk _ _ hp hr;have hce:(((Utf8.decode (s.extract 1 s.size) pos).1:Int)==39)=false:=gf
    cases qq
    ·have HA2:=κ (uS HA.o (by simpa using hk1) hk3);have hdg:Lib.decodeGo (s.extract (1+pos) s.size)=Utf8.decode (s.extract 1 s.size) pos:=by
      rw [Pv,Lib.decodeGo_extract s (1+pos) ac]
     have hst:Hd0 (Lib.strCells (s.extract (1+pos) (1+pos+(Utf8.decode (s.extract 1 s.size) pos).2))=Lib.byteCells (((s.extract 1 s.size).data.toList.drop pos).take (Utf8.decode (s.extract 1 s.size) pos).2)):=by
      show _=_;rw [Lib.strCells_eq,Lib.extract_data,HSD.o,List.drop_drop]
      congr 2
      omega
     have hlt:(((s.extract 1 s.size).data.toList.drop pos).take (Utf8.decode (s.extract 1 s.size) pos).2).length≤(Utf8.decode (s.extract 1 s.size) pos).2:=List.length_take_le _ _;have HDG:=κ hdg;generalize ((s.extract 1 s.size).data.toList.drop pos).take (Utf8.decode (s.extract 1 s.size) pos).2=T at *;generalize (Utf8.decode (s.extract 1 s.size) pos)=ck at *;obtain ⟨c,k⟩:=ck;simp only at hk1 hk2 hlt hce hnx0 hI2 hit2 hbw2 hsz2;have hp2:=fM hit2;have hT2:=aQ hT hbw2;clear hdg hgt hc HA hk3 hr hI;have hD:=λW h=>fA (s.extract (1+pos) s.size) W h;rw [HDG.o] at hD;have HDC:=κ hD;have hxs:(s.extract (1+pos) (1+pos+k)).size=k:=by simp;simp at hk1;omega
     have HXS:=κ hxs;clear hD hxs;go_wp2_with fail;refine (HDC.o _ hT2).mono ?_;rintro e W1 ⟨rfl,b1⟩;have hI3:=hI2.below b1;have hit3:=aA hit2 b1;have hbw3:=hbw2.trans (b1.mono hsz2);have hsz3:=hbw3.size;clear hI2 b1;go_wp2_with fail;refine (aFM w w _ _ _ hI3 (by rw [Lib.byteCells_length,HXS.o];omega) hsz3).mono ?_;rintro e W2 ⟨rfl,g2,b2,k2⟩;rw [hst.o, <-Lib.byteCells_append] at g2;have hit4:=k2.iter hit3 ac;have hp4:=fM hit4;have hbw4:=hbw3.trans b2;have hal2:(acc++T).length≤pos+k:=by rw [List.length_append];omega
     clear hI3 hit3 hbw3 hit2 hbw2 hbw hit;go_wp2
     go_roundw
     case rel=>exact ⟨pos+k,acc++T,false,rfl,g2,hit4,hbw4,hk1,hal2,HA2⟩
     case measure=>rw [hp4,hpos0];omega
    ·have HA2:=κ (wV HA.o hgt hc);generalize (Utf8.decode (s.extract 1 s.size) pos).1=c at *;generalize (Utf8.decode (s.extract 1 s.size) pos).2=k at *;clear hgt hc HA hk3 hr hI;go_wp2_with fail;refine (Tryz.Builder_String_any_k w w acc _ hI2 hsz2).mono ?_;rintro e W1 ⟨rfl,_,b1,_⟩;go_wp2;go_ret2;exact rH HA2.o (hbw2.trans b1)
  ·have hnx:∀ ty,(Instr.next (.pointer (some ⟨w+1,0,none⟩)) true ty).run prog wr=_:=λty=>Lib.run_next_end_at wr (w+1) (s.extract 1 s.size) pos ty hit hp;cases qq
   ·have HA2:=κ (uT HA.o (by simp;simp at hp;omega));clear HA;go_wp2;go_ret2;exact zM HA2.o hbw
   ·have HA2:=κ (uU HA.o (by simp;simp at hp;omega));have hps:Hd0 ((s.size:Int)=(pos:Int)+1):=by show _=_;omega
    clear HA;go_wp2_with fail;refine (Tryz.Builder_String_any_k w w acc _ hI hsz0).mono ?_;rintro e W1 ⟨rfl,_,b1,_⟩;go_wp2;go_ret2;rw [hps.o];exact rH HA2.o (hbw.trans b1)
theorem Uq (c:UInt8):pC c=decide (0≤Lib.indexByte [40,41,44,59,42,43,45,47,37,61,60,62,46] c):=Lib.contains_iff_indexByte _ _
theorem Xu (h:s.size=1):s.data.toList=[s[0]' ac]:=by
 have:=kC s 0 ac;rw [List.drop_zero] at this;rw [this,List.drop_eq_nil_of_le bl]
theorem Hl (h:1<s.size):s.data.toList=s[0]' ac::s[1]'h::s.data.toList.drop 2:=by
 have h1:=kC s 0 ac;have h2:=kC s 1 h;rw [List.drop_zero] at h1;rw [h1,h2];rfl
theorem Rr (h:1<s.size):(s.extract 0 2).toList=[s[0]' ac,s[1]'h]:=by
 rw [ByteArray.toList_eq,Lib.extract_data,Hl h];rfl
theorem Lt (c d:UInt8) (x y:UInt8):([c,d]==[x,y])=(decide (c.toNat=x.toNat)&&decide (d.toNat=y.toNat)):=by
 rw [Bool.eq_iff_iff];simp [<-UInt8.toNat_inj]
theorem aHL (c d:UInt8):wM c d=(([c,d]==[60,61])||([c,d]==[62,61])||([c,d]==[60,62])):=by
 rw [Lt,Lt,Lt,Bool.eq_iff_iff];unfold wM;simp;omega
theorem gB {z:Int} (h:(n:Int)=z):Ending.returned (.int .i64 z)=.returned (.int .i64 (n:Int)):=ch
theorem Ft (s:ByteArray) (w:World) (h1:1≤s.size):Calls prog 118 #[s] w λe w'=>e=.returned (.int .i64 (cK s.data.toList:Nat))∧w=w':=by
 have hsg:=Uq (s[0]'h1)
 by_cases h2:1<s.size
 ·have hl:=Hl h2;have ht:=aHL (s[0]'h1) (s[1]'h2);rw [<-Rr h2] at ht;cases e1:(s.extract 0 2).toList==[60,61]
  ·cases e2:(s.extract 0 2).toList==[62,61]
   ·cases e3:(s.extract 0 2).toList==[60,62]
    ·rw [e1,e2,e3] at ht;cases hg:pC (s[0]'h1)
     ·rw [hg] at hsg;have hi:=gh
      have HF:=κ (show ((cK s.data.toList:Nat):Int)=0 by rw [hl];simp [cK,ht,hg]);clear hl ht hsg hg;go_enter func118,ntmps118;go_wp2_with (go_at_call 62;refine (Tryz.strings_IndexByte _ _ _).mono ?_;rintro e w' ⟨rfl,rfl⟩);go_ret;exact gj
     ·rw [hg] at hsg;have hi:=gl;have HF:=κ (show ((cK s.data.toList:Nat):Int)=1 by rw [hl];simp [cK,ht,hg]);clear hl ht hsg hg;go_enter func118,ntmps118;go_wp2_with (go_at_call 62;refine (Tryz.strings_IndexByte _ _ _).mono ?_;rintro e w' ⟨rfl,rfl⟩);go_ret;exact gj
    ·rw [e1,e2,e3] at ht;have HF:=gm;clear hl ht hsg;go_enter func118,ntmps118;go_wp2;go_ret;exact gj
   ·rw [e1,e2] at ht;have HF:=gm;clear hl ht hsg;go_enter func118,ntmps118;go_wp2;go_ret;exact gj
  ·rw [e1] at ht;have HF:=gm;clear hl ht hsg;go_enter func118,ntmps118;go_wp2;go_ret;exact gj
 ·have hl:=Xu (s:=s) ac;have h2':¬(1:Int)<(s.size:Int):=ac
  cases hg:pC (s[0]'h1)
  ·rw [hg] at hsg;have hi:=gh
   have HF:=κ (show ((cK s.data.toList:Nat):Int)=0 by rw [hl];simp [cK,hg]);clear hl hsg hg;go_enter func118,ntmps118;go_wp2_with (go_at_call 62;refine (Tryz.strings_IndexByte _ _ _).mono ?_;rintro e w' ⟨rfl,rfl⟩);go_ret;exact gj
  ·rw [hg] at hsg;have hi:=gl;have HF:=κ (show ((cK s.data.toList:Nat):Int)=1 by rw [hl];simp [cK,hg]);clear hl hsg hg;go_enter func118,ntmps118;go_wp2_with (go_at_call 62;refine (Tryz.strings_IndexByte _ _ _).mono ?_;rintro e w' ⟨rfl,rfl⟩);go_ret;exact gj
theorem Ff (n:Int) (ok:Bool) (w:World) :
 Calls prog 166 #[.int .i64 n,ok] w λe w'=>e=.returned (.tuple #[.int .i64 (tv ok n),.int .i64 (te ok)])∧w=w':=by
 cases ok
 ·go_enter func166,ntmps166;go_wp2;go_ret2;exact cm
 ·go_enter func166,ntmps166;go_wp2;go_ret2;exact cm
theorem On (a b:Int) (w:World) (ha:inR a) (hb:inR b) :
 Calls prog 153 #[.int .i64 a,.int .i64 b] w λe w'=>e=.returned (.tuple #[.int .i64 (val (a+b)),.int .i64 (err (a+b))])∧w=w':=by
 have e1:=aGJ (aBC a b ha hb) sA;have e2:=aGK (aBC a b ha hb);rw [<-e1, <-e2];clear e1 e2;go_enter func153,ntmps153;go_wp2_with (go_at_call 166;refine (Ff _ _ _).mono ?_;rintro e w' ⟨rfl,rfl⟩);go_ret2;exact cm
theorem Nt (a b:Int) (w:World) (ha:inR a) (hb:inR b) :
 Calls prog 152 #[.int .i64 a,.int .i64 b] w λe w'=>e=.returned (.tuple #[.int .i64 (val (a*b)),.int .i64 (err (a*b))])∧w=w':=by
 by_cases h0:a=0
 ·subst h0;rw [Int.zero_mul];go_enter func152,ntmps152;go_wp2;go_ret2;exact cm
 ·by_cases h1:b=0
  ·subst h1;rw [Int.mul_zero];go_enter func152,ntmps152;go_wp2;go_ret2;exact cm
  ·have e1:=aGJ (Xj a b ha hb h1) sA;have e2:=aGK (Xj a b ha hb h1);rw [<-e1, <-e2];clear e1 e2 ha hb;go_enter func152,ntmps152;go_wp2_with (go_at_call 166;refine (Ff _ _ _).mono ?_;rintro e w' ⟨rfl,rfl⟩)
   all_goals
    go_ret2
    simp_all [aLN]
theorem Xk (a b:Int) (w:World) (ha:inR a) (hb:inR b) (h:inR (a*b)) :
 Calls prog 152 #[.int .i64 a,.int .i64 b] w λe w'=>e=.returned (.tuple #[.int .i64 (a*b),.int .i64 0])∧w=w':=by
 have:=Nt a b w ha hb;rw [Cp h,Dz h] at this;exact ah
theorem aDT (a b:Int) (w:World) (ha:inR a) (hb:inR b) (h:¬inR (a*b)) :
 Calls prog 152 #[.int .i64 a,.int .i64 b] w λe w'=>e=.returned (.tuple #[.int .i64 0,.int .i64 9])∧w=w':=by
 have:=Nt a b w ha hb;rw [vQ h,wA h] at this;exact ah
theorem aJM (a b:Int) (w:World) (ha:inR a) (hb:inR b) (h:inR (a+b)) :
 Calls prog 153 #[.int .i64 a,.int .i64 b] w λe w'=>e=.returned (.tuple #[.int .i64 (a+b),.int .i64 0])∧w=w':=by
 have:=On a b w ha hb;rw [Cp h,Dz h] at this;exact ah
theorem aGB (a b:Int) (w:World) (ha:inR a) (hb:inR b) (h:¬inR (a+b)) :
 Calls prog 153 #[.int .i64 a,.int .i64 b] w λe w'=>e=.returned (.tuple #[.int .i64 0,.int .i64 9])∧w=w':=by
 have:=On a b w ha hb;rw [vQ h,wA h] at this;exact ah
def kZ (s:ByteArray) (w:World) (e:Ending) (w':World):Prop :=
 e=.returned (.tuple #[.int .i64 (kO s.data.toList),.int .i64 (mP s.data.toList)])∧Below w w w'
theorem oB (h:mN s.data.toList=false) (hb:Below w w w'):kZ s w (.returned (.tuple #[.int .i64 0,.int .i64 3])) w':=by
 rw [kZ,Bj h,uD h];exact fg
theorem Dg {m:Int} (h:mN s.data.toList=true) (hm:m=dvf 0 s.data.toList) (hin:inR m) (hb:Below w w w'):kZ s w (.returned (.tuple #[.int .i64 m,.int .i64 0])) w':=by
 subst hm;rw [kZ,nQ h,nR h,Cp hin,Dz hin];exact fg
theorem sM (h:mN s.data.toList=true) (hin:¬inR (dvf 0 s.data.toList)) (hb:Below w w w'):kZ s w (.returned (.tuple #[.int .i64 0,.int .i64 9])) w':=by
 rw [kZ,nQ h,nR h,vQ hin,wA hin];exact fg
theorem oE (h:w.heap[k]? = some (.stringIter s p)):w.iterPos k=p:=by simp [World.iterPos,h]
theorem Wl (s:ByteArray) (w:World) :
 Calls prog 114 #[s] w (kZ s w):=by
 go_enter func114,ntmps114;go_wp2
 go_loopw [6] (λ_ wr=>∃ pos:Nat,wr.heap[w.heap.size]? = some (.stringIter s pos)∧Below w w wr∧pos≤s.size∧Hd0 ((s.data.toList.take pos).all aI=true)) (λ_ wr=>s.size-wr.iterPos w)
 case atStart=>exact ⟨0,World.iter_heap w s 0,ρ,Nat.zero_le _,eh⟩
 case round =>
  obtain ⟨pos,hit,hbw,hle,HD⟩:=dd;have hpos0:=oE hit
  by_cases hp:pos<s.size
  ·have hnx0:=ez;cases hd:aI (s[pos]'hp)
   ·have hr:=Vm s pos hp hd;have hall:=Jf s pos hp hd;have hb2:=fa;generalize (Utf8.decode s pos).1=c at *;generalize (Utf8.decode s pos).2=k at *;have Hall:=κ hall;clear hall hd HD;rcases hr with hr|hr
    ·go_wp2;go_ret2;exact oB Hall.o hb2
    ·have hr2:¬c<48:=ac
     go_wp2;go_ret2;exact oB Hall.o hb2
   ·have hdec:=Fx s pos hp hd;have hbd:=iA hd;have HD2:=κ (Lp.iD s pos hp HD.o hd);have hnx:=hnx0;rw [hdec] at hnx;have hit2:=fd;have hb2:=fc;clear hnx0 hdec hd HD;generalize (s[pos]'hp).toNat=c at *;obtain ⟨hc1,hc2⟩:=hbd;have hc3:¬c<48:=ac
    have hc4:¬57<c:=ac
    have hp2:=oE hit2;go_wp2
    go_roundw
    case rel=>exact ⟨pos+1,hit2,hb2,ac,HD2⟩
    case measure=>rw [hp2,hpos0];omega
  ·have hnx:=fe;obtain rfl:pos=s.size:=ac
   have HA:=gq
   clear HD;obtain ⟨wo,rfl⟩:∃ wo:World,wo=wr:=cw
   by_cases h0:s.size=0
   ·have h0l:=gu;have Hall:=κ (show mN s.data.toList=false by rw [h0l];rfl);have h0e:s.toList.isEmpty=true:=by rw [ByteArray.toList_eq,h0l];rfl
    clear h0l;go_wp2;go_ret2;exact oB Hall.o hbw
   ·have h0e:s.toList.isEmpty=false:=by rw [ByteArray.toList_eq,List.isEmpty_eq_false_iff];intro h;exact h0 (by simpa using congrArg List.length h)
    have Hall:=κ (show mN s.data.toList=true by rw [ByteArray.toList_eq] at h0e;simp [mN,h0e];simpa using HA.o);have hlt:=(Array.getElem?_eq_some_iff.1 hit).1;clear hit hpos0;go_wp2;have hKw:w≤wo.heap.size:=ac
    have hstart:=World.iter_heap wo s 0;have hbstart:=hbw.alloc ac (.stringIter s 0);clear hnx
    go_loopw [4,8,9,10] (λn _ _ _ wr=>∃ (pos:Nat) (m:Int),n=.int .i64 m∧Hd0 (m=dvf 0 (s.data.toList.take pos))∧Hd0 (inR m)∧wr.heap[wo.heap.size]? = some (.stringIter s pos)∧Below w w wr∧pos≤s.size) (λ_ _ _ _ wr=>s.size-wr.iterPos wo)
    case atStart=>exact ⟨0,0,rfl,rfl,by show inR 0;decide,hstart,hbstart,Nat.zero_le _⟩
    case round =>
     clear hstart hbstart h0e hbw hp;obtain ⟨pos,m,rfl,Hm,Hin,hit,hbw,hle⟩:=dd;have hpos0:=oE hit
     by_cases hp:pos<s.size
     ·have hd:=aAY s pos hp HA.o;have hdec:=Fx s pos hp hd;have hbd:=iA hd;have hnx:∀ ty,(Instr.next (.pointer (some ⟨wo,0,none⟩)) true ty).run prog wr=_:=λty=>Lib.run_next_any_at wr wo s pos ty hit hp;rw [hdec] at hnx;have hit2:=Lib.iterAt_heap wr wo s pos (pos+1) hit;have hb2:=Lib.below_iterAt hbw (k:=wo) hKw s (pos+1);have Hm2:Hd0 (m*10+(((s[pos]'hp).toNat:Int)-48)=dvf 0 (s.data.toList.take (pos+1))):=by
       show _=_;rw [iV s pos hp,yT, <-Hm.o]
      have Hge:Hd0 (¬inR m->¬inR (dvf 0 s.data.toList)):=λh=>Lc s pos HA.o (by rw [<-Hm.o];exact h);have Hge2:Hd0 (¬inR (m*10+(((s[pos]'hp).toNat:Int)-48))->¬inR (dvf 0 s.data.toList)):=λh=>Lc s (pos+1) HA.o (by rw [<-Hm2.o];exact h);have Hnn:Hd0 (0≤m):=by
       show 0≤m;rw [Hm.o];exact jZ (by have:=HA.o;rw [List.all_eq_true] at *;intro x hx;exact this x (List.mem_of_mem_take hx))
      clear hdec hd Hm;generalize (s[pos]'hp).toNat=c at *;obtain ⟨hc1,hc2⟩:=hbd;have hc3:inR ((c:Int)-48):=⟨ac,ac⟩;have hp2:=oE hit2
      by_cases h1:inR (m*10)
      ·by_cases h2:inR (m*10+((c:Int)-48))
       ·go_wp2_with (first|(go_at_call 152;refine (Xk _ _ _ Hin.o am h1).mono ?_;rintro e w' ⟨rfl,rfl⟩)|(go_at_call 153;refine (aJM _ _ _ h1 hc3 h2).mono ?_;rintro e w' ⟨rfl,rfl⟩))
        go_roundw
        case rel=>exact ⟨pos+1,_,rfl,Hm2,κ h2,hit2,hb2,ac⟩
        case measure=>rw [hp2,hpos0];omega
       ·have Hout:=κ (Hge2.o h2);go_wp2_with (first|(go_at_call 152;refine (Xk _ _ _ Hin.o am h1).mono ?_;rintro e w' ⟨rfl,rfl⟩)|(go_at_call 153;refine (aGB _ _ _ h1 hc3 h2).mono ?_;rintro e w' ⟨rfl,rfl⟩));go_ret2;exact sM Hall.o Hout.o hb2
      ·have Hout:=κ (Hge2.o (λh=>h1 (by have:=Hnn.o;unfold inR at *;omega)));go_wp2_with (first|(go_at_call 152;refine (aDT _ _ _ Hin.o am h1).mono ?_;rintro e w' ⟨rfl,rfl⟩));go_ret2;exact sM Hall.o Hout.o hb2
     ·have hnx:∀ ty,(Instr.next (.pointer (some ⟨wo,0,none⟩)) true ty).run prog wr=_:=λty=>Lib.run_next_end_at wr wo s pos ty hit hp;have Hm2:Hd0 (m=dvf 0 s.data.toList):=by
       show _=_;obtain rfl:pos=s.size:=ac
       have:=Hm.o;rw [kM] at this;exact ah
      clear Hm;go_wp2;go_ret2;exact Dg Hall.o Hm2.o Hin.o hbw
theorem aEC (c:UInt8) (h:c.toNat<128):(if 0≤oS (c.toNat:Int) then Lib.encodeRune (oS (c.toNat:Int)) else [])=[jI c]:=by
 have h0:0≤oS (c.toNat:Int):=by unfold oS;split<;>omega
 have h1:oS (c.toNat:Int)≤127:=by unfold oS;split<;>omega
 rw [if_pos h0];unfold Lib.encodeRune;rw [Lib.encodeRuneZ_one h0 h1];simp only [List.map_cons,List.map_nil,List.cons.injEq,and_true];apply UInt8.toNat_inj.1;unfold oS jI
 by_cases g:65≤c.toNat∧c.toNat≤90
 ·rw [if_pos ac,if_pos g];have e:((c.toNat:Int)+32).toNat=c.toNat+32:=ac
  rw [e];simp [Nat.toUInt8,UInt8.toNat_add]
 ·rw [if_neg ac,if_neg g];simp [Nat.toUInt8]
theorem Hh:∀ (l:ZS),(∀ c∈l,c.toNat<128)->Lib.mapD oS l=l.map jI
 | [],_=>rfl
 | c::l,h=>by
   have hc:=h c aa;rw [Lib.mapD_step _ _ aa,Lib.decodeL_ascii c l hc];show (if 0≤oS (c.toNat:Int) then Lib.encodeRune (oS (c.toNat:Int)) else [])++Lib.mapD oS ((c::l).drop 1)=_;rw [aEC c hc];have:=Hh l (λd hd=>h d (by simp [hd]));rw [show (c::l).drop 1=l from rfl,this];rfl
theorem zQ {p:UInt8->Bool} (h:c∈l.takeWhile p):p c=true:=by
 induction l with
 | nil=>cases h
 | cons d l ih =>
   rw [List.takeWhile_cons] at h;cases hd:p d
   ·rw [hd] at h;cases h
   ·rw [hd,if_pos rfl] at h;rcases List.mem_cons.1 h with rfl|h
    ·exact hd
    ·exact ih h
theorem lU {p:UInt8->Bool} (l:ZS):l.take (l.takeWhile p).length=l.takeWhile p:=by
 induction l with
 | nil=>rfl
 | cons d l ih =>
   rw [List.takeWhile_cons];cases hd:p d
   ·rfl
   ·simp [ih]
theorem aDY (s:ByteArray) (w:World) (hs:s.size≤1000000000) (hl:∀ c∈s.data.toList,c.toNat<128) (hT:eQ w) :
 Calls prog 112 #[.func (.func 113) #[] #[],s] w λe w'=>e=.returned (.string ⟨(s.data.toList.map jI).toArray⟩)∧Below w w w':=by
 rw [<-Hh _ hl];refine Tryz.strings_Map_grows 113 #[] (enters_of func113 aj rfl) oS s w ac ?_ ?_ hT
 ·intro W x hx _;refine (Pg (x:Int) W ac ac).mono ?_;rintro e w' ⟨rfl,rfl⟩;exact ⟨rfl,θ⟩
 ·intro x hx;unfold oS;split<;>omega
theorem lL {r:ZS} (hl:s.data.toList=c::r):∃ k,Lib.decodeGo s=((Utf8.decode s 0).1,k)∧(c.toNat<128->(Utf8.decode s 0).1=c.toNat)∧(128≤c.toNat->128≤(Utf8.decode s 0).1):=by
 have hz:0<s.size:=by
  have:=congrArg List.length hl;rw [Array.length_toList] at this;show 0<s.data.size;rw [this];simp
 have hc:s[0]'hz=c:=by
  have:=jK s 0 hz;rw [hl] at this
  simpa using this.symm
 refine ⟨(Utf8.decode s 0).2, ?_, ?_, ?_⟩
 ·unfold Lib.decodeGo;rw [if_neg ac]
 ·intro h;rw [decode_ascii s 0 hz (by rw [hc];exact h),hc]
 ·intro h;exact (decode_high s 0 hz (by rw [hc];exact h)).1
def eX (l:ZS) (w:World) (e:Ending) (w':World):Prop :=
 e=.returned (.tuple #[.agg #[.int .u8 (bE l).1.k,.string ⟨(bE l).1.s.toArray⟩,.int .i64 (bE l).1.n],.int .i64 ((bE l).2.1:Nat),.int .i64 (bE l).2.2])∧Below w w w'
theorem jH {k n:Int} {s:ZS} {m:Nat} (h:bE l=(⟨k,s,n⟩,m,E)) (hb:Below w w w') :
 eX l w (.returned (.tuple #[.agg #[.int .u8 k,s,.int .i64 n],(m:Int),.int .i64 E])) w':=by
 unfold eX;rw [h];exact fg
theorem gO {r:Nat} (h1:c.toNat<128->r=c.toNat) (h2:128≤c.toNat->128≤r):vK (r:Int)=gP c∧rF (r:Int)=aI c∧(((r:Int)==39)=decide (c=39)):=by
 by_cases h:c.toNat<128
 ·rw [h1 h];refine ⟨fS c,eU c, ?_⟩;rw [Bool.eq_iff_iff,beq_iff_eq,decide_eq_true_iff, <-UInt8.toNat_inj];show _↔c.toNat=39;omega
 ·have h3:=h2 ac;have e1:vK (c.toNat:Int)=false:=Dv ac;have e2:rF (c.toNat:Int)=false:=wC ac;refine ⟨?_, ?_, ?_⟩
  ·rw [Dv ac, <-fS,e1]
  ·rw [wC ac, <-eU,e2]
  ·rw [Bool.eq_iff_iff,beq_iff_eq,decide_eq_true_iff, <-UInt8.toNat_inj];show _↔c.toNat=39;omega
theorem Qs (s:ByteArray) (c:UInt8) (r:ZS) (hl:s.data.toList=c::r) (w:World) (hs:s.size≤1000000000) (hc:gP c=true) (hT:eQ w) :
 Calls prog 63 #[s] w (eX (c::r) w):=by
 have HN:=κ (gC r hc);have hb0:=ie;have hx0:=ic;have hT0:=ib;obtain ⟨kd,hd,hd1,hd2⟩:=lL hl;obtain ⟨f1,_,_⟩:=ia;generalize (Utf8.decode s 0).1=rn at *;have cD:=gy;rw [hd] at cD;have CD:=κ cD;have cL:=gw;rw [f1,hc] at cL;unfold aW at cL;have CL:=κ cL;have cW:=λW=>Jl s W;have hle:(s.data.toList.takeWhile cB).length≤s.size:=by
  have:=gH cB s.data.toList;rw [Array.length_toList] at this;exact ah
 have htk:(s.extract 0 (s.data.toList.takeWhile cB).length).data.toList=s.data.toList.takeWhile cB:=by
  rw [Lib.extract_data,List.drop_zero];simp only [Nat.sub_zero];exact lU _
 have hsm:∀ d∈(s.extract 0 (s.data.toList.takeWhile cB).length).data.toList,d.toNat<128:=by
  rw [htk];intro d hd;exact wE (zQ hd)
 have hxz:(s.extract 0 (s.data.toList.takeWhile cB).length).size≤1000000000:=by
  have e:(s.extract 0 (s.data.toList.takeWhile cB).length).size=(s.extract 0 (s.data.toList.takeWhile cB).length).data.toList.length:=ig
  rw [e,htk];omega
 have cM:=λW hW=>aDY (s.extract 0 (s.data.toList.takeWhile cB).length) W hxz hsm hW;rw [htk,hl] at cM;rw [hl] at cW hle;have CW:=κ cW;have CM:=κ cM;clear hd hd1 hd2 f1 hc hl cD cL cW cM htk hsm hT hxz;generalize ((c::r).takeWhile cB).length=m at *;go_enter func63,ntmps63;go_wp2_with fail;refine (CD.o _ hT0).mono ?_;rintro e w1 ⟨rfl,b1⟩;have x1:=im;have k1:=il;have hT1:=ik;clear hx0 hb0 b1 hT0;go_wp2_with fail;refine (CL.o _).mono ?_;rintro e w' ⟨rfl,rfl⟩;go_wp2_with fail;refine (CW.o _).mono ?_;rintro e w2 ⟨rfl,b2⟩;have x2:=aA x1 b2;have k2:=k1.trans (b2.mono k1.size);have hT2:=aQ hT1 b2;clear x1 k1 b2 hT1;go_wp2_with fail;refine (CM.o _ hT2).mono ?_;rintro e w3 ⟨rfl,b3⟩;have x3:=aA x2 b3;have k3:=ij;have c3:=β x3;have f3:=λj=>frozen_of_row w3 w j _ _ x3;clear x2 k2 b3 hT2;go_wp2;have hbE:=((k3.setCell (p:=⟨w,0,none⟩) (ν _) (.int .u8 1)).setCell (p:=⟨w,1,none⟩) (ν _) (.string ⟨(((c::r).takeWhile cB).map jI).toArray⟩)).setCell (p:=⟨w,2,none⟩) (ν _) (.int .i64 0);exact bodyPost_ret (v:=.tuple #[.agg #[.int .u8 1,.string ⟨(((c::r).takeWhile cB).map jI).toArray⟩,.int .i64 0],(m:Int),.int .i64 0]) ii rfl (jH HN.o hbE)
theorem jF (h:s.data.toList=l):s.size=l.length:=by rw [<-h,Array.length_toList];rfl
theorem fK (T:ZS):cG 2 0 T false=(decide (T.length≤60)&&aR T):=by
 unfold cG;simp [ByteArray.size]
theorem sE (h:aR t=false):lD (some (t,n))=(⟨0,[],0⟩,0,4):=by simp only [lD,h];rfl
theorem rN (h:aR t=true) (h2:¬t.length≤60):lD (some (t,n))=(⟨0,[],0⟩,0,2):=by simp only [lD,h,h2,if_true,if_false];rfl
theorem rO (h:aR t=true) (h2:t.length≤60):lD (some (t,n))=(⟨3,t,0⟩,n+1,0):=by simp only [lD,h,h2,if_true]
theorem Gc (k i:Int) (s:ByteArray) (b r:Bool) (hr:cG k i s b=r) (w:World) (hs:s.size≤9223372036854775807) (hT:eQ w) :
 Calls prog 117 #[.agg #[.int .u8 k,.int .i64 i,s,b]] w λe w'=>e=.returned (.bool r)∧Below w w w':=by
 subst hr;exact Qe k i s b w hs hT
theorem Xd (s:ByteArray) (c:UInt8) (r:ZS) (hl:s.data.toList=c::r) (w:World) (_:s.size≤1000000000) (hc:gP c=false) (hi:aI c=true) (hT:eQ w) :
 Calls prog 63 #[s] w (eX (c::r) w):=by
 have HN:=κ (iY r hc hi);have hb0:=ie;have hx0:=ic;have hT0:=ib;obtain ⟨kd,hd,hd1,hd2⟩:=lL hl;obtain ⟨f1,f2,f3⟩:=ia;generalize (Utf8.decode s 0).1=rn at *;have cD:=gy;rw [hd] at cD;have CD:=κ cD;have cL:=gw;rw [f1,hc] at cL;unfold aW at cL;have CL:=κ cL;have cI:=ip;rw [f2,hi] at cI;unfold aW at cI;have CI:=κ cI;clear hd hd1 hd2 f1 f2 cD cL cI;have cW:=λW=>Ov s W;have hle:(s.data.toList.takeWhile aI).length≤s.size:=by
  have:=gH aI s.data.toList;rw [Array.length_toList] at this;exact ah
 have htk:(s.extract 0 (s.data.toList.takeWhile aI).length).data.toList=s.data.toList.takeWhile aI:=by
  rw [Lib.extract_data,List.drop_zero];simp only [Nat.sub_zero];exact lU _
 have cR:=λW=>Wl (s.extract 0 (s.data.toList.takeWhile aI).length) W;unfold kZ at cR;rw [htk,hl] at cR;rw [hl] at cW hle;have CW:=κ cW;have CR:=κ cR;clear hc hi hl cW cR htk hT f3;generalize ((c::r).takeWhile aI).length=m at *;go_enter func63,ntmps63;go_wp2_with fail;refine (CD.o _ hT0).mono ?_;rintro e w1 ⟨rfl,b1⟩;have x1:=im;have k1:=il;have hT1:=ik;clear hx0 hb0 b1 hT0;go_wp2_with fail;refine (CL.o _).mono ?_;rintro e w' ⟨rfl,rfl⟩;go_wp2_with fail;refine (CI.o _).mono ?_;rintro e w' ⟨rfl,rfl⟩;go_wp2_with fail;refine (CW.o _).mono ?_;rintro e w2 ⟨rfl,b2⟩;have x2:=aA x1 b2;have k2:=k1.trans (b2.mono k1.size);clear x1 k1 b2 hT1;go_wp2_with fail;refine (CR.o _).mono ?_;rintro e w3 ⟨rfl,b3⟩;have x3:=aA x2 b3;have k3:=ij;have c3:=β x3;have f3:=λj=>frozen_of_row w3 w j _ _ x3;clear x2 k2 b3;go_wp2;have hbE:=((k3.setCell (p:=⟨w,0,none⟩) (ν _) (.int .u8 2)).setCell (p:=⟨w,1,none⟩) (ν _) (.string ⟨#[]⟩)).setCell (p:=⟨w,2,none⟩) (ν _) (.int .i64 (kO ((c::r).takeWhile aI)));exact bodyPost_ret (v:=.tuple #[.agg #[.int .u8 2,(),.int .i64 (kO ((c::r).takeWhile aI))],(m:Int),.int .i64 (mP ((c::r).takeWhile aI))]) ii rfl (jH HN.o hbE)
theorem Hb (s:ByteArray) (c:UInt8) (r:ZS) (hl:s.data.toList=c::r) (w:World) (_:s.size≤1000000000) (hc:gP c=false) (hi:aI c=false) (h39:c≠39) (hg:cK (c::r)=0) (hT:eQ w) :
 Calls prog 63 #[s] w (eX (c::r) w):=by
 have HN:=κ ((gD r hc hi h39).trans (if_pos hg));have hb0:=ie;have hx0:=ic;have hT0:=ib;obtain ⟨kd,hd,hd1,hd2⟩:=lL hl;obtain ⟨f1,f2,f3⟩:=ia;generalize (Utf8.decode s 0).1=rn at *;have cD:=gy;rw [hd] at cD;have CD:=κ cD;have cL:=gw;rw [f1,hc] at cL;unfold aW at cL;have CL:=κ cL;have cI:=ip;rw [f2,hi] at cI;unfold aW at cI;have CI:=κ cI;clear hd hd1 hd2 f1 f2 cD cL cI;rw [decide_eq_false h39] at f3;have hz:=jF hl;have hz1:=iq
 have hle:cK (c::r)≤s.size:=by rw [hz];exact pD _
 have cS:=λW=>Ft s W hz1;rw [hl] at cS;rw [hg] at cS;have CS:=κ cS;clear hc hi h39 hg hl cS hT hz hle;go_enter func63,ntmps63;go_wp2_with fail;refine (CD.o _ hT0).mono ?_;rintro e w1 ⟨rfl,b1⟩;have x1:=im;have k1:=il;have hT1:=ik;clear hx0 hb0 b1 hT0;go_wp2_with fail;refine (CL.o _).mono ?_;rintro e w' ⟨rfl,rfl⟩;go_wp2_with fail;refine (CI.o _).mono ?_;rintro e w' ⟨rfl,rfl⟩;go_wp2_with fail;refine (CS.o _).mono ?_;rintro e w' ⟨rfl,rfl⟩;have c3:=β x1;have f4:=λj=>frozen_of_row w1 w j _ _ x1;clear hT1;go_wp2;have hbE:=((k1.setCell (p:=⟨w,0,none⟩) (ν _) (.int .u8 0)).setCell (p:=⟨w,1,none⟩) (ν _) (.string ⟨#[]⟩)).setCell (p:=⟨w,2,none⟩) (ν _) (.int .i64 0);exact bodyPost_ret (v:=.tuple #[.agg #[.int .u8 0,(),.int .i64 0],.int .i64 (0),.int .i64 (4)]) ii rfl (jH HN.o hbE)
theorem Qt (s:ByteArray) (c:UInt8) (r:ZS) (hl:s.data.toList=c::r) (w:World) (_:s.size≤1000000000) (hc:gP c=false) (hi:aI c=false) (h39:c≠39) (hg:cK (c::r)≠0) (hT:eQ w) :
 Calls prog 63 #[s] w (eX (c::r) w):=by
 have HN:=κ ((gD r hc hi h39).trans (if_neg hg));have hb0:=ie;have hx0:=ic;have hT0:=ib;obtain ⟨kd,hd,hd1,hd2⟩:=lL hl;obtain ⟨f1,f2,f3⟩:=ia;generalize (Utf8.decode s 0).1=rn at *;have cD:=gy;rw [hd] at cD;have CD:=κ cD;have cL:=gw;rw [f1,hc] at cL;unfold aW at cL;have CL:=κ cL;have cI:=ip;rw [f2,hi] at cI;unfold aW at cI;have CI:=κ cI;clear hd hd1 hd2 f1 f2 cD cL cI;rw [decide_eq_false h39] at f3;have hz:=jF hl;have hz1:=iq
 have hle:cK (c::r)≤s.size:=by rw [hz];exact pD _
 have cS:=λW=>Ft s W hz1;rw [hl] at cS;have CS:=κ cS;have HX:Hd0 (s.extract 0 (cK (c::r))=⟨((c::r).take (cK (c::r))).toArray⟩):=by
  show _=_;apply ByteArray.ext;apply Array.ext';rw [Lib.extract_data,List.drop_zero,Nat.sub_zero,hl]
 have hge:(((cK (c::r):Nat):Int)==0)=false:=gf
 clear hc hi h39 hg hl cS hT hz;generalize cK (c::r)=m at *;go_enter func63,ntmps63;go_wp2_with fail;refine (CD.o _ hT0).mono ?_;rintro e w1 ⟨rfl,b1⟩;have x1:=im;have k1:=il;have hT1:=ik;clear hx0 hb0 b1 hT0;go_wp2_with fail;refine (CL.o _).mono ?_;rintro e w' ⟨rfl,rfl⟩;go_wp2_with fail;refine (CI.o _).mono ?_;rintro e w' ⟨rfl,rfl⟩;go_wp2_with fail;refine (CS.o _).mono ?_;rintro e w' ⟨rfl,rfl⟩;have c3:=β x1;have f4:=λj=>frozen_of_row w1 w j _ _ x1;clear hT1;go_wp2;rw [HX.o];have hbE:=((k1.setCell (p:=⟨w,0,none⟩) (ν _) (.int .u8 4)).setCell (p:=⟨w,1,none⟩) (ν _) (.string ⟨((c::r).take m).toArray⟩)).setCell (p:=⟨w,2,none⟩) (ν _) (.int .i64 0);exact bodyPost_ret (v:=.tuple #[.agg #[.int .u8 4,.string ⟨((c::r).take m).toArray⟩,.int .i64 0],(m:Int),.int .i64 (0)]) ii rfl (jH HN.o hbE)
theorem xR (s:ByteArray) (r:ZS) (hl:s.data.toList=39::r) (w:World) (hs:s.size≤1000000000) (ht:txt r=none) (hT:eQ w) :
 Calls prog 63 #[s] w (eX (39::r) w):=by
 have HN:Hd0 (bE (39::r)=(⟨0,[],0⟩,0,4)):=by show _=_;rw [dE,ht];rfl
 have hc:=iu;have hi:=ir;have hb0:=ie;have hx0:=ic;have hT0:=ib;obtain ⟨kd,hd,hd1,hd2⟩:=lL hl;obtain ⟨f1,f2,f3⟩:=ia;generalize (Utf8.decode s 0).1=rn at *;have cD:=gy;rw [hd] at cD;have CD:=κ cD;have cL:=gw;rw [f1,hc] at cL;unfold aW at cL;have CL:=κ cL;have cI:=ip;rw [f2,hi] at cI;unfold aW at cI;have CI:=κ cI;clear hd hd1 hd2 f1 f2 cD cL cI;rw [decide_eq_true rfl] at f3;have hz:=jF hl;have hz1:=iq
 have cS:=iv;rw [hl] at cS;unfold iF at cS;rw [show (39::r).drop 1=r from rfl,ht] at cS;have CS:Hd0 (∀ W,eQ W->Calls prog 115 #[s] W λe w'=>e=.returned (.tuple #[(),.int .i64 0])∧Below W.heap.size W w'):=κ cS;clear hc hi ht hl cS hT hz hs;go_enter func63,ntmps63;go_wp2_with fail;refine (CD.o _ hT0).mono ?_;rintro e w1 ⟨rfl,b1⟩;have x1:=im;have k1:=il;have hT1:=ik;clear hx0 hb0 b1 hT0;go_wp2_with fail;refine (CL.o _).mono ?_;rintro e w' ⟨rfl,rfl⟩;go_wp2_with fail;refine (CI.o _).mono ?_;rintro e w' ⟨rfl,rfl⟩;go_wp2_with fail;refine (CS.o _ hT1).mono ?_;rintro e w2 ⟨rfl,b2⟩;have x2:=aB (aA x1 b2) (.cells #[.int .u8 2,.int .i64 0,(),false] 58);have k2:=(k1.trans (b2.mono k1.size)).alloc (Nat.le_trans k1.size b2.size) (.cells #[.int .u8 2,.int .i64 0,(),false] 58);have v2:=heap_alloc_new w2 (.cells #[.int .u8 2,.int .i64 0,(),false] 58);have hT2:=dP (aQ hT1 b2) (.cells #[.int .u8 2,.int .i64 0,(),false] 58);clear x1 k1 b2 hT1;have c9:=β x2;have f9:=λj=>frozen_of_row _ w j _ _ x2;clear hT2 v2;go_wp2;have hbE:=((k2.setCell (p:=⟨w,0,none⟩) (ν _) (.int .u8 0)).setCell (p:=⟨w,1,none⟩) (ν _) (.string ⟨#[]⟩)).setCell (p:=⟨w,2,none⟩) (ν _) (.int .i64 0)
 exact iw
theorem zY (s:ByteArray) (r:ZS) (hl:s.data.toList=39::r) (w:World) (hs:s.size≤1000000000) (t:ZS) (n:Nat) (ht:txt r=some (t,n)) (hv:Lib.validD t=false) (hT:eQ w) :
 Calls prog 63 #[s] w (eX (39::r) w):=by
 have HN:Hd0 (bE (39::r)=(⟨0,[],0⟩,0,4)):=by show _=_;rw [dE,ht];exact sE (by unfold aR;rw [hv];rfl)
 have hc:=iu;have hi:=ir;have hb0:=ie;have hx0:=ic;have hT0:=ib;obtain ⟨kd,hd,hd1,hd2⟩:=lL hl;obtain ⟨f1,f2,f3⟩:=ia;generalize (Utf8.decode s 0).1=rn at *;have cD:=gy;rw [hd] at cD;have CD:=κ cD;have cL:=gw;rw [f1,hc] at cL;unfold aW at cL;have CL:=κ cL;have cI:=ip;rw [f2,hi] at cI;unfold aW at cI;have CI:=κ cI;clear hd hd1 hd2 f1 f2 cD cL cI;rw [decide_eq_true rfl] at f3;have hz:=jF hl;have hz1:=iq
 have cS:=iv;rw [hl] at cS;unfold iF at cS;rw [show (39::r).drop 1=r from rfl,ht] at cS;have CS:=iz;have hne:=iy
 have htn:=jb;simp only [List.length_cons] at hz;have htl:=ja
 have hn0:=jc
 have cV:=ji;rw [show (t:ByteArray).data.toList=t from rfl,hv] at cV;have CV:=κ cV;clear hc hi ht hl cS hT hz hs hv cV htn;go_enter func63,ntmps63;go_wp2_with fail;refine (CD.o _ hT0).mono ?_;rintro e w1 ⟨rfl,b1⟩;have x1:=im;have k1:=il;have hT1:=ik;clear hx0 hb0 b1 hT0;go_wp2_with fail;refine (CL.o _).mono ?_;rintro e w' ⟨rfl,rfl⟩;go_wp2_with fail;refine (CI.o _).mono ?_;rintro e w' ⟨rfl,rfl⟩;go_wp2_with fail;refine (CS.o _ hT1).mono ?_;rintro e w2 ⟨rfl,b2⟩;have x2:=jh;have k2:=jg;have v2:=jf;have hT2:=je;clear x1 k1 b2 hT1;go_wp2_with fail;refine (CV.o _ hT2).mono ?_;rintro e w3 ⟨rfl,b3⟩;have x3:=aA x2 b3;have k3:=ij;have v3:=aA v2 b3;have hT3:=aQ hT2 b3;clear x2 k2 b3 hT2 v2;have c9:=β x3;have f9:=λj=>frozen_of_row _ w j _ _ x3;go_wp2;have hbE:=jd
 exact iw
theorem xQ (s:ByteArray) (r:ZS) (hl:s.data.toList=39::r) (w:World) (hs:s.size≤1000000000) (t:ZS) (n:Nat) (ht:txt r=some (t,n)) (hv:Lib.validD t=true) (hz0:t.contains 0=true) (hT:eQ w) :
 Calls prog 63 #[s] w (eX (39::r) w):=by
 have HN:Hd0 (bE (39::r)=(⟨0,[],0⟩,0,4)):=by show _=_;rw [dE,ht];exact sE jj
 have hc:=iu;have hi:=ir;have hb0:=ie;have hx0:=ic;have hT0:=ib;obtain ⟨kd,hd,hd1,hd2⟩:=lL hl;obtain ⟨f1,f2,f3⟩:=ia;generalize (Utf8.decode s 0).1=rn at *;have cD:=gy;rw [hd] at cD;have CD:=κ cD;have cL:=gw;rw [f1,hc] at cL;unfold aW at cL;have CL:=κ cL;have cI:=ip;rw [f2,hi] at cI;unfold aW at cI;have CI:=κ cI;clear hd hd1 hd2 f1 f2 cD cL cI;rw [decide_eq_true rfl] at f3;have hz:=jF hl;have hz1:=iq
 have cS:=iv;rw [hl] at cS;unfold iF at cS;rw [show (39::r).drop 1=r from rfl,ht] at cS;have CS:=iz;have hne:=iy
 have htn:=jb;simp only [List.length_cons] at hz;have htl:=ja
 have hn0:=jc
 have cV:=ji;rw [show (t:ByteArray).data.toList=t from rfl,hv] at cV;have CV:=κ cV;have CX:=κ (λW=>tB t W hz0);clear hc hi ht hl cS hT hz hs hv cV htn hz0;go_enter func63,ntmps63;go_wp2_with fail;refine (CD.o _ hT0).mono ?_;rintro e w1 ⟨rfl,b1⟩;have x1:=im;have k1:=il;have hT1:=ik;clear hx0 hb0 b1 hT0;go_wp2_with fail;refine (CL.o _).mono ?_;rintro e w' ⟨rfl,rfl⟩;go_wp2_with fail;refine (CI.o _).mono ?_;rintro e w' ⟨rfl,rfl⟩;go_wp2_with fail;refine (CS.o _ hT1).mono ?_;rintro e w2 ⟨rfl,b2⟩;have x2:=jh;have k2:=jg;have v2:=jf;have hT2:=je;clear x1 k1 b2 hT1;go_wp2_with fail;refine (CV.o _ hT2).mono ?_;rintro e w3 ⟨rfl,b3⟩;have x3:=aA x2 b3;have k3:=ij;have v3:=aA v2 b3;have hT3:=aQ hT2 b3;clear x2 k2 b3 hT2 v2;go_wp2_with fail;refine (CX.o _).mono ?_;rintro e w' ⟨⟨n9,rfl⟩,rfl⟩;have c9:=β x3;have f9:=λj=>frozen_of_row _ w j _ _ x3;go_wp2
 have hbE:=jd;exact iw
theorem xS (s:ByteArray) (r:ZS) (hl:s.data.toList=39::r) (w:World) (hs:s.size≤1000000000) (t:ZS) (n:Nat) (ht:txt r=some (t,n)) (hv:Lib.validD t=true) (hz0:t.contains 0=false) (h60:¬t.length≤60) (hT:eQ w) :
 Calls prog 63 #[s] w (eX (39::r) w):=by
 have HN:Hd0 (bE (39::r)=(⟨0,[],0⟩,0,2)):=by show _=_;rw [dE,ht];exact rN jj h60
 have hc:=iu;have hi:=ir;have hb0:=ie;have hx0:=ic;have hT0:=ib;obtain ⟨kd,hd,hd1,hd2⟩:=lL hl;obtain ⟨f1,f2,f3⟩:=ia;generalize (Utf8.decode s 0).1=rn at *;have cD:=gy;rw [hd] at cD;have CD:=κ cD;have cL:=gw;rw [f1,hc] at cL;unfold aW at cL;have CL:=κ cL;have cI:=ip;rw [f2,hi] at cI;unfold aW at cI;have CI:=κ cI;clear hd hd1 hd2 f1 f2 cD cL cI;rw [decide_eq_true rfl] at f3;have hz:=jF hl;have hz1:=iq
 have cS:=iv;rw [hl] at cS;unfold iF at cS;rw [show (39::r).drop 1=r from rfl,ht] at cS;have CS:=iz;have hne:=iy
 have htn:=jb;simp only [List.length_cons] at hz;have htl:=ja
 have hn0:=jc
 have cV:=ji;rw [show (t:ByteArray).data.toList=t from rfl,hv] at cV;have CV:=κ cV;have CX:=κ (λW=>uI t W hz0);have hR:cG 2 0 t false=false:=by rw [fK,show aR t=true by unfold aR;rw [hv,hz0];rfl,Bool.and_true];exact decide_eq_false h60
 have CR:=κ (λW h=>Gc 2 0 t false _ hR W htl h);clear hc hi ht hl cS hT hz hs hv cV htn hz0 h60 hR;go_enter func63,ntmps63;go_wp2_with fail;refine (CD.o _ hT0).mono ?_;rintro e w1 ⟨rfl,b1⟩;have x1:=im;have k1:=il;have hT1:=ik;clear hx0 hb0 b1 hT0;go_wp2_with fail;refine (CL.o _).mono ?_;rintro e w' ⟨rfl,rfl⟩;go_wp2_with fail;refine (CI.o _).mono ?_;rintro e w' ⟨rfl,rfl⟩;go_wp2_with fail;refine (CS.o _ hT1).mono ?_;rintro e w2 ⟨rfl,b2⟩;have x2:=jh;have k2:=jg;have v2:=jf;have hT2:=je;clear x1 k1 b2 hT1;go_wp2_with fail;refine (CV.o _ hT2).mono ?_;rintro e w3 ⟨rfl,b3⟩;have x3:=aA x2 b3;have k3:=ij;have v3:=aA v2 b3;have hT3:=aQ hT2 b3;clear x2 k2 b3 hT2 v2;have cv3:=β v3;go_wp2_with fail;refine (CX.o _).mono ?_;rintro e w' ⟨rfl,rfl⟩;go_wp2_with fail;refine (CR.o _ hT3).mono ?_;rintro e w4 ⟨rfl,b4⟩;have x4:=aA x3 b4;have k4:=k3.trans (b4.mono k3.size);clear x3 k3 b4 hT3 v3 cv3;have c9:=β x4;have f9:=λj=>frozen_of_row _ w j _ _ x4;go_wp2
 have hbE:=((k4.setCell (p:=⟨w,0,none⟩) (ν _) (.int .u8 0)).setCell (p:=⟨w,1,none⟩) (ν _) (.string ⟨#[]⟩)).setCell (p:=⟨w,2,none⟩) (ν _) (.int .i64 0);exact bodyPost_ret (v:=.tuple #[.agg #[.int .u8 0,(),.int .i64 0],.int .i64 (0),.int .i64 (2)]) jk rfl (jH HN.o hbE)
theorem xT (s:ByteArray) (r:ZS) (hl:s.data.toList=39::r) (w:World) (hs:s.size≤1000000000) (t:ZS) (n:Nat) (ht:txt r=some (t,n)) (hv:Lib.validD t=true) (hz0:t.contains 0=false) (h60:t.length≤60) (hT:eQ w) :
 Calls prog 63 #[s] w (eX (39::r) w):=by
 have HN:Hd0 (bE (39::r)=(⟨3,t,0⟩,n+1,0)):=by show _=_;rw [dE,ht];exact rO jj h60
 have hc:=iu;have hi:=ir;have hb0:=ie;have hx0:=ic;have hT0:=ib;obtain ⟨kd,hd,hd1,hd2⟩:=lL hl;obtain ⟨f1,f2,f3⟩:=ia;generalize (Utf8.decode s 0).1=rn at *;have cD:=gy;rw [hd] at cD;have CD:=κ cD;have cL:=gw;rw [f1,hc] at cL;unfold aW at cL;have CL:=κ cL;have cI:=ip;rw [f2,hi] at cI;unfold aW at cI;have CI:=κ cI;clear hd hd1 hd2 f1 f2 cD cL cI;rw [decide_eq_true rfl] at f3;have hz:=jF hl;have hz1:=iq
 have cS:=iv;rw [hl] at cS;unfold iF at cS;rw [show (39::r).drop 1=r from rfl,ht] at cS;have CS:=iz;have hne:=iy
 have htn:=jb;simp only [List.length_cons] at hz;have htl:=ja
 have hn0:=jc
 have cV:=ji;rw [show (t:ByteArray).data.toList=t from rfl,hv] at cV;have CV:=κ cV;have CX:=κ (λW=>uI t W hz0);have hR:cG 2 0 t false=true:=by rw [fK,show aR t=true by unfold aR;rw [hv,hz0];rfl,Bool.and_true];exact decide_eq_true h60
 have CR:=κ (λW h=>Gc 2 0 t false _ hR W htl h);clear hc hi ht hl cS hT hz hs hv cV htn hz0 h60 hR;go_enter func63,ntmps63;go_wp2_with fail;refine (CD.o _ hT0).mono ?_;rintro e w1 ⟨rfl,b1⟩;have x1:=im;have k1:=il;have hT1:=ik;clear hx0 hb0 b1 hT0;go_wp2_with fail;refine (CL.o _).mono ?_;rintro e w' ⟨rfl,rfl⟩;go_wp2_with fail;refine (CI.o _).mono ?_;rintro e w' ⟨rfl,rfl⟩;go_wp2_with fail;refine (CS.o _ hT1).mono ?_;rintro e w2 ⟨rfl,b2⟩;have x2:=jh;have k2:=jg;have v2:=jf;have hT2:=je;clear x1 k1 b2 hT1;go_wp2_with fail;refine (CV.o _ hT2).mono ?_;rintro e w3 ⟨rfl,b3⟩;have x3:=aA x2 b3;have k3:=ij;have v3:=aA v2 b3;have hT3:=aQ hT2 b3;clear x2 k2 b3 hT2 v2;have cv3:=β v3;go_wp2_with fail;refine (CX.o _).mono ?_;rintro e w' ⟨rfl,rfl⟩;go_wp2_with fail;refine (CR.o _ hT3).mono ?_;rintro e w4 ⟨rfl,b4⟩;have x4:=aA x3 b4;have k4:=k3.trans (b4.mono k3.size);clear x3 k3 b4 hT3 v3 cv3;have c9:=β x4;have f9:=λj=>frozen_of_row _ w j _ _ x4;go_wp2
 have hbE:=((k4.setCell (p:=⟨w,0,none⟩) (ν _) (.int .u8 3)).setCell (p:=⟨w,1,none⟩) (ν _) (.string t)).setCell (p:=⟨w,2,none⟩) (ν _) (.int .i64 0);exact bodyPost_ret (v:=.tuple #[.agg #[.int .u8 3,t,.int .i64 0],.int .i64 ((n+1:Nat)),.int .i64 (0)]) jk rfl (jH HN.o hbE)
theorem Xe (s:ByteArray) (c:UInt8) (r:ZS) (hl:s.data.toList=c::r) (w:World) (hs:s.size≤1000000000) (hT:eQ w) :
 Calls prog 63 #[s] w (eX (c::r) w):=by
 cases hc:gP c
 ·cases hi:aI c
  ·by_cases h39:c=39
   ·subst h39;cases ht:txt r with
    | none=>exact xR s r hl w hs ht hT
    | some p =>
      obtain ⟨t,n⟩:=p;cases hv:Lib.validD t
      ·exact zY s r hl w hs t n ht hv hT
      ·cases hz:t.contains 0
       ·by_cases h60:t.length≤60
        ·exact xT s r hl w hs t n ht hv hz h60 hT
        ·exact xS s r hl w hs t n ht hv hz h60 hT
       ·exact xQ s r hl w hs t n ht hv hz hT
   ·by_cases hg:cK (c::r)=0
    ·exact Hb s c r hl w hs hc hi h39 hg hT
    ·exact Qt s c r hl w hs hc hi h39 hg hT
  ·exact Xd s c r hl w hs hc hi hT
 ·exact Qs s c r hl w hs hc hT
theorem aN {v:Value} (h:w.ownsRow B e size v n xs) (hb:Below w w w'):w'.ownsRow B e size v n xs:=by
 have hg:w.grownBy w' none:=⟨hb.os,hb.tape,hb.output,hb.size,λi hi _=>hb.block i hi⟩;refine h.kept hg ?_;cases hv:v.ownBlock
 ·exact ab
 ·exact .inr aa
theorem Np {c:Nat} {A:ZT} (h:w.ownsRow B e size (.slice A n c) n xs):n≤c:=by
 obtain ⟨A',c',hv,h1⟩:=sP h;injection hv with _ _ hc;omega
theorem wQ (l m:ZW):tkv (l++m)=tkv l++tkv m:=by simp [tkv]
theorem aBS:(prog.info? 160).map (λi=>(i.zero,i.size,i.bytes))=some (some (.agg #[.int .u8 0,(),.int .i64 0]),3,32):=aj
theorem Vn:(prog.info? 173).map (λi=>(i.zero,i.size,i.bytes))=some (some (.agg #[.int .u8 0,(),.int .i64 0]),3,32):=aj
theorem Si (c:UInt8):eP c=decide (0≤Lib.indexByte [32,9,10,13] c):=by
 rw [<-Lib.contains_iff_indexByte,Bool.eq_iff_iff,List.contains_iff_mem];unfold eP;simp [<-UInt8.toNat_inj];omega
def kK (t:TypeId) (w:World) (p:ZW×Int) (e:Ending) (w':World):Prop :=
 Below w w w'∧∃ A c,e=.returned (.tuple #[.slice A p.1.length c,.int .i64 p.2])∧p.1.length≤c∧w'.ownsRow w t 3 (.slice A p.1.length c) p.1.length (tkv p.1)
theorem dK {t:TypeId} {p:ZW×Int} (hp:p=([],E)) (hb:Below w w w'):kK t w p (.returned (.tuple #[.slice none 0 0,.int .i64 E])) w':=by
 subst hp;exact ⟨hb,none,0,rfl,ν _,World.ownsRow_nil _ _ _ _⟩
theorem yA (s:ByteArray) (w:World) (hT:eQ w) (hs0:s.size≤9223372036854775807) :
 Calls prog 27 #[s] w (kK 160 w (eL s.data.toList)):=by
 have hsz:=bz
 by_cases hlong:2000<s.size
 ·have HF:=jl;have h2:(2000:Int)<(s.size:Int):=ac
  clear hsz;go_enter func27,ntmps27;go_wp2;go_ret2;exact dK HF.o (θ)
 ·have HF:=jm;have h2:¬(2000:Int)<(s.size:Int):=ac
  obtain ⟨iT,hiT,hz0,hz1,hz2⟩:=info_parts aBS;clear hsz;go_enter func27,ntmps27;go_wp2_with fail
  go_loopg [0,4,5,6,7] (s.size+1) (λgk s0 s4 _ _ _ wr=>∃ (B:ByteArray) (L:ZW) (A:ZT) (c:Nat),s0=.string B∧gk=B.size+1∧B.size≤2000∧s4=.slice A L.length c∧wr.ownsRow w 160 3 (.slice A L.length c) L.length (tkv L)∧L.length+B.size≤2000∧Hd0 (eL s.data.toList=dN L B.data.toList)∧Below w w wr)
  case atStart=>exact ⟨s,[],none,0,rfl,rfl,ac,rfl,World.ownsRow_nil _ _ _ _,bl,HF.o,θ⟩
  case round =>
   clear HF;obtain ⟨B,L,A,c,rfl,rfl,hB,rfl,hown,hLB,HR,hbw⟩:=dd;have hsz:=hbw.size;have hTr:=aQ hT hbw;rcases hl:B.data.toList with _|⟨x,r⟩
   ·have hB0:B.size=0:=jF hl;have h0e:B.toList.isEmpty=true:=by rw [ByteArray.toList_eq,hl];rfl
    have HF:Hd0 (eL s.data.toList=(L,0)):=by show _=_;rw [HR.o,hl,kN]
    clear HR hl hB0;go_wp2;go_ret2;show kK _ _ _ _ _;rw [HF.o];exact ⟨hbw,A,c,rfl,Np hown,hown⟩
   ·have hB1:B.size=r.length+1:=jF hl;have h0e:B.toList.isEmpty=false:=by rw [ByteArray.toList_eq,hl];rfl
    have hb1:1≤B.size:=ac
    have hx:B[0]'hb1=x:=by
     have:=jK B 0 hb1;rw [hl] at this
     simpa using this.symm
    have hbi:=Si x;cases hbl:eP x
    ·rw [hbl] at hbi;have hi:Lib.indexByte [32,9,10,13] x<0:=by have:=of_decide_eq_false hbi.symm;omega
     have hN:=λW h=>Xe B x r hl W ac h;have HE:Hd0 (∀ n,(B.extract n B.size).data.toList=(x::r).drop n):=by
      intro n;rw [Lib.extract_data,List.take_of_length_le aa,hl]
     have HEZ:Hd0 (∀ n,(B.extract n B.size).size=(r.length+1)-n):=λn=>by
      have:=jF (HE.o n);rw [this,List.length_drop,List.length_cons]
     by_cases h0:(bE (x::r)).2.2=0
     ·have HR2:Hd0 (eL s.data.toList=dN (L++[(bE (x::r)).1]) ((x::r).drop (bE (x::r)).2.1)):=by show _=_;rw [HR.o,hl,dM _ hbl h0]
      have hn:=mV h0;have e0:((bE (x::r)).2.2==0)=true:=by rw [h0];rfl
      unfold eX at hN;generalize bE (x::r)=T at *;obtain ⟨⟨tk,ts,tn⟩,n,E⟩:=T;simp only at hN h0 hn HR2 e0;obtain ⟨hn1,hn2⟩:=hn;have HN:=κ hN;have HB1:=κ hB1;have HBS:Hd0 (r.length+1=B.size):=hB1.symm;have hnB:(n:Int)≤(B.size:Int):=ac
      have hn0:(0:Int)≤(n:Int):=ac
      clear hl hbi hbl HR hB1 hN h0;go_wp2_with fail;refine (Tryz.strings_IndexByte _ _ _).mono ?_;rintro e w' ⟨rfl,rfl⟩;go_wp2_with fail;refine (HN.o _ hTr).mono ?_;rintro e w1 ⟨rfl,b1⟩;have hrel_own:=aN hown b1;have hown1:=aN hrel_own ((θ).alloc (ν _) (.cells #[.int .u8 tk,ts,.int .i64 tn] 160));have hbw1:=(hbw.trans (b1.mono hsz)).alloc (Nat.le_trans hsz b1.size) (.cells #[.int .u8 tk,ts,.int .i64 tn] 160);have hx1:=heap_alloc_new w1 (.cells #[.int .u8 tk,ts,.int .i64 tn] 160);have hcx:=β hx1;have hZ1:=hbw1.size;have HZ:Hd0 (w≤w1.heap.size):=Nat.le_trans hsz b1.size;clear hown hbw b1;have HNE:Hd0 (some w1.heap.size≠Value.ownBlock (.slice A L.length c)):=κ (fW (w:=w1) (by
       refine aN (hrel_own) ?_;exact θ) (ν _))
      go_wp2_with fail
      go_region_held3 (λw'=>w'.cell? ⟨w1,0,none⟩=some (.int .u8 tk)∧w'.cell? ⟨w1,1,none⟩=some (.string ts)∧w'.cell? ⟨w1,2,none⟩=some (.int .i64 tn))
       (first|go_keep|exact ⟨hx4 0,hx4 1,hx4 2⟩)
       ((refine bL _ rfl (.tmp 28) (.tmp 30) _ rfl w.heap.size 160 iT _ 3 32 underlying93 hiT hz0 hz1 hz2 rfl (by decide) _ _ _ (tkv L) rfl ?_ _ 1 1 (tkv [(⟨tk,ts,tn⟩:Tok)]) rfl rfl ?_ ?_ ?_ ?_ ?_ ?_
         ·exact (aN hown1 (by repeat (first|exact θ|apply Below.drew|refine Below.alloc ?_ aa _)))
         ·(first|exact aS (tkv [(⟨tk,ts,tn⟩:Tok)]) (bG w1 _ _)|exact pJ (aS (tkv [(⟨tk,ts,tn⟩:Tok)]) (bG w1 _ _)))
         ·simp [Value.oneCell',tkv,Tok.cells]
         ·simp only [maxLen];omega
         ·omega
         ·have:=HZ.o;simp;omega
         intro A4 c4 w4 hown4 hb4 hg4 hk4;have hx4:=β (hk4 w1 _ (aA hx1 (by repeat (first|exact θ|apply Below.drew|refine Below.alloc ?_ aa _))) HNE.o).1))
      all_goals
       have hb14:Below w (w1.alloc (.cells #[.int .u8 tk,ts,.int .i64 tn] 160)) w4:=Below.trans (by repeat (first|exact θ|apply Below.drew|refine Below.alloc ?_ (by have:=HZ.o;simp;omega) _)) hb4;have hbw4:=hbw1.trans hb14;have hown5:w4.ownsRow w 160 3 (.slice A4 (L++[(⟨tk,ts,tn⟩:Tok)]).length c4) (L++[(⟨tk,ts,tn⟩:Tok)]).length (tkv (L++[(⟨tk,ts,tn⟩:Tok)])):=by
        rw [wQ,List.length_append];exact hown4
       clear hown4 hb4 hg4 hk4 hown1 hbw1 hb14 hx4;go_wp2
       go_roundg ((B.extract n B.size).size+1)
       case measure=>rw [HEZ.o,HB1.o];omega
       case rel=>exact ⟨B.extract n B.size,L++[(⟨tk,ts,tn⟩:Tok)],A4,c4,rfl,rfl,by rw [HEZ.o];have:=HB1.o;omega,aa,hown5,by rw [HEZ.o];have:=HB1.o;simp;omega,by rw [HE.o];exact HR2,hbw4⟩
     ·have HF:Hd0 (eL s.data.toList=([],(bE (x::r)).2.2)):=by show _=_;rw [HR.o,hl,eB _ hbl h0]
      have e0:((bE (x::r)).2.2==0)=false:=η h0;unfold eX at hN;generalize bE (x::r)=T at *;obtain ⟨⟨tk,ts,tn⟩,n,E⟩:=T;simp only at hN h0 HF e0;have HN:=κ hN;clear hl hbi hbl HR hB1 hN h0;go_wp2_with fail;refine (Tryz.strings_IndexByte _ _ _).mono ?_;rintro e w' ⟨rfl,rfl⟩;go_wp2_with fail;refine (HN.o _ hTr).mono ?_;rintro e w1 ⟨rfl,b1⟩;go_wp2;go_ret2;exact dK HF.o ((hbw.trans (b1.mono hsz)).alloc (Nat.le_trans hsz b1.size) _)
    ·rw [hbl] at hbi;have hi:0≤Lib.indexByte [32,9,10,13] x:=of_decide_eq_true hbi.symm;have HE:Hd0 ((B.extract 1 B.size).data.toList=r):=by show _=_;rw [Lib.extract_data,List.take_of_length_le aa,hl];rfl
     have hez:(B.extract 1 B.size).size=r.length:=jF HE.o;have HR2:Hd0 (eL s.data.toList=dN L (B.extract 1 B.size).data.toList):=by show _=_;rw [HR.o,HE.o,hl,eY _ _ hbl]
     have HEZ:=κ hez;have HB1:=κ hB1;clear hl hbi hbl HR hez hB1;go_wp2_with fail;refine (Tryz.strings_IndexByte _ _ _).mono ?_;rintro e w' ⟨rfl,rfl⟩;go_wp2
     go_roundg (r.length+1)
     case measure=>rw [HB1.o];omega
     case rel=>exact ⟨B.extract 1 B.size,L,A,c,rfl,by rw [HEZ.o],by rw [HEZ.o, <-Nat.add_sub_cancel (n:=r.length) (m:=1), <-HB1.o];omega,rfl,hown,by rw [HEZ.o];have:=HB1.o;omega,HR2,hbw⟩
