/-
 Contracts. Conditions: those of each.
-/
import Derived.Test.YtkolcimllghnaaaGreatDoorQbGB
import Derived.Lib.Strings
import Derived.WalkSmall
import Derived.Lib.LaidU8
import Derived.Lib.LaidTab
import Derived.Test.YtkolcimllghnaaaGreatDoorQbShelf
import Derived.Lib.AppendIntMem
import Derived.Deep.LoopGhost
set_option maxRecDepth 100000
set_option maxHeartbeats 8000000
namespace Go.Proofs.YtkolcimllghnaaaGreatDoor.Lp
open Go.RowKit
end Go.Proofs.YtkolcimllghnaaaGreatDoor.Lp

namespace Go.Proofs.YtkolcimllghnaaaGreatDoor
open Go.Proofs.Tryz
open Go.RowKit
theorem Md (x:Int) (w:World):(Instr.typeAssert (.iface 2 (.int .i64 x)) 20 2 true).run prog w=.ok (.tuple #[.int .i64 x,.bool true]) w:=by kernel_rfl
theorem Lz (x:ByteArray) (w:World):(Instr.typeAssert (.iface 9 (.string x)) 20 2 true).run prog w=.ok (.tuple #[.int .i64 0,.bool false]) w:=by kernel_rfl
theorem Ly (x:ByteArray) (w:World):(Instr.typeAssert (.iface 9 (.string x)) 20 9 true).run prog w=.ok (.tuple #[.string x,.bool true]) w:=by kernel_rfl
theorem Mf (x:Bool) (w:World):(Instr.typeAssert (.iface 4 (.bool x)) 20 2 true).run prog w=.ok (.tuple #[.int .i64 0,.bool false]) w:=by kernel_rfl
theorem Me (x:Bool) (w:World):(Instr.typeAssert (.iface 4 (.bool x)) 20 9 true).run prog w=.ok (.tuple #[.string ⟨#[]⟩,.bool false]) w:=by kernel_rfl
theorem Mg (x:Bool) (w:World):(Instr.typeAssert (.iface 4 (.bool x)) 20 4 true).run prog w=.ok (.tuple #[.bool x,.bool true]) w:=by kernel_rfl
theorem Mb  (w:World):(Instr.typeAssert (.nilIface) 20 2 true).run prog w=.ok (.tuple #[.int .i64 0,.bool false]) w:=by kernel_rfl
theorem Ma  (w:World):(Instr.typeAssert (.nilIface) 20 9 true).run prog w=.ok (.tuple #[.string ⟨#[]⟩,.bool false]) w:=by kernel_rfl
theorem Mc  (w:World):(Instr.typeAssert (.nilIface) 20 4 true).run prog w=.ok (.tuple #[.bool false,.bool false]) w:=by kernel_rfl
end Go.Proofs.YtkolcimllghnaaaGreatDoor

namespace Go.Proofs.YtkolcimllghnaaaGreatDoor
open Lp Go.Proofs.Tryz
open Go.RowKit Go.Lib
def Pow (w:World):Prop:=Lib.TabIs prog w "internal/strconv.uint64pow10" .u64 Lib.pow10Tab
theorem qQ {w w':World} (h:Pow w) (hb:Below w.heap.size w w'):Pow w':=by
 have hg:prog.globalNamed "internal/strconv.uint64pow10" = some 5:=by kernel_rfl
 refine var?_below hb hg ?_ h
 unfold Pow Lib.TabIs World.var? at h
 simp only [hg,Option.bind_some] at h
 by_cases hlt:5<w.heap.size
 ·exact hlt
 ·rw [Array.getElem?_eq_none (by omega)] at h;cases h
theorem It {W:World} (h:Lib.VarReads prog W "internal/strconv.uint64pow10" (Lib.tabData .u64 Lib.pow10Tab)):Pow W:=by
 obtain ⟨g,t,cs,fuel,p,hg,hty,hvar,hd⟩:=h
 obtain rfl:=Option.some.inj ((show prog.globalNamed "internal/strconv.uint64pow10" = some 5 by kernel_rfl).symm.trans hg)
 obtain rfl:=Option.some.inj ((show (prog.globals[5]?).map (·.type)=some 302 by kernel_rfl).symm.trans hty)
 unfold Pow Lib.TabIs
 rw [hvar, ←Lib.cells_of_tab underlying302 underlying189 (by kernel_rfl) (by kernel_rfl) hd]
def Rq:DataW Unit→List Value
 | .lit (.int k z)=>[.int k z]
 | _=>[]
def aAO:DataW Unit→List Value
 | .agg l=>l.flatMap Rq
 | d=>Rq d
def Cx:DataW Unit→List Value
 | .agg l=>l.flatMap aAO
 | d=>Rq d
theorem Vl (n:Int) (w:World) (h:inR n) (hP:Pow w) :
 Calls prog 160 #[.int .i64 n,.int .i64 10] w fun e w'=>e=.returned (.string ⟨(Lib.itoa n).toArray⟩)∧Below w.heap.size w w':=by
 unfold inR at h
 refine (Tryz.strconv_FormatInt_10 n (by omega) (by omega) w hP).mono ?_
 rintro e w' ⟨he,k,os,hw⟩
 subst hw
 exact ⟨he,Lib.below_grow _ _ (ν _) _ _⟩
theorem Rr (n:Int) (w:World) (h:inR n) (hP:Pow w) :
 Calls prog 138 #[.int .i64 n] w fun e w'=>e=.returned (.string ⟨(Lib.itoa n).toArray⟩)∧Below w.heap.size w w':=by
 go_enter func138,ntmps138
 go_wp2_with fail
 refine (Vl n w h hP).mono ?_
 rintro e w' ⟨rfl,hb⟩
 go_wp2
 go_ret
 exact ⟨rfl,hb⟩
theorem Ie (n:Int) (w:World) (h:inR n) :
 Calls prog 93 #[.int .i64 n] w fun e w'=>e=.returned (.int .u64 (mag n))∧w=w':=by
 obtain ⟨h1,h2⟩:=h
 by_cases hn:n<0
 ·rw [Ux hn]
  go_enter func93,ntmps93
  go_wp2
  go_ret
  exact ⟨rfl,rfl⟩
 ·rw [Uw hn]
  have hn':0≤n:=by omega
  go_enter func93,ntmps93
  go_wp2
  go_ret
  exact ⟨rfl,rfl⟩
theorem Ka (d:Nat) (h:d<10) (T:List UInt8):(⟨#[48,49,50,51,52,53,54,55,56,57]⟩:ByteArray).extract d (d+1)++(⟨T.toArray⟩:ByteArray)=⟨(Fi d::T).toArray⟩:=by
 have e:(⟨#[48,49,50,51,52,53,54,55,56,57]⟩:ByteArray).extract d (d+1)=⟨#[Fi d]⟩:=by
  rcases (show d=0∨d=1∨d=2∨d=3∨d=4∨d=5∨d=6∨d=7∨d=8∨d=9 by omega) with rfl|rfl|rfl|rfl|rfl|rfl|rfl|rfl|rfl|rfl<;>rfl
 rw [e]
 apply ByteArray.ext
 simp
theorem Br (T:List UInt8):(⟨#[45]⟩:ByteArray)++(⟨T.toArray⟩:ByteArray)=⟨(45::T).toArray⟩:=by
 apply ByteArray.ext
 simp
theorem Kb {M k:Nat} (h:M<10 ^ (20-k)) (hk:k≤20) (hM:0<M):M / 10<10 ^ (20-(k+1))∧k+1≤20:=by
 have hk2:k<20:=by
  apply Nat.lt_of_le_of_ne hk
  intro e;subst e;simp at h;omega
 have e:20-k=(20-(k+1))+1:=by omega
 rw [e,Nat.pow_succ] at h
 exact ⟨by omega,hk2⟩
theorem Bb (n:Int) (w:World) (h:inR n) :
 Calls prog 42 #[.int .i64 n] w fun e w'=>e=.returned (.string ⟨(Lib.itoa n).toArray⟩)∧w=w':=by
 have hm:=Uy n
 have hml:=Pf h
 have hsz:=Ie n w h
 rw [hm] at hsz hml
 obtain ⟨U,hU⟩:∃ U,n.natAbs=U:=⟨_,rfl⟩
 rw [hU] at hsz hml
 have HU:=κ hU
 have HS:=κ hsz
 clear hm hU hsz
 go_enter func42,ntmps42
 go_wp2_with fail
 refine (HS.out).mono ?_
 rintro e w' ⟨rfl,rfl⟩
 go_wp2_with fail
 go_loopg [3,4] (U+1) (fun gk s3 s4 wr=>∃ (T:List UInt8) (M:Nat),w=wr∧s3=.string ⟨T.toArray⟩∧s4=.int .u64 (M:Int)∧M≤9223372036854775808∧T.length≤20∧Hid (M<10 ^ (20-T.length))∧Hid (vI U T M)∧Hid (gk=M+(if T=[] then 1 else 0)))
 case atStart=>exact ⟨[],U,rfl,rfl,rfl,by omega,by simp,by (show _<_;simp;omega),Jz U,by rfl⟩
 case round =>
  obtain ⟨T,M,rfl,rfl,rfl,hM,hTl,HB,HD,HG⟩:=hrel
  have hd0:(0:Int)≤(M:Int) % 10:=by omega
  have hd1:(M:Int) % 10+1≤10:=by omega
  have hd2:((M:Int) % 10).toNat=M % 10:=by omega
  have hd3:((M:Int) % 10+1).toNat=M % 10+1:=by omega
  have hp:=Ka (M % 10) (by omega) T
  by_cases hM0:0<M
  ·have HD2:=κ (Cq HD.out (.inl hM0))
   obtain ⟨hb1,hb2⟩:=Kb HB.out hTl hM0
   have HB2:Hid (M / 10<10 ^ (20-(Fi (M % 10)::T).length)):=by show _<_;rw [List.length_cons];exact hb1
   have hlt:Hid (M / 10+0<gk):=by
    show _<_
    rw [HG.out];split<;>omega
   have hM1:(0:Int)<(M:Int):=by omega
   clear HG HD HB hb1
   go_wp2
   go_roundg (M / 10)
   case measure=>have:=hlt.out;omega
   case rel=>exact ⟨Fi (M % 10)::T,M / 10,rfl,rfl,rfl,by omega,by rw [List.length_cons];exact hb2,HB2,HD2,by show _=_;simp⟩
  ·obtain rfl:M=0:=by omega
   by_cases hT:T=[]
   ·subst hT
    have HD2:=κ (Cq HD.out (.inr rfl))
    have hp0:(⟨#[48,49,50,51,52,53,54,55,56,57]⟩:ByteArray).extract 0 1++(⟨#[]⟩:ByteArray)=⟨#[48]⟩:=rfl
    have hg:Hid (gk=1):=by have:=HG.out;show _=_;simpa using this
    clear HG HD hp
    go_wp2
    go_roundg 0
    case measure=>have:=hg.out;omega
    case rel=>exact ⟨[48],0,rfl,rfl,rfl,by omega,by simp,by (show _<_;simp),HD2,by show _=_;simp⟩
   ·have HE:=κ (Vr HD.out hT)
    have e1:(⟨T.toArray⟩:ByteArray).toList=T:=by rw [ByteArray.toList_eq]
    have hmp:=Br T
    have e2:T.isEmpty=false:=by cases T with|nil=>exact absurd rfl hT|cons=>rfl
    clear HG HD hT hp
    by_cases hn:n<0
    ·have HF:Hid ((⟨(45::T).toArray⟩:ByteArray)=⟨(Lib.itoa n).toArray⟩):=by
      show _=_
      rw [Lib.itoa,if_pos hn,HU.out,HE.out]
     go_wp2
     go_ret
     exact ⟨by rw [←HF.out];rfl,rfl⟩
    ·have HF:Hid ((⟨T.toArray⟩:ByteArray)=⟨(Lib.itoa n).toArray⟩):=by
      show _=_
      rw [Lib.itoa,if_neg hn,show n.toNat=n.natAbs by omega,HU.out,HE.out]
     go_wp2
     go_ret
     exact ⟨by rw [←HF.out];rfl,rfl⟩
