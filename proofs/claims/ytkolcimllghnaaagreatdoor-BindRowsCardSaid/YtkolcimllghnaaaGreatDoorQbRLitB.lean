/-
 Contracts. Conditions: those of each.
-/
import Derived.Test.YtkolcimllghnaaaGreatDoorQbGV
set_option maxRecDepth 100000
set_option maxHeartbeats 8000000
namespace Go.Proofs.YtkolcimllghnaaaGreatDoor
open Lp Go.Proofs.Tryz
open Go.RowKit
theorem Oe {s:ByteArray} {k:Nat} (h:k<s.size):quo (s.data.toList.take (k+1))=quo (s.data.toList.take k)++(if s[k]'h=39 then [39,39] else [s[k]'h]):=by
 rw [gI s k h,Od]
theorem yI (s:ByteArray) (k:Nat):(quo (s.data.toList.take k)).length≤2*s.size:=by
 rw [yJ]
 have h1:=List.count_le_length (a:=(39:UInt8)) (l:=s.data.toList.take k)
 have h2:(s.data.toList.take k).length≤s.size:=by
  rw [List.length_take]
  have:s.data.toList.length=s.size:=by rw [Array.length_toList];rfl
  omega
 omega
theorem Hb (T:List UInt8):(⟨T.toArray⟩:ByteArray)++(⟨#[39]⟩:ByteArray)=⟨(T++[39]).toArray⟩:=vD T [39]
theorem Ns (k i:Int) (s:ByteArray) (b:Bool) (w:World) (hi:inR i) (hs:s.size≤1000000) :
 Calls prog 92 #[.agg #[.int .u8 k,.int .i64 i,.string s,.bool b]] w fun e w'=>e=.returned (.string ⟨(Lp.lit ⟨k,i,s,b⟩).toArray⟩)∧Below w.heap.size w w':=by
 have hb0:Below w.heap.size w (w.alloc (.cells #[.int .u8 k,.int .i64 i,.string s,.bool b] 58)):=ρ
 rcases Py k with rfl|rfl|rfl|hk
 ·have e:Lp.lit ⟨1,i,s,b⟩=Lib.itoa i:=rfl
  rw [e];clear e
  have HI:=κ hi
  clear hi
  go_enter func92,ntmps92
  go_wp2_with fail
  refine (Bb _ _ HI.out).mono ?_
  rintro e w' ⟨rfl,rfl⟩
  go_wp2
  go_ret
  exact ⟨rfl,hb0⟩
 ·have e:(⟨(Lp.lit ⟨2,i,s,b⟩).toArray⟩:ByteArray)=⟨(([39]++quo s.data.toList)++[39]).toArray⟩:=rfl
  rw [e];clear e
  obtain ⟨R,hR⟩:∃ R:ByteArray,(⟨(([39]++quo s.data.toList)++[39]).toArray⟩:ByteArray)=R:=⟨_,rfl⟩
  rw [hR]
  have HR:=κ hR
  clear hR
  go_enter func92,ntmps92
  go_wp2_with fail
  go_loop [3,4] (fun s3 s4=>∃ (k:Nat) (T:List UInt8),k≤s.size∧s4=.int .i64 k∧s3=.string ⟨T.toArray⟩∧Hid ([39]++quo (s.data.toList.take k)=T)∧T.length≤2*s.size+1) (fun _ s4=>s.size-(intOf s4).toNat)
  case atStart=>exact ⟨0,[39],Nat.zero_le _,rfl,rfl,rfl,by simp⟩
  case round =>
   obtain ⟨k,T,hk,rfl,rfl,HT,hTl⟩:=hrel
   by_cases hlt:k<s.size
   ·have hN:=Oe hlt
    have hTl2:=yI s (k+1)
    have hca:=Zo T s k hlt
    by_cases hq:s[k]'hlt=39
    ·have hc:(s[k]'hlt).toNat=39:=by rw [hq];rfl
     have HT2:Hid ([39]++quo (s.data.toList.take (k+1))=T++[s[k]'hlt,39]):=by
      show _=_
      rw [hN,if_pos hq, ←HT.out,hq];simp
     have hl2:(T++[s[k]'hlt,39]).length≤2*s.size+1:=by
      rw [←HT2.out];simp;omega
     have hl1:T.length+1+1≤2*s.size+1:=by simpa using hl2
     have hc1:=Hb (T++[s[k]'hlt])
     have h0:(0:Int)≤(k:Int):=by omega
     have h1:(k:Int)<(s.size:Int):=by omega
     have HQ:=κ hq
     clear hq hN hTl2 HT
     go_wp2
     go_round
     case rel=>exact ⟨k+1,_,by omega,by go_num,rfl,HT2,hl2⟩
     case measure=>simp [intOf];omega
    ·have hc:(((s[k]'hlt).toNat:Int)==39)=false:=by
      rw [beq_eq_false_iff_ne];intro g;exact hq (UInt8.toNat_inj.1 (by show _=39;omega))
     have HT2:Hid ([39]++quo (s.data.toList.take (k+1))=T++[s[k]'hlt]):=by
      show _=_
      rw [hN,if_neg hq, ←HT.out];simp
     have hl2:(T++[s[k]'hlt]).length≤2*s.size+1:=by
      rw [←HT2.out];simp;omega
     have hl1:T.length+1≤2*s.size+1:=by simpa using hl2
     have HQ:=κ hq
     clear hq hN hTl2 HT
     go_wp2
     go_round
     case rel=>exact ⟨k+1,_,by omega,by go_num,rfl,HT2,hl2⟩
     case measure=>simp [intOf];omega
   ·obtain rfl:k=s.size:=by omega
    have HT2:Hid ([39]++quo s.data.toList=T):=by have:=HT.out;rw [iY] at this;exact this
    have hc1:=Hb T
    clear HT
    go_wp2
    go_ret
    exact ⟨congrArg (fun x=>Ending.returned (.string x)) (by rw [←HR.out,HT2.out]),hb0⟩
 ·cases b
  ·go_enter func92,ntmps92
   go_wp2
   go_ret
   exact ⟨rfl,hb0⟩
  ·go_enter func92,ntmps92
   go_wp2
   go_ret
   exact ⟨rfl,hb0⟩
 ·rw [Xl hk]
  obtain ⟨h1,h2,h3⟩:=hk
  go_enter func92,ntmps92
  go_wp2
  go_ret
  exact ⟨rfl,hb0⟩
