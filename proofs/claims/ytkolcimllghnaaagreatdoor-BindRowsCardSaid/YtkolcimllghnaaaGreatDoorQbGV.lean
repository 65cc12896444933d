/-
 Contracts. Conditions: those of each.
-/
import Derived.Test.YtkolcimllghnaaaGreatDoorQbGT
import Derived.Shelf.Vars
import Derived.Test.YtkolcimllghnaaaGreatDoorQbGE
set_option maxRecDepth 100000
set_option maxHeartbeats 8000000
namespace Go.Proofs.YtkolcimllghnaaaGreatDoor
open Lp Go.Proofs.Tryz
open Go.RowKit
attribute [local go_sem] Md Lz Ly Mf Me Mg Mb Ma Mc
theorem Yp (i:Int) (s:ByteArray) (b:Bool) (w:World):Calls prog 137 #[.agg #[.int .u8 1,.int .i64 i,.string s,.bool b]] w fun e w'=>e=.returned (.iface 2 (.int .i64 i))∧w.alloc (.cells #[.int .u8 1,.int .i64 i,.string s,.bool b] 58)=w':=by
 go_enter func137,ntmps137
 go_wp2
 go_ret
 exact ⟨rfl,rfl⟩
theorem Yo (i:Int) (s:ByteArray) (b:Bool) (w:World):Calls prog 137 #[.agg #[.int .u8 2,.int .i64 i,.string s,.bool b]] w fun e w'=>e=.returned (.iface 9 (.string s))∧w.alloc (.cells #[.int .u8 2,.int .i64 i,.string s,.bool b] 58)=w':=by
 go_enter func137,ntmps137
 go_wp2
 go_ret
 exact ⟨rfl,rfl⟩
theorem Yn (i:Int) (s:ByteArray) (b:Bool) (w:World):Calls prog 137 #[.agg #[.int .u8 3,.int .i64 i,.string s,.bool b]] w fun e w'=>e=.returned (.iface 4 (.bool b))∧w.alloc (.cells #[.int .u8 3,.int .i64 i,.string s,.bool b] 58)=w':=by
 go_enter func137,ntmps137
 go_wp2
 go_ret
 exact ⟨rfl,rfl⟩
def NoK (k:Int):Prop:=(k==1)=false∧(k==2)=false∧(k==3)=false
theorem Ym (k i:Int) (s:ByteArray) (b:Bool) (hk:NoK k) (w:World):Calls prog 137 #[.agg #[.int .u8 k,.int .i64 i,.string s,.bool b]] w fun e w'=>e=.returned .nilIface∧w.alloc (.cells #[.int .u8 k,.int .i64 i,.string s,.bool b] 58)=w':=by
 obtain ⟨h1,h2,h3⟩:=hk
 go_enter func137,ntmps137
 go_wp2
 go_ret
 exact ⟨rfl,rfl⟩
theorem Py (k:Int):k=1∨k=2∨k=3∨NoK k:=by
 by_cases h1:k=1
 ·exact .inl h1
 ·by_cases h2:k=2
  ·exact .inr (.inl h2)
  ·by_cases h3:k=3
   ·exact .inr (.inr (.inl h3))
   ·exact .inr (.inr (.inr ⟨η h1,η h2,η h3⟩))
theorem Uj (i:Int) (s:ByteArray) (b:Bool) (w:World):Calls prog 137 #[.agg #[.int .u8 1,.int .i64 i,.string s,.bool b]] w fun e w'=>e=.returned (.iface 2 (.int .i64 i))∧Below w.heap.size w w' :=
 (Yp i s b w).mono fun _ _ ⟨h1,h2⟩=>⟨h1,h2▸ρ⟩
theorem Ui (i:Int) (s:ByteArray) (b:Bool) (w:World):Calls prog 137 #[.agg #[.int .u8 2,.int .i64 i,.string s,.bool b]] w fun e w'=>e=.returned (.iface 9 (.string s))∧Below w.heap.size w w' :=
 (Yo i s b w).mono fun _ _ ⟨h1,h2⟩=>⟨h1,h2▸ρ⟩
theorem Gm (i:Int) (s:ByteArray) (b:Bool) (w:World):Calls prog 137 #[.agg #[.int .u8 3,.int .i64 i,.string s,.bool b]] w fun e w'=>e=.returned (.iface 4 (.bool b))∧Below w.heap.size w w' :=
 (Yn i s b w).mono fun _ _ ⟨h1,h2⟩=>⟨h1,h2▸ρ⟩
theorem Uh (k i:Int) (s:ByteArray) (b:Bool) (hk:NoK k) (w:World):Calls prog 137 #[.agg #[.int .u8 k,.int .i64 i,.string s,.bool b]] w fun e w'=>e=.returned .nilIface∧Below w.heap.size w w' :=
 (Ym k i s b hk w).mono fun _ _ ⟨h1,h2⟩=>⟨h1,h2▸ρ⟩
attribute [local go_sem] Md Lz Ly Mf Me Mg Mb Ma Mc
def Ml (w:World):Prop:=∃ m,w.cell? ⟨2,0,none⟩=some (.int .i64 m)
theorem uD {w w':World} (h:Ml w) (hb:Below w.heap.size w w'):Ml w':=by
 obtain ⟨m,hm⟩:=h
 exact ⟨m,(hb.cell (p:=⟨2,0,none⟩) (World.block_lt_of_cell? w _ hm)).trans hm⟩
theorem Je {w:World} (h:w.ShapedOpen prog):Ml w :=
 cell_of_shapedOpen_int (t:=3) (zero:=#[.int .i64 0]) h (of_decide_eq_true (by kernel_rfl)) (by kernel_rfl) rfl (by kernel_rfl) (by kernel_rfl) underlying3
theorem Ny (s:ByteArray) (w:World) (hs:s.size≤1000000) (hm:Ml w) :
 Calls prog 139 #[.string s,.string ⟨#[39]⟩,.string ⟨#[39,39]⟩] w fun e w'=>e=.returned (.string ⟨(quo s.data.toList).toArray⟩)∧Below w.heap.size w w':=by
 obtain ⟨m,hm⟩:=hm
 have hc:Lib.countB s ⟨#[39]⟩≤1000001:=by
  have:=Lib.countB_le ⟨#[39]⟩ (by decide) s.size s (ν _)
  omega
 have:=Tryz.strings_ReplaceAll s ⟨#[39]⟩ ⟨#[39,39]⟩ m w (by omega) hm (by decide) (by
  have e2:(⟨#[39,39]⟩:ByteArray).size=2:=rfl
  rw [e2];omega)
 rw [show (⟨#[39]⟩:ByteArray).data.toList=[39] from rfl,show (⟨#[39,39]⟩:ByteArray).data.toList=[39,39] from rfl,Ay] at this
 exact this
theorem vD (x y:List UInt8):(⟨x.toArray⟩:ByteArray)++(⟨y.toArray⟩:ByteArray)=⟨(x++y).toArray⟩:=by
 apply ByteArray.ext
 simp
theorem Zo (T:List UInt8) (s:ByteArray) (k:Nat) (h:k<s.size):(⟨T.toArray⟩:ByteArray)++s.extract k (k+1)=⟨(T++[s[k]'h]).toArray⟩:=by
 have e:s.extract k (k+1)=⟨#[s[k]'h]⟩:=by
  apply ByteArray.ext
  apply Array.ext'
  rw [Lib.extract_data,iO s k h]
  simp
 rw [e];exact vD T [s[k]'h]
theorem Va (Q:List UInt8):(⟨#[39]⟩:ByteArray)++(⟨Q.toArray⟩:ByteArray)++(⟨#[39]⟩:ByteArray)=⟨([39]++Q++[39]).toArray⟩:=by
 apply ByteArray.ext
 simp
theorem Xl {k i:Int} {s:ByteArray} {b:Bool} (h:NoK k):Lp.lit ⟨k,i,s,b⟩=[78,85,76,76]:=by
 have h1:=beq_eq_false_iff_ne.1 h.1
 have h2:=beq_eq_false_iff_ne.1 h.2.1
 have h3:=beq_eq_false_iff_ne.1 h.2.2
 simp [Lp.lit,h1,h2,h3]
theorem Rp (k i:Int) (s:ByteArray) (b:Bool) (w:World) (hi:inR i) (hs:s.size≤1000000) (hP:Pow w) (hM:Ml w) :
 Calls prog 91 #[.agg #[.int .u8 k,.int .i64 i,.string s,.bool b]] w fun e w'=>e=.returned (.string ⟨(Lp.lit ⟨k,i,s,b⟩).toArray⟩)∧Below w.heap.size w w':=by
 have hb0:Below w.heap.size w (w.alloc (.cells #[.int .u8 k,.int .i64 i,.string s,.bool b] 58)):=ρ
 rcases Py k with rfl|rfl|rfl|hk
 ·have e:Lp.lit ⟨1,i,s,b⟩=Lib.itoa i:=rfl
  rw [e];clear e
  have HI:=κ hi
  have hP0:=qQ hP hb0
  clear hi hP hM
  go_enter func91,ntmps91
  go_wp2_with fail
  refine (Uj _ _ _ _).mono ?_
  rintro e w1 ⟨rfl,hb1⟩
  have k1:=hb0.trans (hb1.mono (by simp))
  have hP1:=qQ hP0 hb1
  clear hb0 hb1 hP0
  go_wp2_with fail
  refine (Rr _ _ HI.out hP1).mono ?_
  rintro e w2 ⟨rfl,hb2⟩
  go_wp2
  go_ret
  exact ⟨rfl,k1.trans (hb2.mono k1.size)⟩
 ·have e:(⟨(Lp.lit ⟨2,i,s,b⟩).toArray⟩:ByteArray)=⟨([39]++quo s.data.toList++[39]).toArray⟩:=rfl
  rw [e];clear e
  have hM0:=uD hM hb0
  have hq:(quo s.data.toList).length≤2000000:=by
   rw [yJ,Array.length_toList]
   have:=List.count_le_length (a:=(39:UInt8)) (l:=s.data.toList)
   rw [Array.length_toList] at this
   have e:s.data.size=s.size:=rfl
   omega
  have hrp:=fun W hm=>Ny s W hs hm
  obtain ⟨Q,hQ⟩:∃ Q,quo s.data.toList=Q:=⟨_,rfl⟩
  rw [hQ] at hq hrp ⊢
  have HRP:=κ hrp
  clear hQ hrp
  clear hs hP hM
  go_enter func91,ntmps91
  go_wp2_with fail
  refine (Ui _ _ _ _).mono ?_
  rintro e w1 ⟨rfl,hb1⟩
  have k1:=hb0.trans (hb1.mono (by simp))
  have hM1:=uD hM0 hb1
  clear hb0 hb1 hM0
  go_wp2_with fail
  refine (HRP.out _ hM1).mono ?_
  rintro e w2 ⟨rfl,hb2⟩
  clear HRP
  go_wp2
  go_ret
  exact ⟨congrArg (fun x=>Ending.returned (.string x)) (Va Q),k1.trans (hb2.mono k1.size)⟩
 ·cases b
  ·go_enter func91,ntmps91
   go_wp2_with fail
   refine (Gm _ _ _ _).mono ?_
   rintro e w1 ⟨rfl,hb1⟩
   have k1:=hb0.trans (hb1.mono (by simp))
   go_wp2
   go_ret
   exact ⟨rfl,k1⟩
  ·go_enter func91,ntmps91
   go_wp2_with fail
   refine (Gm _ _ _ _).mono ?_
   rintro e w1 ⟨rfl,hb1⟩
   have k1:=hb0.trans (hb1.mono (by simp))
   go_wp2
   go_ret
   exact ⟨rfl,k1⟩
 ·rw [Xl hk]
  go_enter func91,ntmps91
  go_wp2_with fail
  refine (Uh _ _ _ _ hk _).mono ?_
  rintro e w1 ⟨rfl,hb1⟩
  have k1:=hb0.trans (hb1.mono (by simp))
  go_wp2
  go_ret
  exact ⟨rfl,k1⟩
theorem iS {a b:ByteArray} (h:a.data.toList=b.data.toList):a=b:=ByteArray.ext (Array.ext' h)
theorem cF (a b:ByteArray):(a++b).data.toList=a.data.toList++b.data.toList:=by simp
def LitT (w:World):Prop:=Pow w∧Ml w
theorem LitT.below {w w':World} (h:LitT w) (hb:Below w.heap.size w w'):LitT w':=⟨qQ h.1 hb,uD h.2 hb⟩
def uG (k i:Int) (s:ByteArray) (b:Bool):ByteArray:=⟨(vW k i s.data.toList b).toArray⟩
theorem Bu {k i:Int} {s:ByteArray} {b:Bool} {T:ByteArray} (hT:T=⟨(Lp.lit ⟨k,i,s,b⟩).toArray⟩) (h1:k=1) (h2:i<0):(⟨#[40]⟩:ByteArray)++T++(⟨#[41]⟩:ByteArray)=uG k i s b:=by
 subst hT
 apply iS
 rw [cF,cF]
 simp [uG,vW,h1,h2]
theorem pO {k i:Int} {s:ByteArray} {b:Bool} {T:ByteArray} (hT:T=⟨(Lp.lit ⟨k,i,s,b⟩).toArray⟩) (h:¬(k=1∧i<0)):T=uG k i s b:=by
 subst hT
 apply iS
 simp [uG,vW,h]
theorem Bt (k i:Int) (s:ByteArray) (b:Bool) (hi:inR i) (hs:s.size≤1000000):(⟨(Lp.lit ⟨k,i,s,b⟩).toArray⟩:ByteArray).size≤3000000:=by
 show (Lp.lit ⟨k,i,s,b⟩).toArray.size≤_
 rw [List.size_toArray]
 unfold Lp.lit
 split
 ·have:=Lib.itoa_length_le i hi.1 hi.2
  show (Lib.itoa i).length≤_
  omega
 ·split
  ·have h1:=Of s.data.toList
   have h2:s.data.toList.length=s.size:=by rw [Array.length_toList];rfl
   show ([39]++quo s.data.toList++[39]).length≤_
   simp;omega
  ·split
   ·cases b<;>simp
   ·simp
theorem zY (g:Nat) (k i:Int) (s:ByteArray) (b:Bool) (w:World) (h:w.heap[g]? = some (.cells #[.int .u8 k,.int .i64 i,.string s,.bool b] 123 (0,0))) (hi:inR i) (hs:s.size≤1000000) (hT:LitT w) :
 Calls prog 39 #[.pointer (some ⟨g,0,none⟩)] w fun e w'=>e=.returned (.string (uG k i s b))∧Below w.heap.size w w':=by
 have hc:=β h
 have HL:=κ (Rp k i s b w hi hs hT.1 hT.2)
 have hsz:=Bt k i s b hi hs
 obtain ⟨T,hTT⟩:∃ T:ByteArray,T=⟨(Lp.lit ⟨k,i,s,b⟩).toArray⟩:=⟨_,rfl⟩
 rw [←hTT] at HL hsz
 have HTT:=κ hTT
 clear h hT hTT hi hs
 by_cases h1:k=1
 ·have e1:(k==1)=true:=beq_iff_eq.2 h1
  by_cases h2:i<0
  ·have HE:=κ (Bu HTT.out h1 h2)
   clear h1
   go_enter func39,ntmps39
   go_wp2_with fail
   refine μ HL ?_
   rintro e w' ⟨rfl,hb⟩
   go_wp2
   go_ret
   exact ⟨congrArg (fun x=>Ending.returned (.string x)) HE.out,hb⟩
  ·have HE:=κ (pO HTT.out (fun h=>h2 h.2))
   clear h1
   go_enter func39,ntmps39
   go_wp2_with fail
   refine μ HL ?_
   rintro e w' ⟨rfl,hb⟩
   go_wp2
   go_ret
   exact ⟨congrArg (fun x=>Ending.returned (.string x)) HE.out,hb⟩
 ·have e1:(k==1)=false:=η h1
  have HE:=κ (pO HTT.out (fun h=>h1 h.1))
  clear h1
  go_enter func39,ntmps39
  go_wp2_with fail
  refine μ HL ?_
  rintro e w' ⟨rfl,hb⟩
  go_wp2
  go_ret
  exact ⟨congrArg (fun x=>Ending.returned (.string x)) HE.out,hb⟩
def shB (sc:List Tb) (x:Lp.X):ByteArray:=⟨(eR sc x).toArray⟩
theorem fX {sc:List Tb} {x:Lp.X} (hw:bW sc≤10000) (h:x.wf) (hn:x.size≤10000):(shB sc x).size≤50000000:=by
 have:=Mp hw x h
 show (eR sc x).toArray.size≤_
 rw [List.size_toArray]
 omega
def gZ (sc:List Tb) (x:Lp.X):Prop:=∀ (S:Nat→Prop) (w W:World) (g:Nat),NT S w sc x g→LitT w→Below w.heap.size w W→Calls prog 12 #[ptr g] W fun e w'=>e=.returned (.string (shB sc x))∧Below w.heap.size w w'
theorem iD {sc:List Tb} {x:Lp.X} (h:∀ (S:Nat→Prop) (w:World) (g:Nat),NT S w sc x g→LitT w→Calls prog 12 #[ptr g] w fun e w'=>e=.returned (.string (shB sc x))∧Below w.heap.size w w'):gZ sc x :=
 fun S _ W g hn hT hb=>(h S W g (hn.below hb) (hT.below hb)).mono fun _ _ ⟨h1,h2⟩=>⟨h1,hb.trans (h2.mono hb.size)⟩
theorem Mn (w:World):Calls prog 12 #[.pointer none] w fun e w'=>e=.returned (.string ⟨#[]⟩)∧w=w':=by
 go_enter func12,ntmps12
 go_wp2
 go_ret
 exact ⟨rfl,rfl⟩
theorem Mo (sc:List Tb) (k i:Int) (s:List UInt8) (b:Bool) (hw:(Lp.X.lit k i s b).wf):gZ sc (.lit k i s b):=by
 refine iD fun S w g hn hT => ?_
 have hc:=β hn.2
 simp only [ndv,Na] at hc
 have hin:inR i:=by have hw:oH k i s b:=hw;unfold inR;rcases hw with h|h|h|h<;>omega
 have hsl:(⟨s.toArray⟩:ByteArray).size≤1000000:=by
  show s.toArray.size≤_
  rw [List.size_toArray]
  have hw:oH k i s b:=hw
  rcases hw with ⟨_,_,_,h,_⟩|⟨_,_,h,_⟩|⟨_,_,h,_⟩|⟨_,_,h⟩
  ·rw [h];simp
  ·omega
  ·rw [h];simp
  ·rw [h];simp
 have hb0:Below w.heap.size w (w.alloc (.cells #[.int .u8 k,.int .i64 i,.string ⟨s.toArray⟩,.bool b] 123)):=ρ
 have HX:=κ (zY w.heap.size k i ⟨s.toArray⟩ b _ (heap_alloc_new w _) hin hsl (hT.below hb0))
 have HB:=κ hb0
 have HE:=κ (show uG k i ⟨s.toArray⟩ b=shB sc (.lit k i s b) from rfl)
 rw [HE.out] at HX
 clear hn hT hb0 hw hin hsl
 unfold ptr
 go_enter func12,ntmps12
 go_wp2_with fail
 refine μ HX ?_
 rintro e w' ⟨rfl,hb⟩
 go_wp2
 go_ret
 exact ⟨rfl,HB.out.trans (hb.mono HB.out.size)⟩
theorem Mr (sc:List Tb) (t s:List UInt8) (hwd:bW sc≤10000):gZ sc (.col t s):=by
 refine iD fun S w g hn hT => ?_
 obtain ⟨-,p,hp,hc0⟩:=hn
 have hlt:=Ci hp
 have hc:=β hc0
 simp only [ndv,Hz] at hc
 have hb0:Below w.heap.size w (w.alloc (.cells #[.int .u8 1,.int .i64 (p.1:Nat),.string ⟨#[]⟩,.bool false] 123)):=ρ
 have HX:=κ (zY w.heap.size 1 (p.1:Nat) ⟨#[]⟩ false _ (heap_alloc_new w _) (by unfold inR;omega) (by decide) (hT.below hb0))
 have HB:=κ hb0
 have HE:=κ (show (⟨#[35]⟩:ByteArray)++uG 1 (p.1:Nat) ⟨#[]⟩ false=shB sc (.col t s) by
  apply iS
  rw [cF]
  have e:atX sc t s=(p.1:Nat):=by simp [atX,hp]
  have e2:¬(((p.1:Nat):Int)<0):=by omega
  simp [shB,eR,uG,vW,e,e2,Lp.lit])
 have hsz:(uG 1 (p.1:Nat) ⟨#[]⟩ false).size≤5000:=by
  show (vW 1 (p.1:Nat) [] false).toArray.size≤_
  rw [List.size_toArray]
  have e2:¬((1:Int)=1∧((p.1:Nat):Int)<0):=by omega
  unfold vW
  rw [if_neg e2]
  have:=Lib.itoa_length_le (p.1:Nat) (by omega) (by omega)
  show (Lib.itoa (p.1:Nat)).length≤_
  omega
 generalize uG 1 (p.1:Nat) ⟨#[]⟩ false=T at *
 have h0:(0:Int)≤(p.1:Nat):=by omega
 clear hT hb0 hp hc0
 unfold ptr
 go_enter func12,ntmps12
 go_wp2_with fail
 refine μ HX ?_
 rintro e w' ⟨rfl,hb⟩
 go_wp2
 go_ret
 exact ⟨congrArg (fun x=>Ending.returned (.string x)) HE.out,HB.out.trans (hb.mono HB.out.size)⟩
theorem Ms (sc:List Tb):gZ sc .cnt:=by
 refine iD fun S w g hn hT => ?_
 have hc:=β hn.2
 simp only [ndv,xW] at hc
 clear hn hT
 unfold ptr
 go_enter func12,ntmps12
 go_wp2
 go_ret
 exact ⟨rfl,θ⟩
theorem Th (sc:List Tb) (op:List UInt8) (x:Lp.X) (hwd:bW sc≤10000) (hw:(Lp.X.un op x).wf) (hn:(Lp.X.un op x).size≤10000) (ih:gZ sc x):gZ sc (.un op x):=by
 refine iD fun S w g hnt hT => ?_
 obtain ⟨-,A,c,g1,hc0,⟨bA,offA,rfl, -,hp⟩,hx⟩:=hnt
 have hp0:w.cell? ⟨bA,offA,none⟩=some (ptr g1):=hp 0 _ rfl
 have hsz:=fX hwd hw.2 (by simp only [Lp.X.size] at hn;omega)
 have HX:=κ (ih S w w g1 hx hT (θ))
 have hc:=β hc0
 have hopw:=hw.1
 have HE1:=κ (fun h:op=fW=>show (⟨#[40,78,79,84,32]⟩:ByteArray)++shB sc x++(⟨#[41]⟩:ByteArray)=shB sc (.un op x) by
  apply iS
  rw [cF,cF]
  subst h
  simp [shB,eR,fW])
 have HE2:=κ (fun h:op=[45]=>show (⟨#[40,45,32]⟩:ByteArray)++shB sc x++(⟨#[41]⟩:ByteArray)=shB sc (.un op x) by
  apply iS
  rw [cF,cF]
  subst h
  simp [shB,eR])
 generalize shB sc x=T at *
 generalize shB sc (.un op x)=R at *
 clear hT hc0 hp hx hw hn hwd ih
 unfold ptr at *
 rcases hopw with rfl|rfl
 ·simp only [ndv,unN,if_true,fW] at hc
  have HE:=κ (HE1.out rfl)
  clear HE1 HE2
  go_enter func12,ntmps12
  go_wp2_with fail
  refine μ HX ?_
  rintro e w' ⟨rfl,hb⟩
  go_wp2
  go_ret
  exact ⟨congrArg (fun x=>Ending.returned (.string x)) HE.out,hb⟩
 ·have hne:([45]:List UInt8)≠fW:=by decide
  simp only [ndv,unN,if_neg hne,Mz] at hc
  have HE:=κ (HE2.out rfl)
  clear HE1 HE2 hne
  go_enter func12,ntmps12
  go_wp2_with fail
  refine μ HX ?_
  rintro e w' ⟨rfl,hb⟩
  go_wp2
  go_ret
  exact ⟨congrArg (fun x=>Ending.returned (.string x)) HE.out,hb⟩
theorem aH {w w':World} {a:Addr} {u:Value} (h:w.cell? a=some u) (hb:Below w.heap.size w w'):w'.cell? a=some u:=(hb.cell (p:=a) (World.block_lt_of_cell? w a h)).trans h
theorem dA (a b:ByteArray) {m n:Nat} (ha:a.size≤m) (hb:b.size≤n) (hmn:m+n≤1000000000):∃ Y:ByteArray,a++b=Y∧Y.size≤m+n∧∀ w,(Op.stringOp .add a b).run prog w=.ok (.string Y) w:=by
 refine ⟨_,rfl, ?_,fun w=>run_string_add_sum w a b (by omega)⟩
 rw [ByteArray.size_append'];omega
theorem wI {w W:World} {g bA offA:Nat} {u0 u7 u1:Value} (hb:Below w.heap.size w W) (h0:w.cell? ⟨g,0,none⟩=some u0) (h7:w.cell? ⟨g,7,none⟩=some u7) (h1:w.cell? ⟨bA,offA,none⟩=some u1) :
 W.cell? ⟨g,0,none⟩=some u0∧W.cell? ⟨g,7,none⟩=some u7∧W.cell? ⟨bA,offA,none⟩=some u1:=⟨aH h0 hb,aH h7 hb,aH h1 hb⟩
theorem sY {w W:World} {g bA offA:Nat} {u0 u7 u1 u2:Value} (hb:Below w.heap.size w W) (h0:w.cell? ⟨g,0,none⟩=some u0) (h7:w.cell? ⟨g,7,none⟩=some u7) (h1:w.cell? ⟨bA,offA,none⟩=some u1) (h2:w.cell? ⟨bA,offA+1,none⟩=some u2) :
 W.cell? ⟨g,0,none⟩=some u0∧W.cell? ⟨g,7,none⟩=some u7∧W.cell? ⟨bA,offA,none⟩=some u1∧W.cell? ⟨bA,offA+1,none⟩=some u2:=⟨aH h0 hb,aH h7 hb,aH h1 hb,aH h2 hb⟩
theorem Mq (sc:List Tb) (n:Bool) (x:Lp.X) (hwd:bW sc≤10000) (hw:(Lp.X.isn n x).wf) (hn:(Lp.X.isn n x).size≤10000) (ih:gZ sc x):gZ sc (.isn n x):=by
 refine iD fun S w g hnt hT => ?_
 obtain ⟨-,A,c,g1,hc0,⟨bA,offA,rfl, -,hp⟩,hx⟩:=hnt
 have hp0:w.cell? ⟨bA,offA,none⟩=some (ptr g1):=hp 0 _ rfl
 have hsz:=fX (sc:=sc) (x:=x) hwd hw (by simp only [Lp.X.size] at hn;omega)
 have HX:=κ (fun (W:World) (hb:Below w.heap.size w W)=>ih S w W g1 hx hT hb)
 have hc:=β hc0
 have HE:=κ (show (⟨#[40]⟩:ByteArray)++shB sc x++(⟨#[32]⟩:ByteArray)++(⟨(isN n).toArray⟩:ByteArray)++(⟨#[41]⟩:ByteArray)=shB sc (.isn n x) by
  apply iS
  rw [cF,cF,cF,cF]
  cases n<;>simp [shB,eR,isN])
 generalize shB sc x=T at *
 generalize shB sc (.isn n x)=R at *
 have hsO:(⟨(isN n).toArray⟩:ByteArray).size≤11:=by cases n<;>decide
 simp only [ndv] at hc
 generalize hO:isN n=O at *
 have hsO':O.length≤11:=by simpa [ByteArray.size] using hsO
 obtain ⟨Y1,y1,z1,A1⟩:=dA ⟨#[40]⟩ T (ν _) hsz (by decide)
 obtain ⟨Y2,y2,z2,A2⟩:=dA Y1 ⟨#[32]⟩ z1 (ν _) (by decide)
 obtain ⟨Y3,y3,z3,A3⟩:=dA Y2 ⟨O.toArray⟩ z2 hsO (by decide)
 obtain ⟨Y4,y4,z4,A4⟩:=dA Y3 ⟨#[41]⟩ z3 (ν _) (by decide)
 rw [y1,y2,y3,y4] at HE
 have hE:=HE.out
 subst hE
 have c0:=hc 0
 have c7:=hc 7
 simp only [γ,δ,ε] at c0 c7
 have e1:(O==[108,105,116])=false∧(O==[99,111,108])=false∧(O==[67,79,85,78,84,40,42,41])=false∧(O==[78,79,84])=false∧(O==[110,101,103])=false∧((O==[73,83,32,78,85,76,76])=true∨((O==[73,83,32,78,85,76,76])=false∧(O==[73,83,32,78,79,84,32,78,85,76,76])=true)):=by subst hO;cases n<;>decide
 obtain ⟨e1,e2,e3,e4,e5,e6⟩:=e1
 clear hT hc0 hp hx hw hn hwd ih HE y1 y2 y3 y4 hO hsO z1 z2 z3 z4
 unfold ptr at *
 rcases e6 with e6|⟨e6,e7⟩
 all_goals
  go_enter func12,ntmps12
  go_wp2_with fail
  go_region_held3 (fun w'=>w'.cell? ⟨g,0,none⟩=some (.string ⟨O.toArray⟩)∧w'.cell? ⟨g,7,none⟩=some (.slice (some ⟨bA,offA,none⟩) 1 c)∧w'.cell? ⟨bA,offA,none⟩=some (.pointer (some ⟨g1,0,none⟩)))
   (first|go_keep|exact hd2)
   ((go_at_call 12;refine (HX.out _ (by first|exact θ|assumption|exact (θ).drew)).mono ?_;rintro e w2 ⟨rfl,hb⟩;have hd2:=wI hb c0 c7 hp0))
  all_goals
   go_wp2
   go_ret
   exact ⟨rfl,hb⟩
def Wu (op:List UInt8):Bool:=op==xW||op==aU||op==dN||op==eY||op==eZ
theorem Df (g:Nat) (op:List UInt8) (kd:Int) (v:Lp.V) (a:Int) (A:Option Addr) (n c:Nat) (w:World) (h:w.heap[g]? = some (.cells (ndv op kd v a A n c) 120 (0,0))) (b:Bool) (hb:Wu op=b) :
 Calls prog 40 #[ptr g] w fun e w'=>e=.returned (.bool b)∧w=w':=by
 have hc:=β h 0
 simp only [ndv] at hc
 unfold Wu xW aU dN eY eZ at hb
 unfold ptr
 clear h
 have hh:(b=true∧op=[67,79,85,78,84,40,42,41])∨(b=true∧op=[67,79,85,78,84])∨(b=true∧op=[83,85,77])∨(b=true∧op=[77,73,78])∨(b=true∧op=[77,65,88])∨(b=false∧(op==[67,79,85,78,84,40,42,41])=false∧(op==[67,79,85,78,84])=false∧(op==[83,85,77])=false∧(op==[77,73,78])=false∧(op==[77,65,88])=false):=by
  cases h1:(op==[67,79,85,78,84,40,42,41])
  ·cases h2:(op==[67,79,85,78,84])
   ·cases h3:(op==[83,85,77])
    ·cases h4:(op==[77,73,78])
     ·cases h5:(op==[77,65,88])
      ·rw [h1,h2,h3,h4,h5] at hb
       exact .inr (.inr (.inr (.inr (.inr ⟨hb.symm,rfl,rfl,rfl,rfl,rfl⟩))))
      ·rw [h1,h2,h3,h4,h5] at hb
       exact .inr (.inr (.inr (.inr (.inl ⟨hb.symm,beq_iff_eq.1 h5⟩))))
     ·rw [h1,h2,h3,h4] at hb
      exact .inr (.inr (.inr (.inl ⟨by simpa using hb.symm,beq_iff_eq.1 h4⟩)))
    ·rw [h1,h2,h3] at hb
     exact .inr (.inr (.inl ⟨by simpa using hb.symm,beq_iff_eq.1 h3⟩))
   ·rw [h1,h2] at hb
    exact .inr (.inl ⟨by simpa using hb.symm,beq_iff_eq.1 h2⟩)
  ·rw [h1] at hb
   exact .inl ⟨by simpa using hb.symm,beq_iff_eq.1 h1⟩
 clear hb
 rcases hh with ⟨rfl,rfl⟩|⟨rfl,rfl⟩|⟨rfl,rfl⟩|⟨rfl,rfl⟩|⟨rfl,rfl⟩|⟨rfl,h1,h2,h3,h4,h5⟩
 all_goals
  go_enter func40,ntmps40
  go_wp2
  go_ret
  exact ⟨rfl,rfl⟩
theorem Kz:∀ o∈qY,(o==[108,105,116])=false∧(o==[99,111,108])=false∧(o==[67,79,85,78,84,40,42,41])=false∧(o==[78,79,84])=false∧(o==[110,101,103])=false∧(o==[73,83,32,78,85,76,76])=false∧(o==[73,83,32,78,79,84,32,78,85,76,76])=false∧Wu o=true∧o.length≤8:=by decide
theorem Kj:∀ o∈oV,(o==[108,105,116])=false∧(o==[99,111,108])=false∧(o==[67,79,85,78,84,40,42,41])=false∧(o==[78,79,84])=false∧(o==[110,101,103])=false∧(o==[73,83,32,78,85,76,76])=false∧(o==[73,83,32,78,79,84,32,78,85,76,76])=false∧Wu o=false∧o.length≤8:=by decide
theorem Mu (sc:List Tb) (op:List UInt8) (x:Lp.X) (hwd:bW sc≤10000) (hw:(Lp.X.agg op x).wf) (hn:(Lp.X.agg op x).size≤10000) (ih:gZ sc x):gZ sc (.agg op x):=by
 refine iD fun S w g hnt hT => ?_
 obtain ⟨-,A,c,g1,hc0,⟨bA,offA,rfl, -,hp⟩,hx⟩:=hnt
 have hp0:w.cell? ⟨bA,offA,none⟩=some (ptr g1):=hp 0 _ rfl
 have hsz:=fX (sc:=sc) (x:=x) hwd hw.2 (by simp only [Lp.X.size] at hn;omega)
 have HX:=κ (fun (W:World) (hb:Below w.heap.size w W)=>ih S w W g1 hx hT hb)
 have hc:=β hc0
 simp only [ndv] at hc
 have HE:=κ (show (⟨op.toArray⟩:ByteArray)++(⟨#[40]⟩:ByteArray)++shB sc x++(⟨#[41]⟩:ByteArray)=shB sc (.agg op x) by
  apply iS
  rw [cF,cF,cF]
  simp [shB,eR])
 obtain ⟨e1,e2,e3,e4,e5,e6,e7,e8,e9⟩:=Kz op hw.1
 have HA:=κ (Df g op _ _ _ _ _ _ w hc0 true e8)
 generalize shB sc x=T at *
 generalize shB sc (.agg op x)=R at *
 have hsO:(⟨op.toArray⟩:ByteArray).size≤8:=by show op.toArray.size≤8;rw [List.size_toArray];exact e9
 obtain ⟨Y1,y1,z1,A1⟩:=dA ⟨op.toArray⟩ ⟨#[40]⟩ hsO (ν _) (by decide)
 obtain ⟨Y2,y2,z2,A2⟩:=dA Y1 T z1 hsz (by decide)
 obtain ⟨Y3,y3,z3,A3⟩:=dA Y2 ⟨#[41]⟩ z2 (ν _) (by decide)
 rw [y1,y2,y3] at HE
 have hE:=HE.out
 subst hE
 clear HE y1 y2 y3 hsO z1 z2 z3
 have c0:=hc 0
 have c7:=hc 7
 simp only [γ,δ,ε] at c0 c7
 clear hT hc0 hp hx hw hn hwd ih e8
 unfold ptr at *
 go_enter func12,ntmps12
 go_wp2_with fail
 refine μ HA ?_
 rintro e w' ⟨rfl,rfl⟩
 go_wp2_with fail
 go_region_held3 (fun w'=>w'.cell? ⟨g,0,none⟩=some (.string ⟨op.toArray⟩)∧w'.cell? ⟨g,7,none⟩=some (.slice (some ⟨bA,offA,none⟩) 1 c)∧w'.cell? ⟨bA,offA,none⟩=some (.pointer (some ⟨g1,0,none⟩)))
  (first|go_keep|exact hd2)
  ((go_at_call 12;refine (HX.out _ (by first|exact θ|assumption|exact (θ).drew)).mono ?_;rintro e w2 ⟨rfl,hb⟩;have hd2:=wI hb c0 c7 hp0))
 all_goals
  go_wp2
  go_ret
  exact ⟨rfl,hb⟩
theorem Mt (sc:List Tb) (op:List UInt8) (x y:Lp.X) (hwd:bW sc≤10000) (hw:(Lp.X.bin op x y).wf) (hn:(Lp.X.bin op x y).size≤10000) (ihx:gZ sc x) (ihy:gZ sc y):gZ sc (.bin op x y):=by
 refine iD fun S w g hnt hT => ?_
 obtain ⟨-,A,c,g1,g2,hc0,⟨bA,offA,rfl, -,hp⟩,hx,hy⟩:=hnt
 have hp0:w.cell? ⟨bA,offA,none⟩=some (ptr g1):=hp 0 _ rfl
 have hp1:w.cell? ⟨bA,offA+1,none⟩=some (ptr g2):=hp 1 _ rfl
 have hsx:=fX (sc:=sc) (x:=x) hwd hw.2.1 (by simp only [Lp.X.size] at hn;omega)
 have hsy:=fX (sc:=sc) (x:=y) hwd hw.2.2 (by simp only [Lp.X.size] at hn;omega)
 have HX:=κ (fun (W:World) (hb:Below w.heap.size w W)=>ihx S w W g1 hx hT hb)
 have HY:=κ (fun (W:World) (hb:Below w.heap.size w W)=>ihy S w W g2 hy hT hb)
 have hc:=β hc0
 simp only [ndv] at hc
 have HE:=κ (show (⟨#[40]⟩:ByteArray)++shB sc x++(⟨#[32]⟩:ByteArray)++(⟨op.toArray⟩:ByteArray)++(⟨#[32]⟩:ByteArray)++shB sc y++(⟨#[41]⟩:ByteArray)=shB sc (.bin op x y) by
  apply iS
  rw [cF,cF,cF,cF,cF,cF]
  simp [shB,eR])
 obtain ⟨e1,e2,e3,e4,e5,e6,e7,e8,e9⟩:=Kj op hw.1
 have HA:=κ (Df g op _ _ _ _ _ _ w hc0 false e8)
 generalize shB sc x=T at *
 generalize shB sc y=T2 at *
 generalize shB sc (.bin op x y)=R at *
 have hsO:(⟨op.toArray⟩:ByteArray).size≤8:=by show op.toArray.size≤8;rw [List.size_toArray];exact e9
 obtain ⟨Y1,y1,z1,A1⟩:=dA ⟨#[40]⟩ T (ν _) hsx (by decide)
 obtain ⟨Y2,y2,z2,A2⟩:=dA Y1 ⟨#[32]⟩ z1 (ν _) (by decide)
 obtain ⟨Y3,y3,z3,A3⟩:=dA Y2 ⟨op.toArray⟩ z2 hsO (by decide)
 obtain ⟨Y4,y4,z4,A4⟩:=dA Y3 ⟨#[32]⟩ z3 (ν _) (by decide)
 obtain ⟨Y5,y5,z5,A5⟩:=dA Y4 T2 z4 hsy (by decide)
 obtain ⟨Y6,y6,z6,A6⟩:=dA Y5 ⟨#[41]⟩ z5 (ν _) (by decide)
 rw [y1,y2,y3,y4,y5,y6] at HE
 have hE:=HE.out
 subst hE
 clear HE y1 y2 y3 y4 y5 y6 hsO z1 z2 z3 z4 z5 z6
 have c0:=hc 0
 have c7:=hc 7
 simp only [γ,δ,ε] at c0 c7
 clear hT hc0 hp hx hy hw hn hwd ihx ihy e8
 unfold ptr at *
 go_enter func12,ntmps12
 go_wp2_with fail
 refine μ HA ?_
 rintro e w' ⟨rfl,rfl⟩
 go_wp2_with fail
 go_region_held3 (fun w'=>w'.cell? ⟨g,0,none⟩=some (.string ⟨op.toArray⟩)∧w'.cell? ⟨g,7,none⟩=some (.slice (some ⟨bA,offA,none⟩) 2 c)∧w'.cell? ⟨bA,offA,none⟩=some (.pointer (some ⟨g1,0,none⟩))∧w'.cell? ⟨bA,offA+1,none⟩=some (.pointer (some ⟨g2,0,none⟩)))
  (first|go_keep|exact hd2)
  ((first
    | (go_at_call_of 12 (Value.pointer (some ⟨g1,0,none⟩));refine (HX.out _ (by first|exact θ|assumption|exact (θ).drew)).mono ?_;rintro e w2 ⟨rfl,hb⟩;have hd2:=sY hb c0 c7 hp0 hp1)
    | (go_at_call_of 12 (Value.pointer (some ⟨g2,0,none⟩));refine (HY.out _ (by first|exact θ|assumption|exact (θ).drew)).mono ?_;rintro e w2 ⟨rfl,hb⟩;have hd2:=sY hb c0 c7 hp0 hp1)))
 all_goals
  go_wp2
  go_ret
  exact ⟨rfl,hb⟩
theorem sZ (sc:List Tb) (hwd:bW sc≤10000):∀ x:Lp.X,x.wf→x.size≤10000→gZ sc x:=by
 intro x
 induction x with
 | lit k i s b=>intro hw _;exact Mo sc k i s b hw
 | col t s=>intro _ _;exact Mr sc t s hwd
 | un op x ih=>intro hw hn;exact Th sc op x hwd hw hn (ih hw.2 (by simp only [Lp.X.size] at hn;omega))
 | bin op a b iha ihb=>intro hw hn;exact Mt sc op a b hwd hw hn (iha hw.2.1 (by simp only [Lp.X.size] at hn;omega)) (ihb hw.2.2 (by simp only [Lp.X.size] at hn;omega))
 | isn n x ih=>intro hw hn;exact Mq sc n x hwd hw hn (ih hw (by simp only [Lp.X.size] at hn;omega))
 | agg op x ih=>intro hw hn;exact Mu sc op x hwd hw hn (ih hw.2 (by simp only [Lp.X.size] at hn;omega))
 | cnt=>intro _ _;exact Ms sc
