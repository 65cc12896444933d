/-
 Contracts. Conditions: those of each.
-/
import Derived.Test.YtkolcimllghnaaaGreatDoorQdVA
import Derived.Shelf.Vars
import Derived.Test.YtkolcimllghnaaaGreatDoorQdGE
set_option maxRecDepth 100000
set_option maxHeartbeats 8000000
namespace Go.Proofs.YtkolcimllghnaaaGreatDoor
open Lp Go.Proofs.Tryz
open Go.RowKit
variable{b:Bool}{T s:ByteArray}{i k:Int}{sc:List Tb}{x:Lp.X}{bA g offA:Nat}{u0 u1 u7:Value}{W w w':World}
attribute [local go_sem] Uh Ug Ui aGM Ub Ua Uc aGL Uk Uj Ul aGN Ue Ud Uf
theorem aIE (i:Int) (s:ByteArray) (b:Bool) (w:World):Calls prog 137 #[.agg #[.int .u8 1,.int .i64 i,s,b]] w λe w'=>e=.returned (.iface 2 (.int .i64 i))∧w.alloc (.cells #[.int .u8 1,.int .i64 i,s,b] 58)=w':=by
 go_enter func137,ntmps137;go_wp2;go_ret;exact cm
theorem aID (i:Int) (s:ByteArray) (b:Bool) (w:World):Calls prog 137 #[.agg #[.int .u8 2,.int .i64 i,s,b]] w λe w'=>e=.returned (.iface 9 (.string s))∧w.alloc (.cells #[.int .u8 2,.int .i64 i,s,b] 58)=w':=by
 go_enter func137,ntmps137;go_wp2;go_ret;exact cm
theorem aIC (i:Int) (s:ByteArray) (b:Bool) (w:World):Calls prog 137 #[.agg #[.int .u8 3,.int .i64 i,s,b]] w λe w'=>e=.returned (.iface 4 (.bool b))∧w.alloc (.cells #[.int .u8 3,.int .i64 i,s,b] 58)=w':=by
 go_enter func137,ntmps137;go_wp2;go_ret;exact cm
def NoK (k:Int):Prop:=(k==1)=false∧(k==2)=false∧(k==3)=false
theorem aIB (k i:Int) (s:ByteArray) (b:Bool) (hk:NoK k) (w:World):Calls prog 137 #[.agg #[.int .u8 k,.int .i64 i,s,b]] w λe w'=>e=.returned .nilIface∧w.alloc (.cells #[.int .u8 k,.int .i64 i,s,b] 58)=w':=by
 obtain ⟨h1,h2,h3⟩:=hk;go_enter func137,ntmps137;go_wp2;go_ret;exact cm
theorem Yh (k:Int):k=1∨k=2∨k=3∨NoK k:=by
 by_cases h1:k=1
 ·exact .inl h1
 ·by_cases h2:k=2
  ·exact .inr (.inl h2)
  ·by_cases h3:k=3
   ·exact .inr (.inr (.inl h3))
   ·exact .inr (.inr (.inr ⟨η h1,η h2,η h3⟩))
theorem aDM (i:Int) (s:ByteArray) (b:Bool) (w:World):Calls prog 137 #[.agg #[.int .u8 1,.int .i64 i,s,b]] w λe w'=>e=.returned (.iface 2 (.int .i64 i))∧Below w w w' :=
 (aIE i s b w).mono λ_ _ ⟨h1,h2⟩=>⟨h1,h2▸ρ⟩
theorem aDL (i:Int) (s:ByteArray) (b:Bool) (w:World):Calls prog 137 #[.agg #[.int .u8 2,.int .i64 i,s,b]] w λe w'=>e=.returned (.iface 9 (.string s))∧Below w w w' :=
 (aID i s b w).mono λ_ _ ⟨h1,h2⟩=>⟨h1,h2▸ρ⟩
theorem Nq (i:Int) (s:ByteArray) (b:Bool) (w:World):Calls prog 137 #[.agg #[.int .u8 3,.int .i64 i,s,b]] w λe w'=>e=.returned (.iface 4 (.bool b))∧Below w w w' :=
 (aIC i s b w).mono λ_ _ ⟨h1,h2⟩=>⟨h1,h2▸ρ⟩
theorem aDK (k i:Int) (s:ByteArray) (b:Bool) (hk:NoK k) (w:World):Calls prog 137 #[.agg #[.int .u8 k,.int .i64 i,s,b]] w λe w'=>e=.returned .nilIface∧Below w w w' :=
 (aIB k i s b hk w).mono λ_ _ ⟨h1,h2⟩=>⟨h1,h2▸ρ⟩
attribute [local go_sem] Uh Ug Ui aGM Ub Ua Uc aGL Uk Uj Ul aGN Ue Ud Uf
def Ml (w:World):Prop:=∃ m,w.cell? ⟨2,0,none⟩=some (.int .i64 m)
theorem xY (h:Ml w) (hb:Below w w w'):Ml w':=by
 obtain ⟨m,hm⟩:=h;exact ⟨m,(hb.cell (p:=⟨2,0,none⟩) (World.block_lt_of_cell? w _ hm)).trans hm⟩
theorem Qx (h:w.ShapedOpen prog):Ml w :=
 cell_of_shapedOpen_int (t:=3) (zero:=#[.int .i64 0]) h (of_decide_eq_true aj) aj rfl aj aj underlying3
theorem Wi (s:ByteArray) (w:World) (hs:s.size≤1000000) (hm:Ml w) :
 Calls prog 139 #[s,.string ⟨#[39]⟩,.string ⟨#[39,39]⟩] w λe w'=>e=.returned (.string ⟨(quo s.data.toList).toArray⟩)∧Below w w w':=by
 obtain ⟨m,hm⟩:=hm;have hc:Lib.countB s ⟨#[39]⟩≤1000001:=by
  have:=Lib.countB_le ⟨#[39]⟩ am s.size s (ν _);omega
 have:=Tryz.strings_ReplaceAll s ⟨#[39]⟩ ⟨#[39,39]⟩ m w ac hm am (by
  have e2:(⟨#[39,39]⟩:ByteArray).size=2:=rfl;rw [e2];omega)
 rw [show (⟨#[39]⟩:ByteArray).data.toList=[39] from rfl,show (⟨#[39,39]⟩:ByteArray).data.toList=[39,39] from rfl,Gf] at this;exact ah
theorem zC (x y:ZS):(x:ByteArray)++(y:ByteArray)=⟨(x++y).toArray⟩:=by
 apply ByteArray.ext;simp
theorem aJE (T:ZS) (s:ByteArray) (k:Nat) (h:k<s.size):(T:ByteArray)++s.extract k (k+1)=⟨(T++[s[k]'h]).toArray⟩:=by
 have e:s.extract k (k+1)=⟨#[s[k]'h]⟩:=by
  apply ByteArray.ext;apply Array.ext';rw [Lib.extract_data,kC s k h];simp
 rw [e];exact zC T [s[k]'h]
theorem aEF (Q:ZS):(⟨#[39]⟩:ByteArray)++(Q:ByteArray)++(⟨#[39]⟩:ByteArray)=⟨([39]++Q++[39]).toArray⟩:=by
 apply ByteArray.ext;simp
theorem aGU (h:NoK k):Lp.lit ⟨k,i,s,b⟩=[78,85,76,76]:=by
 have h1:=beq_eq_false_iff_ne.1 h.1;have h2:=beq_eq_false_iff_ne.1 h.2.1;have h3:=beq_eq_false_iff_ne.1 h.2.2;simp [Lp.lit,h1,h2,h3]
theorem aAG (k i:Int) (s:ByteArray) (b:Bool) (w:World) (hi:inR i) (hs:s.size≤1000000) (hP:Pow w) (hM:Ml w) :
 Calls prog 91 #[.agg #[.int .u8 k,.int .i64 i,s,b]] w λe w'=>e=.returned (.string ⟨(Lp.lit ⟨k,i,s,b⟩).toArray⟩)∧Below w w w':=by
 have hb0:=EM;rcases Yh k with rfl|rfl|rfl|hk
 ·have e:Lp.lit ⟨1,i,s,b⟩=Lib.itoa i:=rfl;rw [e];clear e;have HI:=κ hi;have hP0:=uF hP hb0;clear hi hP hM;go_enter func91,ntmps91;go_wp2_with fail;refine (aDM _ _ _ _).mono ?_;rintro e w1 ⟨rfl,hb1⟩;have k1:=EN;have hP1:=uF hP0 hb1;clear hb0 hb1 hP0;go_wp2_with fail;refine (aAI _ _ HI.o hP1).mono ?_;rintro e w2 ⟨rfl,hb2⟩;go_wp2;go_ret;exact ⟨rfl,k1.trans (hb2.mono k1.size)⟩
 ·have e:(⟨(Lp.lit ⟨2,i,s,b⟩).toArray⟩:ByteArray)=⟨([39]++quo s.data.toList++[39]).toArray⟩:=rfl;rw [e];clear e;have hM0:=xY hM hb0;have hq:(quo s.data.toList).length≤2000000:=by
   rw [Dm,Array.length_toList];have:=List.count_le_length (a:=(39:UInt8)) (l:=s.data.toList);rw [Array.length_toList] at this;have e:s.data.size=s.size:=rfl;omega
  have hrp:=λW hm=>Wi s W hs hm;obtain ⟨Q,hQ⟩:∃ Q,quo s.data.toList=Q:=cw;rw [hQ] at hq hrp |-;have HRP:=κ hrp;clear hQ hrp;clear hs hP hM;go_enter func91,ntmps91;go_wp2_with fail;refine (aDL _ _ _ _).mono ?_;rintro e w1 ⟨rfl,hb1⟩;have k1:=EN;have hM1:=xY hM0 hb1;clear hb0 hb1 hM0;go_wp2_with fail;refine (HRP.o _ hM1).mono ?_;rintro e w2 ⟨rfl,hb2⟩;clear HRP;go_wp2;go_ret;exact ⟨congrArg (λx=>Ending.returned (.string x)) (aEF Q),k1.trans (hb2.mono k1.size)⟩
 ·cases b
  ·go_enter func91,ntmps91;go_wp2_with fail;refine (Nq _ _ _ _).mono ?_;rintro e w1 ⟨rfl,hb1⟩;have k1:=EN;go_wp2;go_ret;exact ⟨rfl,k1⟩
  ·go_enter func91,ntmps91;go_wp2_with fail;refine (Nq _ _ _ _).mono ?_;rintro e w1 ⟨rfl,hb1⟩;have k1:=EN;go_wp2;go_ret;exact ⟨rfl,k1⟩
 ·rw [aGU hk];go_enter func91,ntmps91;go_wp2_with fail;refine (aDK _ _ _ _ hk _).mono ?_;rintro e w1 ⟨rfl,hb1⟩;have k1:=EN;go_wp2;go_ret;exact ⟨rfl,k1⟩
theorem kF {a b:ByteArray} (h:a.data.toList=b.data.toList):a=b:=ByteArray.ext (Array.ext' h)
theorem cQ (a b:ByteArray):(a++b).data.toList=a.data.toList++b.data.toList:=aa
def LitT (w:World):Prop:=Pow w∧Ml w
theorem LitT.below (h:LitT w) (hb:Below w w w'):LitT w':=⟨uF h.1 hb,xY h.2 hb⟩
def yB (k i:Int) (s:ByteArray) (b:Bool):ByteArray:=⟨(rV k i s.data.toList b).toArray⟩
theorem Hk (hT:T=⟨(Lp.lit ⟨k,i,s,b⟩).toArray⟩) (h1:k=1) (h2:i<0):(⟨#[40]⟩:ByteArray)++T++(⟨#[41]⟩:ByteArray)=yB k i s b:=by
 subst hT;apply kF;rw [cQ,cQ];simp [yB,rV,h1,h2]
theorem sS (hT:T=⟨(Lp.lit ⟨k,i,s,b⟩).toArray⟩) (h:¬(k=1∧i<0)):T=yB k i s b:=by
 subst hT;apply kF;simp [yB,rV,h]
theorem Hi (k i:Int) (s:ByteArray) (b:Bool) (hi:inR i) (hs:s.size≤1000000):(⟨(Lp.lit ⟨k,i,s,b⟩).toArray⟩:ByteArray).size≤3000000:=by
 show (Lp.lit ⟨k,i,s,b⟩).toArray.size≤_;rw [List.size_toArray];unfold Lp.lit
 split
 ·have:=Lib.itoa_length_le i hi.1 hi.2;show (Lib.itoa i).length≤_;omega
 ·split
  ·have h1:=Ws s.data.toList;have h2:=bz
   show ([39]++quo s.data.toList++[39]).length≤_;simp;omega
  ·split
   ·cases b<;>simp
   ·simp
theorem Fi (g:Nat) (k i:Int) (s:ByteArray) (b:Bool) (w:World) (h:w.heap[g]? = some (.cells #[.int .u8 k,.int .i64 i,s,b] 123 (0,0))) (hi:inR i) (hs:s.size≤1000000) (hT:LitT w) :
 Calls prog 39 #[g] w λe w'=>e=.returned (.string (yB k i s b))∧Below w w w':=by
 have hc:=β h;have HL:=κ (aAG k i s b w hi hs hT.1 hT.2);have hsz:=Hi k i s b hi hs;obtain ⟨T,hTT⟩:∃ T:ByteArray,T=⟨(Lp.lit ⟨k,i,s,b⟩).toArray⟩:=cw;rw [<-hTT] at HL hsz;have HTT:=κ hTT;clear h hT hTT hi hs
 by_cases h1:k=1
 ·have e1:(k==1)=true:=beq_iff_eq.2 h1
  by_cases h2:i<0
  ·have HE:=κ (Hk HTT.o h1 h2);clear h1;go_enter func39,ntmps39;go_wp2_with fail;refine μ HL ?_;rintro e w' ⟨rfl,hb⟩;go_wp2;go_ret;exact EO
  ·have HE:=κ (sS HTT.o (λh=>h2 h.2));clear h1;go_enter func39,ntmps39;go_wp2_with fail;refine μ HL ?_;rintro e w' ⟨rfl,hb⟩;go_wp2;go_ret;exact EO
 ·have e1:(k==1)=false:=η h1;have HE:=κ (sS HTT.o (λh=>h1 h.1));clear h1;go_enter func39,ntmps39;go_wp2_with fail;refine μ HL ?_;rintro e w' ⟨rfl,hb⟩;go_wp2;go_ret;exact EO
def shB (sc:List Tb) (x:Lp.X):ByteArray:=⟨(aO sc x).toArray⟩
theorem gW (hw:bY sc≤10000) (h:x.wf) (hn:x.size≤10000):(shB sc x).size≤50000000:=by
 have:=Uu hw x h;show (aO sc x).toArray.size≤_;rw [List.size_toArray];omega
def jO (sc:List Tb) (x:Lp.X):Prop:=∀ (S:Nat->Prop) (w W:World) (g:Nat),NT S w sc x g->LitT w->Below w w W->Calls prog 12 #[ptr g] W λe w'=>e=.returned (.string (shB sc x))∧Below w w w'
theorem jS (h:∀ (S:Nat->Prop) (w:World) (g:Nat),NT S w sc x g->LitT w->Calls prog 12 #[ptr g] w λe w'=>e=.returned (.string (shB sc x))∧Below w w w'):jO sc x :=
 λS _ W g hn hT hb=>(h S W g (hn.below hb) (hT.below hb)).mono λ_ _ ⟨h1,h2⟩=>⟨h1,hb.trans (h2.mono hb.size)⟩
theorem Us (w:World):Calls prog 12 #[.pointer none] w λe w'=>e=.returned (.string ⟨#[]⟩)∧w=w':=by
 go_enter func12,ntmps12;go_wp2;go_ret;exact cm
theorem Ut (sc:List Tb) (k i:Int) (s:ZS) (b:Bool) (hw:(Lp.X.lit k i s b).wf):jO sc (.lit k i s b):=by
 refine jS λS w g hn hT => ?_;have hc:=β hn.2;simp only [ndv,vF] at hc;have hin:inR i:=by have hw:mX k i s b:=hw;unfold inR;rcases hw with h|h|h|h<;>omega
 have hsl:(s:ByteArray).size≤1000000:=by
  show s.toArray.size≤_;rw [List.size_toArray];have hw:mX k i s b:=hw;rcases hw with ⟨_,_,_,h,_⟩|⟨_,_,h,_⟩|⟨_,_,h,_⟩|⟨_,_,h⟩
  ·rw [h];simp
  ·omega
  ·rw [h];simp
  ·rw [h];simp
 have hb0:Below w w (w.alloc (.cells #[.int .u8 k,.int .i64 i,s,b] 123)):=ρ;have HX:=κ (Fi w k i s b _ (heap_alloc_new w _) hin hsl (hT.below hb0));have HB:=sv;have HE:=κ (show yB k i s b=shB sc (.lit k i s b) from rfl);rw [HE.o] at HX;clear hn hT hb0 hw hin hsl;unfold ptr;go_enter func12,ntmps12;go_wp2_with fail;refine μ HX ?_;rintro e w' ⟨rfl,hb⟩;go_wp2;go_ret;exact EP
theorem Ux (sc:List Tb) (t s:ZS) (hwd:bY sc≤10000):jO sc (.col t s):=by
 refine jS λS w g hn hT => ?_;obtain ⟨-,p,hp,hc0⟩:=hn;have hlt:=Ie hp;have hc:=β hc0;simp only [ndv,lH] at hc;have hb0:Below w.heap.size w (w.alloc (.cells #[.int .u8 1,.int .i64 (p.1:Nat),(),false] 123)):=ρ;have HX:=κ (Fi w.heap.size 1 (p.1:Nat) ⟨#[]⟩ false _ (heap_alloc_new w _) (by unfold inR;omega) am (hT.below hb0));have HB:=sv;have HE:=κ (show (⟨#[35]⟩:ByteArray)++yB 1 (p.1:Nat) ⟨#[]⟩ false=shB sc (.col t s) by
  apply kF;rw [cQ];have e:atX sc t s=(p.1:Nat):=by simp [atX,hp]
  have e2:¬(((p.1:Nat):Int)<0):=ac
  simp [shB,aO,yB,rV,e,e2,Lp.lit])
 have hsz:(yB 1 (p.1:Nat) ⟨#[]⟩ false).size≤5000:=by
  show (rV 1 (p.1:Nat) [] false).toArray.size≤_;rw [List.size_toArray];have e2:¬((1:Int)=1∧((p.1:Nat):Int)<0):=ac
  unfold rV;rw [if_neg e2];have:=Lib.itoa_length_le (p.1:Nat) ac ac;show (Lib.itoa (p.1:Nat)).length≤_;omega
 generalize yB 1 (p.1:Nat) ⟨#[]⟩ false=T at *;have h0:(0:Int)≤(p.1:Nat):=ac
 clear hT hb0 hp hc0;unfold ptr;go_enter func12,ntmps12;go_wp2_with fail;refine μ HX ?_;rintro e w' ⟨rfl,hb⟩;go_wp2;go_ret;exact ⟨congrArg (λx=>Ending.returned (.string x)) HE.o,HB.o.trans (hb.mono HB.o.size)⟩
theorem Uy (sc:List Tb):jO sc .cnt:=by
 refine jS λS w g hn hT => ?_;have hc:=β hn.2;simp only [ndv,rP] at hc;clear hn hT;unfold ptr;go_enter func12,ntmps12;go_wp2;go_ret;exact ⟨rfl,θ⟩
theorem aCF (sc:List Tb) (op:ZS) (x:Lp.X) (hwd:bY sc≤10000) (hw:(Lp.X.un op x).wf) (hn:(Lp.X.un op x).size≤10000) (ih:jO sc x):jO sc (.un op x):=by
 refine jS λS w g hnt hT => ?_;obtain ⟨-,A,c,g1,hc0,⟨bA,offA,rfl, -,hp⟩,hx⟩:=hnt;have hp0:=ER;have hsz:=gW hwd hw.2 EQ;have HX:=κ (ih S w w g1 hx hT (θ));have hc:=β hc0;have hopw:=hw.1;have HE1:=κ (λh:op=fG=>show (⟨#[40,78,79,84,32]⟩:ByteArray)++shB sc x++(⟨#[41]⟩:ByteArray)=shB sc (.un op x) by
  apply kF;rw [cQ,cQ];subst h;simp [shB,aO,fG])
 have HE2:=κ (λh:op=[45]=>show (⟨#[40,45,32]⟩:ByteArray)++shB sc x++(⟨#[41]⟩:ByteArray)=shB sc (.un op x) by
  apply kF;rw [cQ,cQ];subst h;simp [shB,aO])
 generalize shB sc x=T at *;generalize shB sc (.un op x)=R at *;clear hT hc0 hp hx hw hn hwd ih;unfold ptr at *;rcases hopw with rfl|rfl
 ·simp only [ndv,unN,if_true,fG] at hc;have HE:=κ (HE1.o rfl);clear HE1 HE2;go_enter func12,ntmps12;go_wp2_with fail;refine μ HX ?_;rintro e w' ⟨rfl,hb⟩;go_wp2;go_ret;exact EO
 ·have hne:([45]:ZS)≠fG:=am
  simp only [ndv,unN,if_neg hne,Pu] at hc;have HE:=κ (HE2.o rfl);clear HE1 HE2 hne;go_enter func12,ntmps12;go_wp2_with fail;refine μ HX ?_;rintro e w' ⟨rfl,hb⟩;go_wp2;go_ret;exact EO
theorem bW {a:Addr} {u:Value} (h:w.cell? a=some u) (hb:Below w w w'):w'.cell? a=some u:=(hb.cell (p:=a) (World.block_lt_of_cell? w a h)).trans h
theorem dG (a b:ByteArray) {m n:Nat} (ha:a.size≤m) (hb:b.size≤n) (hmn:m+n≤1000000000):∃ Y:ByteArray,a++b=Y∧Y.size≤m+n∧∀ w,(Op.stringOp .add a b).run prog w=.ok (.string Y) w:=by
 refine ⟨_,rfl, ?_,λw=>run_string_add_sum w a b ac⟩;rw [ByteArray.size_append'];omega
theorem Ay (hb:Below w w W) (h0:w.cell? ⟨g,0,none⟩=some u0) (h7:w.cell? ⟨g,7,none⟩=some u7) (h1:w.cell? ⟨bA,offA,none⟩=some u1) :
 W.cell? ⟨g,0,none⟩=some u0∧W.cell? ⟨g,7,none⟩=some u7∧W.cell? ⟨bA,offA,none⟩=some u1:=⟨bW h0 hb,bW h7 hb,bW h1 hb⟩
theorem wZ {u2:Value} (hb:Below w w W) (h0:w.cell? ⟨g,0,none⟩=some u0) (h7:w.cell? ⟨g,7,none⟩=some u7) (h1:w.cell? ⟨bA,offA,none⟩=some u1) (h2:w.cell? ⟨bA,offA+1,none⟩=some u2) :
 W.cell? ⟨g,0,none⟩=some u0∧W.cell? ⟨g,7,none⟩=some u7∧W.cell? ⟨bA,offA,none⟩=some u1∧W.cell? ⟨bA,offA+1,none⟩=some u2:=⟨bW h0 hb,bW h7 hb,bW h1 hb,bW h2 hb⟩
theorem Uw (sc:List Tb) (n:Bool) (x:Lp.X) (hwd:bY sc≤10000) (hw:(Lp.X.isn n x).wf) (hn:(Lp.X.isn n x).size≤10000) (ih:jO sc x):jO sc (.isn n x):=by
 refine jS λS w g hnt hT => ?_;obtain ⟨-,A,c,g1,hc0,⟨bA,offA,rfl, -,hp⟩,hx⟩:=hnt;have hp0:=ER;have hsz:=gW (sc:=sc) (x:=x) hwd hw EQ;have HX:=ES;have hc:=β hc0;have HE:=κ (show (⟨#[40]⟩:ByteArray)++shB sc x++(⟨#[32]⟩:ByteArray)++(⟨(isN n).toArray⟩:ByteArray)++(⟨#[41]⟩:ByteArray)=shB sc (.isn n x) by
  apply kF;rw [cQ,cQ,cQ,cQ];cases n<;>simp [shB,aO,isN])
 generalize shB sc x=T at *;generalize shB sc (.isn n x)=R at *;have hsO:(⟨(isN n).toArray⟩:ByteArray).size≤11:=by cases n<;>decide
 simp only [ndv] at hc;generalize hO:isN n=O at *;have hsO':O.length≤11:=by simpa [ByteArray.size] using hsO
 obtain ⟨Y1,y1,z1,A1⟩:=dG ⟨#[40]⟩ T (ν _) hsz am;obtain ⟨Y2,y2,z2,A2⟩:=ET;obtain ⟨Y3,y3,z3,A3⟩:=dG Y2 O z2 hsO am;obtain ⟨Y4,y4,z4,A4⟩:=dG Y3 ⟨#[41]⟩ z3 (ν _) am;rw [y1,y2,y3,y4] at HE;have hE:=HE.o;subst hE;have c0:=hc 0;have c7:=hc 7;simp only [γ,δ,ε] at c0 c7;have e1:(O==[108,105,116])=false∧(O==[99,111,108])=false∧(O==[67,79,85,78,84,40,42,41])=false∧(O==[78,79,84])=false∧(O==[110,101,103])=false∧((O==[73,83,32,78,85,76,76])=true∨((O==[73,83,32,78,85,76,76])=false∧(O==[73,83,32,78,79,84,32,78,85,76,76])=true)):=by subst hO;cases n<;>decide
 obtain ⟨e1,e2,e3,e4,e5,e6⟩:=e1;clear hT hc0 hp hx hw hn hwd ih HE y1 y2 y3 y4 hO hsO z1 z2 z3 z4;unfold ptr at *;rcases e6 with e6|⟨e6,e7⟩
 all_goals
  go_enter func12,ntmps12;go_wp2_with fail
  go_region_held3 (λw'=>w'.cell? ⟨g,0,none⟩=some (.string O)∧w'.cell? ⟨g,7,none⟩=some (.slice (some ⟨bA,offA,none⟩) 1 c)∧w'.cell? ⟨bA,offA,none⟩=some (.pointer (some ⟨g1,0,none⟩)))
   (first|go_keep|exact hd2)
   ((go_at_call 12;refine (HX.o _ EU).mono ?_;rintro e w2 ⟨rfl,hb⟩;have hd2:=Ay hb c0 c7 hp0))
  all_goals
   go_wp2;go_ret;exact fg
def vM (op:ZS):Bool:=op==rP||op==aJ||op==dZ||op==fT||op==fX
theorem tN (g:Nat) (op:ZS) (kd:Int) (v:Lp.V) (a:Int) (A:ZT) (n c:Nat) (w:World) (h:w.heap[g]? = some (.cells (ndv op kd v a A n c) 120 (0,0))) (b:Bool) (hb:vM op=b) :
 Calls prog 40 #[ptr g] w λe w'=>e=.returned (.bool b)∧w=w':=by
 have hc:=β h 0;simp only [ndv] at hc;unfold vM rP aJ dZ fT fX at hb;unfold ptr;clear h;have hh:(b=true∧op=[67,79,85,78,84,40,42,41])∨(b=true∧op=[67,79,85,78,84])∨(b=true∧op=[83,85,77])∨(b=true∧op=[77,73,78])∨(b=true∧op=[77,65,88])∨(b=false∧(op==[67,79,85,78,84,40,42,41])=false∧(op==[67,79,85,78,84])=false∧(op==[83,85,77])=false∧(op==[77,73,78])=false∧(op==[77,65,88])=false):=by
  cases h1:(op==[67,79,85,78,84,40,42,41])
  ·cases h2:(op==[67,79,85,78,84])
   ·cases h3:(op==[83,85,77])
    ·cases h4:(op==[77,73,78])
     ·cases h5:(op==[77,65,88])
      ·rw [h1,h2,h3,h4,h5] at hb;exact .inr (.inr (.inr (.inr (.inr ⟨hb.symm,rfl,rfl,rfl,rfl,rfl⟩))))
      ·rw [h1,h2,h3,h4,h5] at hb;exact .inr (.inr (.inr (.inr (.inl ⟨hb.symm,beq_iff_eq.1 h5⟩))))
     ·rw [h1,h2,h3,h4] at hb;exact .inr (.inr (.inr (.inl ⟨EV,beq_iff_eq.1 h4⟩)))
    ·rw [h1,h2,h3] at hb;exact .inr (.inr (.inl ⟨EV,beq_iff_eq.1 h3⟩))
   ·rw [h1,h2] at hb;exact .inr (.inl ⟨EV,beq_iff_eq.1 h2⟩)
  ·rw [h1] at hb;exact .inl ⟨EV,beq_iff_eq.1 h1⟩
 clear hb;rcases hh with ⟨rfl,rfl⟩|⟨rfl,rfl⟩|⟨rfl,rfl⟩|⟨rfl,rfl⟩|⟨rfl,rfl⟩|⟨rfl,h1,h2,h3,h4,h5⟩
 all_goals
  go_enter func40,ntmps40;go_wp2;go_ret;exact cm
theorem uN:∀ o∈kG,(o==[108,105,116])=false∧(o==[99,111,108])=false∧(o==[67,79,85,78,84,40,42,41])=false∧(o==[78,79,84])=false∧(o==[110,101,103])=false∧(o==[73,83,32,78,85,76,76])=false∧(o==[73,83,32,78,79,84,32,78,85,76,76])=false∧vM o=true∧o.length≤8:=am
theorem uL:∀ o∈nH,(o==[108,105,116])=false∧(o==[99,111,108])=false∧(o==[67,79,85,78,84,40,42,41])=false∧(o==[78,79,84])=false∧(o==[110,101,103])=false∧(o==[73,83,32,78,85,76,76])=false∧(o==[73,83,32,78,79,84,32,78,85,76,76])=false∧vM o=false∧o.length≤8:=am
theorem Va (sc:List Tb) (op:ZS) (x:Lp.X) (hwd:bY sc≤10000) (hw:(Lp.X.agg op x).wf) (hn:(Lp.X.agg op x).size≤10000) (ih:jO sc x):jO sc (.agg op x):=by
 refine jS λS w g hnt hT => ?_;obtain ⟨-,A,c,g1,hc0,⟨bA,offA,rfl, -,hp⟩,hx⟩:=hnt;have hp0:=ER;have hsz:=gW (sc:=sc) (x:=x) hwd hw.2 EQ;have HX:=ES;have hc:=β hc0;simp only [ndv] at hc;have HE:=κ (show (op:ByteArray)++(⟨#[40]⟩:ByteArray)++shB sc x++(⟨#[41]⟩:ByteArray)=shB sc (.agg op x) by
  apply kF;rw [cQ,cQ,cQ];simp [shB,aO])
 obtain ⟨e1,e2,e3,e4,e5,e6,e7,e8,e9⟩:=uN op hw.1;have HA:=κ (tN g op _ _ _ _ _ _ w hc0 true e8);generalize shB sc x=T at *;generalize shB sc (.agg op x)=R at *;have hsO:=EW
 obtain ⟨Y1,y1,z1,A1⟩:=dG op ⟨#[40]⟩ hsO (ν _) am;obtain ⟨Y2,y2,z2,A2⟩:=dG Y1 T z1 hsz am;obtain ⟨Y3,y3,z3,A3⟩:=dG Y2 ⟨#[41]⟩ z2 (ν _) am;rw [y1,y2,y3] at HE;have hE:=HE.o;subst hE;clear HE y1 y2 y3 hsO z1 z2 z3;have c0:=hc 0;have c7:=hc 7;simp only [γ,δ,ε] at c0 c7;clear hT hc0 hp hx hw hn hwd ih e8;unfold ptr at *;go_enter func12,ntmps12;go_wp2_with fail;refine μ HA ?_;rintro e w' ⟨rfl,rfl⟩;go_wp2_with fail
 go_region_held3 (λw'=>w'.cell? ⟨g,0,none⟩=some (.string op)∧w'.cell? ⟨g,7,none⟩=some (.slice (some ⟨bA,offA,none⟩) 1 c)∧w'.cell? ⟨bA,offA,none⟩=some (.pointer (some ⟨g1,0,none⟩)))
  (first|go_keep|exact hd2)
  ((go_at_call 12;refine (HX.o _ EU).mono ?_;rintro e w2 ⟨rfl,hb⟩;have hd2:=Ay hb c0 c7 hp0))
 all_goals
  go_wp2;go_ret;exact fg
theorem Uz (sc:List Tb) (op:ZS) (x y:Lp.X) (hwd:bY sc≤10000) (hw:(Lp.X.bin op x y).wf) (hn:(Lp.X.bin op x y).size≤10000) (ihx:jO sc x) (ihy:jO sc y):jO sc (.bin op x y):=by
 refine jS λS w g hnt hT => ?_;obtain ⟨-,A,c,g1,g2,hc0,⟨bA,offA,rfl, -,hp⟩,hx,hy⟩:=hnt;have hp0:=ER;have hp1:w.cell? ⟨bA,offA+1,none⟩=some (ptr g2):=hp 1 _ rfl;have hsx:=gW (sc:=sc) (x:=x) hwd hw.2.1 EQ;have hsy:=gW (sc:=sc) (x:=y) hwd hw.2.2 EQ;have HX:=κ (λ(W:World) (hb:Below w.heap.size w W)=>ihx S w W g1 hx hT hb);have HY:=κ (λ(W:World) (hb:Below w.heap.size w W)=>ihy S w W g2 hy hT hb);have hc:=β hc0;simp only [ndv] at hc;have HE:=κ (show (⟨#[40]⟩:ByteArray)++shB sc x++(⟨#[32]⟩:ByteArray)++(op:ByteArray)++(⟨#[32]⟩:ByteArray)++shB sc y++(⟨#[41]⟩:ByteArray)=shB sc (.bin op x y) by
  apply kF;rw [cQ,cQ,cQ,cQ,cQ,cQ];simp [shB,aO])
 obtain ⟨e1,e2,e3,e4,e5,e6,e7,e8,e9⟩:=uL op hw.1;have HA:=κ (tN g op _ _ _ _ _ _ w hc0 false e8);generalize shB sc x=T at *;generalize shB sc y=T2 at *;generalize shB sc (.bin op x y)=R at *;have hsO:=EW
 obtain ⟨Y1,y1,z1,A1⟩:=dG ⟨#[40]⟩ T (ν _) hsx am;obtain ⟨Y2,y2,z2,A2⟩:=ET;obtain ⟨Y3,y3,z3,A3⟩:=dG Y2 op z2 hsO am;obtain ⟨Y4,y4,z4,A4⟩:=dG Y3 ⟨#[32]⟩ z3 (ν _) am;obtain ⟨Y5,y5,z5,A5⟩:=dG Y4 T2 z4 hsy am;obtain ⟨Y6,y6,z6,A6⟩:=dG Y5 ⟨#[41]⟩ z5 (ν _) am;rw [y1,y2,y3,y4,y5,y6] at HE;have hE:=HE.o;subst hE;clear HE y1 y2 y3 y4 y5 y6 hsO z1 z2 z3 z4 z5 z6;have c0:=hc 0;have c7:=hc 7;simp only [γ,δ,ε] at c0 c7;clear hT hc0 hp hx hy hw hn hwd ihx ihy e8;unfold ptr at *;go_enter func12,ntmps12;go_wp2_with fail;refine μ HA ?_;rintro e w' ⟨rfl,rfl⟩;go_wp2_with fail
 go_region_held3 (λw'=>w'.cell? ⟨g,0,none⟩=some (.string op)∧w'.cell? ⟨g,7,none⟩=some (.slice (some ⟨bA,offA,none⟩) 2 c)∧w'.cell? ⟨bA,offA,none⟩=some (.pointer (some ⟨g1,0,none⟩))∧w'.cell? ⟨bA,offA+1,none⟩=some (.pointer (some ⟨g2,0,none⟩)))
  (first|go_keep|exact hd2)
  ((first
    | (go_at_call_of 12 (Value.pointer (some ⟨g1,0,none⟩));refine (HX.o _ EU).mono ?_;rintro e w2 ⟨rfl,hb⟩;have hd2:=wZ hb c0 c7 hp0 hp1)
    | (go_at_call_of 12 (Value.pointer (some ⟨g2,0,none⟩));refine (HY.o _ EU).mono ?_;rintro e w2 ⟨rfl,hb⟩;have hd2:=wZ hb c0 c7 hp0 hp1)))
 all_goals
  go_wp2;go_ret;exact fg
theorem pE (sc:List Tb) (hwd:bY sc≤10000):∀ x:Lp.X,x.wf->x.size≤10000->jO sc x:=by
 intro x
 induction x with
 | lit k i s b=>intro hw _;exact Ut sc k i s b hw
 | col t s=>intro _ _;exact Ux sc t s hwd
 | un op x ih=>intro hw hn;exact aCF sc op x hwd hw hn (ih hw.2 EQ)
 | bin op a b iha ihb=>intro hw hn;exact Uz sc op a b hwd hw hn (iha hw.2.1 EQ) (ihb hw.2.2 EQ)
 | isn n x ih=>intro hw hn;exact Uw sc n x hwd hw hn (ih hw EQ)
 | agg op x ih=>intro hw hn;exact Va sc op x hwd hw hn (ih hw.2 EQ)
 | cnt=>intro _ _;exact Uy sc
