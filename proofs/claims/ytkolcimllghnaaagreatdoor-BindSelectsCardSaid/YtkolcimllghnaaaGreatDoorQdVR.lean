/-
 Contracts. Conditions: those of each.
-/
import Derived.Test.YtkolcimllghnaaaGreatDoorQdVS
import Derived.Deep.RegionLaw
set_option maxRecDepth 100000
set_option maxHeartbeats 16000000
namespace Go.Proofs.YtkolcimllghnaaaGreatDoor
open Lp Go.Proofs.Tryz
open Go.RowKit
variable{a b d:Nat}{v:Value}{w:World}{Z xs:ZV}
def Agr (a b:Nat) (Z xs:ZV):Prop:=Z.size=xs.size∧∀ j,j<a∨b≤j->Z[j]? = xs[j]?
theorem qC :Agr a b xs xs:=⟨rfl,λ_ _=>rfl⟩
theorem tM (h:Agr a b Z xs) (h1:a≤d) (h2:d<b):Agr a b (Z.setIfInBounds d v) xs :=
 ⟨FG,λj hj=>by rw [Array.getElem?_setIfInBounds_ne ac];exact h.2 j hj⟩
def mT (xs:ZV) (y:Nat->Value):Nat->Nat->ZV
 | _,0=>xs
 | a,k+1=>mT (xs.setIfInBounds a (y a)) y (a+1) k
theorem Gr (Z:ZV) (y:Nat->Value):∀ (k a:Nat) (xs:ZV),Agr a (a+k) Z xs->a+k≤xs.size->(∀ i,a≤i->i<a+k->Z[i]? = some (y i))->mT xs y a k=Z
 | 0,a,xs,h,_,_=>Array.ext_getElem? λj=>(h.2 j ac).symm
 | k+1,a,xs,h,hk,hy=>by
   refine Gr Z y k (a+1) _ ⟨FG,λj hj => ?_⟩ (by rw [Array.size_setIfInBounds];omega) λi h1 h2=>hy i ac ac
   by_cases hja:j=a
   ·subst hja;rw [hy j (ν _) ac,Array.getElem?_setIfInBounds_self_of_lt ac]
   ·rw [Array.getElem?_setIfInBounds_ne (λe=>hja e.symm)];exact h.2 j ac
theorem mH {Q:Exit->Act->World->Prop} (a k:Nat) {df:List Deferred} (hA:Agr a (a+k) Z xs) (hk:a+k≤xs.size) (h:∀ y:Nat->Value,(∀ i v,a≤i->i<a+k->Z[i]? = some v->y i=v)->Q .normal ⟨mT xs y a k,df⟩ w):Q .normal ⟨Z,df⟩ w:=by
 have hZ:∀ i,a≤i->i<a+k->Z[i]? = some (Z.getD i undef):=λi _ h2=>by
  have:i<Z.size:=by rw [hA.1];omega
  simp [Array.getD,this]
 have h1:=h (λi=>Z.getD i undef) λi v h1 h2 hv=>by
  have:=hZ i h1 h2;rw [hv] at this;exact (Option.some.inj this).symm
 rwa [Gr Z _ k a xs hA hk hZ] at h1
theorem Io {Q:Exit->Act->World->Prop} (a k r:Nat) (v:Value) {df:List Deferred} (hA:Agr a (a+k) Z xs) (hk:a+k≤xs.size) (h:∀ y:Nat->Value,Q .normal ⟨(mT xs y a k).setIfInBounds r v,df⟩ w):Q .normal ⟨Z.setIfInBounds r v,df⟩ w :=
 mH (Q:=λe a w=>Q e ⟨a.tmps.setIfInBounds r v,a.defers⟩ w) a k hA hk λy _=>h y
theorem nK {ops:Array Oper} {oi oj:Oper} {tmps:ZV} {j:Nat} {b:Bool} (hg:oi.guard=some (j,b)) (hj:ops[j]? = some oj) (hd:oj.dst=some d) (ht:tmps[d]? = some (.bool b)):Region.wanted oi (yielded ops tmps)=true:=by
 simp [Region.wanted,hg,yielded,hj,hd,ht]
section
variable {P:Program} {md:Region.Mode} {ops:Array Oper} {Q:Exit->Act->World->Prop} {S T:World->Prop} {k:Nat}
theorem tkG (i d:Nat) {j d':Nat} {b':Bool} {oi oj:Oper} {v:Value} {n:Nat} {l:Array Bool} {a:Act} {w:World} (h:wpE P md ops Q S T k n (l.setIfInBounds i true) (a.put (some d) v) w) (hi:ops[i]? = some oi:=by rfl) (hd:oi.dst=some d:=by rfl) (ho:okE md ops l i k false=true:=by as_aux_lemma=>kernel_rfl) (hQ:∀ c a w,Q (.panic c) (a.put (some d) v) w->Q (.panic c) a w:=by exact λ_ _ _ h=>h) (hg:oi.guard=some (j,b'):=by rfl) (hj:ops[j]? = some oj:=by rfl) (hd':oj.dst=some d':=by rfl) (ht:a.tmps[d']? = some (.bool b'):=by simp [Act.put,Array.getElem?_setIfInBounds,hsz])
 (hy:∀ w,S w->(execOp a.eval oi).run P w=.ok (.value v) w:=by (intro w hSw;(try dsimp only at hSw);go_simp;try with_reducible rfl)) (hS:S w:=by assumption) (hT:T w:=by assumption):wpE P md ops Q S T k (n+1) l a w :=
 tk_ (b:=false) h hi hd ho hQ (.inl ⟨nK hg hj hd' ht,λw hw=>hy w hw.1⟩) hS (λ_=>hT)
end
theorem Cs (A:ZT) (n c:Nat) (w:World):Calls prog 57 #[.slice A n c,.slice none 0 0] w λe w'=>e=.returned (.int .i64 0)∧Below w w w':=by
 go_enter func57,ntmps57;go_wp2_with fail
 go_loopw [6,7,8,11] (λ_ _ _ s11 wr=>s11=.int .i64 0∧Below w w wr) (λ_ _ _ _ _=>0)
 case atStart=>exact ⟨rfl,θ⟩
 case round =>
  obtain ⟨rfl,hb⟩:=dd;go_wp2;go_ret;exact fg
theorem Fb (A:ZT) (c:Nat) (l:List dW) (o:Option Lp.X) (u:Value) (w:World) (S:Nat->Prop) (hA:ScA w A l) (hn:l.length≤100) (hw:bY (aE l)≤10000) (hx:∀ x,o=some x->x.wf) (hu:OXR S w o u) :
 Calls prog 57 #[.slice A l.length c,u] w λe w'=>e=.returned (.int .i64 (jB (aE l) o))∧Below w w w':=by
 cases o with
 | none =>
   rw [show u=.slice none 0 0 from hu];exact Cs A l.length c w
 | some x =>
   obtain ⟨g,rr,rfl, -,h2,h3⟩:=hu;exact Fc A c l x rr g w hA hn hw (hx x rfl) h2 S h3
theorem Zc:(prog.info? 60).map (λi=>(i.zero,i.size,i.bytes))=some (some (.agg #[.int .u8 0,.int .u8 0,.int .i64 0,(),false,(),(),.slice none 0 0]),8,104):=aj
theorem aHZ {B n size g:Nat} {e:TypeId} {xs:ZU} (h:w.ownsRow B e size v n xs) (hg:g<B):some g≠v.ownBlock:=by
 intro e;have:=(h.lt g e.symm).1;omega
def qD (A:ZT) (c:Nat) (l:List dW) (x:Lp.X):Prop:=∀ (S:Nat->Prop) (w:World) (r:RC),ScA w A l->RX S w x r->Calls prog 13 #[.slice A l.length c,r.val] w λe w'=>e=.returned (.string (shB (aE l) x))∧Below w w w'
theorem Yl (T:ZS):(⟨#[35]⟩:ByteArray)++(T:ByteArray)=⟨(35::T).toArray⟩:=zC [35] T
theorem Su {sc:List Tb} (hw:bY sc≤10000) (t s:ZS):inR (atX sc t s):=by
 unfold atX;cases h:dX sc t s with
 | none=>exact ⟨am,am⟩
 | some p =>
   have h1:=(List.getElem?_eq_some_iff.1 (tC h)).1;have h2:(kU sc).length=bY sc:=by
    unfold bY kU;rw [List.length_flatMap];simp
   constructor
   ·show (-9223372036854775808:Int)≤(p.1:Int);omega
   ·show (p.1:Int)≤9223372036854775807;omega
theorem Kg (A:ZT) (c:Nat) (l:List dW) (t s:ZS) (hn:l.length≤100) (hw:bY (aE l)≤10000):qD A c l (.col t s):=by
 intro S w r hA hr;obtain rfl:r=rcC t s:=hr;have hb0:=QA;have HF:=κ (Bf A c l t s _ (hA.below hb0) hn hw);have HI:=κ (Su hw t s);have HB:=sv;have HE:=κ (show (⟨#[35]⟩:ByteArray)++(⟨(Lib.itoa (atX (aE l) t s)).toArray⟩:ByteArray)=shB (aE l) (.col t s) from Yl _);have hsz:(⟨(Lib.itoa (atX (aE l) t s)).toArray⟩:ByteArray).size≤21:=by
  have:=Lib.itoa_length_le (atX (aE l) t s) HI.o.1 HI.o.2;show (Lib.itoa (atX (aE l) t s)).toArray.size≤_;rw [List.size_toArray];exact ah
 have HD:=κ (λW=>Gj (atX (aE l) t s) W HI.o);obtain ⟨D,hD⟩:∃ D:ByteArray,(⟨(Lib.itoa (atX (aE l) t s)).toArray⟩:ByteArray)=D:=cw;rw [hD] at HE HD hsz;obtain ⟨Y,y1,z1,A1⟩:=dG ⟨#[35]⟩ D (ν _) hsz am;rw [y1] at HE;have HX:=κ (λW=>wT Y W);simp only [RC.val,rcT] at HX;simp only [RC.val,rcC];generalize atX (aE l) t s=n at *;clear hb0 hA hD y1 z1 hsz;go_enter func13,ntmps13;go_wp2_with fail;refine μ HF ?_;rintro e w1 ⟨rfl,hb1⟩;have HB1:=κ (HB.o.trans (hb1.mono HB.o.size));clear hb1;go_wp2_with fail;refine (HD.o _).mono ?_;rintro e w2 ⟨rfl,rfl⟩;go_wp2_with fail;refine (HX.o _).mono ?_;rintro e w3 ⟨rfl,hb3⟩;have HB3:=κ (HB1.o.trans (hb3.mono HB1.o.size));clear hb3;go_wp2;go_ret;exact ⟨congrArg (λx=>Ending.returned (.string x)) HE.o,HB3.o⟩
def Fa (sc:List Tb) (xs:List Lp.X):List RC:=(xs.map (shB sc)).map rcT
theorem aBQ (sc:List Tb) {xs:List Lp.X} {i:Nat} (h:i<xs.length):rcs (Fa sc (xs.take i))++(rcT (shB sc xs[i])).cells=rcs (Fa sc (xs.take (i+1))):=by
 rw [List.take_succ_eq_append_getElem h];simp only [rcs,Fa,List.map_append,List.map_cons,List.map_nil,List.flatMap_append,List.flatMap_cons,List.flatMap_nil,List.append_nil]
theorem aHW (r:RC):∀ u∈r.cells,u.oneCell'=true:=by
 intro u hu;simp only [RC.cells,List.mem_cons,List.not_mem_nil,or_false] at hu;rcases hu with rfl|rfl|rfl|rfl|rfl|rfl|rfl|rfl<;>rfl
theorem pF (A:ZT) (c:Nat) (l:List dW) (k vk vi:Int) (vs:ByteArray) (vb:Bool) (op:ZS) (c0:Nat) (xs:List Lp.X) (R:ByteArray) (h2:(k==2)=false) (hn:xs.length≤2) (S:Nat->Prop) (w:World) (Ar:ZT) (rs:List RC) (hA:ScA w A l) (hp:Pts S w Ar xs rs) (ho:∀ y∈xs,qD A c l y)
 (hT:∀ (W:World) (A8:ZT) (c8:Nat),(xs.length=0->A8=none∧c8=0)->Rds W A8 (rcs (Fa (aE l) xs))->Calls prog 41 #[.agg #[.int .u8 k,.int .u8 vk,vi,vs,vb,(),op,.slice A8 xs.length c8]] W λe w'=>e=.returned (.string R)∧Below W W w') :
 Calls prog 13 #[.slice A l.length c,.agg #[.int .u8 k,.int .u8 vk,vi,vs,vb,(),op,.slice Ar xs.length c0]] w λe w'=>e=.returned (.string R)∧Below w w w':=by
 obtain ⟨iE,hiE,hz0,hz1,hz2⟩:=info_parts Zc;have hnI:=FW
 have HT:=κ hT;have HO:=κ ho;generalize (op:ByteArray)=O at *;have hc:=β (heap_alloc_new w (.cells #[.int .u8 k,.int .u8 vk,vi,vs,vb,(),O,.slice Ar xs.length c0] 60));have hb0:Below w w ((w.alloc (.cells #[.int .u8 k,.int .u8 vk,vi,vs,vb,(),O,.slice Ar xs.length c0] 60)).alloc (.cells #[.int .u8 k,.int .u8 vk,vi,vs,vb,(),O,.slice none 0 0] 60)):=(ρ).alloc aa _;have hy0:=bG w (.cells #[.int .u8 k,.int .u8 vk,vi,vs,vb,(),O,.slice Ar xs.length c0] 60) (.cells #[.int .u8 k,.int .u8 vk,vi,vs,vb,(),O,.slice none 0 0] 60);have hs0:w.heap.size+1+1≤((w.alloc (.cells #[.int .u8 k,.int .u8 vk,vi,vs,vb,(),O,.slice Ar xs.length c0] 60)).alloc (.cells #[.int .u8 k,.int .u8 vk,vi,vs,vb,(),O,.slice none 0 0] 60)).heap.size:=aa
 have HB:=κ (ι hb0 (ι hy0 hs0));have HA:=κ hA;have HP:=ef;clear hT ho hA hp hb0 hy0 hs0;go_enter func13,ntmps13;go_wp2_with fail;generalize ((w.alloc (.cells #[.int .u8 k,.int .u8 vk,vi,vs,vb,(),O,.slice Ar xs.length c0] 60)).alloc (.cells #[.int .u8 k,.int .u8 vk,vi,vs,vb,(),O,.slice none 0 0] 60))=W0 at *;clear hc
 go_loopw [7,26] (λ_ s26 wr=>∃ (i:Nat) (A8:ZT) (c8:Nat),i≤xs.length∧s26=.int .i64 i∧(i=0->A8=none∧c8=0)∧wr.heap[w.heap.size+1]? = some (.cells #[.int .u8 k,.int .u8 vk,vi,vs,vb,(),O,.slice A8 i c8] 60 (0,0))∧wr.ownsRow (w+1+1) 60 8 (.slice A8 i c8) i (rcs (Fa (aE l) (xs.take i)))∧Below w w wr∧w.heap.size+1+1≤wr.heap.size) (λ_ s26 _=>xs.length-(intOf s26).toNat)
 case atStart=>exact ⟨0,none,0,Nat.zero_le _,rfl,λ_=>⟨rfl,rfl⟩,HB.o.2.1,World.ownsRow_nil _ _ _ _,HB.o.1,HB.o.2.2⟩
 case round =>
  obtain ⟨i,A8,c8,hi,rfl,h08,hy,hown,hb,hsz⟩:=dd;have H08:=κ h08;clear h08
  by_cases hlt:i<xs.length
  ·have hpw:=HP.o.below hb;have hri:=FY
   obtain ⟨bR,oR,hAR,q0,q1,q2,q3,q4,q5,q6,q7⟩:=GD;have hrx:=GC;have hok:=GB;have HTS:=κ (aBQ (aE l) hlt);subst hAR;generalize rs[i]=r at *;generalize xs[i]=y at *;obtain ⟨rk,rvk,rvi,rvs,rvb,rt,rs0,rA,rn,rc⟩:=r;generalize rcs (Fa (aE l) (xs.take i))=old at *;obtain ⟨nw,hnw⟩:∃ nw,rcs (Fa (aE l) (xs.take (i+1)))=nw:=cw;rw [hnw] at HTS;have HNW:=κ hnw;clear hnw;have hbz:=GA;have hzz:=IE;have hyz:=aA hy hbz;have hoz:=aN hown hbz;have hbw:=hb.trans (hbz.mono hb.size);have hsw:w.heap.size+1+1≤(wr.alloc (.cells #[.int .u8 rk,.int .u8 rvk,rvi,rvs,rvb,rt,rs0,.slice rA rn rc] 60)).heap.size:=FO
   have hrz:=RX.below hbz hrx;have hAz:=HA.o.below hbw;obtain ⟨T,hT⟩:∃ T,shB (aE l) y=T:=cw;rw [hT] at HTS;have HXX:=κ (ι hyz (ι hoz (ι hbw (ι hsw (ι hrz (ι hAz (ι hok (ι hT hzz))))))));clear hb hpw hri hrx hok hbz hzz hyz hoz hbw hsw hrz hAz hT hy hown hsz;go_upto_region 8 with fail;generalize (wr.alloc (.cells #[.int .u8 rk,.int .u8 rvk,rvi,rvs,rvb,rt,rs0,.slice rA rn rc] 60))=wz at *;have HX:Hd0 (∀ W':World,Below wz wz W'->Calls prog 13 #[.slice A l.length c,.agg #[.int .u8 rk,.int .u8 rvk,rvi,rvs,rvb,rt,rs0,.slice rA rn rc]] W' λe w'=>e=.returned (.string T)∧Below wz wz w'):=by
    intro W' hb';have:=HXX.o.2.2.2.2.2.2.1 S W' _ (HXX.o.2.2.2.2.2.1.below hb') (RX.below hb' HXX.o.2.2.2.2.1);rw [HXX.o.2.2.2.2.2.2.2.1] at this;exact this.mono λ_ _ ⟨h1,h2⟩=>⟨h1,hb'.trans (h2.mono hb'.size)⟩
   have cy:=β HXX.o.1;have cz:=β HXX.o.2.2.2.2.2.2.2.2;have HXY:=κ (ι HXX.o.1 (ι HXX.o.2.1 (ι HXX.o.2.2.1 HXX.o.2.2.2.1)));clear q0 q1 q2 q3 q4 q5 q6 q7 HXX;go_wp2_with fail
   go_region_law (first
    | (go_simp;go_at_call 13;refine (HX.o _ (by first|exact θ|exact (θ).drew)).mono ?_;rintro e w2 ⟨rfl,hb2⟩;have hy2:=aA HXY.o.1 hb2;have ho2:=aN HXY.o.2.1 hb2;have hbw2:=HXY.o.2.2.1.trans (hb2.mono HXY.o.2.2.1.size);have hs2:=Nat.le_trans HXY.o.2.2.2 hb2.size;have cy2:=β hy2;have cy3:=λ(o:Obj) (j:Nat)=>β (aB hy2 o) j)
    | (refine bL _ rfl (.tmp 31) (.tmp 36) _ rfl (w.heap.size+1+1) 60 iE _ 8 104 underlying36 hiE hz0 hz1 hz2 rfl (by omega) _ _ _ old rfl ?_ _ 1 1 ((rcT T).cells) rfl rfl ?_ ?_ ?_ ?_ ?_ ?_
       ·exact ho2.alloc _
       ·exact aS (rcT T).cells (heap_alloc_new _ _)
       ·exact aHW _
       ·simp only [maxLen];omega
       ·omega
       ·rw [World.size_alloc];omega
       intro A5 c5 w5 ho5 hb5 hg5 hk5;have hy5:=(hk5 _ _ (aB hy2 _) (aHZ ho2 (Nat.lt_succ_self _))).1;have hb5w:=(hbw2.alloc hbw2.size _).trans (hb5.mono (Nat.le_trans (Nat.le_succ _) (Nat.le_succ _)));have hs5:w.heap.size+1+1≤w5.heap.size:=by have:=hb5.size;rw [World.size_alloc] at this;omega
       have cy5:=β hy5;have fy5:=λj=>frozen_of_row _ _ j _ _ hy5))
   all_goals
    have hy6:=heap_setCell_same w5 (w+1) 7 _ _ (.slice A5 (i+1) c5) hy5;rw [show (#[Value.int .u8 k,.int .u8 vk,vi,vs,vb,(),O,.slice A8 i c8]:ZV).setIfInBounds 7 (.slice A5 (i+1) c5)=#[.int .u8 k,.int .u8 vk,.int .i64 vi,.string vs,.bool vb,.string ⟨#[]⟩,.string O,.slice A5 (i+1) c5] by simp] at hy6;have ho6:=World.ownsRow_setCell_lt ho5 (a:=⟨w+1,7,none⟩) (Nat.lt_succ_self _) (.slice A5 (i+1) c5);have hb6:=hb5w.setCell (p:=⟨w+1,7,none⟩) (Nat.le_succ _) (.slice A5 (i+1) c5);rw [HTS.o, <-HNW.o] at ho6;have hs6:w.heap.size+1+1≤(w5.setCell ⟨w+1,7,none⟩ (.slice A5 (i+1) c5)).heap.size:=by rw [World.size_setCell];exact hs5
    have HZ:=κ (ι hy6 (ι ho6 (ι hb6 hs6)));clear hy6 ho6 hb6 hs6 hy5 ho5 hb5 hg5 hk5 hb5w hs5 cy5 fy5 hy2 ho2 hbw2 hs2 cy2 cy3 cy cz HXY HX hb2;go_wp2
    go_roundw
    case rel=>exact ⟨i+1,A5,c5,ac,de,λh=>absurd h (Nat.succ_ne_zero _),HZ.o.1,HZ.o.2.1,HZ.o.2.2.1,HZ.o.2.2.2⟩
    case measure=>simp [intOf];omega
  ·have hi2:=ld
   subst hi2;rw [List.take_length] at hown;have cy:=β hy;have HC:=κ (HT.o wr A8 c8 H08.o (Rds.own hown));have HQ:=dm;clear hy hown hb hsz;go_wp2_with fail;refine μ HC ?_;rintro e w2 ⟨rfl,hb2⟩;have HQ2:=κ (HQ.o.trans (hb2.mono HQ.o.size));clear hb2;go_wp2;go_ret;exact ⟨rfl,HQ2.o⟩
theorem qL {A:ZT} {c:Nat} {l:List dW} {x:Lp.X} (hk:dR x≠[]) (h2:(iO x==2)=false) (hn:(dR x).length≤2) (ho:∀ y∈dR x,qD A c l y)
 (hT:∀ (W:World) (A8:ZT) (c8:Nat),Rds W A8 (rcs (Fa (aE l) (dR x)))->Calls prog 41 #[.agg #[.int .u8 (iO x),.int .u8 0,.int .i64 0,(),false,(),.string ⟨(rU x).toArray⟩,.slice A8 (dR x).length c8]] W λe w'=>e=.returned (.string (shB (aE l) x))∧Below W W w'):qD A c l x:=by
 intro S w r hA hr;obtain ⟨Ar,rs,rfl,hp⟩:=Cz hr hk;exact pF A c l (iO x) 0 0 ⟨#[]⟩ false (rU x) (dR x).length (dR x) (shB (aE l) x) h2 hn S w Ar rs hA hp ho λW A8 c8 _ h=>hT W A8 c8 h
theorem aFP:∀ o∈nH,o.length≤10:=am
theorem aFZ:∀ o∈kG,o.length≤10:=am
theorem jT (A:ZT) (c:Nat) (l:List dW) (hn:l.length≤100) (hw:bY (aE l)≤10000):∀ x:Lp.X,x.wf->x.size≤10000->qD A c l x:=by
 have nil_ne:=GL
 intro x
 induction x with
 | lit k i s b =>
   intro hx _ S w r hA hr;obtain rfl:r=rcL k i s b:=hr;have hi:inR i∧s.length≤2000:=by
    rcases hx with ⟨-,h1,h2,h3, -⟩|⟨-,h1,h2, -⟩|⟨-,h1,h2, -⟩|⟨-,h1,h2⟩
    ·exact ⟨⟨ac,h2⟩,by rw [h3];simp⟩
    ·exact ⟨⟨ac,ac⟩,h2⟩
    ·exact IF
    ·exact IF
   have:=pF A c l 1 k i s b [] 0 [] (shB (aE l) (.lit k i s b)) rfl aa S w none [] hA ⟨rfl,.inl rfl,λ_ h=>absurd h (Nat.not_lt_zero _)⟩ (λy hy=>by cases hy) λW A8 c8 h0 _=>by
    obtain ⟨rfl,rfl⟩:=h0 rfl;exact Ju k i s b W hi.1 ac
   exact ah
 | col t s=>intro _ _;exact Kg A c l t s hn hw
 | cnt =>
   intro _ _ S w r hA hr;obtain rfl:r=rc0 6 aJ:=hr;have:=pF A c l 6 0 0 ⟨#[]⟩ false aJ 0 [] (shB (aE l) .cnt) rfl aa S w none [] hA ⟨rfl,.inl rfl,λ_ h=>absurd h (Nat.not_lt_zero _)⟩ (λy hy=>by cases hy) λW A8 c8 h0 _=>by
    obtain ⟨rfl,rfl⟩:=h0 rfl;exact Tq W
   exact ah
 | un op x ih =>
   intro hx hs;have hs2:=IG
   refine qL GN (by show ((3:Int)==2)=false;decide) IJ (λy hy=>IH) λW A8 c8 h => ?_;have:=aBT op (by rcases hx.1 with rfl|rfl<;>decide) (shB (aE l) x) (gW hw hx.2 hs2) A8 c8 W h;rw [show (⟨#[40]⟩:ByteArray)++⟨op.toArray⟩++⟨#[32]⟩++shB (aE l) x++⟨#[41]⟩=shB (aE l) (.un op x) by
    apply kF;rw [cQ,cQ,cQ,cQ];simp [shB,aO]] at this
   exact ah
 | isn n x ih =>
   intro hx hs;have hs2:=IG
   refine qL GN (by show ((5:Int)==2)=false;decide) IJ (λy hy=>by rw [List.mem_singleton.1 hy];exact ih hx hs2) λW A8 c8 h => ?_;have:=Tp n (shB (aE l) x) (gW hw hx hs2) A8 c8 W h;rw [show (⟨#[40]⟩:ByteArray)++shB (aE l) x++⟨(32::(isN n++[41])).toArray⟩=shB (aE l) (.isn n x) by
    apply kF;rw [cQ,cQ];simp [shB,aO,isN]] at this
   exact ah
 | agg op x ih =>
   intro hx hs;have hs2:=IG
   refine qL GN (by show ((6:Int)==2)=false;decide) IJ (λy hy=>IH) λW A8 c8 h => ?_;have:=Tt op (aFZ op hx.1) (shB (aE l) x) (gW hw hx.2 hs2) A8 c8 W h;rw [show (op:ByteArray)++⟨#[40]⟩++shB (aE l) x++⟨#[41]⟩=shB (aE l) (.agg op x) by
    apply kF;rw [cQ,cQ,cQ];simp [shB,aO]] at this
   exact ah
 | bin op a b iha ihb =>
   intro hx hs;have hs2:a.size≤10000∧b.size≤10000:=IK
   refine qL GN (by show ((4:Int)==2)=false;decide) IJ (λy hy => ?_) λW A8 c8 h => ?_
   ·rcases List.mem_cons.1 hy with rfl|hy
    ·exact iha hx.2.1 hs2.1
    ·rw [List.mem_singleton.1 hy];exact ihb hx.2.2 hs2.2
   ·have:=Tr op (aFP op hx.1) (shB (aE l) a) (shB (aE l) b) (gW hw hx.2.1 hs2.1) (gW hw hx.2.2 hs2.2) A8 c8 W h;rw [show (⟨#[40]⟩:ByteArray)++shB (aE l) a++⟨#[32]⟩++⟨op.toArray⟩++⟨#[32]⟩++shB (aE l) b++⟨#[41]⟩=shB (aE l) (.bin op a b) by
     apply kF;rw [cQ,cQ,cQ,cQ,cQ,cQ];simp [shB,aO]] at this
    exact ah
theorem Yu (S:Lp.SS):(((S.map (·.2)).bind (aD Lp.rG)).bind bB).map (·.2)=(S.bind st2).map (·.2)∧∀ q',S.bind st2=some q'->∃ q,S=some q∧q'.1=q.1:=by
 cases S with
 | none=>exact ⟨rfl,λq' h=>lq⟩
 | some q =>
   simp only [Option.map_some,Option.bind_some];unfold st2 oO;rcases h1:aD Lp.rG q.2 with _|r1
   ·exact GY
   ·simp only [Option.bind_some];rcases h2:bB r1 with _|p
    ·exact GY
    ·exact GZ
theorem Nx (S:Lp.SS) (h0:lC wG (S.map (·.2))=false):S.map (·.2)=(S.bind st3).map (·.2)∧∀ q',S.bind st3=some q'->∃ q,S=some q∧q'.1={ q.1 with on:=none }:=by
 cases S with
 | none=>exact ⟨rfl,λq' h=>lq⟩
 | some q =>
   have h1:isF wG q.2=false:=h0;simp only [Option.map_some,Option.bind_some];unfold st3 onF;rw [h1];exact GZ
theorem Bz (S:Lp.SS) (h0:lC wG (S.map (·.2))=true):((((((S.map (·.2)).map List.tail).bind bB).map (·.2)).bind (aD Lp.wOn)).bind (pX 1 0)).map (·.2)=(S.bind st3).map (·.2)∧∀ q',S.bind st3=some q'->∃ q p,S=some q∧(((((S.map (·.2)).map List.tail).bind bB).map (·.2)).bind (aD Lp.wOn)).bind (pX 1 0)=some p∧q'.1={ q.1 with on:=some p.1 }:=by
 cases S with
 | none=>exact ⟨rfl,λq' h=>lq⟩
 | some q =>
   have h1:isF wG q.2=true:=h0;simp only [Option.map_some,Option.bind_some];unfold st3 onF;rw [h1];simp only [if_true];rcases h2:bB q.2.tail with _|p2
   ·exact GY
   ·simp only [Option.map_some,Option.bind_some];rcases h3:aD Lp.wOn p2.2 with _|r3
    ·exact GY
    ·simp only [Option.bind_some];rcases h4:pX 1 0 r3 with _|p
     ·exact GY
     ·exact IA
theorem aJS (S:Lp.SS):whO (S.map (·.2))=(S.bind st4).map (·.2)∧∀ q',S.bind st4=some q'->∃ q p,S=some q∧(S.map (·.2)).bind whF=some p∧q'.1={ q.1 with wh:=p.1 }:=by
 cases S with
 | none=>exact ⟨rfl,λq' h=>lq⟩
 | some q =>
   unfold whO;simp only [Option.map_some,Option.bind_some];unfold st4;rcases h1:whF q.2 with _|p
   ·exact GY
   ·exact IA
theorem Ol {α:Type} (w:ZS) (f:ZW->Option (α×ZW)) (u:Sel->List α->Sel) (S:Lp.SS) (h0:lC w (S.map (·.2))=false):S.map (·.2)=(S.bind λq=>(byF w f q.2).map λa=>(u q.1 a.1,a.2)).map (·.2)∧∀ q',(S.bind λq=>(byF w f q.2).map λa=>(u q.1 a.1,a.2))=some q'->∃ q,S=some q∧q'.1=u q.1 []:=by
 cases S with
 | none=>exact ⟨rfl,λq' h=>lq⟩
 | some q =>
   have h1:isF w q.2=false:=h0;simp only [Option.map_some,Option.bind_some];unfold byF;rw [h1];exact GZ
theorem Mb {α:Type} (w:ZS) (f:ZW->Option (α×ZW)) (u:Sel->List α->Sel) (S:Lp.SS) (h0:lC w (S.map (·.2))=true):((((S.map (·.2)).map List.tail).bind (aD wBy)).bind (dO f 8)).map (·.2)=(S.bind λq=>(byF w f q.2).map λa=>(u q.1 a.1,a.2)).map (·.2)∧∀ q',(S.bind λq=>(byF w f q.2).map λa=>(u q.1 a.1,a.2))=some q'->∃ q p,S=some q∧(((S.map (·.2)).map List.tail).bind (aD wBy)).bind (dO f 8)=some p∧q'.1=u q.1 p.1:=by
 cases S with
 | none=>exact ⟨rfl,λq' h=>lq⟩
 | some q =>
   have h1:isF w q.2=true:=h0;simp only [Option.map_some,Option.bind_some];unfold byF;rw [h1];simp only [if_true];rcases h2:aD wBy q.2.tail with _|r2
   ·exact GY
   ·simp only [Option.bind_some];rcases h3:dO f 8 r2 with _|p
    ·exact GY
    ·exact IA
theorem Xx (S:Lp.SS) (h0:lC oW (S.map (·.2))=false):S.map (·.2)=(S.bind st7).map (·.2)∧∀ q',S.bind st7=some q'->∃ q,S=some q∧q'.1={ q.1 with limit := -1 }:=by
 cases S with
 | none=>exact ⟨rfl,λq' h=>lq⟩
 | some q =>
   have h1:isF oW q.2=false:=h0;simp only [Option.map_some,Option.bind_some];unfold st7 uH;rw [h1];exact GZ
theorem sT (S:Lp.SS) (h0:lC oW (S.map (·.2))=true):(((S.map (·.2)).map List.tail).bind rD).map (·.2)=(S.bind st7).map (·.2)∧∀ q',S.bind st7=some q'->∃ q p,S=some q∧((S.map (·.2)).map List.tail).bind rD=some p∧q'.1={ q.1 with limit:=p.1 }:=by
 cases S with
 | none=>exact ⟨rfl,λq' h=>lq⟩
 | some q =>
   have h1:isF oW q.2=true:=h0;simp only [Option.map_some,Option.bind_some];unfold st7 uH;rw [h1];simp only [if_true];rcases h2:rD q.2.tail with _|p
   ·exact GY
   ·exact IA
theorem Ny (o:Option ZW) (h0:lC wAs ((o.bind (pX 1 0)).map (·.2))=false):(o.bind (pX 1 0)).map (·.2)=(o.bind dA).map (·.2)∧∀ p,(o.bind dA).map (·.1)=some p->(o.bind (pX 1 0)).map (·.1)=some p.1∧p.2=[]:=by
 cases o with
 | none=>exact ⟨rfl,λp h=>lq⟩
 | some l =>
   rw [Option.bind_some] at h0 |-;rw [Option.bind_some];unfold dA;rcases h1:pX 1 0 l with _|⟨x,r⟩
   ·exact IB
   ·rw [h1] at h0;have h2:isF wAs r=false:=h0;simp only [h2,φ,if_false];exact IC
theorem Hs (o:Option ZW) (h0:lC wAs ((o.bind (pX 1 0)).map (·.2))=true):((((o.bind (pX 1 0)).map (·.2)).map List.tail).bind bB).map (·.2)=(o.bind dA).map (·.2)∧∀ p,(o.bind dA).map (·.1)=some p->(o.bind (pX 1 0)).map (·.1)=some p.1∧∃ r,(((o.bind (pX 1 0)).map (·.2)).map List.tail).bind bB=some (p.2,r):=by
 cases o with
 | none=>exact ⟨rfl,λp h=>lq⟩
 | some l =>
   rw [Option.bind_some] at h0 |-;rw [Option.bind_some];unfold dA;rcases h1:pX 1 0 l with _|⟨x,r⟩
   ·exact IB
   ·rw [h1] at h0;have h2:isF wAs r=true:=h0;simp only [h2,if_true,Option.map_some,Option.bind_some];rcases h3:bB r.tail with _|⟨n,r3⟩
    ·exact IB
    ·exact ⟨rfl,λp h=>by injection h with h;subst h;exact ⟨rfl,r3,rfl⟩⟩
theorem Bq (o:Option ZW) (h0:lC wH ((o.bind (pX 1 0)).map (·.2))=true):((o.bind (pX 1 0)).map (·.2)).map List.tail=(o.bind bK).map (·.2)∧∀ p,(o.bind bK).map (·.1)=some p->(o.bind (pX 1 0)).map (·.1)=some p.1∧p.2=true:=by
 cases o with
 | none=>exact ⟨rfl,λp h=>lq⟩
 | some l =>
   rw [Option.bind_some] at h0 |-;rw [Option.bind_some];unfold bK;rcases h1:pX 1 0 l with _|⟨x,r⟩
   ·exact IB
   ·rw [h1] at h0;have h2:isF wH r=true:=h0;simp only [h2,if_true];exact IC
theorem Gw (o:Option ZW) (b:Bool) (h0:lC wH ((o.bind (pX 1 0)).map (·.2))=false) (hb:lC Tj ((o.bind (pX 1 0)).map (·.2))=b):(if b then ((o.bind (pX 1 0)).map (·.2)).map List.tail else (o.bind (pX 1 0)).map (·.2))=(o.bind bK).map (·.2)∧∀ p,(o.bind bK).map (·.1)=some p->(o.bind (pX 1 0)).map (·.1)=some p.1∧p.2=false:=by
 cases o with
 | none=>subst hb;exact IB
 | some l =>
   rw [Option.bind_some] at h0 hb |-;rw [Option.bind_some];unfold bK;rcases h1:pX 1 0 l with _|⟨x,r⟩
   ·rw [h1] at hb;subst hb;exact IB
   ·rw [h1] at h0 hb;have h2:isF wH r=false:=h0;have h3:isF Tj r=b:=hb;simp only [h2,h3];cases b<;>exact ⟨rfl,λp h=>ID⟩
def shO (sc:List Tb):Option Lp.X->ByteArray
 | none=>⟨#[]⟩
 | some x=>shB sc x
theorem Kf (A:ZT) (n c:Nat) (w:World):Calls prog 22 #[.slice A n c,.slice none 0 0] w λe w'=>e=.returned (.string ⟨#[]⟩)∧Below w w w':=by
 go_enter func22,ntmps22;go_wp2;go_ret;exact ⟨rfl,θ⟩
theorem Ke (A:ZT) (c:Nat) (l:List dW) (hn:l.length≤100) (hw:bY (aE l)≤10000) (x:Lp.X) (hx:x.wf) (hz:x.size≤10000) (S:Nat->Prop) (g:Nat) (r:RC) (w:World) (hA:ScA w A l) (hg:w.heap[g]? = some (.cells (RC.cells r).toArray 60 (0,0))) (hr:RX S w x r) :
 Calls prog 22 #[.slice A l.length c,.slice (some ⟨g,0,none⟩) 1 1] w λe w'=>e=.returned (.string (shB (aE l) x))∧Below w w w':=by
 obtain ⟨rk,rvk,rvi,rvs,rvb,rt,rs,rA,rn,rc⟩:=r;have HC:=κ (jT A c l hn hw x hx hz S w _ hA hr);simp only [RC.val] at HC;have hc:=β hg;simp only [RC.cells] at hc;clear hA hg hr;go_enter func22,ntmps22;go_wp2_with fail;refine μ HC ?_;rintro e w' ⟨rfl,hb⟩;go_wp2;go_ret;exact fg
theorem Na (A:ZT) (c:Nat) (l:List dW) (o:Option Lp.X) (u:Value) (w:World) (S:Nat->Prop) (hA:ScA w A l) (hn:l.length≤100) (hw:bY (aE l)≤10000) (hx:∀ x,o=some x->x.wf∧x.size≤10000) (hu:OXR S w o u) :
 Calls prog 22 #[.slice A l.length c,u] w λe w'=>e=.returned (.string (shO (aE l) o))∧Below w w w':=by
 cases o with
 | none =>
   rw [show u=.slice none 0 0 from hu];exact Kf A l.length c w
 | some x =>
   obtain ⟨g,rr,rfl, -,h2,h3⟩:=hu;exact Ke A c l hn hw x (hx x rfl).1 (hx x rfl).2 S g rr w hA h2 h3
