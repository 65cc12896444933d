/-
 Contracts. Conditions: those of each.
-/
import Derived.Test.YtkolcimllghnaaaGreatDoorQdVU
import Derived.Deep.DeepCutAuto
set_option maxRecDepth 100000
set_option maxHeartbeats 20000000
namespace Go.Proofs.YtkolcimllghnaaaGreatDoor
open Lp Go.Proofs.Tryz
open Go.RowKit
variable{s:ByteArray}{K:List Nat}{P c g i j k m most n:Nat}{w w' w0:World}{A:ZT}{vs:ZU}{r:ZW}
def RW (P:Nat) (w:World) (n:Nat):Prop:=∃ o,aDO o≤n∧RO P w o
theorem RW.low {P B n:Nat} {w w':World} (h:RW P w n) (hP:P<B) (hb:Below B w w'):RW P w' n:=by
 obtain ⟨o,h1,h2⟩:=h;exact ⟨o,h1,h2.low hP hb⟩
theorem RW.lt {P n:Nat} {w:World} (h:RW P w n):P<w:=by obtain ⟨o,h1,h2⟩:=h;exact h2.lt
theorem RW.below (h:RW P w n) (hb:Below w w w'):RW P w' n:=h.low h.lt hb
theorem RW.mono (h:RW P w n) (hm:n≤m):RW P w m:=by obtain ⟨o,h1,h2⟩:=h;exact ⟨o,Nat.le_trans h1 hm,h2⟩
theorem RW.box {w:World} {P g n:Nat} {cs:ZV} {t:TypeId} (hp:RW P w n) (hg:w.heap[g]? = some (.cells cs t (0,0))) (ht:t≠108):g≠P:=by
 obtain ⟨o,h1,h2⟩:=hp;exact h2.box hg ht
theorem RW.own {w w':World} {P B k size n:Nat} {e:TypeId} {v:Value} {xs:ZU} (hp:RW P w n) (h:w.ownsRow B e size v k xs) (hb:But P w w') (he:e≠108):w'.ownsRow B e size v k xs:=by
 obtain ⟨o,h1,h2⟩:=hp;exact h2.own h hb he
theorem RW.of {o:Option ZW} (h:RO P w o):RW P w 2000:=⟨o,h.len,h⟩
theorem sQ {α:Type} {o:Option ZW} {f:ZW->Option (α×ZW)} (hf:∀ l x r,f l=some (x,r)->r.length≤l.length):aDO ((o.bind f).map (·.2))≤aDO o:=by
 cases o with
 | none=>exact Nat.zero_le _
 | some l =>
   rw [Option.bind_some];rcases h:f l with _|⟨x,r⟩
   ·exact Nat.zero_le _
   ·exact hf l x r h
def WP (P:Nat) (w:World) (n:Nat) (V:Value->Prop) (e:Ending) (w':World):Prop:=∃ v,e=.returned v∧V v∧But P w w'∧RW P w' n
theorem Gs (s:ByteArray) (h:RW P w n):Calls prog 34 #[P,s] w (WP P w n λv=>∃ b,v=.bool b):=by
 obtain ⟨o,h1,h2⟩:=h;refine (fB P o s w h2 _ rfl).mono ?_;rintro e w' ⟨k1,k2,k3⟩;refine ⟨_,k1,⟨_,rfl⟩,k2,_, ?_,k3⟩;cases lC s.data.toList o
 ·exact h1
 ·cases o with
  | none=>exact h1
  | some l=>exact Nat.le_trans (aV l).length_le h1
theorem mW (s:ByteArray) (h:RW P w n):Calls prog 81 #[P,s] w (WP P w n λv=>v=.tuple #[]):=by
 obtain ⟨o,h1,h2⟩:=h;refine (Hd P o s w h2).mono ?_;rintro e w' ⟨k1,k2,k3⟩;refine ⟨_,k1,rfl,k2,_, ?_,k3⟩;cases o with
 | none=>exact Nat.zero_le _
 | some l =>
   rw [Option.bind_some];rcases hq:aD s.data.toList l with _|r
   ·exact Nat.zero_le _
   ·exact Nat.le_trans (aU hq).length_le h1
theorem aGW (c:Int) (hc:c≠0) (h:RW P w n):Calls prog 35 #[P,.int .i64 c] w (WP P w n λv=>v=.tuple #[]):=by
 obtain ⟨o,h1,h2⟩:=h;refine (Ih P o c hc w h2).mono ?_;rintro e w' ⟨k1,k2,k3⟩;exact ⟨_,k1,rfl,k2,none,Nat.zero_le _,k3⟩
theorem pP (h:RW P w n):Calls prog 80 #[P] w (WP P w n λv=>∃ s,v=.string s):=by
 obtain ⟨o,h1,h2⟩:=h;refine (Ns P o w h2).mono ?_;rintro e w' ⟨nm,k1,k2,k3, -⟩;exact ⟨_,k1,⟨_,rfl⟩,k2,_,Nat.le_trans (sQ λl x r h=>(bZ h).length_le) h1,k3⟩
theorem aKO (h:RW P w n):Calls prog 85 #[P,.int .i64 1] w (WP P w n λv=>∃ rr:RC,v=rr.val):=by
 obtain ⟨o,h1,h2⟩:=h;refine (Od P o w h2).mono ?_;rintro e w' ⟨nm,k1,k2,k3, -⟩;exact ⟨_,k1,⟨_,rfl⟩,k2,_,Nat.le_trans (sQ λl x r h=>(iJ h).length_le) h1,k3⟩
theorem aKM (most:Nat) (hm:most≤100) (h1m:1≤most) (h:RW P w n):Calls prog 83 #[P,.int .i64 most] w (WP P w n λv=>∃ A k c,v=.slice A k c):=by
 obtain ⟨o,h1,h2⟩:=h;refine (aGV P most o w h2 hm h1m).mono ?_;rintro e w' ⟨A,k,c,k1,k2,k3, -⟩;exact ⟨_,k1,⟨_,_,_,rfl⟩,k2,_,Nat.le_trans (sQ λl x r h=>(lQ (wB 1 0) most _ _ _ _ _ h).2.length_le) h1,k3⟩
theorem aBO {l:ZW} {x:Option Lp.X} (h:whF l=some (x,r)):r <:+ l:=by
 unfold whF at h
 split at h
 ·obtain ⟨⟨y,r1⟩,h1,h2⟩:=aq;simp only [Prod.mk.injEq] at h2;rw [<-h2.2];exact (iJ h1).trans (aV l)
 ·simp only [Option.some.injEq,Prod.mk.injEq] at h;rw [<-h.2];exact List.suffix_refl l
theorem Tg (h:RW P w n):Calls prog 86 #[P] w (WP P w n λv=>∃ A k c,v=.slice A k c):=by
 obtain ⟨o,h1,h2⟩:=h;refine (aHF P o w h2).mono ?_;rintro e w' ⟨⟨A,k,c,k1⟩,k2,k3⟩;exact ⟨_,k1,⟨_,_,_,rfl⟩,k2,_,Nat.le_trans (sQ λl x r h=>(aBO h).length_le) h1,k3⟩
theorem Xl (k most:Nat) (h:RW P w n):Calls prog 84 #[P,.int .i64 k,.int .i64 most] w λe w'=>But P w w'∧(e=.returned (.bool false)∧RW P w' n∨e=.returned (.bool true)∧∃ m,m+1=n∧RW P w' m):=by
 obtain ⟨o,h1,h2⟩:=h;refine (Xm P k most o w h2).mono ?_;rintro e w' ⟨k1,k2,k3⟩;refine ⟨k2, ?_⟩;cases o with
 | none=>exact .inl ⟨k1,none,Nat.zero_le _,k3⟩
 | some l =>
   unfold rE at k1 k3
   by_cases hc:isF eI l=true
   ·simp only [hc,if_true] at k1 k3;have:=bD hc;have h1':l.length≤n:=h1
    by_cases hz:most≤k∧0<l.tail.length
    ·rw [if_pos hz] at k1 k3;exact .inl ⟨k1,none,Nat.zero_le _,k3⟩
    ·rw [if_neg hz] at k1 k3;exact .inr ⟨k1,n-1,ac,some l.tail,by show l.tail.length≤n-1;omega,k3⟩
   ·simp only [hc] at k1 k3;exact .inl ⟨k1,some l,h1,k3⟩
theorem But.box {P g n:Nat} {w w':World} {cs:ZV} {t:TypeId} (hb:But P w w') (hp:RW P w n) (hg:w.heap[g]? = some (.cells cs t (0,0))) (ht:t≠108):w'.heap[g]? = some (.cells cs t (0,0)):=aL hb hg (hp.box hg ht)
def zL (j:Nat) (v:Value):Prop:=(j=0->∃ k,v=.int .u8 k)∧(1≤j->j≤3->∃ s,v=.string s)∧(4≤j->j≤11->∃ A n c,v=.slice A n c)∧(j=12->∃ n,v=.int .i64 n)
def Cs13 (cs:ZU):Prop:=cs.length=13∧∀ j v,cs[j]? = some v->zL j v
theorem sD (h1:1≤j) (h2:j≤3) (s:ByteArray):zL j (.string s):=⟨λh=>ac,λ_ _=>⟨s,rfl⟩,λh=>ac,λh=>ac⟩
theorem oQ (h1:4≤j) (h2:j≤11) (A:ZT) (n c:Nat):zL j (.slice A n c):=⟨λh=>ac,λ_ h=>ac,λ_ _=>⟨A,n,c,rfl⟩,λh=>ac⟩
theorem Ms (n:Int):zL 12 (.int .i64 n):=⟨λh=>ac,λ_ h=>ac,λ_ h=>ac,λ_=>⟨n,rfl⟩⟩
theorem Cs13.set {cs:ZU} (h:Cs13 cs) {j:Nat} {v:Value} (hv:zL j v):Cs13 (cs.set j v):=by
 refine ⟨by simpa using h.1,λi u hu => ?_⟩
 by_cases hij:j=i
 ·subst hij;rw [List.getElem?_set_self' ] at hu;rcases hc:cs[j]? with _|x
  ·rw [hc] at hu;cases hu
  ·rw [hc] at hu;injection hu with hu;rw [<-hu];exact hv
 ·rw [List.getElem?_set_ne hij] at hu;exact h.2 i u hu
theorem nE {cs:ZU} (h:Cs13 cs):∃ k s1 s2 s3 A4 n4 c4 A5 n5 c5 A6 n6 c6 A7 n7 c7 A8 n8 c8 A9 n9 c9 A10 n10 c10 A11 n11 c11 li,cs=[.int .u8 k,.string s1,.string s2,.string s3,.slice A4 n4 c4,.slice A5 n5 c5,.slice A6 n6 c6,.slice A7 n7 c7,.slice A8 n8 c8,.slice A9 n9 c9,.slice A10 n10 c10,.slice A11 n11 c11,.int .i64 li]:=by
 obtain ⟨h1,h2⟩:=h
 match cs,h1 with
 | [a0,a1,a2,a3,a4,a5,a6,a7,a8,a9,a10,a11,a12],_ =>
   obtain ⟨k,rfl⟩:=(h2 0 _ rfl).1 rfl;obtain ⟨s1,rfl⟩:=(h2 1 _ rfl).2.1 ac ac;obtain ⟨s2,rfl⟩:=(h2 2 _ rfl).2.1 ac ac;obtain ⟨s3,rfl⟩:=(h2 3 _ rfl).2.1 ac ac;obtain ⟨A4,n4,c4,rfl⟩:=(h2 4 _ rfl).2.2.1 ac ac;obtain ⟨A5,n5,c5,rfl⟩:=(h2 5 _ rfl).2.2.1 ac ac;obtain ⟨A6,n6,c6,rfl⟩:=(h2 6 _ rfl).2.2.1 ac ac;obtain ⟨A7,n7,c7,rfl⟩:=(h2 7 _ rfl).2.2.1 ac ac;obtain ⟨A8,n8,c8,rfl⟩:=(h2 8 _ rfl).2.2.1 ac ac;obtain ⟨A9,n9,c9,rfl⟩:=(h2 9 _ rfl).2.2.1 ac ac;obtain ⟨A10,n10,c10,rfl⟩:=(h2 10 _ rfl).2.2.1 ac ac;obtain ⟨A11,n11,c11,rfl⟩:=(h2 11 _ rfl).2.2.1 ac ac;obtain ⟨li,rfl⟩:=(h2 12 _ rfl).2.2.2 rfl;exact ⟨k,s1,s2,s3,A4,n4,c4,A5,n5,c5,A6,n6,c6,A7,n7,c7,A8,n8,c8,A9,n9,c9,A10,n10,c10,A11,n11,c11,li,rfl⟩
def XS (P n:Nat) (K:List Nat) (w0 w:World):Prop:=But P w0 w∧RW P w n∧w.heap[w0.heap.size]? = some (.cells stZ.toArray 38 (0,0))∧∃ cs:ZU,Cs13 cs∧w.heap[w0.heap.size+1]? = some (.cells cs.toArray 38 (0,0))∧∀ k∈K,cs[k]? = some (.slice none 0 0)
theorem XS.next (h:XS P n K w0 w) (hb:But P w w') (hp:RW P w' n):XS P n K w0 w':=by
 obtain ⟨h1,h2,h3,cs,h4,h5,h6⟩:=h;exact IX
theorem XS.set {P n:Nat} {K:List Nat} {w0 w:World} (h:XS P n K w0 w) (hP:P<w0) (j:Nat) (hj:j ∉ K) (v:Value) (hv:zL j v):XS P n K w0 (w.setCell ⟨w0+1,j,none⟩ v):=by
 obtain ⟨h1,h2,h3,cs,h4,h5,h6⟩:=h;refine ⟨bP h1 (Nat.le_succ _) _ _,h2.low (B:=w0) hP ((θ).setCell (p:=⟨w0+1,j,none⟩) (Nat.le_succ _) v),(Below.heap_setCell w ⟨w0+1,j,none⟩ v _ IY).trans h3,cs.set j v,h4.set hv, ?_,λk hk => ?_⟩
 ·have:=heap_setCell_same w (w0+1) j _ _ v h5;rwa [List.setIfInBounds_toArray] at this
 ·rw [List.getElem?_set_ne IZ];exact h6 k hk
theorem XS.below {P n:Nat} {K:List Nat} {w0 w w':World} (h:XS P n K w0 w) (hb:Below w w w'):XS P n K w0 w':=by
 obtain ⟨h1,h2,h3,cs,h4,h5,h6⟩:=h;exact ⟨h1.trans (But.of hb),h2.below hb,aA h3 hb,cs,h4,aA h5 hb,h6⟩
theorem XS.at_ (h:XS P n K w0 w):(∀ j,w.frozen? ⟨w0+1,j,none⟩=false)∧∀ j,j<13->∃ u,w.cell? ⟨w0+1,j,none⟩=some u:=by
 obtain ⟨h1,h2,h3,cs,h4,h5,h6⟩:=h;refine ⟨λj=>frozen_of_row w _ j _ _ h5,λj hj=>⟨cs[j]' JA,(β h5 j).trans ?_⟩⟩;rw [γ,List.getElem?_eq_getElem JA]
def LS (P n k i:Nat) (A:ZT) (c:Nat) (vs:ZU) (K:List Nat) (w0 w:World):Prop:=But P w0 w∧RW P w n∧w.heap[w0.heap.size]? = some (.cells stZ.toArray 38 (0,0))∧(∃ cs:ZU,Cs13 cs∧w.heap[w0.heap.size+1]? = some (.cells cs.toArray 38 (0,0))∧cs[k]? = some (.slice A i c)∧∀ j∈K,cs[j]? = some (.slice none 0 0))∧w.ownsRow w0 72 10 (.slice A i c) i vs
theorem LS.of {K2:List Nat} (h:XS P n K w0 w) (hk:k∈K) (h2:∀ j∈K2,j∈K):LS P n k 0 none 0 [] K2 w0 w:=by
 obtain ⟨h1,h2',h3,cs,h4,h5,h6⟩:=h;exact ⟨h1,h2',h3,⟨cs,h4,h5,h6 k hk,λj hj=>h6 j (h2 j hj)⟩,World.ownsRow_nil _ _ _ _⟩
theorem LS.xs (h:LS P n k i A c vs K w0 w):XS P n K w0 w:=by
 obtain ⟨h1,h2,h3,⟨cs,h4,h5, -,h6⟩, -⟩:=h;exact ⟨h1,h2,h3,cs,h4,h5,h6⟩
theorem LS.next (h:LS P n k i A c vs K w0 w) (hb:But P w w') (hp:RW P w' m):LS P m k i A c vs K w0 w':=by
 obtain ⟨h1,h2,h3,⟨cs,h4,h5,h6,h7⟩,h8⟩:=h;exact ⟨h1.trans hb,hp,hb.box h2 h3 am,⟨cs,h4,hb.box h2 h5 am,h6,h7⟩,h2.own h8 hb am⟩
def PtS (P n k i:Nat) (A:ZT) (c:Nat) (vs:ZU) (K:List Nat) (w0:World) (g:Nat) (w:World):Prop:=LS P n k i A c vs K w0 w∧w0.heap.size+2≤g∧some g≠Value.ownBlock (.slice A i c)∧∃ (rr:RC) (s:ByteArray) (d:Bool),w.heap[g]? = some (.cells (rr.cells++[Value.string s,Value.bool d]).toArray 72 (0,0))
theorem PtS.next {P n k i c g:Nat} {A:ZT} {vs:ZU} {K:List Nat} {w0 w w':World} (h:PtS P n k i A c vs K w0 g w) (hb:But P w w') (hp:RW P w' n):PtS P n k i A c vs K w0 g w':=by
 obtain ⟨h1,h2,h3,rr,s,d,h4⟩:=h;exact ⟨h1.next hb hp,h2,h3,rr,s,d,hb.box h1.2.1 h4 am⟩
theorem PtS.new (h:LS P n k i A c vs K w0 w) (rr:RC) (s:ByteArray) (d:Bool):PtS P n k i A c vs K w0 w (w.alloc (.cells (rr.cells++[Value.string s,Value.bool d]).toArray 72)):=by
 have hb:Below w w (w.alloc (.cells (rr.cells++[Value.string s,Value.bool d]).toArray 72)):=ρ;refine ⟨h.next (But.of hb) (h.2.1.below hb), ?_,fW h.2.2.2.2 (ν _),rr,s,d,heap_alloc_new w _⟩;obtain ⟨-, -, -,⟨cs, -,h5, -⟩, -⟩:=h;have:=aG h5;omega
theorem PtS.set (h:PtS P n k i A c vs K w0 g w) (hP:P<w0) (j:Nat) (v:Value) (hv:(j=8∧∃ s,v=.string s)∨(j=9∧∃ d,v=.bool d)):PtS P n k i A c vs K w0 g (w.setCell ⟨g,j,none⟩ v):=by
 obtain ⟨⟨h1,h2,h3,⟨cs,h4,h5,h6,h7⟩,h8⟩,h9,h10,rr,s,d,h11⟩:=h;have far:=JB;have h12:=heap_setCell_same w g j _ _ v h11;rw [List.setIfInBounds_toArray] at h12;refine ⟨⟨bP h1 ac _ _,h2.low (B:=w0) hP ((θ).setCell (p:=⟨g,j,none⟩) (by show w0.heap.size≤g;omega) v),(far _ ac).trans h3,⟨cs,h4,(far _ ac).trans h5,h6,h7⟩,h8.1, ?_⟩,h9,h10, ?_⟩
 ·rcases h8.2 with k2|⟨g',cap,cur,k2,k3,k4,k5⟩
  ·exact .inl k2
  ·refine .inr ⟨g',cap,cur,k2,k3,(far g' ?_).trans k4,k5⟩;intro e;rw [k2] at h10;exact h10 pc
 ·rcases hv with ⟨rfl,s2,rfl⟩|⟨rfl,d2,rfl⟩
  ·exact ⟨rr,s2,d,by rw [h12];rfl⟩
  ·exact ⟨rr,s,d2,by rw [h12];rfl⟩
theorem PtS.cells (h:PtS P n k i A c vs K w0 g w):(∀ j,w.frozen? ⟨g,j,none⟩=false)∧(∃ s,w.cell? ⟨g,8,none⟩=some (.string s))∧∃ d,w.cell? ⟨g,9,none⟩=some (.bool d):=by
 obtain ⟨-, -, -,rr,s,d,h4⟩:=h;exact ⟨λj=>frozen_of_row w _ j _ _ h4,⟨s,β h4 8⟩,d,β h4 9⟩
theorem pK:(prog.info? 72).map (λi=>(i.zero,i.size,i.bytes))=some (some (.agg #[.int .u8 0,.int .u8 0,.int .i64 0,(),false,(),(),.slice none 0 0,(),false]),10,128):=aj
theorem Wr (h:k<s.size):quo (s.data.toList.take (k+1))=quo (s.data.toList.take k)++(if s[k]'h=39 then [39,39] else [s[k]'h]):=by
 rw [iV s k h,Wp]
theorem Dk (s:ByteArray) (k:Nat):(quo (s.data.toList.take k)).length≤2*s.size:=by
 rw [Dm];have h1:=List.count_le_length (a:=(39:UInt8)) (l:=s.data.toList.take k);have h2:(s.data.toList.take k).length≤s.size:=by
  rw [List.length_take];have:s.data.toList.length=s.size:=ig
  omega
 omega
theorem Oi (T:ZS):(T:ByteArray)++(⟨#[39]⟩:ByteArray)=⟨(T++[39]).toArray⟩:=zC T [39]
theorem Wc (k i:Int) (s:ByteArray) (b:Bool) (w:World) (hi:inR i) (hs:s.size≤1000000) :
 Calls prog 92 #[.agg #[.int .u8 k,.int .i64 i,s,b]] w λe w'=>e=.returned (.string ⟨(Lp.lit ⟨k,i,s,b⟩).toArray⟩)∧Below w w w':=by
 have hb0:=EM;rcases Yh k with rfl|rfl|rfl|hk
 ·have e:Lp.lit ⟨1,i,s,b⟩=Lib.itoa i:=rfl;rw [e];clear e;have HI:=κ hi;clear hi;go_enter func92,ntmps92;go_wp2_with fail;refine (Gj _ _ HI.o).mono ?_;rintro e w' ⟨rfl,rfl⟩;go_wp2;go_ret;exact ⟨rfl,hb0⟩
 ·have e:(⟨(Lp.lit ⟨2,i,s,b⟩).toArray⟩:ByteArray)=⟨(([39]++quo s.data.toList)++[39]).toArray⟩:=rfl;rw [e];clear e;obtain ⟨R,hR⟩:∃ R:ByteArray,(⟨(([39]++quo s.data.toList)++[39]).toArray⟩:ByteArray)=R:=cw;rw [hR];have HR:=κ hR;clear hR;go_enter func92,ntmps92;go_wp2_with fail
  go_loop [3,4] (λs3 s4=>∃ (k:Nat) (T:ZS),k≤s.size∧s4=.int .i64 k∧s3=.string ⟨T.toArray⟩∧Hd0 ([39]++quo (s.data.toList.take k)=T)∧T.length≤2*s.size+1) (λ_ s4=>s.size-(intOf s4).toNat)
  case atStart=>exact ⟨0,[39],Nat.zero_le _,rfl,rfl,rfl,aa⟩
  case round =>
   obtain ⟨k,T,hk,rfl,rfl,HT,hTl⟩:=dd
   by_cases hlt:k<s.size
   ·have hN:=Wr hlt;have hTl2:=Dk s (k+1);have hca:=aJE T s k hlt
    by_cases hq:s[k]'hlt=39
    ·have hc:(s[k]'hlt).toNat=39:=by rw [hq];rfl
     have HT2:Hd0 ([39]++quo (s.data.toList.take (k+1))=T++[s[k]'hlt,39]):=by
      show _=_;rw [hN,if_pos hq, <-HT.o,hq];simp
     have hl2:(T++[s[k]'hlt,39]).length≤2*s.size+1:=by
      rw [<-HT2.o];simp;omega
     have hl1:T.length+1+1≤2*s.size+1:=by simpa using hl2
     have hc1:=Oi (T++[s[k]'hlt]);have h0:(0:Int)≤(k:Int):=ac
     have h1:(k:Int)<(s.size:Int):=ac
     have HQ:=mi;clear hq hN hTl2 HT;go_wp2
     go_round
     case rel=>exact ⟨k+1,_,ac,de,rfl,HT2,hl2⟩
     case measure=>simp [intOf];omega
    ·have hc:(((s[k]'hlt).toNat:Int)==39)=false:=by
      rw [beq_eq_false_iff_ne];intro g;exact hq (UInt8.toNat_inj.1 GU)
     have HT2:Hd0 ([39]++quo (s.data.toList.take (k+1))=T++[s[k]'hlt]):=by
      show _=_;rw [hN,if_neg hq, <-HT.o];simp
     have hl2:(T++[s[k]'hlt]).length≤2*s.size+1:=by
      rw [<-HT2.o];simp;omega
     have hl1:T.length+1≤2*s.size+1:=by simpa using hl2
     have HQ:=mi;clear hq hN hTl2 HT;go_wp2
     go_round
     case rel=>exact ⟨k+1,_,ac,de,rfl,HT2,hl2⟩
     case measure=>simp [intOf];omega
   ·obtain rfl:k=s.size:=ac
    have HT2:Hd0 ([39]++quo s.data.toList=T):=by have:=HT.o;rw [kM] at this;exact this
    have hc1:=Oi T;clear HT;go_wp2;go_ret;exact ⟨congrArg (λx=>Ending.returned (.string x)) (by rw [<-HR.o,HT2.o]),hb0⟩
 ·cases b
  ·go_enter func92,ntmps92;go_wp2;go_ret;exact ⟨rfl,hb0⟩
  ·go_enter func92,ntmps92;go_wp2;go_ret;exact ⟨rfl,hb0⟩
 ·rw [aGU hk];obtain ⟨h1,h2,h3⟩:=hk;go_enter func92,ntmps92;go_wp2;go_ret;exact ⟨rfl,hb0⟩
theorem aII {α:Type} {f:ZW->Option (α×ZW)} {acc:List α} (hm:acc.length≤most) (hr:acc.length=most->r=[]) (hf0:f []=none) (h:(rE (acc.length+1) most ((f r).map (·.2))).1=false) :
 (rE (acc.length+1) most ((f r).map (·.2))).2=(jL f most (k+1) acc r).map (·.2)∧∀ p,jL f most (k+1) acc r=some p->∃ x r',f r=some (x,r')∧p.1=acc++[x]:=by
 rcases hq:f r with _|⟨x,r1⟩
 ·rw [hq] at h;rw [mF hq];exact ⟨rfl,λp hp=>by cases hp⟩
 ·rw [hq] at h;have hlt:acc.length<most:=by
   rcases Nat.lt_or_ge acc.length most with h1|h1
   ·exact h1
   ·rw [hr ac,hf0] at hq;cases hq
  simp only [Option.map_some,rE] at h |-
  by_cases hc:isF eI r1=true
  ·have htl:=bD hc;simp only [hc,if_true] at h |-
   by_cases hz:most≤acc.length+1∧0<r1.tail.length
   ·rw [if_pos hz,mG hq hc ac ac];exact ⟨rfl,λp hp=>by cases hp⟩
   ·rw [if_neg hz] at h;cases h
  ·simp only [hc];rw [nW hq mg];exact ⟨rfl,λp hp=>by injection hp with hp;rw [<-hp];exact ⟨x,r1,rfl,rfl⟩⟩
theorem aDV {α:Type} {f:ZW->Option (α×ZW)} {acc:List α} (hm:acc.length≤most) (hr:acc.length=most->r=[]) (hf0:f []=none) (h:(rE (acc.length+1) most ((f r).map (·.2))).1=true) :
 ∃ x r',f r=some (x,r')∧(rE (acc.length+1) most ((f r).map (·.2))).2=some r'.tail∧jL f most (k+1) acc r=jL f most k (acc++[x]) r'.tail∧acc.length+1≤most∧(acc.length+1=most->r'.tail=[]):=by
 rcases hq:f r with _|⟨x,r1⟩
 ·rw [hq] at h;cases h
 ·rw [hq] at h;have hlt:acc.length<most:=by
   rcases Nat.lt_or_ge acc.length most with h1|h1
   ·exact h1
   ·rw [hr ac,hf0] at hq;cases hq
  simp only [Option.map_some,rE] at h |-
  by_cases hc:isF eI r1=true
  ·have htl:=bD hc;simp only [hc,if_true] at h |-
   by_cases hz:most≤acc.length+1∧0<r1.tail.length
   ·rw [if_pos hz] at h;cases h
   ·rw [if_neg hz];exact ⟨x,r1,rfl,rfl,jY hq hc ac,hlt,λe=>List.eq_nil_of_length_eq_zero ac⟩
  ·simp only [hc] at h;cases h
def tF {α:Type} (f:ZW->Option (α×ZW)) (most k:Nat) (acc:List α) (o:Option ZW):Option (List α×ZW):=o.bind (jL f most k acc)
theorem Nu {α:Type} {f:ZW->Option (α×ZW)} {acc:List α} {o:Option ZW} (hm:acc.length≤most) (hr:acc.length=most->o=none∨o=some []) (hf0:f []=none) (h:(rE (acc.length+1) most ((o.bind f).map (·.2))).1=false) :
 (rE (acc.length+1) most ((o.bind f).map (·.2))).2=(tF f most (k+1) acc o).map (·.2)∧∀ p,tF f most (k+1) acc o=some p->∃ x r',o.bind f=some (x,r')∧p.1=acc++[x]:=by
 cases o with
 | none=>exact ⟨rfl,λp hp=>by cases hp⟩
 | some r=>exact aII hm (λe=>by rcases hr e with h|h;cases h;injection h) hf0 h
theorem Hf {α:Type} {f:ZW->Option (α×ZW)} {acc:List α} {o:Option ZW} (hm:acc.length≤most) (hr:acc.length=most->o=none∨o=some []) (hf0:f []=none) (h:(rE (acc.length+1) most ((o.bind f).map (·.2))).1=true) :
 ∃ x r',o.bind f=some (x,r')∧(rE (acc.length+1) most ((o.bind f).map (·.2))).2=some r'.tail∧tF f most (k+1) acc o=tF f most k (acc++[x]) (some r'.tail)∧acc.length+1≤most∧(acc.length+1=most->r'.tail=[]):=by
 cases o with
 | none=>cases h
 | some r=>exact aDV hm (λe=>by rcases hr e with h|h;cases h;injection h) hf0 h
theorem Wn:(prog.info? 116).map (λi=>(i.zero,i.size,i.bytes))=some (some (.agg #[(),.int .u8 0]),2,24):=aj
def ColS (B P n k:Nat) (A:ZT) (c:Nat) (vs:ZU) (w0:World) (g:Nat) (s:ByteArray) (w:World):Prop :=
 But P w0 w∧RW P w n∧w.ownsRow B 116 2 (.slice A k c) k vs∧B≤g∧some g≠Value.ownBlock (.slice A k c)∧∃ kd:Int,w.heap[g]? = some (.cells #[s,.int .u8 kd] 116 (0,0))
theorem ColS.next {B:Nat} (h:ColS B P n k A c vs w0 g s w) (hb:But P w w') (hp:RW P w' n):ColS B P n k A c vs w0 g s w':=by
 obtain ⟨h1,h2,h3,h4,h5,kd,h6⟩:=h;exact ⟨h1.trans hb,hp,h2.own h3 hb am,h4,h5,kd,hb.box h2 h6 am⟩
theorem ColS.set (h:ColS w0 P n k A c vs w0 g s w) (hP:P<w0) (kd:Int):ColS w0 P n k A c vs w0 g s (w.setCell ⟨g,1,none⟩ (.int .u8 kd)):=by
 obtain ⟨h1,h2,h3,h4,h5,kd0,h6⟩:=h;have h7:=heap_setCell_same w g 1 _ _ (.int .u8 kd) h6;refine ⟨bP h1 h4 _ _,h2.low (B:=g) ac ((θ).setCell (p:=⟨g,1,none⟩) (ν _) _), ?_,h4,h5,kd,by simpa using h7⟩;refine ⟨h3.1, ?_⟩;rcases h3.2 with k2|⟨g',cap,cur,k2,k3,k4,k5⟩
 ·exact .inl k2
 ·refine .inr ⟨g',cap,cur,k2,k3,(Below.heap_setCell w ⟨g,1,none⟩ _ g' ?_).trans k4,k5⟩;intro e;rw [k2] at h5;exact h5 pc
theorem Zz {n0:Nat} (w:World) (h:RW P w n0) (h0:n0≤2000) :
 Calls prog 82 #[P] w (WP P w n0 λv=>∃ A k c,v=.slice A k c):=by
 obtain ⟨iE,hiE,hz0,hz1,hz2⟩:=info_parts Wn;have hP0:P<w:=h.lt;go_enter func82,ntmps82;go_wp2_with fail
 go_loopg [3,4,10,14,18] n0 (λgk s3 _ _ _ _ wr=>∃ (k:Nat) (A:ZT) (c:Nat) (vs:ZU),s3=.slice A k c∧k+gk≤n0∧But P w wr∧wr.ownsRow w 116 2 (.slice A k c) k vs∧RW P wr gk)
 case atStart=>exact ⟨0,none,0,[],rfl,ac,But.refl _ _,World.ownsRow_nil _ _ _ _,h⟩
 case round =>
  clear h;obtain ⟨k,A,c,vs,rfl,hk,hb,hown,hp⟩:=dd;have HC:=κ (pP hp);have HR:=κ (ι hb (ι hown hp));have hkI:(k:Int)≤2000:=ac
  clear hb hown hp;go_wp2_with fail;refine μ HC ?_;rintro e w1 ⟨v,rfl,⟨s,rfl⟩,hb1,hp1⟩;have hb2:Below w1 w1 (w1.alloc (.cells #[s,.int .u8 0] 116)):=ρ;have HS:=κ (show ColS w P _ k A c vs w w1 s (w1.alloc (.cells #[s,.int .u8 0] 116)) from ⟨(HR.o.1.trans hb1).trans (But.of hb2),hp1.below hb2,(HR.o.2.2.own HR.o.2.1 hb1 am).alloc _,Nat.le_trans HR.o.1.size hb1.size,fW HR.o.2.1 hb1.size,0,heap_alloc_new w1 _⟩);clear hb1 hp1 hb2 HC HR;go_upto_block 2 with fail
  go_cut [3,4] (λs3 s4 wx=>s3=.slice A k c∧s4=.pointer (some ⟨w1,0,none⟩)∧ColS w P gk k A c vs w w1 s wx)
  case first =>
   have HC:=κ (Gs ⟨#[105,110,116]⟩ HS.o.2.1);go_wp2_with fail;refine μ HC ?_;rintro e v0 ⟨v,rfl,⟨b,rfl⟩,hb2,hp2⟩;replace HS:=IN;clear hb2 hp2 HC;cases b
   rotate_left
   ·obtain ⟨-, -, -, -, -,kd,h6⟩:=HS.o;have c0:=β h6 1;have f0:=IP;have HZ:=κ (HS.o.set hP0 1);clear h6;go_wp2
    go_meet
    exact IQ
   have HC:=κ (Gs ⟨#[116,101,120,116]⟩ HS.o.2.1);go_wp2_with fail;refine μ HC ?_;rintro e v1 ⟨v,rfl,⟨b,rfl⟩,hb2,hp2⟩;replace HS:=IN;clear hb2 hp2 HC;cases b
   rotate_left
   ·obtain ⟨-, -, -, -, -,kd,h6⟩:=HS.o;have c0:=β h6 1;have f0:=IP;have HZ:=κ (HS.o.set hP0 2);clear h6;go_wp2
    go_meet
    exact IQ
   have HC:=κ (Gs ⟨#[98,111,111,108]⟩ HS.o.2.1);go_wp2_with fail;refine μ HC ?_;rintro e v2 ⟨v,rfl,⟨b,rfl⟩,hb2,hp2⟩;replace HS:=IN;clear hb2 hp2 HC;cases b
   rotate_left
   ·obtain ⟨-, -, -, -, -,kd,h6⟩:=HS.o;have c0:=β h6 1;have f0:=IP;have HZ:=κ (HS.o.set hP0 3);clear h6;go_wp2
    go_meet
    exact IQ
   have HC:=κ (aGW 4 am HS.o.2.1);go_wp2_with fail;refine μ HC ?_;rintro e v4 ⟨v,rfl,rfl,hb2,hp2⟩;have HZ:=IN;clear hb2 hp2 HC;go_wp2
   go_meet
   exact IQ
  case rest =>
   clear HS;obtain ⟨rfl,rfl,hS⟩:=sn;obtain ⟨h1,h2,h3,h4,h5,kd,h6⟩:=hS;have c0:=β h6;have hsz:w≤wc.heap.size:=h1.size;have HS:=κ (ι h1 h2);clear h1 h2 h4 h5 h6;go_wp2_with (at_builtin;refine bJ _ rfl (.tmp 22) (.tmp 24) _ rfl w 116 iE _ 2 24 underlying33 hiE hz0 hz1 hz2 rfl ac A k c vs rfl (h3.alloc _) _ 1 1 [.string s,.int .u8 kd] rfl rfl (aS [.string s,.int .u8 kd] (heap_alloc_new _ _)) GF kt ac FO ?_;intro A5 c5 w5 ho5 hb5 _ _);have hb15:Below w wc w5:=((Below.refl wc wc).alloc (ν _) _ |>.mono hsz).trans hb5;have hp5:=HS.o.2.low hP0 hb15;have H5:=κ (ι (HS.o.1.lowr hb15) (ι hp5 ho5));have HM:=κ (Xl (k+1) 8 hp5);clear hb15 hb5 hp5 ho5 h3 c0 HS;refine μ HM ?_;rintro e w6 ⟨hb6,(⟨rfl,hp6⟩|⟨rfl,m,hm,hp6⟩)⟩
   ·have HE:=κ (ι (H5.o.1.trans hb6) (hp6.mono (show gk≤n0 by omega)));clear hb6 hp6 HM H5;go_wp2;go_ret;exact ⟨_,rfl,⟨_,_,_,rfl⟩,HE.o.1,HE.o.2⟩
   ·have HE:=κ (ι (H5.o.1.trans hb6) (ι hp6 (H5.o.2.1.own H5.o.2.2 hb6 am)));clear hb6 hp6 HM H5;go_wp2
    go_roundg m
    case measure=>omega
    case rel=>exact ⟨k+1,A5,c5,_,rfl,ac,HE.o.1,HE.o.2.2,HE.o.2.1⟩
