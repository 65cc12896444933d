/-
 Contracts. Conditions: those of each.
-/
import Derived.Test.YtkolcimllghnaaaGreatDoorQbZR
import Derived.Deep.CutBlock
set_option maxRecDepth 100000
set_option maxHeartbeats 40000000
namespace Go.Proofs.YtkolcimllghnaaaGreatDoor
open Lp Go.Proofs.Tryz
open Go.RowKit
def Dm (j:Nat) (v:Value):Prop:=(j=0→∃ k,v=.int .u8 k)∧(1≤j→j≤3→∃ s,v=.string s)∧(4≤j→j≤11→∃ A n c,v=.slice A n c)∧(j=12→∃ n,v=.int .i64 n)
def Cs13 (cs:List Value):Prop:=cs.length=13∧∀ j v,cs[j]? = some v→Dm j v
theorem oE {j:Nat} (h1:1≤j) (h2:j≤3) (s:ByteArray):Dm j (.string s):=⟨fun h=>by omega,fun _ _=>⟨s,rfl⟩,fun h=>by omega,fun h=>by omega⟩
theorem mM {j:Nat} (h1:4≤j) (h2:j≤11) (A:Option Addr) (n c:Nat):Dm j (.slice A n c):=⟨fun h=>by omega,fun _ h=>by omega,fun _ _=>⟨A,n,c,rfl⟩,fun h=>by omega⟩
theorem zS (n:Int):Dm 12 (.int .i64 n):=⟨fun h=>by omega,fun _ h=>by omega,fun _ h=>by omega,fun _=>⟨n,rfl⟩⟩
theorem Cs13.set {cs:List Value} (h:Cs13 cs) {j:Nat} {v:Value} (hv:Dm j v):Cs13 (cs.set j v):=by
 refine ⟨by simpa using h.1,fun i u hu => ?_⟩
 by_cases hij:j=i
 ·subst hij
  rw [List.getElem?_set_self' ] at hu
  rcases hc:cs[j]? with _|x
  ·rw [hc] at hu;cases hu
  ·rw [hc] at hu
   injection hu with hu
   rw [←hu];exact hv
 ·rw [List.getElem?_set_ne hij] at hu
  exact h.2 i u hu
theorem qR {cs:List Value} (h:Cs13 cs):∃ k s1 s2 s3 A4 n4 c4 A5 n5 c5 A6 n6 c6 A7 n7 c7 A8 n8 c8 A9 n9 c9 A10 n10 c10 A11 n11 c11 li,cs=[.int .u8 k,.string s1,.string s2,.string s3,.slice A4 n4 c4,.slice A5 n5 c5,.slice A6 n6 c6,.slice A7 n7 c7,.slice A8 n8 c8,.slice A9 n9 c9,.slice A10 n10 c10,.slice A11 n11 c11,.int .i64 li]:=by
 obtain ⟨h1,h2⟩:=h
 match cs,h1 with
 | [a0,a1,a2,a3,a4,a5,a6,a7,a8,a9,a10,a11,a12],_ =>
   obtain ⟨k,rfl⟩:=(h2 0 _ rfl).1 rfl
   obtain ⟨s1,rfl⟩:=(h2 1 _ rfl).2.1 (by omega) (by omega)
   obtain ⟨s2,rfl⟩:=(h2 2 _ rfl).2.1 (by omega) (by omega)
   obtain ⟨s3,rfl⟩:=(h2 3 _ rfl).2.1 (by omega) (by omega)
   obtain ⟨A4,n4,c4,rfl⟩:=(h2 4 _ rfl).2.2.1 (by omega) (by omega)
   obtain ⟨A5,n5,c5,rfl⟩:=(h2 5 _ rfl).2.2.1 (by omega) (by omega)
   obtain ⟨A6,n6,c6,rfl⟩:=(h2 6 _ rfl).2.2.1 (by omega) (by omega)
   obtain ⟨A7,n7,c7,rfl⟩:=(h2 7 _ rfl).2.2.1 (by omega) (by omega)
   obtain ⟨A8,n8,c8,rfl⟩:=(h2 8 _ rfl).2.2.1 (by omega) (by omega)
   obtain ⟨A9,n9,c9,rfl⟩:=(h2 9 _ rfl).2.2.1 (by omega) (by omega)
   obtain ⟨A10,n10,c10,rfl⟩:=(h2 10 _ rfl).2.2.1 (by omega) (by omega)
   obtain ⟨A11,n11,c11,rfl⟩:=(h2 11 _ rfl).2.2.1 (by omega) (by omega)
   obtain ⟨li,rfl⟩:=(h2 12 _ rfl).2.2.2 rfl
   exact ⟨k,s1,s2,s3,A4,n4,c4,A5,n5,c5,A6,n6,c6,A7,n7,c7,A8,n8,c8,A9,n9,c9,A10,n10,c10,A11,n11,c11,li,rfl⟩
def aBM (v:Value):Prop:=∃ k s1 s2 s3 A4 n4 c4 A5 n5 c5 A6 n6 c6 A7 n7 c7 A8 n8 c8 A9 n9 c9 A10 n10 c10 A11 n11 c11 li,v=.agg #[.int .u8 k,.string s1,.string s2,.string s3,.slice A4 n4 c4,.slice A5 n5 c5,.slice A6 n6 c6,.slice A7 n7 c7,.slice A8 n8 c8,.slice A9 n9 c9,.slice A10 n10 c10,.slice A11 n11 c11,.int .i64 li]
def XS (P n:Nat) (K:List Nat) (w0 w:World):Prop:=But P w0 w∧RW P w n∧w.heap[w0.heap.size]? = some (.cells stZ.toArray 38 (0,0))∧∃ cs:List Value,Cs13 cs∧w.heap[w0.heap.size+1]? = some (.cells cs.toArray 38 (0,0))∧∀ k∈K,cs[k]? = some (.slice none 0 0)
theorem XS.next {P n:Nat} {K:List Nat} {w0 w w':World} (h:XS P n K w0 w) (hb:But P w w') (hp:RW P w' n):XS P n K w0 w':=by
 obtain ⟨h1,h2,h3,cs,h4,h5,h6⟩:=h
 exact ⟨h1.trans hb,hp,hb.box h2 h3 (by decide),cs,h4,hb.box h2 h5 (by decide),h6⟩
theorem XS.set {P n:Nat} {K:List Nat} {w0 w:World} (h:XS P n K w0 w) (hP:P<w0.heap.size) (j:Nat) (hj:j ∉ K) (v:Value) (hv:Dm j v):XS P n K w0 (w.setCell ⟨w0.heap.size+1,j,none⟩ v):=by
 obtain ⟨h1,h2,h3,cs,h4,h5,h6⟩:=h
 refine ⟨bK h1 (Nat.le_succ _) _ _,h2.low (B:=w0.heap.size) hP ((θ).setCell (p:=⟨w0.heap.size+1,j,none⟩) (Nat.le_succ _) v),(Below.heap_setCell w ⟨w0.heap.size+1,j,none⟩ v _ (by show w0.heap.size≠w0.heap.size+1;omega)).trans h3,cs.set j v,h4.set hv, ?_,fun k hk => ?_⟩
 ·have:=heap_setCell_same w (w0.heap.size+1) j _ _ v h5
  rwa [List.setIfInBounds_toArray] at this
 ·rw [List.getElem?_set_ne (by rintro rfl;exact hj hk)]
  exact h6 k hk
theorem XS.below {P n:Nat} {K:List Nat} {w0 w w':World} (h:XS P n K w0 w) (hb:Below w.heap.size w w'):XS P n K w0 w':=by
 obtain ⟨h1,h2,h3,cs,h4,h5,h6⟩:=h
 exact ⟨h1.trans (But.of hb),h2.below hb,aA h3 hb,cs,h4,aA h5 hb,h6⟩
theorem XS.less {P n:Nat} {K K2:List Nat} {w0 w:World} (h:XS P n K w0 w) (h2:∀ k∈K2,k∈K):XS P n K2 w0 w:=by
 obtain ⟨k1,k2,k3,cs,k4,k5,k6⟩:=h
 exact ⟨k1,k2,k3,cs,k4,k5,fun k hk=>k6 k (h2 k hk)⟩
theorem XS.at_ {P n:Nat} {K:List Nat} {w0 w:World} (h:XS P n K w0 w):(∀ j,w.frozen? ⟨w0.heap.size+1,j,none⟩=false)∧∀ j,j<13→∃ u,w.cell? ⟨w0.heap.size+1,j,none⟩=some u:=by
 obtain ⟨h1,h2,h3,cs,h4,h5,h6⟩:=h
 refine ⟨fun j=>frozen_of_row w _ j _ _ h5,fun j hj=>⟨cs[j]'(by have:=h4.1;omega),(β h5 j).trans ?_⟩⟩
 rw [γ,List.getElem?_eq_getElem (by have:=h4.1;omega)]
def LS (P n k i:Nat) (A:Option Addr) (c:Nat) (vs:List Value) (K:List Nat) (w0 w:World):Prop:=But P w0 w∧RW P w n∧w.heap[w0.heap.size]? = some (.cells stZ.toArray 38 (0,0))∧(∃ cs:List Value,Cs13 cs∧w.heap[w0.heap.size+1]? = some (.cells cs.toArray 38 (0,0))∧cs[k]? = some (.slice A i c)∧∀ j∈K,cs[j]? = some (.slice none 0 0))∧w.ownsRow w0.heap.size 72 10 (.slice A i c) i vs
theorem LS.of {P n k:Nat} {K K2:List Nat} {w0 w:World} (h:XS P n K w0 w) (hk:k∈K) (h2:∀ j∈K2,j∈K):LS P n k 0 none 0 [] K2 w0 w:=by
 obtain ⟨h1,h2',h3,cs,h4,h5,h6⟩:=h
 exact ⟨h1,h2',h3,⟨cs,h4,h5,h6 k hk,fun j hj=>h6 j (h2 j hj)⟩,World.ownsRow_nil _ _ _ _⟩
theorem LS.xs {P n k i c:Nat} {A:Option Addr} {vs:List Value} {K:List Nat} {w0 w:World} (h:LS P n k i A c vs K w0 w):XS P n K w0 w:=by
 obtain ⟨h1,h2,h3,⟨cs,h4,h5, -,h6⟩, -⟩:=h
 exact ⟨h1,h2,h3,cs,h4,h5,h6⟩
theorem LS.next {P n k i c:Nat} {A:Option Addr} {vs:List Value} {K:List Nat} {w0 w w':World} (h:LS P n k i A c vs K w0 w) {m:Nat} (hb:But P w w') (hp:RW P w' m):LS P m k i A c vs K w0 w':=by
 obtain ⟨h1,h2,h3,⟨cs,h4,h5,h6,h7⟩,h8⟩:=h
 exact ⟨h1.trans hb,hp,hb.box h2 h3 (by decide),⟨cs,h4,hb.box h2 h5 (by decide),h6,h7⟩,h2.own h8 hb (by decide)⟩
def PtS (P n k i:Nat) (A:Option Addr) (c:Nat) (vs:List Value) (K:List Nat) (w0:World) (g:Nat) (w:World):Prop:=LS P n k i A c vs K w0 w∧w0.heap.size+2≤g∧some g≠Value.ownBlock (.slice A i c)∧∃ (rr:RC) (s:ByteArray) (d:Bool),w.heap[g]? = some (.cells (rr.cells++[Value.string s,Value.bool d]).toArray 72 (0,0))
theorem PtS.next {P n k i c g:Nat} {A:Option Addr} {vs:List Value} {K:List Nat} {w0 w w':World} (h:PtS P n k i A c vs K w0 g w) (hb:But P w w') (hp:RW P w' n):PtS P n k i A c vs K w0 g w':=by
 obtain ⟨h1,h2,h3,rr,s,d,h4⟩:=h
 exact ⟨h1.next hb hp,h2,h3,rr,s,d,hb.box h1.2.1 h4 (by decide)⟩
theorem PtS.new {P n k i c:Nat} {A:Option Addr} {vs:List Value} {K:List Nat} {w0 w:World} (h:LS P n k i A c vs K w0 w) (rr:RC) (s:ByteArray) (d:Bool):PtS P n k i A c vs K w0 w.heap.size (w.alloc (.cells (rr.cells++[Value.string s,Value.bool d]).toArray 72)):=by
 have hb:Below w.heap.size w (w.alloc (.cells (rr.cells++[Value.string s,Value.bool d]).toArray 72)):=ρ
 refine ⟨h.next (But.of hb) (h.2.1.below hb), ?_,eI h.2.2.2.2 (ν _),rr,s,d,heap_alloc_new w _⟩
 obtain ⟨-, -, -,⟨cs, -,h5, -⟩, -⟩:=h
 have:=aL h5
 omega
theorem PtS.set {P n k i c g:Nat} {A:Option Addr} {vs:List Value} {K:List Nat} {w0 w:World} (h:PtS P n k i A c vs K w0 g w) (hP:P<w0.heap.size) (j:Nat) (v:Value) (hv:(j=8∧∃ s,v=.string s)∨(j=9∧∃ d,v=.bool d)):PtS P n k i A c vs K w0 g (w.setCell ⟨g,j,none⟩ v):=by
 obtain ⟨⟨h1,h2,h3,⟨cs,h4,h5,h6,h7⟩,h8⟩,h9,h10,rr,s,d,h11⟩:=h
 have far:∀ b,b≠g→(w.setCell ⟨g,j,none⟩ v).heap[b]? = w.heap[b]? := fun b hb=>Below.heap_setCell w ⟨g,j,none⟩ v b hb
 have h12:=heap_setCell_same w g j _ _ v h11
 rw [List.setIfInBounds_toArray] at h12
 refine ⟨⟨bK h1 (by omega) _ _,h2.low (B:=w0.heap.size) hP ((θ).setCell (p:=⟨g,j,none⟩) (by show w0.heap.size≤g;omega) v),(far _ (by omega)).trans h3,⟨cs,h4,(far _ (by omega)).trans h5,h6,h7⟩,h8.1, ?_⟩,h9,h10, ?_⟩
 ·rcases h8.2 with k2|⟨g',cap,cur,k2,k3,k4,k5⟩
  ·exact .inl k2
  ·refine .inr ⟨g',cap,cur,k2,k3,(far g' ?_).trans k4,k5⟩
   intro e
   rw [k2] at h10
   exact h10 (by rw [e];rfl)
 ·rcases hv with ⟨rfl,s2,rfl⟩|⟨rfl,d2,rfl⟩
  ·exact ⟨rr,s2,d,by rw [h12];rfl⟩
  ·exact ⟨rr,s,d2,by rw [h12];rfl⟩
theorem PtS.cells {P n k i c g:Nat} {A:Option Addr} {vs:List Value} {K:List Nat} {w0 w:World} (h:PtS P n k i A c vs K w0 g w):(∀ j,w.frozen? ⟨g,j,none⟩=false)∧(∃ s,w.cell? ⟨g,8,none⟩=some (.string s))∧∃ d,w.cell? ⟨g,9,none⟩=some (.bool d):=by
 obtain ⟨-, -, -,rr,s,d,h4⟩:=h
 exact ⟨fun j=>frozen_of_row w _ j _ _ h4,⟨s,β h4 8⟩,d,β h4 9⟩
theorem Bh:(prog.info? 72).map (fun i=>(i.zero,i.size,i.bytes))=some (some (.agg #[.int .u8 0,.int .u8 0,.int .i64 0,.string ⟨#[]⟩,.bool false,.string ⟨#[]⟩,.string ⟨#[]⟩,.slice none 0 0,.string ⟨#[]⟩,.bool false]),10,128):=by kernel_rfl
theorem Pg {P n k i c c5:Nat} {A A5:Option Addr} {vs news:List Value} {K:List Nat} {w0 w w5:World} {ob:Obj} (hP:P<w0.heap.size) (h:LS P n k i A c vs K w0 w) (hk:k ∉ K) (hkj:4≤k∧k≤11) (ho5:w5.ownsRow w0.heap.size 72 10 (.slice A5 (i+1) c5) (i+1) (vs++news)) (hb5:Below w0.heap.size (w.alloc ob) w5) (hk5:gD (w.alloc ob) w5 (Value.ownBlock (.slice A i c)) (Value.ownBlock (.slice A5 (i+1) c5))) :
 LS P n k (i+1) A5 c5 (vs++news) K w0 (w5.setCell ⟨w0.heap.size+1,k,none⟩ (.slice A5 (i+1) c5)):=by
 obtain ⟨h1,h2,h3,⟨cs,h4,h5,h6,h7⟩,h8⟩:=h
 have hb15:Below w0.heap.size w w5:=((Below.refl w.heap.size w).alloc (ν _) ob |>.mono h1.size).trans hb5
 have e3:=(hk5 _ _ (aC h3 ob) (cX (h8.alloc ob) (aC h3 ob) (by decide))).1
 have e5:=(hk5 _ _ (aC h5 ob) (cX (h8.alloc ob) (aC h5 ob) (by decide))).1
 have e6:=heap_setCell_same w5 (w0.heap.size+1) k _ _ (.slice A5 (i+1) c5) e5
 rw [List.setIfInBounds_toArray] at e6
 refine ⟨bK (h1.lowr hb15) (Nat.le_succ _) _ _,(h2.low hP hb15).low (B:=w0.heap.size) hP ((θ).setCell (p:=⟨w0.heap.size+1,k,none⟩) (Nat.le_succ _) _),(Below.heap_setCell w5 ⟨w0.heap.size+1,k,none⟩ _ _ (by show w0.heap.size≠w0.heap.size+1;omega)).trans e3,⟨cs.set k (.slice A5 (i+1) c5),h4.set (mM hkj.1 hkj.2 _ _ _),e6, ?_,fun j hj => ?_⟩,jQ ho5 e5 (by decide)⟩
 ·have:k<cs.length:=by
   rcases Nat.lt_or_ge k cs.length with h|h
   ·exact h
   ·rw [List.getElem?_eq_none h] at h6;cases h6
  simp [this]
 ·rw [List.getElem?_set_ne (by rintro rfl;exact hk hj)]
  exact h7 j hj
def zCh:Array Value:=#[.int .u8 8,.string ⟨#[]⟩,.string ⟨#[]⟩,.string ⟨#[]⟩,.slice none 0 0,.slice none 0 0,.slice none 0 0,.slice none 0 0,.slice none 0 0,.slice none 0 0,.slice none 0 0,.slice none 0 0,.int .i64 (-1)]
theorem Xr:Cs13 zCh.toList:=by
 refine ⟨rfl,fun j v h => ?_⟩
 have hj:j<13:=by
  rcases Nat.lt_or_ge j 13 with h1|h1
  ·exact h1
  ·rw [List.getElem?_eq_none (by exact h1)] at h;cases h
 match j,hj with
 | 0,_=>injection h with h;subst h;exact ⟨fun _=>⟨8,rfl⟩,fun h=>by omega,fun h=>by omega,fun h=>by omega⟩
 | 1,_=>injection h with h;subst h;exact oE (by omega) (by omega) _
 | 2,_=>injection h with h;subst h;exact oE (by omega) (by omega) _
 | 3,_=>injection h with h;subst h;exact oE (by omega) (by omega) _
 | 4,_=>injection h with h;subst h;exact mM (by omega) (by omega) _ _ _
 | 5,_=>injection h with h;subst h;exact mM (by omega) (by omega) _ _ _
 | 6,_=>injection h with h;subst h;exact mM (by omega) (by omega) _ _ _
 | 7,_=>injection h with h;subst h;exact mM (by omega) (by omega) _ _ _
 | 8,_=>injection h with h;subst h;exact mM (by omega) (by omega) _ _ _
 | 9,_=>injection h with h;subst h;exact mM (by omega) (by omega) _ _ _
 | 10,_=>injection h with h;subst h;exact mM (by omega) (by omega) _ _ _
 | 11,_=>injection h with h;subst h;exact mM (by omega) (by omega) _ _ _
 | 12,_=>injection h with h;subst h;exact zS _
theorem XS.new {P n:Nat} {w:World} (h:RW P w n):XS P n [7,11] w ((w.alloc (.cells stZ.toArray 38)).alloc (.cells zCh 38)):=by
 have hb:Below w.heap.size w ((w.alloc (.cells stZ.toArray 38)).alloc (.cells zCh 38)):=(ρ).alloc (by simp) _
 exact ⟨But.of hb,h.below hb,aC (heap_alloc_new w _) _,zCh.toList,Xr,bN w _ _,fun k hk=>by simp at hk;rcases hk with rfl|rfl<;>rfl⟩
theorem XS.mono {P n m:Nat} {K:List Nat} {w0 w:World} (h:XS P n K w0 w) (hm:n≤m):XS P m K w0 w:=⟨h.1,h.2.1.mono hm,h.2.2⟩
theorem LS.row {P n k i c:Nat} {A:Option Addr} {vs:List Value} {K:List Nat} {w0 w:World} (h:LS P n k i A c vs K w0 w):w.cell? ⟨w0.heap.size+1,k,none⟩=some (.slice A i c)∧∀ j,w.frozen? ⟨w0.heap.size+1,j,none⟩=false:=by
 obtain ⟨-, -, -,⟨cs, -,h5,h6, -⟩, -⟩:=h
 exact ⟨(β h5 k).trans (by rw [γ];exact h6),fun j=>frozen_of_row w _ j _ _ h5⟩
theorem LS.keep {P n k i c c5:Nat} {A A5:Option Addr} {vs:List Value} {K:List Nat} {w0 w w5:World} {ob:Obj} (h:LS P n k i A c vs K w0 w) (hk5:gD (w.alloc ob) w5 (Value.ownBlock (.slice A i c)) (Value.ownBlock (.slice A5 (i+1) c5))):w5.cell? ⟨w0.heap.size+1,k,none⟩=some (.slice A i c)∧∀ j,w5.frozen? ⟨w0.heap.size+1,j,none⟩=false:=by
 obtain ⟨-, -, -,⟨cs, -,h5,h6, -⟩,h8⟩:=h
 have e5:=(hk5 _ _ (aC h5 ob) (cX (h8.alloc ob) (aC h5 ob) (by decide))).1
 exact ⟨(β e5 k).trans (by rw [γ];exact h6),fun j=>frozen_of_row w5 _ j _ _ e5⟩
theorem vE {B:Nat} {a w:World} (m:Nat) (h:Below B a w):Below B a (w.drewN m):=⟨h.os,h.tape,h.output,h.size,h.block⟩
theorem XS.adv {P n i:Nat} {K:List Nat} {w0 w:World} {t:Tok} {r:List Tok} (h:XS P n K w0 w) (ho:RO P w (some (t::r))) (hl:Ol (some (t::r))≤n) (hc:w.cell? ⟨P,1,none⟩=some (.int .i64 (i:Nat))):XS P n K w0 (w.setCell ⟨P,1,none⟩ (.int .i64 ((i:Int)+1))):=by
 obtain ⟨A,c,i',h1,h2,h3⟩:=ho
 have e:=(β h1 1).symm.trans hc
 simp only [γ,δ,ε,Option.some.injEq,Value.int.injEq,true_and] at e
 have hi:i'=i:=by omega
 subst hi
 have h4:=heap_setCell_same w P 1 _ _ (.int .i64 ((i':Int)+1)) h1
 refine h.next (But.set _ _ _ _) ⟨some r,Nat.le_trans (Nat.le_succ _) hl,A,c,i'+1, ?_,h2.tail.but (But.set _ _ _ _),by simp at h3 ⊢;omega⟩
 rw [show i'+1+r.length=i'+(t::r).length by simp;omega]
 simpa using h4
theorem Oc {P n0:Nat} (w:World) (h:RW P w n0) (h0:n0≤2000) :
 Calls prog 87 #[.pointer (some ⟨P,0,none⟩)] w (WP P w n0 aBM):=by
 obtain ⟨iE,hiE,hz0,hz1,hz2⟩:=info_parts Bh
 have hP0:P<w.heap.size:=h.lt
 have HS:=κ (XS.new h)
 have HC:=κ (lM ⟨#[42]⟩ HS.out.2.1)
 clear h
 go_enter func87,ntmps87
 go_wp2_with fail
 refine μ HC ?_
 rintro e w1 ⟨v,rfl,⟨b,rfl⟩,hb,hp⟩
 replace HS:=κ (HS.out.next hb hp)
 clear hb hp HC
 go_upto_if 9 with fail
 go_cut [] (fun wx=>XS P n0 [11] w wx)
 case first =>
  cases b
  ·skip
   have HL:=κ (LS.of (K2:=[11]) HS.out (k:=7) (by decide) (by decide))
   clear HS
   go_wp2_with fail
   go_loopg [4] n0 (fun gk _ wr=>∃ (i:Nat) (A:Option Addr) (c:Nat) (vs:List Value),i+gk≤n0∧LS P gk 7 i A c vs [11] w wr)
   case atStart=>exact ⟨0,none,0,[],by omega,HL.out⟩
   case round =>
    clear HL
    obtain ⟨i,A,c,vs,hi,hl⟩:=hrel
    have HL:=κ hl
    have HC:=κ (Qn hl.2.1)
    have hiI:(i:Int)≤2000:=by omega
    clear hl
    go_wp2_with fail
    refine μ HC ?_
    rintro e w2 ⟨v,rfl,⟨⟨k,vk,vi,s0,vb,tt,ss,Ae,nn,ce⟩,rfl⟩,hb,hp⟩
    simp only [RC.val]
    have HS:=κ (show PtS P gk 7 i A c vs [11] w w2.heap.size (w2.alloc (.cells #[.int .u8 k,.int .u8 vk,.int .i64 vi,.string s0,.bool vb,.string tt,.string ss,.slice Ae nn ce,.string ⟨#[]⟩,.bool false] 72)) from PtS.new (HL.out.next hb hp) ⟨k,vk,vi,s0,vb,tt,ss,Ae,nn,ce⟩ ⟨#[]⟩ false)
    clear hb hp HC HL
    have HC:=κ (lM ⟨#[97,115]⟩ HS.out.1.2.1)
    go_wp2_with fail
    refine μ HC ?_
    rintro e w3 ⟨v,rfl,⟨b2,rfl⟩,hb,hp⟩
    replace HS:=κ (HS.out.next hb hp)
    clear hb hp HC
    go_upto_if 14 with fail
    go_cut [4] (fun s4 wx=>s4=.pointer (some ⟨w2.heap.size,0,none⟩)∧PtS P gk 7 i A c vs [11] w w2.heap.size wx)
    case first =>
     cases b2
     ·go_wp2
      go_meet
      exact ⟨rfl,HS.out⟩
     ·skip
      have HC:=κ (nB HS.out.1.2.1)
      go_wp2_with fail
      refine μ HC ?_
      rintro e w4 ⟨v,rfl,⟨s,rfl⟩,hb,hp⟩
      replace HS:=κ (HS.out.next hb hp)
      clear hb hp HC
      obtain ⟨f0,⟨s8,c8⟩,d9,c9⟩:=HS.out.cells
      replace HS:=κ (HS.out.set hP0 8 (.string s) (.inl ⟨rfl,s,rfl⟩))
      go_wp2
      go_meet
      exact ⟨rfl,HS.out⟩
    case rest =>
     obtain ⟨rfl,hS⟩:=hcut
     have HL:=κ hS.1
     have HG:=κ (ι hS.1.2.2.2.2 (ι hS.2.2.1 hS.1.1.size))
     obtain ⟨-, -, -,⟨k,vk,vi,s0,vb,tt,ss,Ae,nn,ce⟩,s8,d9,h4⟩:=hS
     have cg:=β h4
     obtain ⟨cr,cf⟩:=HL.out.row
     have hsz:=HL.out.1.size
     simp only [RC.cells,List.cons_append,List.nil_append] at cg
     clear h4 HS
     go_upto_region 7 with (at_builtin;refine bH _ rfl (.tmp 19) (.tmp 21) _ rfl w.heap.size 72 iE _ 10 128 underlying35 hiE hz0 hz1 hz2 rfl (by omega) A i c vs rfl (HG.out.1.alloc _) _ 1 1 [.int .u8 k,.int .u8 vk,.int .i64 vi,.string s0,.bool vb,.string tt,.string ss,.slice Ae nn ce,.string s8,.bool d9] rfl rfl (bD [.int .u8 k,.int .u8 vk,.int .i64 vi,.string s0,.bool vb,.string tt,.string ss,.slice Ae nn ce,.string s8,.bool d9] (heap_alloc_new _ _)) (by simp [Value.oneCell']) (by simp only [maxLen];omega) (by omega) (by rw [World.size_alloc];omega) ?_;intro A5 c5 w5 ho5 hb5 _ hk5;obtain ⟨d5,f5⟩:=HL.out.keep hk5)
     have hl5:=Pg hP0 HL.out (by decide) (by decide) ho5 hb5 hk5
     obtain ⟨W6,hW6⟩:∃ W6,w5.setCell ⟨w.heap.size+1,7,none⟩ (.slice A5 (i+1) c5)=W6:=⟨_,rfl⟩
     rw [hW6] at hl5 ⊢
     clear hW6 ho5 hb5 hk5 d5 f5 cg cr cf HG HL
     have HL:=κ hl5
     have HM:=κ (Pb (i+1) 16 hl5.2.1)
     obtain ⟨cr,cf⟩:=hl5.row
     clear hl5
     go_wp2_with fail
     refine μ HM ?_
     rintro e w7 ⟨hb,(⟨rfl,hp⟩|⟨rfl,m,hm,hp⟩)⟩
     ·have HZ:=κ ((HL.out.next hb hp).xs.mono (show gk≤n0 by omega))
      clear hb hp HM HL cr cf
      go_wp2
      go_meet
      exact HZ.out
     ·have HZ:=κ (HL.out.next hb hp)
      clear hb hp HM HL cr cf
      go_wp2
      go_roundg m
      case measure=>omega
      case rel=>exact ⟨i+1,A5,c5,_,by omega,HZ.out⟩
  ·go_wp2
   go_meet
   exact HS.out.less (by decide)
 case rest =>
  clear HS
  have HS:=κ hcut
  clear hcut
  have HC:=κ (mF ⟨#[102,114,111,109]⟩ HS.out.2.1)
  go_wp2_with fail
  refine μ HC ?_
  rintro e w3 ⟨v,rfl,rfl,hb,hp⟩
  replace HS:=κ (HS.out.next hb hp)
  clear hb hp HC
  have HC:=κ (nB HS.out.2.1)
  go_wp2_with fail
  refine μ HC ?_
  rintro e w4 ⟨v,rfl,⟨s,rfl⟩,hb,hp⟩
  replace HS:=κ (HS.out.next hb hp)
  clear hb hp HC
  obtain ⟨f0,f1⟩:=HS.out.at_
  obtain ⟨u,f2⟩:=f1 2 (by omega)
  clear f1
  replace HS:=κ (HS.out.set hP0 2 (by decide) (.string s) (oE (by omega) (by omega) _))
  have HC:=κ (lM ⟨#[106,111,105,110]⟩ HS.out.2.1)
  go_wp2_with fail
  refine μ HC ?_
  rintro e w5 ⟨v,rfl,⟨b,rfl⟩,hb,hp⟩
  replace HS:=κ (HS.out.next hb hp)
  clear hb hp HC
  clear f0 f2
  go_upto_if 36 with fail
  go_cut [] (fun wx=>XS P n0 [11] w wx)
  case first =>
   cases b
   ·go_wp2
    go_meet
    exact HS.out
   ·skip
    have HC:=κ (nB HS.out.2.1)
    go_wp2_with fail
    refine μ HC ?_
    rintro e w6 ⟨v,rfl,⟨s,rfl⟩,hb,hp⟩
    replace HS:=κ (HS.out.next hb hp)
    clear hb hp HC
    obtain ⟨f0,f1⟩:=HS.out.at_
    obtain ⟨u,f2⟩:=f1 1 (by omega)
    clear f1
    replace HS:=κ (HS.out.set hP0 1 (by decide) (.string s) (oE (by omega) (by omega) _))
    have HC:=κ (mF ⟨#[111,110]⟩ HS.out.2.1)
    go_wp2_with fail
    refine μ HC ?_
    rintro e w7 ⟨v,rfl,rfl,hb,hp⟩
    replace HS:=κ (HS.out.next hb hp)
    clear hb hp HC
    clear f0 f2
    have HC:=κ (Qn HS.out.2.1)
    go_wp2_with fail
    refine μ HC ?_
    rintro e w8 ⟨v,rfl,⟨⟨k,vk,vi,s0,vb,tt,ss,Ae,nn,ce⟩,rfl⟩,hb,hp⟩
    replace HS:=κ (HS.out.next hb hp)
    clear hb hp HC
    simp only [RC.val]
    replace HS:=κ (HS.out.below (w':=w8.alloc (.cells #[.int .u8 k,.int .u8 vk,.int .i64 vi,.string s0,.bool vb,.string tt,.string ss,.slice Ae nn ce] 60)) (ρ))
    obtain ⟨f0,f1⟩:=HS.out.at_
    obtain ⟨u,f2⟩:=f1 8 (by omega)
    clear f1
    replace HS:=κ (HS.out.set hP0 8 (by decide) (.slice (some ⟨w8.heap.size,0,none⟩) 1 1) (mM (by omega) (by omega) _ _ _))
    go_wp2
    go_meet
    exact HS.out
  case rest =>
   clear HS
   have HS:=κ hcut
   clear hcut
   have HC:=κ (Le HS.out.2.1)
   go_wp2_with fail
   refine μ HC ?_
   rintro e w9 ⟨v,rfl,⟨A,k,c,rfl⟩,hb,hp⟩
   replace HS:=κ (HS.out.next hb hp)
   clear hb hp HC
   obtain ⟨f0,f1⟩:=HS.out.at_
   obtain ⟨u,f2⟩:=f1 9 (by omega)
   clear f1
   replace HS:=κ (HS.out.set hP0 9 (by decide) (.slice A k c) (mM (by omega) (by omega) _ _ _))
   have HC:=κ (lM ⟨#[103,114,111,117,112]⟩ HS.out.2.1)
   go_wp2_with fail
   refine μ HC ?_
   rintro e w10 ⟨v,rfl,⟨b,rfl⟩,hb,hp⟩
   replace HS:=κ (HS.out.next hb hp)
   clear hb hp HC
   clear f0 f2
   go_upto_if 50 with fail
   go_cut [] (fun wx=>XS P n0 [11] w wx)
   case first =>
    cases b
    ·go_wp2
     go_meet
     exact HS.out
    ·skip
     have HC:=κ (mF ⟨#[98,121]⟩ HS.out.2.1)
     go_wp2_with fail
     refine μ HC ?_
     rintro e w11 ⟨v,rfl,rfl,hb,hp⟩
     replace HS:=κ (HS.out.next hb hp)
     clear hb hp HC
     have HC:=κ (aAK 8 (by omega) (by omega) HS.out.2.1)
     go_wp2_with fail
     refine μ HC ?_
     rintro e w12 ⟨v,rfl,⟨A,k,c,rfl⟩,hb,hp⟩
     replace HS:=κ (HS.out.next hb hp)
     clear hb hp HC
     obtain ⟨f0,f1⟩:=HS.out.at_
     obtain ⟨u,f2⟩:=f1 10 (by omega)
     clear f1
     replace HS:=κ (HS.out.set hP0 10 (by decide) (.slice A k c) (mM (by omega) (by omega) _ _ _))
     go_wp2
     go_meet
     exact HS.out
   case rest =>
    clear HS
    have HS:=κ hcut
    clear hcut
    have HC:=κ (lM ⟨#[111,114,100,101,114]⟩ HS.out.2.1)
    go_wp2_with fail
    refine μ HC ?_
    rintro e w13 ⟨v,rfl,⟨b,rfl⟩,hb,hp⟩
    replace HS:=κ (HS.out.next hb hp)
    clear hb hp HC
    go_upto_if 57 with fail
    go_cut [] (fun wx=>XS P n0 [] w wx)
    case first =>
     cases b
     ·go_wp2
      go_meet
      exact HS.out.less (by decide)
     ·skip
      have HC:=κ (mF ⟨#[98,121]⟩ HS.out.2.1)
      go_wp2_with fail
      refine μ HC ?_
      rintro e w14 ⟨v,rfl,rfl,hb,hp⟩
      replace HS:=κ (HS.out.next hb hp)
      clear hb hp HC
      have HL:=κ (LS.of (K2:=[]) HS.out (k:=11) (by decide) (by decide))
      clear HS
      go_wp2_with fail
      go_loopg [5] n0 (fun gk _ wr=>∃ (i:Nat) (A:Option Addr) (c:Nat) (vs:List Value),i+gk≤n0∧LS P gk 11 i A c vs [] w wr)
      case atStart=>exact ⟨0,none,0,[],by omega,HL.out⟩
      case round =>
       clear HL
       obtain ⟨i,A,c,vs,hi,hl⟩:=hrel
       have HL:=κ hl
       have HC:=κ (Qn hl.2.1)
       have hiI:(i:Int)≤2000:=by omega
       clear hl
       go_wp2_with fail
       refine μ HC ?_
       rintro e w2 ⟨v,rfl,⟨⟨k,vk,vi,s0,vb,tt,ss,Ae,nn,ce⟩,rfl⟩,hb,hp⟩
       simp only [RC.val]
       have HS:=κ (show PtS P gk 11 i A c vs [] w w2.heap.size (w2.alloc (.cells #[.int .u8 k,.int .u8 vk,.int .i64 vi,.string s0,.bool vb,.string tt,.string ss,.slice Ae nn ce,.string ⟨#[]⟩,.bool false] 72)) from PtS.new (HL.out.next hb hp) ⟨k,vk,vi,s0,vb,tt,ss,Ae,nn,ce⟩ ⟨#[]⟩ false)
       clear hb hp HC HL
       have HC:=κ (lM ⟨#[100,101,115,99]⟩ HS.out.1.2.1)
       go_wp2_with fail
       refine μ HC ?_
       rintro e w3 ⟨v,rfl,⟨b2,rfl⟩,hb,hp⟩
       replace HS:=κ (HS.out.next hb hp)
       clear hb hp HC
       go_upto_if 64 with fail
       go_cut [5] (fun s5 wx=>s5=.pointer (some ⟨w2.heap.size,0,none⟩)∧PtS P gk 11 i A c vs [] w w2.heap.size wx)
       case first =>
        cases b2
        rotate_left
        ·skip
         obtain ⟨f0,⟨s8,c8⟩,d9,c9⟩:=HS.out.cells
         replace HS:=κ (HS.out.set hP0 9 (.bool true) (.inr ⟨rfl,true,rfl⟩))
         go_wp2
         go_meet
         exact ⟨rfl,HS.out⟩
        ·skip
         have HC:=κ (lM ⟨#[97,115,99]⟩ HS.out.1.2.1)
         go_wp2_with fail
         refine μ HC ?_
         rintro e w4 ⟨v,rfl,⟨b3,rfl⟩,hb,hp⟩
         replace HS:=κ (HS.out.next hb hp)
         clear hb hp HC
         go_wp2
         go_meet
         exact ⟨rfl,HS.out⟩
       case rest =>
        obtain ⟨rfl,hS⟩:=hcut
        have HL:=κ hS.1
        have HG:=κ (ι hS.1.2.2.2.2 (ι hS.2.2.1 hS.1.1.size))
        obtain ⟨-, -, -,⟨k,vk,vi,s0,vb,tt,ss,Ae,nn,ce⟩,s8,d9,h4⟩:=hS
        have cg:=β h4
        obtain ⟨cr,cf⟩:=HL.out.row
        have hsz:=HL.out.1.size
        simp only [RC.cells,List.cons_append,List.nil_append] at cg
        clear h4 HS
        go_upto_region 25 with (at_builtin;refine bH _ rfl (.tmp 69) (.tmp 71) _ rfl w.heap.size 72 iE _ 10 128 underlying35 hiE hz0 hz1 hz2 rfl (by omega) A i c vs rfl (HG.out.1.alloc _) _ 1 1 [.int .u8 k,.int .u8 vk,.int .i64 vi,.string s0,.bool vb,.string tt,.string ss,.slice Ae nn ce,.string s8,.bool d9] rfl rfl (bD [.int .u8 k,.int .u8 vk,.int .i64 vi,.string s0,.bool vb,.string tt,.string ss,.slice Ae nn ce,.string s8,.bool d9] (heap_alloc_new _ _)) (by simp [Value.oneCell']) (by simp only [maxLen];omega) (by omega) (by rw [World.size_alloc];omega) ?_;intro A5 c5 w5 ho5 hb5 _ hk5;obtain ⟨d5,f5⟩:=HL.out.keep hk5)
        have hl5:=Pg hP0 HL.out (by decide) (by decide) ho5 hb5 hk5
        obtain ⟨W6,hW6⟩:∃ W6,w5.setCell ⟨w.heap.size+1,11,none⟩ (.slice A5 (i+1) c5)=W6:=⟨_,rfl⟩
        rw [hW6] at hl5 ⊢
        clear hW6 ho5 hb5 hk5 d5 f5 cg cr cf HG HL
        have HL:=κ hl5
        have HM:=κ (Pb (i+1) 8 hl5.2.1)
        obtain ⟨cr,cf⟩:=hl5.row
        clear hl5
        go_wp2_with fail
        refine μ HM ?_
        rintro e w7 ⟨hb,(⟨rfl,hp⟩|⟨rfl,m,hm,hp⟩)⟩
        ·have HZ:=κ ((HL.out.next hb hp).xs.mono (show gk≤n0 by omega))
         clear hb hp HM HL cr cf
         go_wp2
         go_meet
         exact HZ.out
        ·have HZ:=κ (HL.out.next hb hp)
         clear hb hp HM HL cr cf
         go_wp2
         go_roundg m
         case measure=>omega
         case rel=>exact ⟨i+1,A5,c5,_,by omega,HZ.out⟩
    case rest =>
     clear HS
     have HS:=κ hcut
     clear hcut
     have HC:=κ (lM ⟨#[108,105,109,105,116]⟩ HS.out.2.1)
     go_wp2_with fail
     refine μ HC ?_
     rintro e w15 ⟨v,rfl,⟨b,rfl⟩,hb,hp⟩
     replace HS:=κ (HS.out.next hb hp)
     clear hb hp HC
     go_upto_if 81 with fail
     go_cut [] (fun wx=>XS P n0 [] w wx)
     case first =>
      cases b
      ·go_wp2
       go_meet
       exact HS.out
      ·skip
       obtain ⟨o,hlo,ho⟩:=HS.out.2.1
       rcases o with _|l
       ·obtain ⟨l,d,bd,hbd,⟨A,c,i,k1, -, -⟩, -, -⟩:=ho
        have c3:=β k1 3
        have eb:(bd==0)=false:=η hbd
        clear k1 hbd hlo
        go_wp2_with fail
        go_quiet (fail)
        replace HS:=κ (HS.out.next (w':=w15.drewN nq) (Drawn.but ⟨nq,rfl⟩) HS.out.2.1)
        have HC:=κ (Cl 4 (by decide) HS.out.2.1)
        go_wp2_with fail
        refine μ HC ?_
        rintro e w16 ⟨v,rfl,rfl,hb,hp⟩
        replace HS:=κ (HS.out.next hb hp)
        clear hb hp HC
        go_wp2
        go_meet
        exact HS.out
       ·have HL:=κ (ι hlo ho)
        obtain ⟨A,c,i,h1,h2,h3⟩:=ho
        have c0:=β h1 0
        have c1:=β h1 1
        have c3:=β h1 3
        simp only [γ,δ,ε] at c0 c1 c3
        rcases l with _|⟨t,r⟩
        ·have hI:decide ((i:Int)<((i+([]:List Tok).length:Nat):Int))=false:=by simp
         clear h1 h2 h3 hlo
         go_wp2_with fail
         go_quiet (fail)
         replace HS:=κ (HS.out.next (w':=w15.drewN nq) (Drawn.but ⟨nq,rfl⟩) HS.out.2.1)
         have HC:=κ (Cl 4 (by decide) HS.out.2.1)
         go_wp2_with fail
         refine μ HC ?_
         rintro e w16 ⟨v,rfl,rfl,hb,hp⟩
         replace HS:=κ (HS.out.next hb hp)
         clear hb hp HC
         go_wp2
         go_meet
         exact HS.out
        ·obtain ⟨b,off,rfl,hlt,q0, -,q2⟩:=h2.front
         obtain ⟨n,hn⟩:∃ n,i+(t::r).length=n:=⟨_,rfl⟩
         rw [hn] at c0
         have hin:(i:Int)<(n:Int):=by simp at hn;omega
         have hinN:i<n:=by simp at hn;omega
         have hin0:(0:Int)≤(i:Int):=by omega
         have hi2:(i:Int)≤2000:=by omega
         have fp:=fun j=>frozen_of_row _ P j _ _ h1
         clear h1 h2 h3 hn hlo
         by_cases hk:t.k=2
         ·have ek:(t.k==2)=true:=by rw [hk];rfl
          clear hk
          go_wp2_with fail
          go_quiet (fail)
          obtain ⟨f0,f1⟩:=HS.out.at_
          obtain ⟨u,f2⟩:=f1 12 (by omega)
          clear f1
          go_wp2_with fail
          first|go_region|fail
          all_goals
           have hG:Below (w.heap.size+1) w15 ((w15.drewN (nq+1)).setCell ⟨w.heap.size+1,12,none⟩ (.int .i64 t.n)):=((θ:Below (w.heap.size+1) w15 w15) |> vE (nq+1)).setCell (p:=⟨w.heap.size+1,12,none⟩) (ν _) _
           have HZ:=κ (XS.adv ((HS.out.next (w':=w15.drewN (nq+1)) (Drawn.but ⟨nq+1,rfl⟩) HS.out.2.1).set hP0 12 (by decide) (.int .i64 t.n) (zS _)) (HL.out.2.low (Nat.lt_succ_of_lt hP0) hG) HL.out.1 ((hG.cell (p:=⟨P,1,none⟩) (Nat.lt_succ_of_lt hP0)).trans c1))
           clear hG
           go_wp2
           go_meet
           exact HZ.out
         ·have ek:(t.k==2)=false:=η hk
          clear hk
          go_wp2_with fail
          go_quiet (fail)
          replace HS:=κ (HS.out.next (w':=w15.drewN nq) (Drawn.but ⟨nq,rfl⟩) HS.out.2.1)
          have HC:=κ (Cl 4 (by decide) HS.out.2.1)
          go_wp2_with fail
          refine μ HC ?_
          rintro e w16 ⟨v,rfl,rfl,hb,hp⟩
          replace HS:=κ (HS.out.next hb hp)
          clear hb hp HC
          go_wp2
          go_meet
          exact HS.out
     case rest =>
      clear HS
      have HS:=κ hcut
      clear hcut
      obtain ⟨hb,hp,hz,cs,hl,hx, -⟩:=HS.out
      obtain ⟨k,s1,s2,s3,A4,n4,c4,A5,n5,c5,A6,n6,c6,A7,n7,c7,A8,n8,c8,A9,n9,c9,A10,n10,c10,A11,n11,c11,li,rfl⟩:=qR hl
      have cx:=β hx
      have cz:=β hz
      have fz:=fun j=>frozen_of_row _ _ j _ _ hz
      simp only [stZ,stC] at cz fz
      have h13:=kH [.int .u8 k,.string s1,.string s2,.string s3,.slice A4 n4 c4,.slice A5 n5 c5,.slice A6 n6 c6,.slice A7 n7 c7,.slice A8 n8 c8,.slice A9 n9 c9,.slice A10 n10 c10,.slice A11 n11 c11,.int .i64 li] 0 wc stZ hz rfl
      rw [List.take_zero,List.nil_append] at h13
      have HE:=κ (ι (But.puts (g:=w.heap.size) (ν _) [.int .u8 k,.string s1,.string s2,.string s3,.slice A4 n4 c4,.slice A5 n5 c5,.slice A6 n6 c6,.slice A7 n7 c7,.slice A8 n8 c8,.slice A9 n9 c9,.slice A10 n10 c10,.slice A11 n11 c11,.int .i64 li] 0 wc hb) (hp.low hP0 (jB (g:=w.heap.size) (ν _) [.int .u8 k,.string s1,.string s2,.string s3,.slice A4 n4 c4,.slice A5 n5 c5,.slice A6 n6 c6,.slice A7 n7 c7,.slice A8 n8 c8,.slice A9 n9 c9,.slice A10 n10 c10,.slice A11 n11 c11,.int .i64 li] 0 wc (θ))))
      clear hb hp hz hl hx HS
      go_wp2
      change bodyPost _ _ _ _ _ (puts wc w.heap.size [.int .u8 k,.string s1,.string s2,.string s3,.slice A4 n4 c4,.slice A5 n5 c5,.slice A6 n6 c6,.slice A7 n7 c7,.slice A8 n8 c8,.slice A9 n9 c9,.slice A10 n10 c10,.slice A11 n11 c11,.int .i64 li] 0)
      generalize puts wc w.heap.size [.int .u8 k,.string s1,.string s2,.string s3,.slice A4 n4 c4,.slice A5 n5 c5,.slice A6 n6 c6,.slice A7 n7 c7,.slice A8 n8 c8,.slice A9 n9 c9,.slice A10 n10 c10,.slice A11 n11 c11,.int .i64 li] 0=WE at *
      have hcE:=β h13
      exact bodyPost_ret (v:=.agg #[.int .u8 k,.string s1,.string s2,.string s3,.slice A4 n4 c4,.slice A5 n5 c5,.slice A6 n6 c6,.slice A7 n7 c7,.slice A8 n8 c8,.slice A9 n9 c9,.slice A10 n10 c10,.slice A11 n11 c11,.int .i64 li]) (by simp [results,results87,go_sem,hcE]) rfl ⟨_,rfl,⟨k,s1,s2,s3,A4,n4,c4,A5,n5,c5,A6,n6,c6,A7,n7,c7,A8,n8,c8,A9,n9,c9,A10,n10,c10,A11,n11,c11,li,rfl⟩,HE.out.1,HE.out.2⟩
theorem Ob:(prog.info? 116).map (fun i=>(i.zero,i.size,i.bytes))=some (some (.agg #[.string ⟨#[]⟩,.int .u8 0]),2,24):=by kernel_rfl
def ColS (B P n k:Nat) (A:Option Addr) (c:Nat) (vs:List Value) (w0:World) (g:Nat) (s:ByteArray) (w:World):Prop :=
 But P w0 w∧RW P w n∧w.ownsRow B 116 2 (.slice A k c) k vs∧B≤g∧some g≠Value.ownBlock (.slice A k c)∧∃ kd:Int,w.heap[g]? = some (.cells #[.string s,.int .u8 kd] 116 (0,0))
theorem ColS.next {B P n k c g:Nat} {A:Option Addr} {vs:List Value} {w0 w w':World} {s:ByteArray} (h:ColS B P n k A c vs w0 g s w) (hb:But P w w') (hp:RW P w' n):ColS B P n k A c vs w0 g s w':=by
 obtain ⟨h1,h2,h3,h4,h5,kd,h6⟩:=h
 exact ⟨h1.trans hb,hp,h2.own h3 hb (by decide),h4,h5,kd,hb.box h2 h6 (by decide)⟩
theorem ColS.set {P n k c g:Nat} {A:Option Addr} {vs:List Value} {w0 w:World} {s:ByteArray} (h:ColS w0.heap.size P n k A c vs w0 g s w) (hP:P<w0.heap.size) (kd:Int):ColS w0.heap.size P n k A c vs w0 g s (w.setCell ⟨g,1,none⟩ (.int .u8 kd)):=by
 obtain ⟨h1,h2,h3,h4,h5,kd0,h6⟩:=h
 have h7:=heap_setCell_same w g 1 _ _ (.int .u8 kd) h6
 refine ⟨bK h1 h4 _ _,h2.low (B:=g) (by omega) ((θ).setCell (p:=⟨g,1,none⟩) (ν _) _), ?_,h4,h5,kd,by simpa using h7⟩
 refine ⟨h3.1, ?_⟩
 rcases h3.2 with k2|⟨g',cap,cur,k2,k3,k4,k5⟩
 ·exact .inl k2
 ·refine .inr ⟨g',cap,cur,k2,k3,(Below.heap_setCell w ⟨g,1,none⟩ _ g' ?_).trans k4,k5⟩
  intro e
  rw [k2] at h5
  exact h5 (by rw [e];rfl)
theorem Rk {P n0:Nat} (w:World) (h:RW P w n0) (h0:n0≤2000) :
 Calls prog 82 #[.pointer (some ⟨P,0,none⟩)] w (WP P w n0 fun v=>∃ A k c,v=.slice A k c):=by
 obtain ⟨iE,hiE,hz0,hz1,hz2⟩:=info_parts Ob
 have hP0:P<w.heap.size:=h.lt
 go_enter func82,ntmps82
 go_wp2_with fail
 go_loopg [3,4,10,14,18] n0 (fun gk s3 _ _ _ _ wr=>∃ (k:Nat) (A:Option Addr) (c:Nat) (vs:List Value),s3=.slice A k c∧k+gk≤n0∧But P w wr∧wr.ownsRow w.heap.size 116 2 (.slice A k c) k vs∧RW P wr gk)
 case atStart=>exact ⟨0,none,0,[],rfl,by omega,But.refl _ _,World.ownsRow_nil _ _ _ _,h⟩
 case round =>
  clear h
  obtain ⟨k,A,c,vs,rfl,hk,hb,hown,hp⟩:=hrel
  have HC:=κ (nB hp)
  have HR:=κ (ι hb (ι hown hp))
  have hkI:(k:Int)≤2000:=by omega
  clear hb hown hp
  go_wp2_with fail
  refine μ HC ?_
  rintro e w1 ⟨v,rfl,⟨s,rfl⟩,hb1,hp1⟩
  have hb2:Below w1.heap.size w1 (w1.alloc (.cells #[.string s,.int .u8 0] 116)):=ρ
  have HS:=κ (show ColS w.heap.size P _ k A c vs w w1.heap.size s (w1.alloc (.cells #[.string s,.int .u8 0] 116)) from ⟨(HR.out.1.trans hb1).trans (But.of hb2),hp1.below hb2,(HR.out.2.2.own HR.out.2.1 hb1 (by decide)).alloc _,Nat.le_trans HR.out.1.size hb1.size,eI HR.out.2.1 hb1.size,0,heap_alloc_new w1 _⟩)
  clear hb1 hp1 hb2 HC HR
  go_upto_block 2 with fail
  go_cut [3,4] (fun s3 s4 wx=>s3=.slice A k c∧s4=.pointer (some ⟨w1.heap.size,0,none⟩)∧ColS w.heap.size P gk k A c vs w w1.heap.size s wx)
  case first =>
   have HC:=κ (lM ⟨#[105,110,116]⟩ HS.out.2.1)
   go_wp2_with fail
   refine μ HC ?_
   rintro e v0 ⟨v,rfl,⟨b,rfl⟩,hb2,hp2⟩
   replace HS:=κ (HS.out.next hb2 hp2)
   clear hb2 hp2 HC
   cases b
   rotate_left
   ·obtain ⟨-, -, -, -, -,kd,h6⟩:=HS.out
    have c0:=β h6 1
    have f0:=fun j=>frozen_of_row _ _ j _ _ h6
    have HZ:=κ (HS.out.set hP0 1)
    clear h6
    go_wp2
    go_meet
    exact ⟨rfl,rfl,HZ.out⟩
   have HC:=κ (lM ⟨#[116,101,120,116]⟩ HS.out.2.1)
   go_wp2_with fail
   refine μ HC ?_
   rintro e v1 ⟨v,rfl,⟨b,rfl⟩,hb2,hp2⟩
   replace HS:=κ (HS.out.next hb2 hp2)
   clear hb2 hp2 HC
   cases b
   rotate_left
   ·obtain ⟨-, -, -, -, -,kd,h6⟩:=HS.out
    have c0:=β h6 1
    have f0:=fun j=>frozen_of_row _ _ j _ _ h6
    have HZ:=κ (HS.out.set hP0 2)
    clear h6
    go_wp2
    go_meet
    exact ⟨rfl,rfl,HZ.out⟩
   have HC:=κ (lM ⟨#[98,111,111,108]⟩ HS.out.2.1)
   go_wp2_with fail
   refine μ HC ?_
   rintro e v2 ⟨v,rfl,⟨b,rfl⟩,hb2,hp2⟩
   replace HS:=κ (HS.out.next hb2 hp2)
   clear hb2 hp2 HC
   cases b
   rotate_left
   ·obtain ⟨-, -, -, -, -,kd,h6⟩:=HS.out
    have c0:=β h6 1
    have f0:=fun j=>frozen_of_row _ _ j _ _ h6
    have HZ:=κ (HS.out.set hP0 3)
    clear h6
    go_wp2
    go_meet
    exact ⟨rfl,rfl,HZ.out⟩
   have HC:=κ (Cl 4 (by decide) HS.out.2.1)
   go_wp2_with fail
   refine μ HC ?_
   rintro e v4 ⟨v,rfl,rfl,hb2,hp2⟩
   have HZ:=κ (HS.out.next hb2 hp2)
   clear hb2 hp2 HC
   go_wp2
   go_meet
   exact ⟨rfl,rfl,HZ.out⟩
  case rest =>
   clear HS
   obtain ⟨rfl,rfl,hS⟩:=hcut
   obtain ⟨h1,h2,h3,h4,h5,kd,h6⟩:=hS
   have c0:=β h6
   have hsz:w.heap.size≤wc.heap.size:=h1.size
   have HS:=κ (ι h1 h2)
   clear h1 h2 h4 h5 h6
   go_wp2_with (at_builtin;refine bH _ rfl (.tmp 22) (.tmp 24) _ rfl w.heap.size 116 iE _ 2 24 underlying33 hiE hz0 hz1 hz2 rfl (by omega) A k c vs rfl (h3.alloc _) _ 1 1 [.string s,.int .u8 kd] rfl rfl (bD [.string s,.int .u8 kd] (heap_alloc_new _ _)) (by simp [Value.oneCell']) (by simp only [maxLen];omega) (by omega) (by rw [World.size_alloc];omega) ?_;intro A5 c5 w5 ho5 hb5 _ _)
   have hb15:Below w.heap.size wc w5:=((Below.refl wc.heap.size wc).alloc (ν _) _ |>.mono hsz).trans hb5
   have hp5:=HS.out.2.low hP0 hb15
   have H5:=κ (ι (HS.out.1.lowr hb15) (ι hp5 ho5))
   have HM:=κ (Pb (k+1) 8 hp5)
   clear hb15 hb5 hp5 ho5 h3 c0 HS
   refine μ HM ?_
   rintro e w6 ⟨hb6,(⟨rfl,hp6⟩|⟨rfl,m,hm,hp6⟩)⟩
   ·have HE:=κ (ι (H5.out.1.trans hb6) (hp6.mono (show gk≤n0 by omega)))
    clear hb6 hp6 HM H5
    go_wp2
    go_ret
    exact ⟨_,rfl,⟨_,_,_,rfl⟩,HE.out.1,HE.out.2⟩
   ·have HE:=κ (ι (H5.out.1.trans hb6) (ι hp6 (H5.out.2.1.own H5.out.2.2 hb6 (by decide))))
    clear hb6 hp6 HM H5
    go_wp2
    go_roundg m
    case measure=>omega
    case rel=>exact ⟨k+1,A5,c5,_,rfl,by omega,HE.out.1,HE.out.2.2,HE.out.2.1⟩
