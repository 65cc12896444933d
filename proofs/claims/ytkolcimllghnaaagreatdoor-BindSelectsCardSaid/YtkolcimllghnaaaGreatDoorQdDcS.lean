/-
 Contracts. Conditions: those of each.
-/
import Derived.Test.YtkolcimllghnaaaGreatDoorQdDcC
set_option maxRecDepth 100000
set_option maxHeartbeats 40000000
namespace Go.Proofs.YtkolcimllghnaaaGreatDoor
open Lp Go.Proofs.Tryz
open Go.RowKit
variable{kd:Int}{K:List Nat}{P c c5 i k n size:Nat}{ob:Obj}{e:TypeId}{w w0 w5:World}{A A5:ZT}{cs vs:ZU}{L:ZW}
theorem Vx:(prog.info? 36).map (λi=>(i.zero,i.size,i.bytes))=some (some (.slice none 0 0),1,24):=aj
theorem nC (k:Int) (a b c:ByteArray):Cs13 [.int .u8 k,.string a,.string b,.string c,.slice none 0 0,.slice none 0 0,.slice none 0 0,.slice none 0 0,.slice none 0 0,.slice none 0 0,.slice none 0 0,.slice none 0 0,.int .i64 0]:=by
 refine ⟨rfl,λj v h => ?_⟩;have hj:j<13:=by
  rcases Nat.lt_or_ge j 13 with h1|h1
  ·exact h1
  ·rw [List.getElem?_eq_none (by exact h1)] at h;cases h
 match j,hj with
 | 0,_=>injection h with h;subst h;exact ⟨λ_=>⟨k,rfl⟩,λh=>ac,λh=>ac,λh=>ac⟩
 | 1,_|2,_|3,_=>injection h with h;subst h;exact LA
 | 4,_|5,_|6,_|7,_|8,_|9,_|10,_|11,_=>injection h with h;subst h;exact LB
 | 12,_=>injection h with h;subst h;exact Ms _
theorem tyK (k:Int):zL 0 (.int .u8 k):=⟨λ_=>⟨k,rfl⟩,λh=>ac,λh=>ac,λh=>ac⟩
theorem Ec (k:Int) (s1 s2 s3:ByteArray) (A4:ZT) (n4 c4:Nat) (A5:ZT) (n5 c5:Nat) (A6:ZT) (n6 c6:Nat) (A7:ZT) (n7 c7:Nat) (A8:ZT) (n8 c8:Nat) (A9:ZT) (n9 c9:Nat) (A10:ZT) (n10 c10:Nat) (A11:ZT) (n11 c11:Nat) (li:Int):Cs13 [.int .u8 k,.string s1,.string s2,.string s3,.slice A4 n4 c4,.slice A5 n5 c5,.slice A6 n6 c6,.slice A7 n7 c7,.slice A8 n8 c8,.slice A9 n9 c9,.slice A10 n10 c10,.slice A11 n11 c11,.int .i64 li]:=by
 refine ⟨rfl,λj v h => ?_⟩;have hj:j<13:=by
  rcases Nat.lt_or_ge j 13 with h1|h1
  ·exact h1
  ·rw [List.getElem?_eq_none (by exact h1)] at h;cases h
 match j,hj with
 | 0,_=>injection h with h;subst h;exact tyK k
 | 1,_|2,_|3,_=>injection h with h;subst h;exact LA
 | 4,_|5,_|6,_|7,_|8,_|9,_|10,_|11,_=>injection h with h;subst h;exact LB
 | 12,_=>injection h with h;subst h;exact Ms _
theorem Gm {g:Nat} {t:TypeId}:∀ (vs zs pre bs:ZU) (w:World),w.heap[g]? = some (.cells (pre++zs++bs).toArray t (0,0))->zs.length=vs.length->(puts w g vs pre.length).heap[g]? = some (.cells (pre++vs++bs).toArray t (0,0))
 | [],zs,pre,bs,w,h,hl=>by
   obtain rfl:=List.eq_nil_of_length_eq_zero hl;exact h
 | v::vs,a::zs,pre,bs,w,h,hl=>by
   have h1:=heap_setCell_same w g pre.length _ _ v h;rw [List.setIfInBounds_toArray,show (pre++a::zs++bs).set pre.length v=(pre++[v])++zs++bs by
    rw [List.append_assoc,List.set_append_right (h:=ν _),Nat.sub_self];simp] at h1
   have h2:=Gm vs zs (pre++[v]) bs _ h1 (by simpa using hl);rw [List.length_append] at h2
   simpa [puts] using h2
 | _::_,[],_,_,_,_,hl=>by simp at hl
structure XT (P n:Nat) (kd:Int) (K:List Nat) (w0 w:World):Prop where
 but:But P w0 w
 rw_:RW P w n
 z:w.heap[w0.heap.size]? = some (.cells stZ.toArray 38 (0,0))
 x:∃ cs:ZU,Cs13 cs∧w.heap[w0.heap.size+1]? = some (.cells cs.toArray 38 (0,0))∧cs[0]? = some (.int .u8 kd)∧∀ k∈K,cs[k]? = some (.slice none 0 0)
theorem XT.next {m:Nat} {w':World} (h:XT P n kd K w0 w) (hb:But P w w') (hp:RW P w' m):XT P m kd K w0 w':=by
 obtain ⟨h1,h2,h3,cs,h4,h5,h6⟩:=h;exact IX
theorem XT.put {kd':Int} (h:XT P n kd K w0 w) (hP:P<w0) (j:Nat) (hj:j ∉ K) (v:Value) (hv:zL j v) (hk:∀ cs:ZU,Cs13 cs->cs[0]? = some (.int .u8 kd)->(cs.set j v)[0]? = some (.int .u8 kd')):XT P n kd' K w0 (w.setCell ⟨w0+1,j,none⟩ v):=by
 obtain ⟨h1,h2,h3,cs,h4,h5,h6,h7⟩:=h;refine ⟨bP h1 (Nat.le_succ _) _ _,h2.low (B:=w0) hP ((θ).setCell (p:=⟨w0+1,j,none⟩) (Nat.le_succ _) v),(Below.heap_setCell w ⟨w0+1,j,none⟩ v _ IY).trans h3,cs.set j v,h4.set hv, ?_,hk cs h4 h6,λk hk => ?_⟩
 ·have:=heap_setCell_same w (w0+1) j _ _ v h5;rwa [List.setIfInBounds_toArray] at this
 ·rw [List.getElem?_set_ne IZ];exact h7 k hk
theorem XT.set (h:XT P n kd K w0 w) (hP:P<w0) (j:Nat) (hj:j ∉ K) (h0:j≠0) (v:Value) (hv:zL j v):XT P n kd K w0 (w.setCell ⟨w0+1,j,none⟩ v) :=
 h.put hP j hj v hv λcs _ h=>by rw [List.getElem?_set_ne h0];exact h
theorem XT.kind (h:XT P n kd [] w0 w) (hP:P<w0) (k:Int):XT P n k [] w0 (w.setCell ⟨w0+1,0,none⟩ (.int .u8 k)) :=
 h.put hP 0 aa _ (tyK k) λcs h1 _=>by have:=h1.1;simp [this]
theorem XT.at_ (h:XT P n kd K w0 w):(∀ j,w.frozen? ⟨w0+1,j,none⟩=false)∧∀ j,j<13->∃ u,w.cell? ⟨w0+1,j,none⟩=some u:=by
 obtain ⟨h1,h2,h3,cs,h4,h5,h6⟩:=h;refine ⟨λj=>frozen_of_row w _ j _ _ h5,λj hj=>⟨cs[j]' JA,(β h5 j).trans ?_⟩⟩;rw [γ,List.getElem?_eq_getElem JA]
theorem XT.puts {P n:Nat} {kd kd':Int} {K K':List Nat} {w0 w:World} (h:XT P n kd K w0 w) (hP:P<w0) (vs:ZU) (hc:Cs13 vs) (h0:vs[0]? = some (.int .u8 kd')) (hK:∀ k∈K',vs[k]? = some (.slice none 0 0)):XT P n kd' K' w0 (puts w (w0+1) vs 0):=by
 obtain ⟨h1,h2,h3,cs,h4,h5,h6⟩:=h;have h13:=kP vs 0 w cs h5 (by rw [h4.1,hc.1]);rw [List.take_zero,List.nil_append] at h13;exact ⟨But.puts (Nat.le_succ _) vs 0 w h1,h2.low (B:=w0) hP (gZ (Nat.le_succ _) vs 0 w (θ)),(jG ac vs 0 w).trans h3,vs,hc,h13,h0,hK⟩
theorem XT.drew {P n:Nat} {kd:Int} {K:List Nat} {w0 w:World} (h:XT P n kd K w0 w):XT P n kd K w0 w.drew:=h.next (But.of (θ).drew) (h.rw_.below (θ).drew)
theorem SS.xt {o:Option ZW} (h:SS w0 P w0 w o stZ):XT P 2000 0 [] w0 w:=⟨h.b,RW.of h.p,h.z,stZ,nC 0 ⟨#[]⟩ ⟨#[]⟩ ⟨#[]⟩,h.x,rfl,λk hk=>by cases hk⟩
def LW (P n:Nat) (kd:Int) (k:Nat) (e:TypeId) (size i:Nat) (A:ZT) (c:Nat) (vs:ZU) (w0 w:World):Prop:=XT P n kd [] w0 w∧w.cell? ⟨w0+1,k,none⟩=some (.slice A i c)∧w.ownsRow w0 e size (.slice A i c) i vs
theorem XT.lw (h:XT P n kd [k] w0 w) (e:TypeId) (size:Nat):LW P n kd k e size 0 none 0 [] w0 w:=by
 obtain ⟨h1,h2,h3,cs,h4,h5,h6,h7⟩:=h;exact ⟨⟨h1,h2,h3,cs,h4,h5,h6,λk hk=>by cases hk⟩,(β h5 k).trans (by rw [γ];exact h7 k aa),World.ownsRow_nil _ _ _ _⟩
theorem LW.next {P n m k size i c:Nat} {kd:Int} {e:TypeId} {A:ZT} {vs:ZU} {w0 w w':World} (h:LW P n kd k e size i A c vs w0 w) (he:e≠108) (hb:But P w w') (hp:RW P w' m):LW P m kd k e size i A c vs w0 w':=by
 obtain ⟨h1,h2,h3⟩:=h;have hx:=h1.x;obtain ⟨cs, -,h5, -⟩:=hx;exact ⟨h1.next hb hp,by rw [β (hb.box h1.rw_ h5 am), <-β h5,h2],h1.rw_.own h3 hb he⟩
theorem LW.row (h:LW P n kd k e size i A c vs w0 w):(∀ j,w.frozen? ⟨w0+1,j,none⟩=false)∧∀ o,(w.alloc o).cell? ⟨w0+1,k,none⟩=some (.slice A i c):=by
 have hx:=h.1.x;obtain ⟨cs, -,h5, -⟩:=hx;exact ⟨λj=>frozen_of_row w _ j _ _ h5,λo=>by rw [β (aB h5 o), <-β h5,h.2.1]⟩
theorem LW.keep (h:LW P n kd k e size i A c vs w0 w) (he:e≠38) (hk5:fL (w.alloc ob) w5 (Value.ownBlock (.slice A i c)) (Value.ownBlock (.slice A5 (i+1) c5))):w5.cell? ⟨w0+1,k,none⟩=some (.slice A i c)∧∀ j,w5.frozen? ⟨w0+1,j,none⟩=false:=by
 have hx:=h.1.x;obtain ⟨cs, -,h5, -⟩:=hx;have e5:=(hk5 _ _ (aB h5 ob) (cU (h.2.2.alloc ob) (aB h5 ob) he)).1;exact ⟨by rw [β e5, <-β h5,h.2.1],λj=>frozen_of_row w5 _ j _ _ e5⟩
theorem LW.part {g:Nat} {ds:ZV} (h:LW P n kd k e size i A c vs w0 w) (hP:P<w0) (hg:w0.heap.size≤g) (hgs:w.heap[g]? = some (.cells ds 72 (0,0))) (hn:some g≠Value.ownBlock (.slice A i c)) (us:ZU):LW P n kd k e size i A c vs w0 (puts w g us 0):=by
 obtain ⟨⟨h1,h2,h3,cs,h4,h5,h6,h7⟩,h8,h9⟩:=h;have ne:∀ (j:Nat) (es:ZV) (ty:TypeId),w.heap[j]? = some (.cells es ty (0,0))->ty≠72->j≠g:=by
  rintro j es ty k1 k2 rfl;rw [hgs] at k1;injection k1 with k1;injection k1 with _ k1;exact k2 k1.symm
 have far:∀ j,j≠g->(puts w g us 0).heap[j]? = w.heap[j]? := λj hj=>jG hj us 0 w;have e5:=(far _ (ne _ _ _ h5 am)).trans h5;refine ⟨⟨But.puts hg us 0 w h1,h2.low (B:=w0) hP (gZ hg us 0 w (θ)),(far _ (ne _ _ _ h3 am)).trans h3,cs,h4,e5,h6,h7⟩,by rw [β e5, <-β h5,h8],h9.1, ?_⟩;rcases h9.2 with k2|⟨g',cap,cur,k2,k3,k4,k5⟩
 ·exact .inl k2
 ·refine .inr ⟨g',cap,cur,k2,k3,(far g' ?_).trans k4,k5⟩;rintro rfl;rw [k2] at hn;exact hn rfl
theorem Xq {news:ZU} (hP:P<w0) (h:LW P n kd k e size i A c vs w0 w) (he:e≠38) (hkj:4≤k∧k≤11) (ho5:w5.ownsRow w0 e size (.slice A5 (i+1) c5) (i+1) (vs++news)) (hb5:Below w0 (w.alloc ob) w5) (hk5:fL (w.alloc ob) w5 (Value.ownBlock (.slice A i c)) (Value.ownBlock (.slice A5 (i+1) c5))) :
 LW P n kd k e size (i+1) A5 c5 (vs++news) w0 (w5.setCell ⟨w0+1,k,none⟩ (.slice A5 (i+1) c5)):=by
 obtain ⟨⟨h1,h2,h3,cs,h4,h5,h6,h7⟩, -,h8⟩:=h;have hb15:Below w0 w w5:=((Below.refl w w).alloc (ν _) ob |>.mono h1.size).trans hb5;have e3:=(hk5 _ _ (aB h3 ob) (cU (h8.alloc ob) (aB h3 ob) he)).1;have e5:=(hk5 _ _ (aB h5 ob) (cU (h8.alloc ob) (aB h5 ob) he)).1;have e6:=heap_setCell_same w5 (w0+1) k _ _ (.slice A5 (i+1) c5) e5;have hk:k<13:=ac
 refine ⟨(XT.set ⟨h1.lowr hb15,h2.low hP hb15,e3,cs,h4,e5,h6,h7⟩ hP k aa ac _ (oQ hkj.1 hkj.2 _ _ _)),(β e6 k).trans ?_,lJ ho5 e5 he⟩;have:=h4.1;simp [this,hk]
def KnQ (P:Nat) (w0:World) (L:ZW) (cs:ZU) (w:World):Prop:=(isF cO L=true->RO P w ((mK L.tail).map (·.2))∧∀ q,mK L.tail=some q->∀ j u,cs[j]? = some u->FldR (Zb w0) w q.1 j u)∧(isF cO L=false->∃ k:Int,k≠8∧cs[0]? = some (.int .u8 k))∧RW P w 2000
def FinQ (P:Nat) (L:ZW) (w0 w:World):Prop:=But P w0 w∧w.heap[w0.heap.size]? = some (.cells stZ.toArray 38 (0,0))∧∃ cs:ZU,Cs13 cs∧w.heap[w0.heap.size+1]? = some (.cells cs.toArray 38 (0,0))∧KnQ P w0 L cs w
def aLA (P:Nat) (w0:World) (L:ZW) (e:Ending) (w:World):Prop:=∃ cs:ZU,Cs13 cs∧e=.returned (.agg cs.toArray)∧But P w0 w∧KnQ P w0 L cs w
theorem KnQ.turn {P g:Nat} {L:ZW} {cs:ZU} {w0 w w':World} (h:KnQ P w0 L cs w) (hP:P<g) (hb:Below g w w') (ht:∀ j,w0.heap.size+2≤j->w'.heap[j]? = w.heap[j]?):KnQ P w0 L cs w' :=
 ⟨λh1=>⟨(h.1 h1).1.low hP hb,λq hq j u hu=>((h.1 h1).2 q hq j u hu).turn λg hg _=>⟨hg,ht g hg⟩⟩,h.2.1,h.2.2.low hP hb⟩
theorem KnQ.weak (h1:isF cO L=false) (h0:cs[0]? = some (.int .u8 kd)) (hk:kd≠8) (h:RW P w 2000):KnQ P w0 L cs w:=⟨(λh=>tq),λ_=>⟨kd,hk,h0⟩,h⟩
theorem FinQ.weak {P:Nat} {L:ZW} {w0 w:World} {kd:Int} {K:List Nat} (h1:isF cO L=false) (hk:kd≠8) (h:XT P 2000 kd K w0 w):FinQ P L w0 w:=by
 obtain ⟨k1,k2,k3,cs,k4,k5,k6, -⟩:=h;exact ⟨k1,k3,cs,k4,k5,KnQ.weak h1 k6 hk k2⟩
theorem vS (hP:P<w0) (hc:Cs13 cs) (hb:But P w0 w) (hz:w.heap[w0.heap.size]? = some (.cells stZ.toArray 38 (0,0))) (hk:KnQ P w0 L cs w):aLA P w0 L (.returned (.agg cs.toArray)) (puts w w0 cs 0)∧(puts w w0 cs 0).heap[w0.heap.size]? = some (.cells cs.toArray 38 (0,0)):=by
 have h13:=kP cs 0 w stZ hz (by rw [hc.1];rfl);rw [List.take_zero,List.nil_append] at h13;exact ⟨⟨cs,hc,rfl,But.puts (ν _) cs 0 w hb,hk.turn hP (gZ (ν _) cs 0 w (θ)) λj hj=>jG ac cs 0 w⟩,h13⟩
theorem aCI {w1:World} (hP:P<w0) (hf:isF cO L=true) (h:XT P 2000 0 [] w0 w) (h1:w0+2≤w1.heap.size) (hc:Cs13 cs) (hr:RO P w ((mK L.tail).map (·.2))) (hq:∀ q,mK L.tail=some q->∀ j u,cs[j]? = some u->FldR (Zb w1) w q.1 j u):FinQ P L w0 (puts w (w0+1) cs 0):=by
 obtain ⟨k1,k2,k3,es,k4,k5, -⟩:=h;have h13:=kP cs 0 w es k5 (by rw [k4.1,hc.1]);rw [List.take_zero,List.nil_append] at h13;refine ⟨But.puts (Nat.le_succ _) cs 0 w k1,(jG ac cs 0 w).trans k3,cs,hc,h13,λ_=>⟨hr.low hP (gZ (Nat.le_succ _) cs 0 w (θ)),λq h j u hu=>(hq q h j u hu).turn λg hg _ => ?_⟩,(λh=>by rw [hf] at h;cases h),k2.low hP (gZ (Nat.le_succ _) cs 0 w (θ))⟩;have hg':w1.heap.size+2≤g:=hg;exact ⟨by show w0.heap.size+2≤g;omega,jG ac cs 0 w⟩
theorem aCK (P:Nat) (L:ZW) (w:World) (h:RS w P L 0 0) :
 Calls prog 33 #[P] w (aLA P w L):=by
 obtain ⟨iR,hiR,hr0,hr1,hr2⟩:=info_parts Vx;obtain ⟨iE,hiE,hz0,hz1,hz2⟩:=KK;have hP0:P<w:=h.lt;have HS:=κ (SS.new P w (some L) stZ (show RO P w (some L) from h));clear h;go_enter func33,ntmps33;go_upto_block 0 with fail
 go_cut [] (λwx=>FinQ P L w wx)
 case first =>
  cases hf:isF vP L
  rotate_left
  ·skip
   have HF:=mh;have HC:=κ (fB P (some L) ⟨#[99,114,101,97,116,101]⟩ _ HS.o.p true hf);clear hf;go_wp2_with fail;refine μ HC ?_;rintro e v1 ⟨rfl,hb,hp⟩;simp only [if_true] at hp;replace HS:=MG;clear hb hp HC;have HI:=MJ;replace HS:=MI;have HC:=MH;go_wp2_with fail;refine μ HC ?_;rintro e v2 ⟨v,rfl,⟨b,rfl⟩,hb,hp⟩;replace HS:=MG;clear hb hp HC;cases b
   ·skip
    have HC:=κ (mW ⟨#[116,97,98,108,101]⟩ HS.o.rw_);go_wp2_with fail;refine μ HC ?_;rintro e v3 ⟨v,rfl,rfl,hb,hp⟩;replace HS:=MG;clear hb hp HC;have HC:=MS;go_wp2_with fail;refine μ HC ?_;rintro e v4 ⟨v,rfl,⟨s,rfl⟩,hb,hp⟩;replace HS:=MG;clear hb hp HC;obtain ⟨f0,f1⟩:=LV;obtain ⟨u0,g0⟩:=MR;obtain ⟨u1,g1⟩:=LZ;obtain ⟨u2,g2⟩:=LU;obtain ⟨u3,g3⟩:=MQ;obtain ⟨u4,g4⟩:=MP;obtain ⟨u5,g5⟩:=MO;obtain ⟨u6,g6⟩:=MN;obtain ⟨u7,g7⟩:=MM;obtain ⟨u8,g8⟩:=LY;obtain ⟨u9,g9⟩:=MA;obtain ⟨u10,g10⟩:=MB;obtain ⟨u11,g11⟩:=ML;obtain ⟨u12,g12⟩:=ME;replace HS:=κ (HS.o.puts (K':=[]) hP0 [.int .u8 1,.string s,.string ⟨#[]⟩,.string ⟨#[]⟩,.slice none 0 0,.slice none 0 0,.slice none 0 0,.slice none 0 0,.slice none 0 0,.slice none 0 0,.slice none 0 0,.slice none 0 0,.int .i64 0] (nC _ _ _ _) rfl MK);obtain ⟨V,hV⟩:∃ V,puts v4 (w+1) [.int .u8 1,.string s,.string ⟨#[]⟩,.string ⟨#[]⟩,.slice none 0 0,.slice none 0 0,.slice none 0 0,.slice none 0 0,.slice none 0 0,.slice none 0 0,.slice none 0 0,.slice none 0 0,.int .i64 0] 0=V:=cw;rw [hV] at HS;simp only [puts,Nat.zero_add,Nat.reduceAdd] at hV;clear f1;go_upto_region 14 with fail
    try rw [hV]
    clear hV f0 g0 g1 g2 g3 g4 g5 g6 g7 g8 g9 g10 g11 g12;have HC:=κ (mW ⟨#[40]⟩ HS.o.rw_);go_wp2_with fail;refine μ HC ?_;rintro e v5 ⟨v,rfl,rfl,hb,hp⟩;replace HS:=MG;clear hb hp HC;have HC:=κ (Zz _ HS.o.rw_ ac);go_wp2_with fail;refine μ HC ?_;rintro e v6 ⟨v,rfl,⟨A,k,c,rfl⟩,hb,hp⟩;replace HS:=MG;clear hb hp HC;obtain ⟨f0,f1⟩:=LV;obtain ⟨u,f2⟩:=MP;clear f1;replace HS:=κ (HS.o.set hP0 4 am am (.slice A k c) (oQ ac ac _ _ _));have HC:=κ (mW ⟨#[41]⟩ HS.o.rw_);go_wp2_with fail;refine μ HC ?_;rintro e v7 ⟨v,rfl,rfl,hb,hp⟩;replace HS:=MG;clear hb hp HC;clear f0 f2;go_wp2
    go_meet
    exact MT
   ·skip
    have HC:=MS;go_wp2_with fail;refine μ HC ?_;rintro e v3 ⟨v,rfl,⟨s,rfl⟩,hb,hp⟩;replace HS:=MG;clear hb hp HC;obtain ⟨f0,f1⟩:=LV;obtain ⟨u0,g0⟩:=MR;obtain ⟨u1,g1⟩:=LZ;obtain ⟨u2,g2⟩:=LU;obtain ⟨u3,g3⟩:=MQ;obtain ⟨u4,g4⟩:=MP;obtain ⟨u5,g5⟩:=MO;obtain ⟨u6,g6⟩:=MN;obtain ⟨u7,g7⟩:=MM;obtain ⟨u8,g8⟩:=LY;obtain ⟨u9,g9⟩:=MA;obtain ⟨u10,g10⟩:=MB;obtain ⟨u11,g11⟩:=ML;obtain ⟨u12,g12⟩:=ME;replace HS:=κ (HS.o.puts (K':=[]) hP0 [.int .u8 3,.string s,.string ⟨#[]⟩,.string ⟨#[]⟩,.slice none 0 0,.slice none 0 0,.slice none 0 0,.slice none 0 0,.slice none 0 0,.slice none 0 0,.slice none 0 0,.slice none 0 0,.int .i64 0] (nC _ _ _ _) rfl MK);obtain ⟨V,hV⟩:∃ V,puts v3 (w+1) [.int .u8 3,.string s,.string ⟨#[]⟩,.string ⟨#[]⟩,.slice none 0 0,.slice none 0 0,.slice none 0 0,.slice none 0 0,.slice none 0 0,.slice none 0 0,.slice none 0 0,.slice none 0 0,.int .i64 0] 0=V:=cw;rw [hV] at HS;simp only [puts,Nat.zero_add,Nat.reduceAdd] at hV;clear f1;go_upto_region 6 with fail
    try rw [hV]
    clear hV f0 g0 g1 g2 g3 g4 g5 g6 g7 g8 g9 g10 g11 g12;have HC:=κ (mW ⟨#[111,110]⟩ HS.o.rw_);go_wp2_with fail;refine μ HC ?_;rintro e v4 ⟨v,rfl,rfl,hb,hp⟩;replace HS:=MG;clear hb hp HC;have HC:=MS;go_wp2_with fail;refine μ HC ?_;rintro e v5 ⟨v,rfl,⟨s5,rfl⟩,hb,hp⟩;replace HS:=MG;clear hb hp HC;obtain ⟨f0,f1⟩:=LV;obtain ⟨u,f2⟩:=LU;clear f1;replace HS:=κ (HS.o.set hP0 2 am am (.string s5) (sD ac ac _));have HC:=κ (mW ⟨#[40]⟩ HS.o.rw_);go_wp2_with fail;refine μ HC ?_;rintro e v6 ⟨v,rfl,rfl,hb,hp⟩;replace HS:=MG;clear hb hp HC;clear f0 f2;have HC:=MS;go_wp2_with fail;refine μ HC ?_;rintro e v7 ⟨v,rfl,⟨s7,rfl⟩,hb,hp⟩;replace HS:=MG;clear hb hp HC;obtain ⟨f0,f1⟩:=LV;obtain ⟨u,f2⟩:=MQ;clear f1;replace HS:=κ (HS.o.set hP0 3 am am (.string s7) (sD ac ac _));have HC:=κ (mW ⟨#[41]⟩ HS.o.rw_);go_wp2_with fail;refine μ HC ?_;rintro e v8 ⟨v,rfl,rfl,hb,hp⟩;replace HS:=MG;clear hb hp HC;clear f0 f2;obtain ⟨hb0,hp0,hz,cs,hl,hx,hk0, -⟩:=HS.o;have cz:=β hz;have fz:=MF;simp only [stZ,stC] at cz fz;obtain ⟨k,s1,s2,s3,A4,n4,c4,A5,n5,c5,A6,n6,c6,A7,n7,c7,A8,n8,c8,A9,n9,c9,A10,n10,c10,A11,n11,c11,li,rfl⟩:=nE hl;have cx:=β hx;have HR:=κ (vS hP0 hl hb0 hz (KnQ.weak (L:=L) HI.o hk0 am hp0))
    clear hb0 hp0 hl hx hz HS hk0;go_wp2;change bodyPost _ _ _ _ _ (puts v8 w [.int .u8 k,.string s1,.string s2,.string s3,.slice A4 n4 c4,.slice A5 n5 c5,.slice A6 n6 c6,.slice A7 n7 c7,.slice A8 n8 c8,.slice A9 n9 c9,.slice A10 n10 c10,.slice A11 n11 c11,.int .i64 li] 0);have hR:=lc;generalize puts v8 w [.int .u8 k,.string s1,.string s2,.string s3,.slice A4 n4 c4,.slice A5 n5 c5,.slice A6 n6 c6,.slice A7 n7 c7,.slice A8 n8 c8,.slice A9 n9 c9,.slice A10 n10 c10,.slice A11 n11 c11,.int .i64 li] 0=WE at *;have hcE:=β hR.2;exact MU
  have F0:=mh;have HC:=κ (fB P (some L) ⟨#[99,114,101,97,116,101]⟩ _ HS.o.p false hf);clear hf;go_wp2_with fail;refine μ HC ?_;rintro e w0 ⟨rfl,hb,hp⟩;simp only [φ,if_false] at hp;replace HS:=MG;clear hb hp HC;cases hf:isF Mn L
  rotate_left
  ·skip
   have HF:=mh;have HC:=κ (fB P (some L) ⟨#[100,114,111,112]⟩ _ HS.o.p true hf);clear hf;go_wp2_with fail;refine μ HC ?_;rintro e v1 ⟨rfl,hb,hp⟩;simp only [if_true] at hp;replace HS:=MG;clear hb hp HC;have HI:=MJ;replace HS:=MI;have HC:=MH;go_wp2_with fail;refine μ HC ?_;rintro e v2 ⟨v,rfl,⟨b,rfl⟩,hb,hp⟩;replace HS:=MG;clear hb hp HC;cases b
   ·skip
    have HC:=κ (mW ⟨#[116,97,98,108,101]⟩ HS.o.rw_);go_wp2_with fail;refine μ HC ?_;rintro e v3 ⟨v,rfl,rfl,hb,hp⟩;replace HS:=MG;clear hb hp HC;have HC:=MS;go_wp2_with fail;refine μ HC ?_;rintro e v4 ⟨v,rfl,⟨s,rfl⟩,hb,hp⟩;replace HS:=MG;clear hb hp HC;obtain ⟨hb0,hp0,hz,cs,hl,hx,hk0, -⟩:=HS.o;have cz:=β hz;have fz:=MF;simp only [stZ,stC] at cz fz;have HR:=κ (vS hP0 (nC 2 s ⟨#[]⟩ ⟨#[]⟩) hb0 hz (KnQ.weak (L:=L) (kd:=2) HI.o rfl am hp0));clear hb0 hp0 hl hx hz HS hk0;go_wp2;change bodyPost _ _ _ _ _ (puts v4 w [.int .u8 2,.string s,.string ⟨#[]⟩,.string ⟨#[]⟩,.slice none 0 0,.slice none 0 0,.slice none 0 0,.slice none 0 0,.slice none 0 0,.slice none 0 0,.slice none 0 0,.slice none 0 0,.int .i64 0] 0);have hR:=lc;generalize puts v4 w [.int .u8 2,.string s,.string ⟨#[]⟩,.string ⟨#[]⟩,.slice none 0 0,.slice none 0 0,.slice none 0 0,.slice none 0 0,.slice none 0 0,.slice none 0 0,.slice none 0 0,.slice none 0 0,.int .i64 0] 0=WE at *;have hcE:=β hR.2;exact bodyPost_ret (v:=.agg #[.int .u8 2,s,(),(),.slice none 0 0,.slice none 0 0,.slice none 0 0,.slice none 0 0,.slice none 0 0,.slice none 0 0,.slice none 0 0,.slice none 0 0,.int .i64 0]) MV rfl hR.1
   ·skip
    have HC:=MS;go_wp2_with fail;refine μ HC ?_;rintro e v4 ⟨v,rfl,⟨s,rfl⟩,hb,hp⟩;replace HS:=MG;clear hb hp HC;obtain ⟨hb0,hp0,hz,cs,hl,hx,hk0, -⟩:=HS.o;have cz:=β hz;have fz:=MF;simp only [stZ,stC] at cz fz;have HR:=κ (vS hP0 (nC 4 s ⟨#[]⟩ ⟨#[]⟩) hb0 hz (KnQ.weak (L:=L) (kd:=4) HI.o rfl am hp0));clear hb0 hp0 hl hx hz HS hk0;go_wp2;change bodyPost _ _ _ _ _ (puts v4 w [.int .u8 4,.string s,.string ⟨#[]⟩,.string ⟨#[]⟩,.slice none 0 0,.slice none 0 0,.slice none 0 0,.slice none 0 0,.slice none 0 0,.slice none 0 0,.slice none 0 0,.slice none 0 0,.int .i64 0] 0);have hR:=lc;generalize puts v4 w [.int .u8 4,.string s,.string ⟨#[]⟩,.string ⟨#[]⟩,.slice none 0 0,.slice none 0 0,.slice none 0 0,.slice none 0 0,.slice none 0 0,.slice none 0 0,.slice none 0 0,.slice none 0 0,.int .i64 0] 0=WE at *;have hcE:=β hR.2;exact bodyPost_ret (v:=.agg #[.int .u8 4,s,(),(),.slice none 0 0,.slice none 0 0,.slice none 0 0,.slice none 0 0,.slice none 0 0,.slice none 0 0,.slice none 0 0,.slice none 0 0,.int .i64 0]) MV rfl hR.1
  have F1:=mh;have HC:=κ (fB P (some L) ⟨#[100,114,111,112]⟩ _ HS.o.p false hf);clear hf;go_wp2_with fail;refine μ HC ?_;rintro e w1 ⟨rfl,hb,hp⟩;simp only [φ,if_false] at hp;replace HS:=MG;clear hb hp HC;cases hf:isF vO L
  rotate_left
  ·skip
   have HF:=mh;have HC:=κ (fB P (some L) ⟨#[105,110,115,101,114,116]⟩ _ HS.o.p true hf);clear hf;go_wp2_with fail;refine μ HC ?_;rintro e v1 ⟨rfl,hb,hp⟩;simp only [if_true] at hp;replace HS:=MG;clear hb hp HC;have HI:=MJ;replace HS:=MI;have HC:=κ (mW ⟨#[105,110,116,111]⟩ HS.o.rw_);go_wp2_with fail;refine μ HC ?_;rintro e v2 ⟨v,rfl,rfl,hb,hp⟩;replace HS:=MG;clear hb hp HC;have HC:=MS;go_wp2_with fail;refine μ HC ?_;rintro e v3 ⟨v,rfl,⟨s,rfl⟩,hb,hp⟩;replace HS:=MG;clear hb hp HC;obtain ⟨f0,f1⟩:=LV;obtain ⟨u0,g0⟩:=MR;obtain ⟨u1,g1⟩:=LZ;obtain ⟨u2,g2⟩:=LU;obtain ⟨u3,g3⟩:=MQ;obtain ⟨u4,g4⟩:=MP;obtain ⟨u5,g5⟩:=MO;obtain ⟨u6,g6⟩:=MN;obtain ⟨u7,g7⟩:=MM;obtain ⟨u8,g8⟩:=LY;obtain ⟨u9,g9⟩:=MA;obtain ⟨u10,g10⟩:=MB;obtain ⟨u11,g11⟩:=ML;obtain ⟨u12,g12⟩:=ME;replace HS:=κ (HS.o.puts (K':=[5]) hP0 [.int .u8 5,.string ⟨#[]⟩,.string s,.string ⟨#[]⟩,.slice none 0 0,.slice none 0 0,.slice none 0 0,.slice none 0 0,.slice none 0 0,.slice none 0 0,.slice none 0 0,.slice none 0 0,.int .i64 0] (nC _ _ _ _) rfl MK)
   obtain ⟨V,hV⟩:∃ V,puts v3 (w+1) [.int .u8 5,.string ⟨#[]⟩,.string s,.string ⟨#[]⟩,.slice none 0 0,.slice none 0 0,.slice none 0 0,.slice none 0 0,.slice none 0 0,.slice none 0 0,.slice none 0 0,.slice none 0 0,.int .i64 0] 0=V:=cw;rw [hV] at HS;simp only [puts,Nat.zero_add,Nat.reduceAdd] at hV;clear f1;go_upto_region 25 with fail
   try rw [hV]
   clear hV f0 g0 g1 g2 g3 g4 g5 g6 g7 g8 g9 g10 g11 g12;have HC:=κ (mW ⟨#[118,97,108,117,101,115]⟩ HS.o.rw_);go_wp2_with fail;refine μ HC ?_;rintro e v4 ⟨v,rfl,rfl,hb,hp⟩;replace HS:=MG;clear hb hp HC;have HI5:=κ (HS.o.lw 36 1);clear HS;go_wp2_with fail
   go_loopg [] 2000 (λgk wr=>∃ (i:Nat) (A:ZT) (c:Nat) (vs:ZU),i+gk≤2000∧LW P gk 5 5 36 1 i A c vs w wr)
   case atStart=>exact ⟨0,none,0,[],ac,HI5.o⟩
   case round =>
    clear HI5;obtain ⟨i,A,c,vs,hi,hl⟩:=dd;have HL:=κ hl;have HC:=κ (mW ⟨#[40]⟩ hl.1.rw_);have hiI:=uh
    clear hl;go_wp2_with fail;refine μ HC ?_;rintro e u1 ⟨v,rfl,rfl,hb,hp⟩;replace HL:=MW;clear hb hp HC;have HD:=κ (show LW P gk 5 5 36 1 i A c vs w u1.drew from HL.o.next am (But.of (θ).drew) (HL.o.1.rw_.below (θ).drew));have HC:=κ (aKM 8 ac ac HD.o.1.rw_);go_upto_region 27 with fail
    go_cut [] (λwx=>∃ (A5:ZT) (c5:Nat) (vs5:ZU),LW P gk 5 5 36 1 (i+1) A5 c5 vs5 w wx)
    case first =>
     have d5:u1.cell? ⟨w+1,5,none⟩=some (.slice A i c):=HL.o.2.1;have d6:u1.drew.cell? ⟨w+1,5,none⟩=some (.slice A i c):=d5;go_wp2_with fail
     go_region_law (first
      | (go_simp;go_at_call 83;refine μ HC ?_;rintro e u2 ⟨v,rfl,⟨A1,n1,c1,rfl⟩,hb2,hp2⟩;have hI2:=HD.o.next am hb2 hp2;have hw2:=hI2.1.but.size;have ho2:=hI2.2.2;have d0:u2.cell? ⟨w+1,5,none⟩=some (.slice A i c):=hI2.2.1;have d1:∀ o,(u2.alloc o).cell? ⟨w+1,5,none⟩=some (.slice A i c):=hI2.row.2)
      | (refine bL _ rfl (.tmp 66) (.tmp 69) _ rfl w.heap.size 36 iR _ 1 24 underlying34 hiR hr0 hr1 hr2 rfl (by omega) A i c vs rfl ?_ _ 1 1 [.slice A1 n1 c1] rfl rfl ?_ ?_ ?_ ?_ ?_ ?_
         ·exact ho2.alloc _
         ·exact aS [.slice A1 n1 c1] (heap_alloc_new _ _)
         ·simp [Value.oneCell']
         ·simp only [maxLen];omega
         ·omega
         ·rw [World.size_alloc];omega
         intro A5 c5 w5 ho5 hb5 hg5 hk5;obtain ⟨e5,f5⟩:=hI2.keep am hk5)
      | fail)
     all_goals
      have hZ:=Xq hP0 hI2 am am ho5 hb5 hk5;have HZ:=κ hZ;clear hZ hb2 hp2 hI2 ho2 d0 d1 ho5 hb5 hg5 hk5 e5 f5 d5 d6 HL HD HC;go_wp2
      go_meet
      exact ⟨_,_,_,HZ.o⟩
    case rest =>
     clear HL HC HD;obtain ⟨A5,c5,vs5,hI⟩:=sn;have HL:=κ hI;have HC:=κ (mW ⟨#[41]⟩ hI.1.rw_);clear hI;go_wp2_with fail;refine μ HC ?_;rintro e u3 ⟨v,rfl,rfl,hb,hp⟩;replace HL:=MW;clear hb hp HC;have d5:u3.cell? ⟨w+1,5,none⟩=some (.slice A5 (i+1) c5):=HL.o.2.1;have HM:=κ (Xl (i+1) 64 HL.o.1.rw_);go_wp2_with fail;refine μ HM ?_;rintro e u4 ⟨hb,(⟨rfl,hp⟩|⟨rfl,m,hm,hp⟩)⟩
     ·have HZ:=MX;clear hb hp HM HL d5;go_wp2
      go_meet
      exact FinQ.weak HI.o am HZ.o.1
     ·have HZ:=MW;clear hb hp HM HL d5;go_wp2
      go_roundg m
      case measure=>omega
      case rel=>exact ⟨i+1,A5,c5,vs5,ac,HZ.o⟩
  have F2:=mh;have HC:=κ (fB P (some L) ⟨#[105,110,115,101,114,116]⟩ _ HS.o.p false hf);clear hf;go_wp2_with fail;refine μ HC ?_;rintro e w2 ⟨rfl,hb,hp⟩;simp only [φ,if_false] at hp;replace HS:=MG;clear hb hp HC;cases hf:isF vN L
  rotate_left
  ·skip
   have HF:=mh;have HC:=κ (fB P (some L) ⟨#[117,112,100,97,116,101]⟩ _ HS.o.p true hf);clear hf;go_wp2_with fail;refine μ HC ?_;rintro e v1 ⟨rfl,hb,hp⟩;simp only [if_true] at hp;replace HS:=MG;clear hb hp HC;have HI:=MJ;replace HS:=MI;have HC:=MS;go_wp2_with fail;refine μ HC ?_;rintro e v3 ⟨v,rfl,⟨s,rfl⟩,hb,hp⟩;replace HS:=MG;clear hb hp HC;obtain ⟨f0,f1⟩:=LV;obtain ⟨u0,g0⟩:=MR;obtain ⟨u1,g1⟩:=LZ;obtain ⟨u2,g2⟩:=LU;obtain ⟨u3,g3⟩:=MQ;obtain ⟨u4,g4⟩:=MP;obtain ⟨u5,g5⟩:=MO;obtain ⟨u6,g6⟩:=MN;obtain ⟨u7,g7⟩:=MM;obtain ⟨u8,g8⟩:=LY;obtain ⟨u9,g9⟩:=MA;obtain ⟨u10,g10⟩:=MB;obtain ⟨u11,g11⟩:=ML;obtain ⟨u12,g12⟩:=ME;replace HS:=κ (HS.o.puts (K':=[6]) hP0 [.int .u8 6,.string ⟨#[]⟩,.string s,.string ⟨#[]⟩,.slice none 0 0,.slice none 0 0,.slice none 0 0,.slice none 0 0,.slice none 0 0,.slice none 0 0,.slice none 0 0,.slice none 0 0,.int .i64 0] (nC _ _ _ _) rfl MK);obtain ⟨V,hV⟩:∃ V,puts v3 (w+1) [.int .u8 6,.string ⟨#[]⟩,.string s,.string ⟨#[]⟩,.slice none 0 0,.slice none 0 0,.slice none 0 0,.slice none 0 0,.slice none 0 0,.slice none 0 0,.slice none 0 0,.slice none 0 0,.int .i64 0] 0=V:=cw;rw [hV] at HS;simp only [puts,Nat.zero_add,Nat.reduceAdd] at hV
   clear f1;go_upto_region 32 with fail
   try rw [hV]
   clear hV f0 g0 g1 g2 g3 g4 g5 g6 g7 g8 g9 g10 g11 g12;have HC:=κ (mW ⟨#[115,101,116]⟩ HS.o.rw_);go_wp2_with fail;refine μ HC ?_;rintro e v4 ⟨v,rfl,rfl,hb,hp⟩;replace HS:=MG;clear hb hp HC;have HI6:=κ (HS.o.lw 72 10);clear HS;go_upto_block 3 with fail
   go_cut [] (λwx=>XT P 2000 6 [] w wx)
   case first =>
    go_wp2_with fail
    go_loopg [4] 2000 (λgk _ wr=>∃ (i:Nat) (A:ZT) (c:Nat) (vs:ZU),i+gk≤2000∧LW P gk 6 6 72 10 i A c vs w wr)
    case atStart=>exact ⟨0,none,0,[],ac,HI6.o⟩
    case round =>
     clear HI6;obtain ⟨i,A,c,vs,hi,hl⟩:=dd;have HL:=κ hl;have HC:=κ (pP hl.1.rw_);have hiI:=uh
     clear hl;go_wp2_with fail;refine μ HC ?_;rintro e u1 ⟨v,rfl,⟨cn,rfl⟩,hb,hp⟩;replace HL:=MW;have hbA:Below u1 u1 (u1.alloc (.cells #[.int .u8 0,.int .u8 0,.int .i64 0,(),false,(),(),.slice none 0 0,cn,false] 72)):=ρ;have HN:=κ (ι HL.o.1.but.size (fW HL.o.2.2 (ν _)));have HX:=κ (heap_alloc_new u1 (.cells #[.int .u8 0,.int .u8 0,.int .i64 0,(),false,(),(),.slice none 0 0,cn,false] 72));replace HL:=κ (HL.o.next am (But.of hbA) (hp.below hbA));have HC:=κ (mW ⟨#[61]⟩ HL.o.1.rw_);clear hb hp hbA;go_wp2_with fail;refine μ HC ?_;rintro e u2 ⟨v,rfl,rfl,hb,hp⟩;replace HX:=κ (hb.box HL.o.1.rw_ HX.o am);replace HL:=MW;clear hb hp HC;have HC:=κ (aKO HL.o.1.rw_);have hzu:=aG HX.o;go_wp2_with fail;refine μ HC ?_;rintro e u3 ⟨v,rfl,⟨⟨rk,rvk,rvi,rvs,rvb,rt,rs,rA,rn,rc⟩,rfl⟩,hb,hp⟩;simp only [RC.val];replace HX:=κ (hb.box HL.o.1.rw_ HX.o am);replace HL:=MW;have hbs:=hb.size;have cx:=β HX.o;have fx:=λj=>frozen_of_row _ _ j _ _ HX.o;have hpre:=Gm (g:=u1) (t:=72) [.int .u8 rk,.int .u8 rvk,.int .i64 rvi,.string rvs,.bool rvb,.string rt,.string rs,.slice rA rn rc] [.int .u8 0,.int .u8 0,.int .i64 0,.string ⟨#[]⟩,.bool false,.string ⟨#[]⟩,.string ⟨#[]⟩,.slice none 0 0] [] [.string cn,.bool false] u3 HX.o rfl
     have hIP:=HL.o.part hP0 HN.o.1 HX.o HN.o.2 [.int .u8 rk,.int .u8 rvk,.int .i64 rvi,.string rvs,.bool rvb,.string rt,.string rs,.slice rA rn rc];rw [List.length_nil] at hpre;obtain ⟨V2,hV⟩:∃ V2,puts u3 u1 [.int .u8 rk,.int .u8 rvk,.int .i64 rvi,.string rvs,.bool rvb,.string rt,.string rs,.slice rA rn rc] 0=V2:=cw;rw [hV] at hpre hIP;simp only [puts,Nat.zero_add,Nat.reduceAdd] at hV;go_upto_region 36 with fail
     try rw [hV]
     clear hV hb hp cx fx HC;replace HL:=κ hIP;have cg:=β hpre;have d6:V2.cell? ⟨w+1,6,none⟩=some (.slice A i c):=HL.o.2.1;have ho2:=HL.o.2.2;have hw2:=HL.o.1.but.size;simp only [List.nil_append,List.cons_append] at cg;clear hpre hIP;go_upto_region 37 with (at_builtin;refine bJ _ rfl (.tmp 97) (.tmp 99) _ rfl w 72 iE _ 10 128 underlying35 hiE hz0 hz1 hz2 rfl ac A i c vs rfl (ho2.alloc _) _ 1 1 [.int .u8 rk,.int .u8 rvk,.int .i64 rvi,.string rvs,.bool rvb,.string rt,.string rs,.slice rA rn rc,.string cn,.bool false] rfl rfl (aS [.int .u8 rk,.int .u8 rvk,.int .i64 rvi,.string rvs,.bool rvb,.string rt,.string rs,.slice rA rn rc,.string cn,.bool false] (heap_alloc_new _ _)) GF kt ac FO ?_;intro A5 c5 w5 ho5 hb5 _ hk5;obtain ⟨e5,f5⟩:=HL.o.keep am hk5);have hZ:=Xq hP0 HL.o am am ho5 hb5 hk5;obtain ⟨W6,hW6⟩:∃ W6,w5.setCell ⟨w+1,6,none⟩ (.slice A5 (i+1) c5)=W6:=cw;rw [hW6] at hZ |-;clear hW6 ho5 hb5 hk5 e5 f5 d6 ho2 cg HX HN hw2 hbs hzu HL;have HL:=κ hZ;have d6:W6.cell? ⟨w+1,6,none⟩=some (.slice A5 (i+1) c5):=hZ.2.1;have HM:=κ (Xl (i+1) 8 hZ.1.rw_);clear hZ;go_wp2_with fail;refine μ HM ?_;rintro e u4 ⟨hb,(⟨rfl,hp⟩|⟨rfl,m,hm,hp⟩)⟩
     ·have HZ:=MX;clear hb hp HM HL d6;go_wp2
      go_meet
      exact HZ.o.1
     ·have HZ:=MW;clear hb hp HM HL d6;go_wp2
      go_roundg m
      case measure=>omega
      case rel=>exact ⟨i+1,A5,c5,_,ac,HZ.o⟩
   case rest =>
    clear HI6;have HS:=κ hcut;clear hcut;have HC:=κ (Tg HS.o.rw_);go_wp2_with fail;refine μ HC ?_;rintro e v5 ⟨v,rfl,⟨A,k,c,rfl⟩,hb,hp⟩;replace HS:=MG;clear hb hp HC;obtain ⟨f0,f1⟩:=LV;obtain ⟨u,f2⟩:=MA;clear f1;replace HS:=MY;go_wp2
    go_meet
    exact MT
  have F3:=mh;have HC:=κ (fB P (some L) ⟨#[117,112,100,97,116,101]⟩ _ HS.o.p false hf);clear hf;go_wp2_with fail;refine μ HC ?_;rintro e w3 ⟨rfl,hb,hp⟩;simp only [φ,if_false] at hp;replace HS:=MG;clear hb hp HC;cases hf:isF qH L
  rotate_left
  ·skip
   have HF:=mh;have HC:=κ (fB P (some L) ⟨#[100,101,108,101,116,101]⟩ _ HS.o.p true hf);clear hf;go_wp2_with fail;refine μ HC ?_;rintro e v1 ⟨rfl,hb,hp⟩;simp only [if_true] at hp;replace HS:=MG;clear hb hp HC;have HI:=MJ;replace HS:=MI;have HC:=κ (mW ⟨#[102,114,111,109]⟩ HS.o.rw_);go_wp2_with fail;refine μ HC ?_;rintro e v2 ⟨v,rfl,rfl,hb,hp⟩;replace HS:=MG;clear hb hp HC;have HC:=MS;go_wp2_with fail;refine μ HC ?_;rintro e v3 ⟨v,rfl,⟨s,rfl⟩,hb,hp⟩;replace HS:=MG;clear hb hp HC;obtain ⟨f0,f1⟩:=LV;obtain ⟨u0,g0⟩:=MR;obtain ⟨u1,g1⟩:=LZ;obtain ⟨u2,g2⟩:=LU;obtain ⟨u3,g3⟩:=MQ;obtain ⟨u4,g4⟩:=MP;obtain ⟨u5,g5⟩:=MO;obtain ⟨u6,g6⟩:=MN;obtain ⟨u7,g7⟩:=MM;obtain ⟨u8,g8⟩:=LY;obtain ⟨u9,g9⟩:=MA;obtain ⟨u10,g10⟩:=MB;obtain ⟨u11,g11⟩:=ML;obtain ⟨u12,g12⟩:=ME;replace HS:=κ (HS.o.puts (K':=[]) hP0 [.int .u8 7,.string ⟨#[]⟩,.string s,.string ⟨#[]⟩,.slice none 0 0,.slice none 0 0,.slice none 0 0,.slice none 0 0,.slice none 0 0,.slice none 0 0,.slice none 0 0,.slice none 0 0,.int .i64 0] (nC _ _ _ _) rfl MK)
   obtain ⟨V,hV⟩:∃ V,puts v3 (w+1) [.int .u8 7,.string ⟨#[]⟩,.string s,.string ⟨#[]⟩,.slice none 0 0,.slice none 0 0,.slice none 0 0,.slice none 0 0,.slice none 0 0,.slice none 0 0,.slice none 0 0,.slice none 0 0,.int .i64 0] 0=V:=cw;rw [hV] at HS;simp only [puts,Nat.zero_add,Nat.reduceAdd] at hV;clear f1;go_upto_region 42 with fail
   try rw [hV]
   clear hV f0 g0 g1 g2 g3 g4 g5 g6 g7 g8 g9 g10 g11 g12;have HC:=κ (Tg HS.o.rw_);go_wp2_with fail;refine μ HC ?_;rintro e v4 ⟨v,rfl,⟨A,k,c,rfl⟩,hb,hp⟩;replace HS:=MG;clear hb hp HC;obtain ⟨f0,f1⟩:=LV;obtain ⟨u,f2⟩:=MA;clear f1;replace HS:=MY;go_wp2
   go_meet
   exact MT
  have F4:=mh;have HC:=κ (fB P (some L) ⟨#[100,101,108,101,116,101]⟩ _ HS.o.p false hf);clear hf;go_wp2_with fail;refine μ HC ?_;rintro e w4 ⟨rfl,hb,hp⟩;simp only [φ,if_false] at hp;replace HS:=MG;clear hb hp HC;cases hf:isF cO L
  rotate_left
  ·skip
   have HF:=mh;have HC:=κ (fB P (some L) ⟨#[115,101,108,101,99,116]⟩ _ HS.o.p true hf);clear hf;go_wp2_with fail;refine μ HC ?_;rintro e v1 ⟨rfl,hb,hp⟩;simp only [if_true] at hp;replace HS:=MG;clear hb hp HC;have HV:=κ (aG HS.o.x);have HC:=κ (Gk P L.tail _ HS.o.p);go_wp2_with fail;refine μ HC ?_;rintro e v2 ⟨hb,hp,ds,hc,rfl,hq⟩;replace HS:=κ (HS.o.next hb hp).xt;have HR:=κ (aCI hP0 HF.o HS.o (by have:=HV.o;omega) hc hp hq);obtain ⟨k,s1,s2,s3,A4,n4,c4,A5,n5,c5,A6,n6,c6,A7,n7,c7,A8,n8,c8,A9,n9,c9,A10,n10,c10,A11,n11,c11,li,rfl⟩:=nE hc;obtain ⟨hb0,hp0,hz,cs,hl,hx, -⟩:=HS.o;have cx:=β hx;have fx:=λj=>frozen_of_row _ _ j _ _ hx;obtain ⟨k',s1',s2',s3',A4',n4',c4',A5',n5',c5',A6',n6',c6',A7',n7',c7',A8',n8',c8',A9',n9',c9',A10',n10',c10',A11',n11',c11',li',rfl⟩:=nE hl;clear hb hp hb0 hp0 hl hx hz HS hc hq HC;go_wp2
   go_meet
   exact lc
  have F5:=mh;have HC:=κ (fB P (some L) ⟨#[115,101,108,101,99,116]⟩ _ HS.o.p false hf);clear hf;go_wp2_with fail;refine μ HC ?_;rintro e w5 ⟨rfl,hb,hp⟩;simp only [φ,if_false] at hp;replace HS:=MG;clear hb hp HC;cases hf:isF Jm L
  rotate_left
  ·skip
   have HF:=mh;have HC:=κ (fB P (some L) ⟨#[98,101,103,105,110]⟩ _ HS.o.p true hf);clear hf;go_wp2_with fail;refine μ HC ?_;rintro e v1 ⟨rfl,hb,hp⟩;simp only [if_true] at hp;replace HS:=MG;clear hb hp HC;have HI:=MJ;replace HS:=MI;obtain ⟨f0,f1⟩:=LV;obtain ⟨u,f2⟩:=MR;clear f1;replace HS:=κ (HS.o.kind hP0 9);go_wp2
   go_meet
   exact MT
  have F6:=mh;have HC:=κ (fB P (some L) ⟨#[98,101,103,105,110]⟩ _ HS.o.p false hf);clear hf;go_wp2_with fail;refine μ HC ?_;rintro e w6 ⟨rfl,hb,hp⟩;simp only [φ,if_false] at hp;replace HS:=MG;clear hb hp HC;cases hf:isF Co L
  rotate_left
  ·skip
   have HF:=mh;have HC:=κ (fB P (some L) ⟨#[99,111,109,109,105,116]⟩ _ HS.o.p true hf);clear hf;go_wp2_with fail;refine μ HC ?_;rintro e v1 ⟨rfl,hb,hp⟩;simp only [if_true] at hp;replace HS:=MG;clear hb hp HC;have HI:=MJ;replace HS:=MI;obtain ⟨f0,f1⟩:=LV;obtain ⟨u,f2⟩:=MR;clear f1;replace HS:=κ (HS.o.kind hP0 10);go_wp2
   go_meet
   exact MT
  have F7:=mh;have HC:=κ (fB P (some L) ⟨#[99,111,109,109,105,116]⟩ _ HS.o.p false hf);clear hf;go_wp2_with fail;refine μ HC ?_;rintro e w7 ⟨rfl,hb,hp⟩;simp only [φ,if_false] at hp;replace HS:=MG;clear hb hp HC;cases hf:isF tR L
  rotate_left
  ·skip
   have HF:=mh;have HC:=κ (fB P (some L) ⟨#[114,111,108,108,98,97,99,107]⟩ _ HS.o.p true hf);clear hf;go_wp2_with fail;refine μ HC ?_;rintro e v1 ⟨rfl,hb,hp⟩;simp only [if_true] at hp;replace HS:=MG;clear hb hp HC;have HI:=MJ;replace HS:=MI;obtain ⟨f0,f1⟩:=LV;obtain ⟨u,f2⟩:=MR;clear f1;replace HS:=κ (HS.o.kind hP0 11);go_wp2
   go_meet
   exact MT
  have F8:=mh;have HC:=κ (fB P (some L) ⟨#[114,111,108,108,98,97,99,107]⟩ _ HS.o.p false hf);clear hf;go_wp2_with fail;refine μ HC ?_;rintro e w8 ⟨rfl,hb,hp⟩;simp only [φ,if_false] at hp;replace HS:=MG;clear hb hp HC;replace HS:=MI;have HI:=F5;have HC:=κ (aGW 4 am HS.o.rw_);go_wp2_with fail;refine μ HC ?_;rintro e v1 ⟨v,rfl,rfl,hb,hp⟩;replace HS:=MG;clear hb hp HC;go_wp2
  go_meet
  exact MT
 case rest =>
  obtain ⟨hb0,hz,cs,hl,hx,hk⟩:=sn;have cz:=β hz;have fz:=MF;simp only [stZ,stC] at cz fz;obtain ⟨k,s1,s2,s3,A4,n4,c4,A5,n5,c5,A6,n6,c6,A7,n7,c7,A8,n8,c8,A9,n9,c9,A10,n10,c10,A11,n11,c11,li,rfl⟩:=nE hl;have cx:=β hx;have HR:=κ (vS hP0 hl hb0 hz hk);clear hb0 hk hl hx hz HS;go_wp2;change bodyPost _ _ _ _ _ (puts wc w [.int .u8 k,.string s1,.string s2,.string s3,.slice A4 n4 c4,.slice A5 n5 c5,.slice A6 n6 c6,.slice A7 n7 c7,.slice A8 n8 c8,.slice A9 n9 c9,.slice A10 n10 c10,.slice A11 n11 c11,.int .i64 li] 0);have hR:=lc;generalize puts wc w [.int .u8 k,.string s1,.string s2,.string s3,.slice A4 n4 c4,.slice A5 n5 c5,.slice A6 n6 c6,.slice A7 n7 c7,.slice A8 n8 c8,.slice A9 n9 c9,.slice A10 n10 c10,.slice A11 n11 c11,.int .i64 li] 0=WE at *;have hcE:=β hR.2;exact MU
