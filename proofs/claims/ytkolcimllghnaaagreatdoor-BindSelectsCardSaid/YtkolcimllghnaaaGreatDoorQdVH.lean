/-
 Contracts. Conditions: those of each.
-/
import Derived.Test.YtkolcimllghnaaaGreatDoorQdVG
set_option maxRecDepth 100000
set_option maxHeartbeats 20000000
namespace Go.Proofs.YtkolcimllghnaaaGreatDoor
open Lp Go.Proofs.Tryz
open Go.RowKit
variable{P bp bx c c5 d gi k n size:Nat}{e t tx:TypeId}{w w' w0 w5:World}{A A5:ZT}{news vs:ZU}{cs0 ds:ZV}{l r:ZW}
def pY (n:Nat):Code->Option Code
 | .region k ops d=>if k==n then some (.region k ops d) else none
 | .seq a b=>match pY n a with
   | some c=>some c
   | none=>pY n b
 | .cond _ a b=>match pY n a with
   | some c=>some c
   | none=>pY n b
 | .block _ c=>pY n c
 | .loop c=>pY n c
 | .scope c=>pY n c
 | _=>none
noncomputable def zU (f:Func) (n:Nat):Code:=((f.body.bind (pY n)).getD .skip)
def QN (K:Act->World->Prop):Exit->Act->World->Prop
 | .normal,a,w=>K a w
 | _,_,_=>False
theorem Xa {c:Code} {Q:Exit->Act->World->Prop} {a:Act} (h:Code.wp prog c (QN λa w=>Q .normal a w) a w):Code.wp prog c Q a w :=
 Code.wp_mono (λe _ _ h=>by cases e<;>first|exact h|exact h.elim) h
def AtK (cs0 cs:ZV) (k:Nat) (v:Value):Prop:=cs[k]? = some v∧cs.size=cs0.size∧∀ j,j≠k->cs[j]? = cs0[j]?
structure Ok (C:ZU->World->Prop) (p:TypeId->Bool) (tx t e:TypeId):Prop where
 ax:tx≠100
 at_:t≠100
 ae:e≠100
 ap:p 100=false
 ep:e≠98
 ex:e≠tx
 et:e≠t
 pt:p t=false
 pe:p e=false
 n:∀ a,Gz a=true->p a=true
 k:∀ vs w w',StaysT p w w'->C vs w->C vs w'
def KE (gi k:Nat) (cs0:ZV) (t e:TypeId) (size:Nat) (C:ZU->World->Prop) (B n:Nat) (A:ZT) (c:Nat) (vs:ZU) (w:World):Prop :=
 (∃ cs:ZV,w.heap[gi]? = some (.cells cs t (0,0))∧AtK cs0 cs k (.slice A n c))∧w.ownsRow B e size (.slice A n c) n vs∧C vs w
structure KI (P bp bx gi k:Nat) (cs0:ZV) (tx t e:TypeId) (size:Nat) (w0:World) (C:ZU->World->Prop) (n:Nat) (w:World):Prop where
 but:But P w0 w
 hbp:w.heap[bp]? = some (.cells #[P] 98 (0,0))
 hbx:w.heap[bx]? = some (.cells #[gi] tx (0,0))
 row:∃ A c vs,KE gi k cs0 t e size C w0 n A c vs w
theorem KE.next {B:Nat} {C:ZU->World->Prop} {p:TypeId->Bool} (h:KE gi k cs0 t e size C B n A c vs w) (hp:PS w P l d) (hb:But P w w') (o:Ok C p tx t e):KE gi k cs0 t e size C B n A c vs w':=by
 obtain ⟨⟨cs,h1,h2⟩,h3,h4⟩:=h;exact ⟨⟨cs,aM h1 hb hp o.at_,h2⟩,mU h3 hb hp o.ae,o.k _ _ _ (StaysT.but hb hp o.ap) h4⟩
theorem KI.next {P bp bx gi k d size n:Nat} {cs0:ZV} {tx t e:TypeId} {C:ZU->World->Prop} {p:TypeId->Bool} {w0 w w':World} {l:ZW} (h:KI P bp bx gi k cs0 tx t e size w0 C n w) (hp:PS w P l d) (hb:But P w w') (o:Ok C p tx t e):KI P bp bx gi k cs0 tx t e size w0 C n w':=by
 obtain ⟨A,c,vs,hk⟩:=h.row;exact ⟨h.but.trans hb,aM h.hbp hb hp am,aM h.hbx hb hp o.ax,A,c,vs,hk.next hp hb o⟩
structure It (P bp bx gi k:Nat) (cs0:ZV) (tx t e:TypeId) (size:Nat) (w0:World) (C:ZU->World->Prop) (n:Nat) (A:ZT) (c:Nat) (vs:ZU) (gs:Nat) (ds:ZV) (o:Option (Lp.X×Value)) (r:ZW) (w:World):Prop where
 ki:KI P bp bx gi k cs0 tx t e size w0 C n w
 ke:KE gi k cs0 t e size C w0 n A c vs w
 ps:PS w P r 0
 sane:Lsane r
 box:w.heap[gs]? = some (.cells ds e (0,0))
 px:∀ q,o=some q->PX w0 w q.1 q.2
 gz:w0.heap.size≤gs
 gn:some gs≠Value.ownBlock (.slice A n c)
 gp:P<gs
theorem It.next {P bp bx gi k:Nat} {cs0:ZV} {tx t e:TypeId} {size:Nat} {w0:World} {C:ZU->World->Prop} {n:Nat} {A:ZT} {c:Nat} {vs:ZU} {gs:Nat} {ds:ZV} {o:Option (Lp.X×Value)} {r r':ZW} {w w':World} {p:TypeId->Bool}
 (h:It P bp bx gi k cs0 tx t e size w0 C n A c vs gs ds o r w) (hb:But P w w') (hp:PS w' P r' 0) (hr:r' <:+ r) (ok:Ok C p tx t e):It P bp bx gi k cs0 tx t e size w0 C n A c vs gs ds o r' w' :=
 ⟨h.ki.next h.ps hb ok,h.ke.next h.ps hb ok,hp,h.sane.sfx hr,aM h.box hb h.ps ok.ae,λq hq=>PX.keepN (StaysT.but hb h.ps am) (h.px q hq),h.gz,h.gn,h.gp⟩
theorem It.new {C:ZU->World->Prop} {ds:ZV} {o:Option (Lp.X×Value)} {w1:World} {p:TypeId->Bool}
 (hi:KI P bp bx gi k cs0 tx t e size w0 C n w) (hke:KE gi k cs0 t e size C w0 n A c vs w) (hp:PS w P l 0) (hs:Lsane l) (hb:But P w w1) (hp1:PS w1 P r 0) (hr:r <:+ l) (ok:Ok C p tx t e) (hx:∀ q,o=some q->PX w0 w1 q.1 q.2) :
 It P bp bx gi k cs0 tx t e size w0 C n A c vs w1 ds o r (w1.alloc (.cells ds e)):=by
 have hbA:Below w1 w1 (w1.alloc (.cells ds e)):=ρ;exact ⟨(hi.next hp hb ok).next hp1 (But.of hbA) ok,(hke.next hp hb ok).next hp1 (But.of hbA) ok,hp1.below hbA,hs.sfx hr,heap_alloc_new w1 _,λq hq=>PX.keepN (StaysT.below hbA) (hx q hq),Nat.le_trans hi.but.size hb.size,λe=>by have:=(hke.2.1.lt _ e.symm).2;have:=hb.size;omega,hp1.lt⟩
def aBL (w:World) (B gi k:Nat) (cs0:ZV) (t e:TypeId) (size n:Nat) (A:ZT) (c:Nat) (vs news:ZU) (A5:ZT) (c5:Nat) (w5:World):Prop :=
 ∃ ob,w5.ownsRow B e size (.slice A5 (n+1) c5) (n+1) (vs++news)∧Below B (w.alloc ob).drew w5∧fL (w.alloc ob).drew w5 (Value.ownBlock (.slice A n c)) (Value.ownBlock (.slice A5 (n+1) c5))∧∃ cs:ZV,w5.heap[gi]? = some (.cells cs t (0,0))∧AtK cs0 cs k (.slice A n c)
theorem Yf {C C':ZU->World->Prop} {p:TypeId->Bool} (hi:KI P bp bx gi k cs0 tx t e size w0 C n w) (hp:PS w P r d) (hP0:P<w0) (hgi:w0.heap.size≤gi) (hne:gi≠bp) (hnx:gi≠bx)
 (hke:KE gi k cs0 t e size C w0 n A c vs w) (h:aBL w w0 gi k cs0 t e size n A c vs news A5 c5 w5) (o:Ok C p tx t e) (hn:∀ w',StaysT p w w'->C vs w'->C' (vs++news) w') :
 PS (w5.setCell ⟨gi,k,none⟩ (.slice A5 (n+1) c5)) P r d∧KI P bp bx gi k cs0 tx t e size w0 C' (n+1) (w5.setCell ⟨gi,k,none⟩ (.slice A5 (n+1) c5)):=by
 obtain ⟨ob,ho5,hb5,hk5,cs,hx5,hc5⟩:=h;have hb25:=qi;have k2d:(w.alloc ob).drew.ownsRow w0 e size (.slice A n c) n vs:=(hke.2.1.alloc ob).drew;have hst:StaysT p w (w5.setCell ⟨gi,k,none⟩ (.slice A5 (n+1) c5)):=(StaysT.below ((θ).alloc (ν _) ob).drew).trans ((StaysT.keeps k2d o.pe hk5).trans (StaysT.set hx5 o.pt));have old:∀ (g:Nat) (cs:ZV) (ty:TypeId),w.heap[g]? = some (.cells cs ty (0,0))->e≠ty->gi≠g->(w5.setCell ⟨gi,k,none⟩ (.slice A5 (n+1) c5)).heap[g]? = some (.cells cs ty (0,0)):=by
  intro g cs ty hg h2 h3;have hg5:=qj;exact (Below.heap_setCell w5 ⟨gi,k,none⟩ _ g (λe=>h3 e.symm)).trans hg5
 have h6:=heap_setCell_same w5 gi k _ _ (.slice A5 (n+1) c5) hx5;refine ⟨(hp.low hP0 hb25).setNew (Nat.lt_of_lt_of_le hP0 hgi) _,(hi.but.low hb25).setNew hgi _,old _ _ _ hi.hbp o.ep hne,old _ _ _ hi.hbx o.ex hnx,A5,c5,vs++news,⟨_,h6, ?_⟩,lJ ho5 hx5 o.et,hn _ hst (o.k _ _ _ hst hke.2.2)⟩;have hk:k<cs.size:=by
  rcases Nat.lt_or_ge k cs.size with h|h
  ·exact h
  ·have h5:=hc5.1;rw [Array.getElem?_eq_none h] at h5;cases h5
 refine ⟨by simp [hk],by simpa using hc5.2.1,λj hj => ?_⟩;rw [<-hc5.2.2 j hj,Array.getElem?_setIfInBounds_ne (Ne.symm hj)]
theorem Dw:(prog.info? 116).map (λi=>(i.zero,i.size,i.bytes))=some (some (.agg #[(),.int .u8 0]),2,24):=aj
theorem El (Q:Exit->Act->World->Prop) (u0 u3 u4 u5 u6 u7 u8 u9 u10 u11 u12 u13 u14 u15 u16 u17 u18 u19 u20 u21 u22 u23 u24 u25 u26 u27:Value) (B bx gi gs n c:Nat) (cs0:ZV) (A:ZT) (vs:ZU) (s1:ByteArray) (k1:Int) (w:World)
 (hbx:w.heap[bx]? = some (.cells #[gi] 231 (0,0))) (hgs:w.heap[gs]? = some (.cells #[s1,.int .u8 k1] 116 (0,0))) {C:ZU->World->Prop} (hke:KE gi 1 cs0 232 116 2 C B n A c vs w) (hB:B≤w) (hn:n≤100)
 (h:∀ (v18 v19 v20 v21 v22 v23 v24 v25 v26 v27:Value) (A5:ZT) (c5:Nat) (w5:World),aBL w B gi 1 cs0 232 116 2 n A c vs [.string s1,.int .u8 k1] A5 c5 w5->Q .normal ⟨((u0)::(.pointer (some ⟨bx,0,none⟩))::(.pointer (some ⟨gs,0,none⟩))::(u3)::(u4)::(u5)::(u6)::(u7)::(u8)::(u9)::(u10)::(u11)::(u12)::(u13)::(u14)::(u15)::(u16)::(u17)::(v18)::(v19)::(v20)::(v21)::(v22)::(v23)::(v24)::(v25)::(v26)::(v27)::[]).toArray,[]⟩ (w5.setCell ⟨gi,1,none⟩ (.slice A5 (n+1) c5))) :
 Code.wp prog (zU Tryz.f121 7) Q ⟨((u0)::(.pointer (some ⟨bx,0,none⟩))::(.pointer (some ⟨gs,0,none⟩))::(u3)::(u4)::(u5)::(u6)::(u7)::(u8)::(u9)::(u10)::(u11)::(u12)::(u13)::(u14)::(u15)::(u16)::(u17)::(u18)::(u19)::(u20)::(u21)::(u22)::(u23)::(u24)::(u25)::(u26)::(u27)::[]).toArray,[]⟩ w:=by
 obtain ⟨iE,hiE,hz0,hz1,hz2⟩:=info_parts Dw;obtain ⟨⟨cs,hgi,hcs⟩,hown, -⟩:=hke;have cx:=qs;have cx2:=qo;have ci:w.cell? ⟨gi,1,none⟩=some (.slice A n c):=(β hgi 1).trans hcs.1;have ci2:∀ o,(w.alloc o).cell? ⟨gi,1,none⟩=some (.slice A n c):=λo=>(β (aB hgi o) 1).trans hcs.1;have cs0:w.cell? ⟨gs,0,none⟩=some (.string s1):=β hgs 0;have cs1:w.cell? ⟨gs,1,none⟩=some (.int .u8 k1):=β hgs 1;have hng:=qn;have hnb:=qm;have HH:=ql;have HQ:=da;have hl1:=aG hbx;have hl2:=aG hgs;have hl3:=aG hgi;clear h hbx hgi hcs hown hng hnb hgs;refine Xa ?_
 conv=>arg 2;whnf
 go_region_law (first
  | (refine bL _ rfl (.tmp 22) (.tmp 24) _ rfl B 116 iE _ 2 24 underlying33 hiE hz0 hz1 hz2 rfl (by omega) A n c vs rfl ?_ _ 1 1 [.string s1,.int .u8 k1] rfl rfl ?_ ?_ ?_ ?_ ?_ ?_
     ·exact qt
     ·exact aS [.string s1,.int .u8 k1] (bX (heap_alloc_new _ _))
     ·simp [Value.oneCell']
     ·simp only [maxLen];omega
     ·omega
     ·show B≤(w.alloc _).heap.size;rw [World.size_alloc];omega
     intro A5 c5 w5 ho5 hb5 hg5 hk5;have hx5:=qv;have hx6:=qu;have d5:w5.cell? ⟨gi,1,none⟩=some (.slice A n c):=(β hx5 1).trans HH.o.2.2.1.1;have f5:=pq;have hd5:w5.cell? ⟨bx,0,none⟩=some (.pointer (some ⟨gi,0,none⟩)):=β hx6 0)
  | fail)
 all_goals exact HQ.o _ _ _ _ _ _ _ _ _ _ A5 c5 w5 ⟨_,ho5,hb5,hk5,_,hx5,HH.o.2.2.1⟩
theorem zZ:(prog.info? 142).map (λi=>(i.zero,i.size,i.bytes))=some (some (.agg #[.nilIface,()]),2,32):=aj
theorem Jd (Q:Exit->Act->World->Prop) (u0 u3 u4 u5 u6 u7 u8 u9 u10 u11 u12 u13 u14 u15 u16 u17 u18 u19 u20:Value) (B bx gi gs n c:Nat) (cs0:ZV) (A:ZT) (vs:ZU) (T1:TypeId) (g1:Nat) (s1:ByteArray) (w:World)
 (hbx:w.heap[bx]? = some (.cells #[gi] 74 (0,0))) (hgs:w.heap[gs]? = some (.cells #[.iface T1 g1,s1] 142 (0,0))) {C:ZU->World->Prop} (hke:KE gi 0 cs0 136 142 2 C B n A c vs w) (hB:B≤w) (hn:n≤100)
 (h:∀ (v11 v12 v13 v14 v15 v16 v17 v18 v19 v20:Value) (A5:ZT) (c5:Nat) (w5:World),aBL w B gi 0 cs0 136 142 2 n A c vs [.iface T1 g1,.string s1] A5 c5 w5->Q .normal ⟨((u0)::(.pointer (some ⟨bx,0,none⟩))::(.pointer (some ⟨gs,0,none⟩))::(u3)::(u4)::(u5)::(u6)::(u7)::(u8)::(u9)::(u10)::(v11)::(v12)::(v13)::(v14)::(v15)::(v16)::(v17)::(v18)::(v19)::(v20)::[]).toArray,[]⟩ (w5.setCell ⟨gi,0,none⟩ (.slice A5 (n+1) c5))) :
 Code.wp prog (zU Tryz.f127 3) Q ⟨((u0)::(.pointer (some ⟨bx,0,none⟩))::(.pointer (some ⟨gs,0,none⟩))::(u3)::(u4)::(u5)::(u6)::(u7)::(u8)::(u9)::(u10)::(u11)::(u12)::(u13)::(u14)::(u15)::(u16)::(u17)::(u18)::(u19)::(u20)::[]).toArray,[]⟩ w:=by
 obtain ⟨iE,hiE,hz0,hz1,hz2⟩:=info_parts zZ;obtain ⟨⟨cs,hgi,hcs⟩,hown, -⟩:=hke;have cx:=qs;have cx2:=qo;have ci:w.cell? ⟨gi,0,none⟩=some (.slice A n c):=(β hgi 0).trans hcs.1;have ci2:∀ o,(w.alloc o).cell? ⟨gi,0,none⟩=some (.slice A n c):=λo=>(β (aB hgi o) 0).trans hcs.1;have cs0:w.cell? ⟨gs,0,none⟩=some (.iface T1 g1):=β hgs 0;have cs1:w.cell? ⟨gs,1,none⟩=some (.string s1):=β hgs 1;have hng:=qn;have hnb:=qm;have HH:=ql;have HQ:=da;have hl1:=aG hbx;have hl2:=aG hgs;have hl3:=aG hgi;clear h hbx hgi hcs hown hng hnb hgs;refine Xa ?_
 conv=>arg 2;whnf
 go_region_law (first
  | (refine bL _ rfl (.tmp 15) (.tmp 17) _ rfl B 142 iE _ 2 32 underlying133 hiE hz0 hz1 hz2 rfl (by omega) A n c vs rfl ?_ _ 1 1 [.iface T1 (.pointer (some ⟨g1,0,none⟩)),.string s1] rfl rfl ?_ ?_ ?_ ?_ ?_ ?_
     ·exact qt
     ·exact aS [.iface T1 g1,.string s1] (bX (heap_alloc_new _ _))
     ·simp [Value.oneCell']
     ·simp only [maxLen];omega
     ·omega
     ·show B≤(w.alloc _).heap.size;rw [World.size_alloc];omega
     intro A5 c5 w5 ho5 hb5 hg5 hk5;have hx5:=qv;have hx6:=qu;have d5:w5.cell? ⟨gi,0,none⟩=some (.slice A n c):=(β hx5 0).trans HH.o.2.2.1.1;have f5:=pq;have hd5:w5.cell? ⟨bx,0,none⟩=some (.pointer (some ⟨gi,0,none⟩)):=β hx6 0)
  | fail)
 all_goals exact HQ.o _ _ _ _ _ _ _ _ _ _ A5 c5 w5 ⟨_,ho5,hb5,hk5,_,hx5,HH.o.2.2.1⟩
theorem yI:(prog.info? 147).map (λi=>(i.zero,i.size,i.bytes))=some (some (.agg #[.nilIface,false]),2,24):=aj
theorem uM (Q:Exit->Act->World->Prop) (u0 u3 u4 u5 u6 u7 u8 u9 u10 u11 u12 u13 u14 u15 u16 u17 u18 u19 u20 u21 u22 u23:Value) (B bx gi gs n c:Nat) (cs0:ZV) (A:ZT) (vs:ZU) (T1:TypeId) (g1:Nat) (b1:Bool) (w:World)
 (hbx:w.heap[bx]? = some (.cells #[gi] 74 (0,0))) (hgs:w.heap[gs]? = some (.cells #[.iface T1 g1,b1] 147 (0,0))) {C:ZU->World->Prop} (hke:KE gi 6 cs0 136 147 2 C B n A c vs w) (hB:B≤w) (hn:n≤100)
 (h:∀ (v14 v15 v16 v17 v18 v19 v20 v21 v22 v23:Value) (A5:ZT) (c5:Nat) (w5:World),aBL w B gi 6 cs0 136 147 2 n A c vs [.iface T1 g1,.bool b1] A5 c5 w5->Q .normal ⟨((u0)::(.pointer (some ⟨bx,0,none⟩))::(.pointer (some ⟨gs,0,none⟩))::(u3)::(u4)::(u5)::(u6)::(u7)::(u8)::(u9)::(u10)::(u11)::(u12)::(u13)::(v14)::(v15)::(v16)::(v17)::(v18)::(v19)::(v20)::(v21)::(v22)::(v23)::[]).toArray,[]⟩ (w5.setCell ⟨gi,6,none⟩ (.slice A5 (n+1) c5))) :
 Code.wp prog (zU Tryz.f129 4) Q ⟨((u0)::(.pointer (some ⟨bx,0,none⟩))::(.pointer (some ⟨gs,0,none⟩))::(u3)::(u4)::(u5)::(u6)::(u7)::(u8)::(u9)::(u10)::(u11)::(u12)::(u13)::(u14)::(u15)::(u16)::(u17)::(u18)::(u19)::(u20)::(u21)::(u22)::(u23)::[]).toArray,[]⟩ w:=by
 obtain ⟨iE,hiE,hz0,hz1,hz2⟩:=info_parts yI;obtain ⟨⟨cs,hgi,hcs⟩,hown, -⟩:=hke;have cx:=qs;have cx2:=qo;have ci:w.cell? ⟨gi,6,none⟩=some (.slice A n c):=(β hgi 6).trans hcs.1;have ci2:∀ o,(w.alloc o).cell? ⟨gi,6,none⟩=some (.slice A n c):=λo=>(β (aB hgi o) 6).trans hcs.1;have cs0:w.cell? ⟨gs,0,none⟩=some (.iface T1 g1):=β hgs 0;have cs1:w.cell? ⟨gs,1,none⟩=some (.bool b1):=β hgs 1;have hng:=qn;have hnb:=qm;have HH:=ql;have HQ:=da;have hl1:=aG hbx;have hl2:=aG hgs;have hl3:=aG hgi;clear h hbx hgi hcs hown hng hnb hgs;refine Xa ?_
 conv=>arg 2;whnf
 go_region_law (first
  | (refine bL _ rfl (.tmp 18) (.tmp 20) _ rfl B 147 iE _ 2 24 underlying134 hiE hz0 hz1 hz2 rfl (by omega) A n c vs rfl ?_ _ 1 1 [.iface T1 (.pointer (some ⟨g1,0,none⟩)),.bool b1] rfl rfl ?_ ?_ ?_ ?_ ?_ ?_
     ·exact qt
     ·exact aS [.iface T1 g1,.bool b1] (bX (heap_alloc_new _ _))
     ·simp [Value.oneCell']
     ·simp only [maxLen];omega
     ·omega
     ·show B≤(w.alloc _).heap.size;rw [World.size_alloc];omega
     intro A5 c5 w5 ho5 hb5 hg5 hk5;have hx5:=qv;have hx6:=qu;have d5:w5.cell? ⟨gi,6,none⟩=some (.slice A n c):=(β hx5 6).trans HH.o.2.2.1.1;have f5:=pq;have hd5:w5.cell? ⟨bx,0,none⟩=some (.pointer (some ⟨gi,0,none⟩)):=β hx6 0)
  | fail)
 all_goals exact HQ.o _ _ _ _ _ _ _ _ _ _ A5 c5 w5 ⟨_,ho5,hb5,hk5,_,hx5,HH.o.2.2.1⟩
theorem It.set {P bp bx gi k:Nat} {cs0:ZV} {tx t e:TypeId} {size:Nat} {w0:World} {C:ZU->World->Prop} {n:Nat} {A:ZT} {c:Nat} {vs:ZU} {gs:Nat} {ds:ZV} {o:Option (Lp.X×Value)} {r:ZW} {w:World} {p:TypeId->Bool}
 (h:It P bp bx gi k cs0 tx t e size w0 C n A c vs gs ds o r w) (j:Nat) (v:Value) (ok:Ok C p tx t e):It P bp bx gi k cs0 tx t e size w0 C n A c vs gs (ds.setIfInBounds j v) o r (w.setCell ⟨gs,j,none⟩ v):=by
 obtain ⟨hi,⟨⟨cg,k1,k2⟩,k3,k4⟩,hp,hs,hgs,hx,hg,hn,hP⟩:=h;have ne:∀ (g:Nat) (cs':ZV) (ty:TypeId),w.heap[g]? = some (.cells cs' ty (0,0))->e≠ty->g≠gs:=by
  rintro g cs' ty h1 h2 rfl;rw [hgs] at h1;injection h1 with h1;injection h1 with _ h1;exact h2 h1
 have hst:StaysT p w (w.setCell ⟨gs,j,none⟩ v):=StaysT.set hgs ok.pe;have hk:KE gi k cs0 t e size C w0 n A c vs (w.setCell ⟨gs,j,none⟩ v):=⟨⟨cg,cA k1 (ne _ _ _ k1 ok.et) v,k2⟩,Gv k3 hn,ok.k _ _ _ hst k4⟩;exact ⟨⟨hi.but.setNew hg v,cA hi.hbp (ne _ _ _ hi.hbp ok.ep) v,cA hi.hbx (ne _ _ _ hi.hbx ok.ex) v,A,c,vs,hk⟩,hk,hp.setNew hP v,hs,heap_setCell_same w gs j _ _ v hgs,λq hq=>PX.keepN (λg cs t hg ht=>hst g cs t hg (ok.n _ ht)) (hx q hq),hg,hn,hP⟩
theorem It.fin {C:ZU->World->Prop} {gs:Nat} {o:Option (Lp.X×Value)} {C':ZU->World->Prop} {p:TypeId->Bool}
 (h:It P bp bx gi k cs0 tx t e size w0 C n A c vs gs ds o r w) (hP0:P<w0) (hgi:w0.heap.size≤gi) (hne:gi≠bp) (hnx:gi≠bx) (ha:aBL w w0 gi k cs0 t e size n A c vs news A5 c5 w5) (ok:Ok C p tx t e) (hn:∀ w',(∀ q,o=some q->PX w0 w' q.1 q.2)->C vs w'->C' (vs++news) w') :
 PS (w5.setCell ⟨gi,k,none⟩ (.slice A5 (n+1) c5)) P r 0∧KI P bp bx gi k cs0 tx t e size w0 C' (n+1) (w5.setCell ⟨gi,k,none⟩ (.slice A5 (n+1) c5)) :=
 Yf h.ki h.ps hP0 hgi hne hnx h.ke ha ok λw' hs hc=>hn w' (λq hq=>PX.keepN (λg cs t hg ht=>hs g cs t hg (ok.n _ ht)) (h.px q hq)) hc
def aHH:ZS:=[105,110,116]
def Th:ZS:=[116,101,120,116]
def Mp:ZS:=[98,111,111,108]
def pZ (l:ZW):Option (Unit×ZW):=match bB l with
 | none=>none
 | some (_,r)=>if isF aHH r then some ((),r.tail) else if isF Th r then some ((),r.tail) else (aD Mp r).map λr2=>((),r2)
theorem Cw {s:ZS} (h:isF s r=true):r.tail.length<r.length:=by have:=bD h;omega
theorem Im:Am pZ:=by
 intro l x r h;unfold pZ at h;rcases h1:bB l with _|⟨c,r1⟩
 ·rw [h1] at h;cases h
 ·rw [h1] at h;simp only at h;have b1:=bZ h1;have b0:=b1.length_le;cases h2:isF aHH r1
  ·rw [h2] at h;cases h3:isF Th r1
   ·rw [h3] at h;rcases h4:aD Mp r1 with _|r2
    ·rw [h4] at h;cases h
    ·rw [h4] at h;simp only [φ,if_false,Option.map_some,Option.some.injEq,Prod.mk.injEq] at h;obtain ⟨_,rfl⟩:=h;have b2:=aU h4;have b3:r2.length<r1.length:=by
      unfold aD at h4
      split at h4
      ·rename_i hf
       injection h4 with h4;rw [<-h4];exact Cw hf
      ·cases h4
     exact ⟨ac,b2.trans b1⟩
   ·rw [h3] at h;simp only [φ,if_false,if_true,Option.some.injEq,Prod.mk.injEq] at h;obtain ⟨_,rfl⟩:=h;have:=Cw h3;exact qb
  ·rw [h2] at h;simp only [if_true,Option.some.injEq,Prod.mk.injEq] at h;obtain ⟨_,rfl⟩:=h;have:=Cw h2;exact qb
theorem aFE:pZ []=none:=rfl
def noC:ZU->World->Prop:=λ_ _=>True
theorem okC:Ok noC Gz 231 232 116:=⟨am,am,am,am,am,am,am,am,am,λ_ h=>h,λ_ _ _ _ _=>trivial⟩
abbrev KC (P bp bx gi:Nat) (cs0:ZV) (w0:World) (acc:List Unit) (w:World):Prop:=KI P bp bx gi 1 cs0 231 232 116 2 w0 noC acc.length w
theorem Ir (P bp bx gi d0:Nat) (cs0:ZV) (l0:ZW) (w0:World) (hR0:Resv w0) (hp0:PS w0 P l0 d0) (hgi:w0.heap.size≤gi) (hne:gi≠bp) (hnx:gi≠bx) (acc:List Unit) (l:ZW) (w:World) (hacc:acc.length≤100) (hi:KC P bp bx gi cs0 w0 acc w) (hp:PS w P l 0) (hs:Lsane l) :
 Calls prog 121 #[bp,bx] w (lA P (KC P bp bx gi cs0 w0) (RJ P w0) acc (pZ l)):=by
 have HC:=κ (eD P 0 l w hp (hR0.but hp0 hi.but));obtain ⟨A,c,vs,hke⟩:=hi.row;have HI:=rb;have H0:=pm;have cb:=pd;clear hi hp hs hR0 hp0 hgi hne hnx hke;go_enter func121,ntmps121;go_wp2_with fail;refine μ HC ?_;rintro e w1 ⟨hb1,hq1⟩;rcases hq:bB l with _|⟨cn,r1⟩
 ·rw [hq] at hq1;obtain ⟨ce,rfl,hce⟩:=hq1;have HN:=κ (show pZ l=none by rw [pZ,hq]);have HB:=qk;clear hq;unfold aT;go_wp2;refine ⟨rfl, ?_⟩;rw [HN.o];exact po
 ·rw [hq] at hq1;obtain ⟨rfl,hp1⟩:=hq1;have H:=κ (It.new (ds:=#[.string ⟨cn.toArray⟩,.int .u8 0]) (o:=none) HI.o.1 HI.o.2.1 HI.o.2.2.1 HI.o.2.2.2 hb1 hp1 (bZ hq) okC (λ_ h=>lq));have HQ:=mi;clear hq hb1 hp1 HC cb HI;cases hf:isF aHH r1
  rotate_left
  ·skip
   have HI1:=κ (bS P 0 r1 ⟨#[105,110,116]⟩ _ H.o.ps true hf);have cb:=rf;go_wp2_with fail;refine μ HI1 ?_;rintro e w2 ⟨rfl,hb2,hp2⟩;simp only [if_true] at hp2;replace H:=κ (H.o.next hb2 hp2 (aV _) okC);clear hb2 hp2 HI1 cb;have c3:=re;have f3:=rd;replace H:=κ (H.o.set 1 (.int .u8 1) okC);have HN:=κ (show pZ l=some ((),r1.tail) by rw [pZ,HQ.o];simp only [hf];rfl);go_upto_region 7 with fail
   try clear c3 f3
   refine El (s1:=⟨cn.toArray⟩) (k1:=1) (hbx:=H.o.ki.hbx) (hgs:=H.o.box) (hke:=H.o.ke) (hB:=H.o.ki.but.size) (hn:=hacc) (h := ?_) _ _ _ _ _ _ _ _ _ _ _ _ _ _ _ _ _ _ _ _ _ _ _ _ _ _ _ _ _;intro _ _ _ _ _ _ _ _ _ _ A5 c5 w5 hap;have HE:=rh;clear hap;go_wp2;go_end0;rw [HN.o];refine ⟨rfl,HE.o.1, ?_⟩;unfold KC;rw [List.length_append];exact HE.o.2
  have HI1:=κ (bS P 0 r1 ⟨#[105,110,116]⟩ _ H.o.ps false hf);have cb:=rf;go_wp2_with fail;refine μ HI1 ?_;rintro e w2 ⟨rfl,hb2,hp2⟩;simp only [φ,if_false] at hp2;replace H:=ri;clear hb2 hp2 HI1 cb;have HF:=mh;clear hf;cases hf:isF Th r1
  rotate_left
  ·skip
   have HI1:=κ (bS P 0 r1 ⟨#[116,101,120,116]⟩ _ H.o.ps true hf);have cb:=rf;go_wp2_with fail;refine μ HI1 ?_;rintro e w3 ⟨rfl,hb2,hp2⟩;simp only [if_true] at hp2;replace H:=κ (H.o.next hb2 hp2 (aV _) okC);clear hb2 hp2 HI1 cb;have c3:=re;have f3:=λj=>frozen_of_row w3 w1 j _ _ H.o.box;replace H:=κ (H.o.set 1 (.int .u8 2) okC);have HN:=κ (show pZ l=some ((),r1.tail) by rw [pZ,HQ.o];simp only [HF.o,hf];rfl);go_upto_region 7 with fail
   try clear c3 f3
   refine El (s1:=⟨cn.toArray⟩) (k1:=2) (hbx:=H.o.ki.hbx) (hgs:=H.o.box) (hke:=H.o.ke) (hB:=H.o.ki.but.size) (hn:=hacc) (h := ?_) _ _ _ _ _ _ _ _ _ _ _ _ _ _ _ _ _ _ _ _ _ _ _ _ _ _ _ _ _;intro _ _ _ _ _ _ _ _ _ _ A5 c5 w5 hap;have HE:=rh;clear hap;go_wp2;go_end0;rw [HN.o];refine ⟨rfl,HE.o.1, ?_⟩;unfold KC;rw [List.length_append];exact HE.o.2
  have HI1:=κ (bS P 0 r1 ⟨#[116,101,120,116]⟩ _ H.o.ps false hf);have cb:=rf;go_wp2_with fail;refine μ HI1 ?_;rintro e w3 ⟨rfl,hb2,hp2⟩;simp only [φ,if_false] at hp2;replace H:=ri;clear hb2 hp2 HI1 cb;have HF2:=mh;have HNe:=κ (bQ P 0 Mp r1 w3 H.o.ps);have cb:=rf;clear hf;go_wp2_with fail;refine μ HNe ?_;rintro e w4 hn;rcases hq:aD Mp r1 with _|r2
  ·obtain ⟨rfl,hb4⟩:=er;have hce:(4:Int)≠0:=am
   have HN:=κ (show pZ l=none by rw [pZ,HQ.o];simp only [HF.o,HF2.o,hq];rfl);have HB:=κ (ι hce (H.o.ki.but.trans hb4));clear hq;unfold aT;go_wp2;refine ⟨rfl, ?_⟩;rw [HN.o];exact ⟨4,rfl,HB.o.1,HB.o.2⟩
  ·obtain ⟨rfl,hb4,hp4⟩:=eu;replace H:=κ (H.o.next hb4 hp4 (aU hq) okC);have HQ4:=mi;clear hn hq hb4 hp4 HNe cb;have c3:=re;have f3:=λj=>frozen_of_row w4 w1 j _ _ H.o.box;replace H:=κ (H.o.set 1 (.int .u8 3) okC);have HN:=κ (show pZ l=some ((),r2) by rw [pZ,HQ.o];simp only [HF.o,HF2.o,HQ4.o];rfl);go_upto_region 7 with fail
   try clear c3 f3
   refine El (s1:=⟨cn.toArray⟩) (k1:=3) (hbx:=H.o.ki.hbx) (hgs:=H.o.box) (hke:=H.o.ke) (hB:=H.o.ki.but.size) (hn:=hacc) (h := ?_) _ _ _ _ _ _ _ _ _ _ _ _ _ _ _ _ _ _ _ _ _ _ _ _ _ _ _ _ _;intro _ _ _ _ _ _ _ _ _ _ A5 c5 w5 hap;have HE:=rh;clear hap;go_wp2;go_end0;rw [HN.o];refine ⟨rfl,HE.o.1, ?_⟩;unfold KC;rw [List.length_append];exact HE.o.2
def zG (T:TypeId):Bool:=T==231||T==228||T==237||T==234||T==213||T==41||T==61||T==163||T==166||T==169
def WkPost (P:Nat) (w:World) (e:Ending) (w':World):Prop :=
 But P w w'∧((∃ c,e=aT c∧c≠0)∨∃ T g r,e=.returned (.iface T (.pointer (some ⟨g,0,none⟩)))∧zG T=true∧PS w' P r 0)
theorem WkPost.stop {c:Int} (hb:But P w w') (hc:c≠0):WkPost P w (aT c) w':=⟨hb,.inl ⟨c,rfl,hc⟩⟩
theorem WkPost.ok {g:Nat} {T:TypeId} (hb:But P w w') (hT:zG T=true) (hp:PS w' P r 0) (_:Lsane r):WkPost P w (.returned (.iface T g)) w':=⟨hb,.inr ⟨T,g,r,rfl,hT,hp⟩⟩
def Cn:ZS:=[105,110,100,101,120]
def Cm:ZS:=[116,97,98,108,101]
theorem Zo (P:Nat) (l:ZW) (w:World) (h:PS w P l 0) (hs:Lsane l) (hR:Resv w) :
 Calls prog 65 #[P] w (WkPost P w):=by
 have HI:=κ (λb (hb:isF Cn l=b)=>bS P 0 l ⟨#[105,110,100,101,120]⟩ w h b hb);have H0:=κ (ι h (ι hs hR));clear h hs hR;go_enter func65,ntmps65;cases hf:isF Cn l
 ·have HI1:=κ (HI.o false hf);clear HI hf;go_wp2_with fail;refine μ HI1 ?_;rintro e w1 ⟨rfl,hb1,hp1⟩;simp only [φ,if_false] at hp1;have HNe:=κ (bQ P 0 Cm l w1 hp1);have H1:=rj;clear hb1 hp1 HI1;go_wp2_with fail;refine μ HNe ?_;rintro e w2 hn;rcases hq:aD Cm l with _|r
  ·obtain ⟨rfl,hb2⟩:=er;have HB:=pw;clear hn hq hb2 HNe;unfold aT;go_wp2;exact rl
  ·obtain ⟨rfl,hb2,hp2⟩:=eu;have hB:=H1.o.1.trans hb2;have HNm:=κ (eD P 0 r w2 hp2 (H0.o.2.2.but H0.o.1 hB));have H2:=κ (ι hB (H0.o.2.1.sfx (aU hq)));clear hn hq hb2 hp2 hB HNe;go_wp2_with fail;refine μ HNm ?_;rintro e w3 ⟨hb3,hq3⟩;rcases hq:bB r with _|⟨t,r3⟩
   ·rw [hq] at hq3;obtain ⟨ce,rfl,hce⟩:=hq3;have HB:=κ (H2.o.1.trans hb3);clear hq hb3 HNm;unfold aT;go_wp2;exact rm
   ·rw [hq] at hq3;obtain ⟨rfl,hp3⟩:=hq3;have hbA:Below w3 w3 (w3.alloc (.cells #[t] 238)):=ρ;have HB:=κ (ι ((H2.o.1.trans hb3).trans (But.of hbA)) (ι (hp3.below hbA) (H2.o.2.sfx (bZ hq))));clear hq hb3 hp3 hbA HNm;go_wp2;go_ret;exact rp
 ·have HI1:=κ (HI.o true hf);clear HI hf;go_wp2_with fail;refine μ HI1 ?_;rintro e w1 ⟨rfl,hb1,hp1⟩;simp only [if_true] at hp1;have HNm:=κ (eD P 0 l.tail w1 hp1 (H0.o.2.2.but H0.o.1 hb1));have H1:=κ (ι hb1 (ι hp1 H0.o.2.1.tl));clear hb1 hp1 HI1;go_wp2_with fail;refine μ HNm ?_;rintro e w3 ⟨hb3,hq3⟩;rcases hq:bB l.tail with _|⟨t,r3⟩
  ·rw [hq] at hq3;obtain ⟨ce,rfl,hce⟩:=hq3;have HB:=κ (H1.o.1.trans hb3);clear hq hb3 HNm;unfold aT;go_wp2;exact rm
  ·rw [hq] at hq3;obtain ⟨rfl,hp3⟩:=hq3;have hbA:Below w3 w3 (w3.alloc (.cells #[t] 236)):=ρ;have HB:=κ (ι ((H1.o.1.trans hb3).trans (But.of hbA)) (ι (hp3.below hbA) (H1.o.2.2.sfx (bZ hq))));clear hq hb3 hp3 hbA HNm;go_wp2;go_ret;exact rp
