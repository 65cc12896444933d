/-
 Contracts. Conditions: those of each.
-/
import Derived.Test.YtkolcimllghnaaaGreatDoorQbZU
set_option maxRecDepth 100000
set_option maxHeartbeats 20000000
namespace Go.Proofs.YtkolcimllghnaaaGreatDoor
open Lp Go.Proofs.Tryz
open Go.RowKit
def nH (n:Nat):Code→Option Code
 | .region k ops d=>if k==n then some (.region k ops d) else none
 | .seq a b=>match nH n a with
   | some c=>some c
   | none=>nH n b
 | .cond _ a b=>match nH n a with
   | some c=>some c
   | none=>nH n b
 | .block _ c=>nH n c
 | .loop c=>nH n c
 | .scope c=>nH n c
 | _=>none
noncomputable def Yh (f:Func) (n:Nat):Code:=((f.body.bind (nH n)).getD .skip)
def QN (K:Act→World→Prop):Exit→Act→World→Prop
 | .normal,a,w=>K a w
 | _,_,_=>False
theorem On {c:Code} {Q:Exit→Act→World→Prop} {a:Act} {w:World} (h:Code.wp prog c (QN fun a w=>Q .normal a w) a w):Code.wp prog c Q a w :=
 Code.wp_mono (fun e _ _ h=>by cases e<;>first|exact h|exact h.elim) h
def AtK (cs0 cs:Array Value) (k:Nat) (v:Value):Prop:=cs[k]? = some v∧cs.size=cs0.size∧∀ j,j≠k→cs[j]? = cs0[j]?
def KE (gi k:Nat) (cs0:Array Value) (t e:TypeId) (size B n:Nat) (A:Option Addr) (c:Nat) (vs:List Value) (w:World):Prop :=
 (∃ cs:Array Value,w.heap[gi]? = some (.cells cs t (0,0))∧AtK cs0 cs k (.slice A n c))∧w.ownsRow B e size (.slice A n c) n vs
structure KI (P bp bx gi k:Nat) (cs0:Array Value) (tx t e:TypeId) (size:Nat) (w0:World) (n:Nat) (w:World):Prop where
 but:But P w0 w
 hbp:w.heap[bp]? = some (.cells #[.pointer (some ⟨P,0,none⟩)] 98 (0,0))
 hbx:w.heap[bx]? = some (.cells #[.pointer (some ⟨gi,0,none⟩)] tx (0,0))
 row:∃ A c vs,KE gi k cs0 t e size w0.heap.size n A c vs w
theorem KE.next {P gi k d size B n:Nat} {cs0:Array Value} {t e:TypeId} {A:Option Addr} {c:Nat} {vs:List Value} {w w':World} {l:List Tok} (h:KE gi k cs0 t e size B n A c vs w) (hp:PS w P l d) (hb:But P w w') (ht:t≠100) (he:e≠100):KE gi k cs0 t e size B n A c vs w':=by
 obtain ⟨⟨cs,h1,h2⟩,h3⟩:=h
 exact ⟨⟨cs,aI h1 hb hp ht,h2⟩,kV h3 hb hp he⟩
theorem KI.next {P bp bx gi k d size n:Nat} {cs0:Array Value} {tx t e:TypeId} {w0 w w':World} {l:List Tok} (h:KI P bp bx gi k cs0 tx t e size w0 n w) (hp:PS w P l d) (hb:But P w w') (hx:tx≠100) (ht:t≠100) (he:e≠100):KI P bp bx gi k cs0 tx t e size w0 n w':=by
 obtain ⟨A,c,vs,hk⟩:=h.row
 exact ⟨h.but.trans hb,aI h.hbp hb hp (by decide),aI h.hbx hb hp hx,A,c,vs,hk.next hp hb ht he⟩
def Xb (w:World) (B gi k:Nat) (cs0:Array Value) (t e:TypeId) (size n:Nat) (A:Option Addr) (c:Nat) (vs news:List Value) (A5:Option Addr) (c5:Nat) (w5:World):Prop :=
 ∃ ob,w5.ownsRow B e size (.slice A5 (n+1) c5) (n+1) (vs++news)∧Below B (w.alloc ob).drew w5∧gD (w.alloc ob).drew w5 (Value.ownBlock (.slice A n c)) (Value.ownBlock (.slice A5 (n+1) c5))∧∃ cs:Array Value,w5.heap[gi]? = some (.cells cs t (0,0))∧AtK cs0 cs k (.slice A n c)
theorem lX {P bp bx gi k d size n c c5:Nat} {cs0:Array Value} {tx t e:TypeId} {w0 w w5:World} {r:List Tok} {A A5:Option Addr} {vs news:List Value} (hi:KI P bp bx gi k cs0 tx t e size w0 n w) (hp:PS w P r d) (hP0:P<w0.heap.size) (hgi:w0.heap.size≤gi) (hne:gi≠bp) (hnx:gi≠bx)
 (hke:KE gi k cs0 t e size w0.heap.size n A c vs w) (h:Xb w w0.heap.size gi k cs0 t e size n A c vs news A5 c5 w5) (h1:e≠98) (h2:e≠tx) (h3:e≠t) :
 PS (w5.setCell ⟨gi,k,none⟩ (.slice A5 (n+1) c5)) P r d∧KI P bp bx gi k cs0 tx t e size w0 (n+1) (w5.setCell ⟨gi,k,none⟩ (.slice A5 (n+1) c5)):=by
 obtain ⟨ob,ho5,hb5,hk5,cs,hx5,hc5⟩:=h
 have hb25:Below w0.heap.size w w5:=(((Below.refl w.heap.size w).alloc (ν _) ob).drew |>.mono hi.but.size).trans hb5
 have k2d:(w.alloc ob).drew.ownsRow w0.heap.size e size (.slice A n c) n vs:=(hke.2.alloc ob).drew
 have old:∀ (g:Nat) (cs:Array Value) (ty:TypeId),w.heap[g]? = some (.cells cs ty (0,0))→e≠ty→gi≠g→(w5.setCell ⟨gi,k,none⟩ (.slice A5 (n+1) c5)).heap[g]? = some (.cells cs ty (0,0)):=by
  intro g cs ty hg h2 h3
  have hg5:=(hk5 _ _ (cJ (aC hg ob)) (cX k2d (cJ (aC hg ob)) h2)).1
  exact (Below.heap_setCell w5 ⟨gi,k,none⟩ _ g (fun e=>h3 e.symm)).trans hg5
 have h6:=heap_setCell_same w5 gi k _ _ (.slice A5 (n+1) c5) hx5
 refine ⟨(hp.low hP0 hb25).setNew (Nat.lt_of_lt_of_le hP0 hgi) _,(hi.but.low hb25).setNew hgi _,old _ _ _ hi.hbp h1 hne,old _ _ _ hi.hbx h2 hnx,A5,c5,vs++news,⟨_,h6, ?_⟩,jQ ho5 hx5 h3⟩
 have hk:k<cs.size:=by
  rcases Nat.lt_or_ge k cs.size with h|h
  ·exact h
  ·have h5:=hc5.1
   rw [Array.getElem?_eq_none h] at h5;cases h5
 refine ⟨by simp [hk],by simpa using hc5.2.1,fun j hj => ?_⟩
 rw [←hc5.2.2 j hj,Array.getElem?_setIfInBounds_ne (Ne.symm hj)]
theorem yS:(prog.info? 116).map (fun i=>(i.zero,i.size,i.bytes))=some (some (.agg #[.string ⟨#[]⟩,.int .u8 0]),2,24):=by kernel_rfl
theorem zI (Q:Exit→Act→World→Prop) (u0 u3 u4 u5 u6 u7 u8 u9 u10 u11 u12 u13 u14 u15 u16 u17 u18 u19 u20 u21 u22 u23 u24 u25 u26 u27:Value) (B bx gi gs n c:Nat) (cs0:Array Value) (A:Option Addr) (vs:List Value) (s1:ByteArray) (k1:Int) (w:World)
 (hbx:w.heap[bx]? = some (.cells #[.pointer (some ⟨gi,0,none⟩)] 231 (0,0))) (hgs:w.heap[gs]? = some (.cells #[.string s1,.int .u8 k1] 116 (0,0))) (hke:KE gi 1 cs0 232 116 2 B n A c vs w) (hB:B≤w.heap.size) (hn:n≤100)
 (h:∀ (v18 v19 v20 v21 v22 v23 v24 v25 v26 v27:Value) (A5:Option Addr) (c5:Nat) (w5:World),Xb w B gi 1 cs0 232 116 2 n A c vs [.string s1,.int .u8 k1] A5 c5 w5→Q .normal ⟨((u0)::(.pointer (some ⟨bx,0,none⟩))::(.pointer (some ⟨gs,0,none⟩))::(u3)::(u4)::(u5)::(u6)::(u7)::(u8)::(u9)::(u10)::(u11)::(u12)::(u13)::(u14)::(u15)::(u16)::(u17)::(v18)::(v19)::(v20)::(v21)::(v22)::(v23)::(v24)::(v25)::(v26)::(v27)::[]).toArray,[]⟩ (w5.setCell ⟨gi,1,none⟩ (.slice A5 (n+1) c5))) :
 Code.wp prog (Yh Tryz.f121 7) Q ⟨((u0)::(.pointer (some ⟨bx,0,none⟩))::(.pointer (some ⟨gs,0,none⟩))::(u3)::(u4)::(u5)::(u6)::(u7)::(u8)::(u9)::(u10)::(u11)::(u12)::(u13)::(u14)::(u15)::(u16)::(u17)::(u18)::(u19)::(u20)::(u21)::(u22)::(u23)::(u24)::(u25)::(u26)::(u27)::[]).toArray,[]⟩ w:=by
 obtain ⟨iE,hiE,hz0,hz1,hz2⟩:=info_parts yS
 obtain ⟨⟨cs,hgi,hcs⟩,hown⟩:=hke
 have cx:w.cell? ⟨bx,0,none⟩=some (.pointer (some ⟨gi,0,none⟩)):=β hbx 0
 have cx2:∀ o,(w.alloc o).cell? ⟨bx,0,none⟩=some (.pointer (some ⟨gi,0,none⟩)):=fun o=>β (aC hbx o) 0
 have ci:w.cell? ⟨gi,1,none⟩=some (.slice A n c):=(β hgi 1).trans hcs.1
 have ci2:∀ o,(w.alloc o).cell? ⟨gi,1,none⟩=some (.slice A n c):=fun o=>(β (aC hgi o) 1).trans hcs.1
 have cs0:w.cell? ⟨gs,0,none⟩=some (.string s1):=β hgs 0
 have cs1:w.cell? ⟨gs,1,none⟩=some (.int .u8 k1):=β hgs 1
 have hng:some gi≠Value.ownBlock (.slice A n c):=cX hown hgi (by decide)
 have hnb:some bx≠Value.ownBlock (.slice A n c):=cX hown hbx (by decide)
 have HH:=κ (ι hbx (ι hgi (ι hcs (ι hown (ι hng hnb)))))
 have HQ:=κ h
 have hl1:=aL hbx
 have hl2:=aL hgs
 have hl3:=aL hgi
 clear h hbx hgi hcs hown hng hnb hgs
 refine On ?_
 conv=>arg 2;whnf
 go_region_law (first
  | (refine eC _ rfl (.tmp 22) (.tmp 24) _ rfl B 116 iE _ 2 24 underlying33 hiE hz0 hz1 hz2 rfl (by omega) A n c vs rfl ?_ _ 1 1 [.string s1,.int .u8 k1] rfl rfl ?_ ?_ ?_ ?_ ?_ ?_
     ·exact (HH.out.2.2.2.1.alloc _).drew
     ·exact bD [.string s1,.int .u8 k1] (cJ (heap_alloc_new _ _))
     ·simp [Value.oneCell']
     ·simp only [maxLen];omega
     ·omega
     ·show B≤(w.alloc _).heap.size;rw [World.size_alloc];omega
     intro A5 c5 w5 ho5 hb5 hg5 hk5
     have hx5:=(hk5 _ _ (cJ (aC HH.out.2.1 _)) HH.out.2.2.2.2.1).1
     have hx6:=(hk5 _ _ (cJ (aC HH.out.1 _)) HH.out.2.2.2.2.2).1
     have d5:w5.cell? ⟨gi,1,none⟩=some (.slice A n c):=(β hx5 1).trans HH.out.2.2.1.1
     have f5:=fun j=>frozen_of_row w5 gi j _ _ hx5
     have hd5:w5.cell? ⟨bx,0,none⟩=some (.pointer (some ⟨gi,0,none⟩)):=β hx6 0)
  | fail)
 all_goals exact HQ.out _ _ _ _ _ _ _ _ _ _ A5 c5 w5 ⟨_,ho5,hb5,hk5,_,hx5,HH.out.2.2.1⟩
theorem vX:(prog.info? 142).map (fun i=>(i.zero,i.size,i.bytes))=some (some (.agg #[.nilIface,.string ⟨#[]⟩]),2,32):=by kernel_rfl
theorem Dc (Q:Exit→Act→World→Prop) (u0 u3 u4 u5 u6 u7 u8 u9 u10 u11 u12 u13 u14 u15 u16 u17 u18 u19 u20:Value) (B bx gi gs n c:Nat) (cs0:Array Value) (A:Option Addr) (vs:List Value) (T1:TypeId) (g1:Nat) (s1:ByteArray) (w:World)
 (hbx:w.heap[bx]? = some (.cells #[.pointer (some ⟨gi,0,none⟩)] 74 (0,0))) (hgs:w.heap[gs]? = some (.cells #[.iface T1 (.pointer (some ⟨g1,0,none⟩)),.string s1] 142 (0,0))) (hke:KE gi 0 cs0 136 142 2 B n A c vs w) (hB:B≤w.heap.size) (hn:n≤100)
 (h:∀ (v11 v12 v13 v14 v15 v16 v17 v18 v19 v20:Value) (A5:Option Addr) (c5:Nat) (w5:World),Xb w B gi 0 cs0 136 142 2 n A c vs [.iface T1 (.pointer (some ⟨g1,0,none⟩)),.string s1] A5 c5 w5→Q .normal ⟨((u0)::(.pointer (some ⟨bx,0,none⟩))::(.pointer (some ⟨gs,0,none⟩))::(u3)::(u4)::(u5)::(u6)::(u7)::(u8)::(u9)::(u10)::(v11)::(v12)::(v13)::(v14)::(v15)::(v16)::(v17)::(v18)::(v19)::(v20)::[]).toArray,[]⟩ (w5.setCell ⟨gi,0,none⟩ (.slice A5 (n+1) c5))) :
 Code.wp prog (Yh Tryz.f127 3) Q ⟨((u0)::(.pointer (some ⟨bx,0,none⟩))::(.pointer (some ⟨gs,0,none⟩))::(u3)::(u4)::(u5)::(u6)::(u7)::(u8)::(u9)::(u10)::(u11)::(u12)::(u13)::(u14)::(u15)::(u16)::(u17)::(u18)::(u19)::(u20)::[]).toArray,[]⟩ w:=by
 obtain ⟨iE,hiE,hz0,hz1,hz2⟩:=info_parts vX
 obtain ⟨⟨cs,hgi,hcs⟩,hown⟩:=hke
 have cx:w.cell? ⟨bx,0,none⟩=some (.pointer (some ⟨gi,0,none⟩)):=β hbx 0
 have cx2:∀ o,(w.alloc o).cell? ⟨bx,0,none⟩=some (.pointer (some ⟨gi,0,none⟩)):=fun o=>β (aC hbx o) 0
 have ci:w.cell? ⟨gi,0,none⟩=some (.slice A n c):=(β hgi 0).trans hcs.1
 have ci2:∀ o,(w.alloc o).cell? ⟨gi,0,none⟩=some (.slice A n c):=fun o=>(β (aC hgi o) 0).trans hcs.1
 have cs0:w.cell? ⟨gs,0,none⟩=some (.iface T1 (.pointer (some ⟨g1,0,none⟩))):=β hgs 0
 have cs1:w.cell? ⟨gs,1,none⟩=some (.string s1):=β hgs 1
 have hng:some gi≠Value.ownBlock (.slice A n c):=cX hown hgi (by decide)
 have hnb:some bx≠Value.ownBlock (.slice A n c):=cX hown hbx (by decide)
 have HH:=κ (ι hbx (ι hgi (ι hcs (ι hown (ι hng hnb)))))
 have HQ:=κ h
 have hl1:=aL hbx
 have hl2:=aL hgs
 have hl3:=aL hgi
 clear h hbx hgi hcs hown hng hnb hgs
 refine On ?_
 conv=>arg 2;whnf
 go_region_law (first
  | (refine eC _ rfl (.tmp 15) (.tmp 17) _ rfl B 142 iE _ 2 32 underlying133 hiE hz0 hz1 hz2 rfl (by omega) A n c vs rfl ?_ _ 1 1 [.iface T1 (.pointer (some ⟨g1,0,none⟩)),.string s1] rfl rfl ?_ ?_ ?_ ?_ ?_ ?_
     ·exact (HH.out.2.2.2.1.alloc _).drew
     ·exact bD [.iface T1 (.pointer (some ⟨g1,0,none⟩)),.string s1] (cJ (heap_alloc_new _ _))
     ·simp [Value.oneCell']
     ·simp only [maxLen];omega
     ·omega
     ·show B≤(w.alloc _).heap.size;rw [World.size_alloc];omega
     intro A5 c5 w5 ho5 hb5 hg5 hk5
     have hx5:=(hk5 _ _ (cJ (aC HH.out.2.1 _)) HH.out.2.2.2.2.1).1
     have hx6:=(hk5 _ _ (cJ (aC HH.out.1 _)) HH.out.2.2.2.2.2).1
     have d5:w5.cell? ⟨gi,0,none⟩=some (.slice A n c):=(β hx5 0).trans HH.out.2.2.1.1
     have f5:=fun j=>frozen_of_row w5 gi j _ _ hx5
     have hd5:w5.cell? ⟨bx,0,none⟩=some (.pointer (some ⟨gi,0,none⟩)):=β hx6 0)
  | fail)
 all_goals exact HQ.out _ _ _ _ _ _ _ _ _ _ A5 c5 w5 ⟨_,ho5,hb5,hk5,_,hx5,HH.out.2.2.1⟩
theorem uL:(prog.info? 147).map (fun i=>(i.zero,i.size,i.bytes))=some (some (.agg #[.nilIface,.bool false]),2,24):=by kernel_rfl
theorem qX (Q:Exit→Act→World→Prop) (u0 u3 u4 u5 u6 u7 u8 u9 u10 u11 u12 u13 u14 u15 u16 u17 u18 u19 u20 u21 u22 u23:Value) (B bx gi gs n c:Nat) (cs0:Array Value) (A:Option Addr) (vs:List Value) (T1:TypeId) (g1:Nat) (b1:Bool) (w:World)
 (hbx:w.heap[bx]? = some (.cells #[.pointer (some ⟨gi,0,none⟩)] 74 (0,0))) (hgs:w.heap[gs]? = some (.cells #[.iface T1 (.pointer (some ⟨g1,0,none⟩)),.bool b1] 147 (0,0))) (hke:KE gi 6 cs0 136 147 2 B n A c vs w) (hB:B≤w.heap.size) (hn:n≤100)
 (h:∀ (v14 v15 v16 v17 v18 v19 v20 v21 v22 v23:Value) (A5:Option Addr) (c5:Nat) (w5:World),Xb w B gi 6 cs0 136 147 2 n A c vs [.iface T1 (.pointer (some ⟨g1,0,none⟩)),.bool b1] A5 c5 w5→Q .normal ⟨((u0)::(.pointer (some ⟨bx,0,none⟩))::(.pointer (some ⟨gs,0,none⟩))::(u3)::(u4)::(u5)::(u6)::(u7)::(u8)::(u9)::(u10)::(u11)::(u12)::(u13)::(v14)::(v15)::(v16)::(v17)::(v18)::(v19)::(v20)::(v21)::(v22)::(v23)::[]).toArray,[]⟩ (w5.setCell ⟨gi,6,none⟩ (.slice A5 (n+1) c5))) :
 Code.wp prog (Yh Tryz.f129 4) Q ⟨((u0)::(.pointer (some ⟨bx,0,none⟩))::(.pointer (some ⟨gs,0,none⟩))::(u3)::(u4)::(u5)::(u6)::(u7)::(u8)::(u9)::(u10)::(u11)::(u12)::(u13)::(u14)::(u15)::(u16)::(u17)::(u18)::(u19)::(u20)::(u21)::(u22)::(u23)::[]).toArray,[]⟩ w:=by
 obtain ⟨iE,hiE,hz0,hz1,hz2⟩:=info_parts uL
 obtain ⟨⟨cs,hgi,hcs⟩,hown⟩:=hke
 have cx:w.cell? ⟨bx,0,none⟩=some (.pointer (some ⟨gi,0,none⟩)):=β hbx 0
 have cx2:∀ o,(w.alloc o).cell? ⟨bx,0,none⟩=some (.pointer (some ⟨gi,0,none⟩)):=fun o=>β (aC hbx o) 0
 have ci:w.cell? ⟨gi,6,none⟩=some (.slice A n c):=(β hgi 6).trans hcs.1
 have ci2:∀ o,(w.alloc o).cell? ⟨gi,6,none⟩=some (.slice A n c):=fun o=>(β (aC hgi o) 6).trans hcs.1
 have cs0:w.cell? ⟨gs,0,none⟩=some (.iface T1 (.pointer (some ⟨g1,0,none⟩))):=β hgs 0
 have cs1:w.cell? ⟨gs,1,none⟩=some (.bool b1):=β hgs 1
 have hng:some gi≠Value.ownBlock (.slice A n c):=cX hown hgi (by decide)
 have hnb:some bx≠Value.ownBlock (.slice A n c):=cX hown hbx (by decide)
 have HH:=κ (ι hbx (ι hgi (ι hcs (ι hown (ι hng hnb)))))
 have HQ:=κ h
 have hl1:=aL hbx
 have hl2:=aL hgs
 have hl3:=aL hgi
 clear h hbx hgi hcs hown hng hnb hgs
 refine On ?_
 conv=>arg 2;whnf
 go_region_law (first
  | (refine eC _ rfl (.tmp 18) (.tmp 20) _ rfl B 147 iE _ 2 24 underlying134 hiE hz0 hz1 hz2 rfl (by omega) A n c vs rfl ?_ _ 1 1 [.iface T1 (.pointer (some ⟨g1,0,none⟩)),.bool b1] rfl rfl ?_ ?_ ?_ ?_ ?_ ?_
     ·exact (HH.out.2.2.2.1.alloc _).drew
     ·exact bD [.iface T1 (.pointer (some ⟨g1,0,none⟩)),.bool b1] (cJ (heap_alloc_new _ _))
     ·simp [Value.oneCell']
     ·simp only [maxLen];omega
     ·omega
     ·show B≤(w.alloc _).heap.size;rw [World.size_alloc];omega
     intro A5 c5 w5 ho5 hb5 hg5 hk5
     have hx5:=(hk5 _ _ (cJ (aC HH.out.2.1 _)) HH.out.2.2.2.2.1).1
     have hx6:=(hk5 _ _ (cJ (aC HH.out.1 _)) HH.out.2.2.2.2.2).1
     have d5:w5.cell? ⟨gi,6,none⟩=some (.slice A n c):=(β hx5 6).trans HH.out.2.2.1.1
     have f5:=fun j=>frozen_of_row w5 gi j _ _ hx5
     have hd5:w5.cell? ⟨bx,0,none⟩=some (.pointer (some ⟨gi,0,none⟩)):=β hx6 0)
  | fail)
 all_goals exact HQ.out _ _ _ _ _ _ _ _ _ _ A5 c5 w5 ⟨_,ho5,hb5,hk5,_,hx5,HH.out.2.2.1⟩
