/-
 Contracts and laws, joined: RefT, Cell5, Cell6, JoinF, JoinT, Cell7. Conditions: those of each.
-/
import Derived.Test.YtkfjmgmjbljnbaaGreatDoorQGW
import Derived.Deep.LoopGhost
set_option maxRecDepth 100000
set_option maxHeartbeats 8000000
namespace Go.Proofs.YtkfjmgmjbljnbaaGreatDoor
open Go.RowKit
theorem ba {w w':World} (h:Below w.heap.size w w') (o:Obj):Below w.heap.size w (w'.alloc o):=h.alloc h.size o
def Lp.three (k:Int) (b:Bool):Int:=if k=0 then 1 else if k=3 then (if b then 2 else 0) else -1
def Lp.bkK (n:Int):Int:=if n=1 then 0 else 3
def Lp.bkB (n:Int):Bool:=if n=1 then false else n==2
theorem truth2_any (b:Bool) (w:World):Calls Tryz.prog 54 #[.bool b] w fun e w'=>e=.returned (.agg #[.int .u8 3,.int .i64 0,.string ⟨#[]⟩,.bool b])∧(w.alloc (.cells #[.int .u8 3,.int .i64 0,.string ⟨#[]⟩,.bool b] 31))=w':=by
 go_enter Tryz.func54,Tryz.ntmps54
 go_wp2
 exact bodyPost_ret (v:=.agg #[.int .u8 3,.int .i64 0,.string ⟨#[]⟩,.bool b]) (by simp [results,Tryz.results54,go_sem]) rfl ⟨rfl,rfl⟩
theorem three_g (k i:Int) (s:ByteArray) (b:Bool) (w:World):Calls Tryz.prog 94 #[.agg #[.int .u8 k,.int .i64 i,.string s,.bool b]] w fun e w'=>e=.returned (.int .i64 (Lp.three k b))∧Below w.heap.size w w':=by
 have hb0:=ba (Below.refl w.heap.size w) (.cells #[.int .u8 k,.int .i64 i,.string s,.bool b] 31)
 by_cases h0:k=0
 ·subst h0
  have hb0:=ba (Below.refl w.heap.size w) (.cells #[.int .u8 0,.int .i64 i,.string s,.bool b] 31)
  go_enter Tryz.func94,Tryz.ntmps94
  go_wp2
  go_ret
  exact ⟨rfl,hb0⟩
 ·by_cases h3:k=3
  ·subst h3
   cases b
   ·have e:Lp.three 3 false=0:=rfl
    rw [e];clear e
    go_enter Tryz.func94,Tryz.ntmps94
    go_wp2
    go_ret
    exact ⟨rfl,hb0⟩
   ·have e:Lp.three 3 true=2:=rfl
    rw [e];clear e
    go_enter Tryz.func94,Tryz.ntmps94
    go_wp2
    go_ret
    exact ⟨rfl,hb0⟩
  ·have e:Lp.three k b = -1:=by unfold Lp.three;rw [if_neg h0,if_neg h3]
   rw [e];clear e
   have e1:(k==0)=false:=by simpa using h0
   have e2:(k !=3)=true:=by simpa using h3
   go_enter Tryz.func94,Tryz.ntmps94
   go_wp2
   go_ret
   exact ⟨rfl,hb0⟩
theorem back_g (n:Int) (w:World):Calls Tryz.prog 95 #[.int .i64 n] w fun e w'=>e=.returned (.agg #[.int .u8 (Lp.bkK n),.int .i64 0,.string ⟨#[]⟩,.bool (Lp.bkB n)])∧Below w.heap.size w w':=by
 by_cases h1:n=1
 ·subst h1
  go_enter Tryz.func95,Tryz.ntmps95
  go_wp2
  exact bodyPost_ret (v:=.agg #[.int .u8 0,.int .i64 0,.string ⟨#[]⟩,.bool false]) (by simp [results,Tryz.results95,go_sem]) rfl ⟨rfl,ba (Below.refl _ _) _⟩
 ·have e1:(n==1)=false:=by simpa using h1
  have k1:Lp.bkK n=3:=if_neg h1
  have k2:Lp.bkB n=(n==2):=if_neg h1
  rw [k1,k2]
  clear k1 k2 h1
  go_enter Tryz.func95,Tryz.ntmps95
  go_wp2_with (go_at_call 54;refine (truth2_any _ _).mono ?_;rintro e w' ⟨rfl,rfl⟩)
  exact bodyPost_ret (v:=.agg #[.int .u8 3,.int .i64 0,.string ⟨#[]⟩,.bool (n==2)]) (by simp [results,Tryz.results95,go_sem]) rfl ⟨rfl,ba (ba (Below.refl _ _) _) _⟩
theorem TwoBox.set4 {g:Nat} {k i:Int} {s:ByteArray} {b:Bool} {k' i':Int} {s':ByteArray} {b':Bool} {w:World} (h:TwoBox g k i s b k' i' s' b' w) {g':Nat} (h1:g'≠g) (h2:g'≠g+1) (u0 u1 u2 u3:Value) :
 TwoBox g k i s b k' i' s' b' ((((w.setCell ⟨g',0,none⟩ u0).setCell ⟨g',1,none⟩ u1).setCell ⟨g',2,none⟩ u2).setCell ⟨g',3,none⟩ u3):=by
 have e:∀ (W:World) (j o gg:Nat) (u:Value),g'≠gg→(W.setCell ⟨g',j,none⟩ u).cell? ⟨gg,o,none⟩=W.cell? ⟨gg,o,none⟩:=by
  intro W j o gg u hne
  exact World.cell?_setCell_other _ _ _ _ (by intro q;injection q with q1;exact hne q1)
 unfold TwoBox at *
 simp only [e _ _ _ _ _ h1,e _ _ _ _ _ h2]
 exact h
theorem set4_same {w:World} {g:Nat} {t:TypeId} {a0 a1 a2 a3:Value} (h:w.heap[g]? = some (.cells #[a0,a1,a2,a3] t (0,0))) (u0 u1 u2 u3:Value) :
 ((((w.setCell ⟨g,0,none⟩ u0).setCell ⟨g,1,none⟩ u1).setCell ⟨g,2,none⟩ u2).setCell ⟨g,3,none⟩ u3).heap[g]? = some (.cells #[u0,u1,u2,u3] t (0,0)):=by
 simp [World.setCell,Array.getElem?_modify,h]
theorem below_set4 {w w1:World} (h:Below w.heap.size w w1) {g:Nat} (hg:w.heap.size≤g) (u0 u1 u2 u3:Value):Below w.heap.size w ((((w1.setCell ⟨g,0,none⟩ u0).setCell ⟨g,1,none⟩ u1).setCell ⟨g,2,none⟩ u2).setCell ⟨g,3,none⟩ u3) :=
 (((h.setCell (p:=⟨g,0,none⟩) hg u0).setCell (p:=⟨g,1,none⟩) hg u1).setCell (p:=⟨g,2,none⟩) hg u2).setCell (p:=⟨g,3,none⟩) hg u3
def Lp.andK (k:Int) (b:Bool) (k':Int) (b':Bool):Int:=min (Lp.three k b) (Lp.three k' b')
def Lp.orK (k:Int) (b:Bool) (k':Int) (b':Bool):Int:=max (Lp.three k b) (Lp.three k' b')
def Lp.bad2 (k:Int) (b:Bool) (k':Int) (b':Bool):Bool:=decide (Lp.three k b<0)||decide (Lp.three k' b'<0)
def TruthPost (bad:Bool) (n:Int) (w:World) (e:Ending) (w':World):Prop :=
 e=.returned (.tuple #[.agg #[.int .u8 (if bad then 0 else Lp.bkK n),.int .i64 0,.string ⟨#[]⟩,.bool (if bad then false else Lp.bkB n)],.int .i64 (if bad then 8 else 0)])∧Below w.heap.size w w'
theorem truth_bad {bad:Bool} {n:Int} {w w':World} (h:bad=true) (hb:Below w.heap.size w w'):TruthPost bad n w (.returned (.tuple #[.agg #[.int .u8 0,.int .i64 0,.string ⟨#[]⟩,.bool false],.int .i64 8])) w':=by
 subst h;exact ⟨rfl,hb⟩
theorem truth_good {bad:Bool} {n m:Int} {w w':World} (h:bad=false) (hn:n=m) (hb:Below w.heap.size w w'):TruthPost bad n w (.returned (.tuple #[.agg #[.int .u8 (Lp.bkK m),.int .i64 0,.string ⟨#[]⟩,.bool (Lp.bkB m)],.int .i64 0])) w':=by
 subst h hn;exact ⟨rfl,hb⟩
attribute [local go_sem] ta_i_i ta_i_s ta_i_b ta1_i ta_s_i ta_s_s ta_s_b ta1_s ta_b_i ta_b_s ta_b_b ta1_b ta_n_i ta_n_s ta_n_b
def RdsV (w:World) (A:Option Addr) (l:List Lp.V):Prop:=Rds w A (Lp.vv l)
theorem RdsV.cells {w:World} {A:Option Addr} {l:List Lp.V} (h:RdsV w A l) {i:Nat} (hi:i<l.length):∃ b off,A=some ⟨b,off,none⟩ ∧
 w.cell? ⟨b,off+i*4,none⟩=some (.int .u8 l[i].k)∧w.cell? ⟨b,off+i*4+1,none⟩=some (.int .i64 l[i].i)∧w.cell? ⟨b,off+i*4+2,none⟩=some (.string l[i].s)∧w.cell? ⟨b,off+i*4+3,none⟩=some (.bool l[i].b):=by
 rcases h with h0|⟨b,off,rfl,hc⟩
 ·have:=Lp.vv_length l;rw [h0] at this;simp at this;omega
 ·refine ⟨b,off,rfl, ?_, ?_, ?_, ?_⟩
  ·exact hc (i*4) _ (Lp.vv_at hi (j:=0) (by omega))
  ·have:=hc (i*4+1) _ (Lp.vv_at hi (j:=1) (by omega));rw [←Nat.add_assoc] at this;exact this
  ·have:=hc (i*4+2) _ (Lp.vv_at hi (j:=2) (by omega));rw [←Nat.add_assoc] at this;exact this
  ·have:=hc (i*4+3) _ (Lp.vv_at hi (j:=3) (by omega));rw [←Nat.add_assoc] at this;exact this
def Lp.tr (v:Lp.V):Bool := !Lp.isK v.k||v.k==3
theorem tr_take {l:List Lp.V} {i:Nat} {v:Lp.V} (h:i<l.length) (hv:l[i]=v) (ha:(l.take i).all Lp.tr=true) (hr:Lp.tr v=true):(l.take (i+1)).all Lp.tr=true:=by
 rw [List.take_succ_eq_append_getElem h,hv];simp [ha,hr]
theorem tr_no {l:List Lp.V} {i:Nat} {v:Lp.V} (h:i<l.length) (hv:l[i]=v) (hr:Lp.tr v=false):l.all Lp.tr=false:=by
 rw [List.all_eq_false];exact ⟨l[i],List.getElem_mem h,by rw [hv,hr];simp⟩
theorem truths_any (A:Option Addr) (n c:Nat) (l:List Lp.V) (hnl:n=l.length) (w:World) (h:RdsV w A l) (hn:l.length≤1073741824) :
 Calls Tryz.prog 124 #[.slice A n c] w fun e w'=>e=.returned (.bool (l.all Lp.tr))∧Below w.heap.size w w':=by
 subst hnl
 go_enter Tryz.func124,Tryz.ntmps124
 go_wp2_with fail
 go_loopg [4,5,6,9] (l.length+1) (fun gk _ _ _ s9 wr=>∃ (i:Nat),i≤l.length∧gk=l.length+1-i∧s9=.int .i64 i∧Below w.heap.size w wr∧Hid ((l.take i).all Lp.tr=true))
 case atStart=>exact ⟨0,by omega,by omega,rfl,Below.refl _ _,by rfl⟩
 case round =>
  obtain ⟨i,hle,rfl,rfl,hbw,HA⟩:=hrel
  have hsz:=hbw.size
  by_cases hi:i<l.length
  ·obtain ⟨b,off,rfl,q0,q1,q2,q3⟩:=RdsV.cells (Rds.below h hbw) hi
   generalize hvi:l[i]=v at *
   obtain ⟨k,vi,s,vb⟩:=v
   simp only at q0 q1 q2 q3
   have HV:=κ hvi
   clear hvi
   rcases kcases k with rfl|rfl|rfl|hk
   ·have HF:=κ (tr_no hi HV.out rfl)
    go_wp2_with fail
    refine (openb_1 _ _ _ _).mono ?_
    rintro e w1 ⟨rfl,hb1⟩
    have k1:=(hbw.alloc hsz _).trans (hb1.mono (by simp;omega))
    have hc1:=β (box_below (heap_alloc_new wr _) hb1)
    clear hb1 hbw
    go_wp2_with fail
    refine (openb_1 _ _ _ _).mono ?_
    rintro e w2 ⟨rfl,hb2⟩
    have k2:=k1.trans (hb2.mono k1.size)
    go_wp2
    go_ret
    exact ⟨by rw [HF.out];rfl,k2⟩
   ·have HF:=κ (tr_no hi HV.out rfl)
    go_wp2_with fail
    refine (openb_2 _ _ _ _).mono ?_
    rintro e w1 ⟨rfl,hb1⟩
    have k1:=(hbw.alloc hsz _).trans (hb1.mono (by simp;omega))
    have hc1:=β (box_below (heap_alloc_new wr _) hb1)
    clear hb1 hbw
    go_wp2_with fail
    refine (openb_2 _ _ _ _).mono ?_
    rintro e w2 ⟨rfl,hb2⟩
    have k2:=k1.trans (hb2.mono k1.size)
    go_wp2
    go_ret
    exact ⟨by rw [HF.out];rfl,k2⟩
   ·have HA2:=κ (tr_take hi HV.out HA.out rfl)
    go_wp2_with fail
    refine (openb_3 _ _ _ _).mono ?_
    rintro e w1 ⟨rfl,hb1⟩
    have k1:=(hbw.alloc hsz _).trans (hb1.mono (by simp;omega))
    clear hb1 hbw HA
    go_wp2
    go_roundg (l.length+1-(i+1))
    case measure=>omega
    case rel=>exact ⟨i+1,by omega,rfl,by go_num,k1,HA2⟩
   ·have HA2:=κ (tr_take hi HV.out HA.out (by simp [Lp.tr,Lp.isK,hk.1,hk.2.1,hk.2.2]))
    go_wp2_with fail
    refine (openb_n _ _ _ _ hk _).mono ?_
    rintro e w1 ⟨rfl,hb1⟩
    have k1:=(hbw.alloc hsz _).trans (hb1.mono (by simp;omega))
    have hc1:=β (box_below (heap_alloc_new wr _) hb1)
    clear hb1 hbw HA
    go_wp2_with fail
    refine (openb_n _ _ _ _ hk _).mono ?_
    rintro e w2 ⟨rfl,hb2⟩
    have k2:=k1.trans (hb2.mono k1.size)
    clear hb2 k1
    go_wp2
    go_roundg (l.length+1-(i+1))
    case measure=>omega
    case rel=>exact ⟨i+1,by omega,rfl,by go_num,k2,HA2⟩
  ·have hi2:i=l.length:=by omega
   subst hi2
   have HT:Hid (l.all Lp.tr=true):=by have:=HA.out;rw [List.take_length] at this;exact this
   clear HA
   go_wp2
   go_ret
   exact ⟨by rw [HT.out];rfl,hbw⟩
attribute [local go_sem] ta_i_i ta_i_s ta_i_b ta1_i ta_s_i ta_s_s ta_s_b ta1_s ta_b_i ta_b_s ta_b_b ta1_b ta_n_i ta_n_s ta_n_b
theorem truths_two (u v:Lp.V) (r:Bool) (hr:[u,v].all Lp.tr=r) (A:Option Addr) (n c:Nat) (hn:n=2) (w:World) (h:Rds w A (Lp.vv [u,v])) :
 Calls Tryz.prog 124 #[.slice A n c] w fun e w'=>e=.returned (.bool r)∧Below w.heap.size w w':=by
 subst hr;exact truths_any A n c [u,v] hn w h (by simp)
theorem truths_one (u:Lp.V) (r:Bool) (hr:[u].all Lp.tr=r) (A:Option Addr) (n c:Nat) (hn:n=1) (w:World) (h:Rds w A (Lp.vv [u])) :
 Calls Tryz.prog 124 #[.slice A n c] w fun e w'=>e=.returned (.bool r)∧Below w.heap.size w w':=by
 subst hr;exact truths_any A n c [u] hn w h (by simp)
theorem truthb (b:Bool) (w:World):Calls Tryz.prog 126 #[.iface 4 (.bool b)] w fun e w'=>e=.returned (.agg #[.int .u8 3,.int .i64 0,.string ⟨#[]⟩,.bool b])∧Below w.heap.size w w' :=
 (truth_b b w).mono fun _ _ ⟨h1,h2⟩=>⟨h1,h2▸(Below.refl _ _).alloc (Nat.le_refl _) _⟩
def Lp.tw (k:Int) (b:Bool):Int:=if k=3 then (if b then 2 else 0) else if k=1∨k=2 then -1 else 1
theorem tv_n {k:Int} (b:Bool) (h:NoK k):Lp.tw k b=1:=by
 have h1:=beq_eq_false_iff_ne.1 h.1
 have h2:=beq_eq_false_iff_ne.1 h.2.1
 have h3:=beq_eq_false_iff_ne.1 h.2.2
 unfold Lp.tw;rw [if_neg h3,if_neg (by rintro (g|g);exact h1 g;exact h2 g)]
theorem tr_n {k i:Int} {s:ByteArray} {b:Bool} (h:NoK k):Lp.tr ⟨k,i,s,b⟩=true:=by simp [Lp.tr,Lp.isK,h.1,h.2.1,h.2.2]
theorem tr_tv (v:Lp.V):Lp.tr v = !decide (Lp.tw v.k v.b<0):=by
 obtain ⟨k,i,s,b⟩:=v
 rcases kcases k with rfl|rfl|rfl|h
 ·rfl
 ·rfl
 ·cases b<;>rfl
 ·rw [tr_n h,tv_n b h];rfl
def Lp.badT (u v:Lp.V):Bool:=decide (Lp.tw u.k u.b<0)||decide (Lp.tw v.k v.b<0)
theorem two_tr (u v:Lp.V):[u,v].all Lp.tr = !Lp.badT u v:=by simp [tr_tv,Lp.badT]
def Lp.joinN (u v:Lp.V) (st:Bool):Int:=if st then max (Lp.tw u.k u.b) (Lp.tw v.k v.b) else min (Lp.tw u.k u.b) (Lp.tw v.k v.b)
theorem join_mem (k i:Int) (s:ByteArray) (b:Bool) (k' i':Int) (s':ByteArray) (b':Bool) (w:World):∀ V,V=((((w.alloc (.cells #[.int .u8 k,.int .i64 i,.string s,.bool b] 31)).alloc (.cells #[.int .u8 k',.int .i64 i',.string s',.bool b'] 31)).alloc (.cells #[.int .u8 0,.int .i64 0,.string ⟨#[]⟩,.bool false] 31)).alloc (.cells #[.int .u8 k,.int .i64 i,.string s,.bool b,.int .u8 k',.int .i64 i',.string s',.bool b'] 31))→Below w.heap.size w V∧w.heap.size+1+1+1≤V.heap.size∧TwoBox w.heap.size k i s b k' i' s' b' V∧V.heap[w.heap.size+1+1]? = some (.cells #[.int .u8 0,.int .i64 0,.string ⟨#[]⟩,.bool false] 31 (0,0))∧Rds V (some ⟨w.heap.size+1+1+1,0,none⟩) (Lp.vv [⟨k,i,s,b⟩,⟨k',i',s',b'⟩]):=by
 rintro V rfl
 refine ⟨ba (ba (ba (ba (Below.refl w.heap.size w) _) _) _) _,by simp,((TwoBox.new w k i s b k' i' s' b' 31 31).below ((Below.refl _ _).alloc (Nat.le_refl _) _)).below ((Below.refl _ _).alloc (Nat.le_refl _) _), ?_, ?_⟩
 ·refine box_alloc ?_ _
  have:=heap_alloc_new ((w.alloc (.cells #[.int .u8 k,.int .i64 i,.string s,.bool b] 31)).alloc (.cells #[.int .u8 k',.int .i64 i',.string s',.bool b'] 31)) (.cells #[.int .u8 0,.int .i64 0,.string ⟨#[]⟩,.bool false] 31)
  simpa using this
 ·have e:(((w.alloc (.cells #[.int .u8 k,.int .i64 i,.string s,.bool b] 31)).alloc (.cells #[.int .u8 k',.int .i64 i',.string s',.bool b'] 31)).alloc (.cells #[.int .u8 0,.int .i64 0,.string ⟨#[]⟩,.bool false] 31)).heap.size=w.heap.size+1+1+1:=by simp
  have:=rds_new (((w.alloc (.cells #[.int .u8 k,.int .i64 i,.string s,.bool b] 31)).alloc (.cells #[.int .u8 k',.int .i64 i',.string s',.bool b'] 31)).alloc (.cells #[.int .u8 0,.int .i64 0,.string ⟨#[]⟩,.bool false] 31)) [.int .u8 k,.int .i64 i,.string s,.bool b,.int .u8 k',.int .i64 i',.string s',.bool b'] 31
  rw [e] at this;exact this
theorem join_bad (k i:Int) (s:ByteArray) (b:Bool) (k' i':Int) (s':ByteArray) (b' st:Bool) (w:World) (hb:Lp.badT ⟨k,i,s,b⟩ ⟨k',i',s',b'⟩=true) :
 Calls Tryz.prog 127 #[.agg #[.int .u8 k,.int .i64 i,.string s,.bool b],.agg #[.int .u8 k',.int .i64 i',.string s',.bool b'],.bool st] w (TruthPost (Lp.badT ⟨k,i,s,b⟩ ⟨k',i',s',b'⟩) (Lp.joinN ⟨k,i,s,b⟩ ⟨k',i',s',b'⟩ st) w):=by
 have ht:[⟨k,i,s,b⟩,⟨k',i',s',b'⟩].all Lp.tr=false:=by rw [two_tr,hb];rfl
 have HT:=κ ht
 have H:=κ hb
 obtain ⟨hb0, -, -,hr0,hrd⟩:=join_mem k i s b k' i' s' b' w _ rfl
 clear ht hb
 go_enter Tryz.func127,Tryz.ntmps127
 go_wp2_with fail
 refine (truths_two _ _ _ HT.out _ _ _ rfl _ hrd).mono ?_
 rintro e w1 ⟨rfl,hb1⟩
 have hr1:=box_below hr0 hb1
 have k1:Below w.heap.size w w1:=hb0.trans (hb1.mono (by simp;omega))
 have hc1:=β hr1
 have hf1:=fun j=>frozen_of_row w1 (w.heap.size+1+1) j _ _ hr1
 have HCE:=κ (β (set4_same hr1 (.int .u8 0) (.int .i64 0) (.string ⟨#[]⟩) (.bool false)))
 have k5:=below_set4 k1 (g:=w.heap.size+1+1) (by omega) (.int .u8 0) (.int .i64 0) (.string ⟨#[]⟩) (.bool false)
 clear hb0 hb1 hr0 hrd
 go_wp2
 have hcE:=HCE.out
 exact bodyPost_ret (v:=.tuple #[.agg #[.int .u8 0,.int .i64 0,.string ⟨#[]⟩,.bool false],.int .i64 8]) (by simp [results,Tryz.results127,go_sem,hcE]) rfl (truth_bad H.out k5)
attribute [local go_sem] ta_i_i ta_i_s ta_i_b ta1_i ta_s_i ta_s_s ta_s_b ta1_s ta_b_i ta_b_s ta_b_b ta1_b ta_n_i ta_n_s ta_n_b
theorem join_tt_false (i:Int) (s:ByteArray) (i':Int) (s':ByteArray) (w:World) :
 Calls Tryz.prog 127 #[.agg #[.int .u8 3,.int .i64 i,.string s,.bool true],.agg #[.int .u8 3,.int .i64 i',.string s',.bool true],.bool false] w (TruthPost (Lp.badT ⟨3,i,s,true⟩ ⟨3,i',s',true⟩) (Lp.joinN ⟨3,i,s,true⟩ ⟨3,i',s',true⟩ false) w):=by
 have H:Hid (Lp.badT ⟨3,i,s,true⟩ ⟨3,i',s',true⟩=false):=κ (by unfold Lp.badT;rfl)
 have HN:Hid (Lp.joinN ⟨3,i,s,true⟩ ⟨3,i',s',true⟩ false=2):=κ (by unfold Lp.joinN;rfl)
 have ht:[⟨3,i,s,true⟩,⟨3,i',s',true⟩].all Lp.tr=true:=by rw [two_tr,H.out];rfl
 have HT:=κ ht
 obtain ⟨hb0, -,hx0,hr0,hrd⟩:=join_mem 3 i s true 3 i' s' true w _ rfl
 clear ht
 go_enter Tryz.func127,Tryz.ntmps127
 go_wp2_with fail
 refine (truths_two _ _ _ HT.out _ _ _ rfl _ hrd).mono ?_
 rintro e w1 ⟨rfl,hb1⟩
 have hr1:=box_below hr0 hb1
 have hx1:=hx0.below hb1
 have hx1':=hx1
 have k1:Below w.heap.size w w1:=hb0.trans (hb1.mono (by simp;omega))
 clear hb0 hb1 hr0 hx0 hrd
 obtain ⟨f0,f1,f2,f3,f4,f5,f6,f7⟩:=hx1
 go_wp2_with fail
 refine (openb_3 _ _ _ _).mono ?_
 rintro e w2 ⟨rfl,hb2⟩
 have hr2:=box_below hr1 hb2
 have hx2:=hx1'.below hb2
 have k2:=k1.trans (hb2.mono k1.size)
 clear hb2 hr1 k1 hx1' f0 f1 f2 f3 f4 f5 f6 f7
 obtain ⟨f0,f1,f2,f3,f4,f5,f6,f7⟩:=hx2
 go_wp2_with fail
 refine (openb_3 _ _ _ _).mono ?_
 rintro e w3 ⟨rfl,hb3⟩
 have hr3:=box_below hr2 hb3
 have k3:=k2.trans (hb3.mono k2.size)
 have hc3:=β hr3
 have hf3:=fun j=>frozen_of_row w3 (w.heap.size+1+1) j _ _ hr3
 clear hb3 hr2 k2 f0 f1 f2 f3 f4 f5 f6 f7
 clear hc3 hf3
 go_wp2_with fail
 refine (truthb _ _).mono ?_
 rintro e w4 ⟨rfl,hb4⟩
 have hr4:=box_below hr3 hb4
 have k4:=k3.trans (hb4.mono k3.size)
 have hc4:=β hr4
 have hf4:=fun j=>frozen_of_row w4 (w.heap.size+1+1) j _ _ hr4
 have HCE:=κ (β (set4_same hr4 (.int .u8 3) (.int .i64 0) (.string ⟨#[]⟩) (.bool true)))
 have k5:=below_set4 k4 (g:=w.heap.size+1+1) (by omega) (.int .u8 3) (.int .i64 0) (.string ⟨#[]⟩) (.bool true)
 clear hb4 hr3 k3
 go_wp2
 have hcE:=HCE.out
 exact bodyPost_ret (v:=.tuple #[.agg #[.int .u8 3,.int .i64 0,.string ⟨#[]⟩,.bool true],.int .i64 0]) (by simp [results,Tryz.results127,go_sem,hcE]) rfl (truth_good H.out HN.out k5)
theorem join_tf_false (i:Int) (s:ByteArray) (i':Int) (s':ByteArray) (w:World) :
 Calls Tryz.prog 127 #[.agg #[.int .u8 3,.int .i64 i,.string s,.bool true],.agg #[.int .u8 3,.int .i64 i',.string s',.bool false],.bool false] w (TruthPost (Lp.badT ⟨3,i,s,true⟩ ⟨3,i',s',false⟩) (Lp.joinN ⟨3,i,s,true⟩ ⟨3,i',s',false⟩ false) w):=by
 have H:Hid (Lp.badT ⟨3,i,s,true⟩ ⟨3,i',s',false⟩=false):=κ (by unfold Lp.badT;rfl)
 have HN:Hid (Lp.joinN ⟨3,i,s,true⟩ ⟨3,i',s',false⟩ false=0):=κ (by unfold Lp.joinN;rfl)
 have ht:[⟨3,i,s,true⟩,⟨3,i',s',false⟩].all Lp.tr=true:=by rw [two_tr,H.out];rfl
 have HT:=κ ht
 obtain ⟨hb0, -,hx0,hr0,hrd⟩:=join_mem 3 i s true 3 i' s' false w _ rfl
 clear ht
 go_enter Tryz.func127,Tryz.ntmps127
 go_wp2_with fail
 refine (truths_two _ _ _ HT.out _ _ _ rfl _ hrd).mono ?_
 rintro e w1 ⟨rfl,hb1⟩
 have hr1:=box_below hr0 hb1
 have hx1:=hx0.below hb1
 have hx1':=hx1
 have k1:Below w.heap.size w w1:=hb0.trans (hb1.mono (by simp;omega))
 clear hb0 hb1 hr0 hx0 hrd
 obtain ⟨f0,f1,f2,f3,f4,f5,f6,f7⟩:=hx1
 go_wp2_with fail
 refine (openb_3 _ _ _ _).mono ?_
 rintro e w2 ⟨rfl,hb2⟩
 have hr2:=box_below hr1 hb2
 have hx2:=hx1'.below hb2
 have k2:=k1.trans (hb2.mono k1.size)
 clear hb2 hr1 k1 hx1' f0 f1 f2 f3 f4 f5 f6 f7
 obtain ⟨f0,f1,f2,f3,f4,f5,f6,f7⟩:=hx2
 go_wp2_with fail
 refine (openb_3 _ _ _ _).mono ?_
 rintro e w3 ⟨rfl,hb3⟩
 have hr3:=box_below hr2 hb3
 have k3:=k2.trans (hb3.mono k2.size)
 have hc3:=β hr3
 have hf3:=fun j=>frozen_of_row w3 (w.heap.size+1+1) j _ _ hr3
 clear hb3 hr2 k2 f0 f1 f2 f3 f4 f5 f6 f7
 clear hc3 hf3
 go_wp2_with fail
 refine (truthb _ _).mono ?_
 rintro e w4 ⟨rfl,hb4⟩
 have hr4:=box_below hr3 hb4
 have k4:=k3.trans (hb4.mono k3.size)
 have hc4:=β hr4
 have hf4:=fun j=>frozen_of_row w4 (w.heap.size+1+1) j _ _ hr4
 have HCE:=κ (β (set4_same hr4 (.int .u8 3) (.int .i64 0) (.string ⟨#[]⟩) (.bool false)))
 have k5:=below_set4 k4 (g:=w.heap.size+1+1) (by omega) (.int .u8 3) (.int .i64 0) (.string ⟨#[]⟩) (.bool false)
 clear hb4 hr3 k3
 go_wp2
 have hcE:=HCE.out
 exact bodyPost_ret (v:=.tuple #[.agg #[.int .u8 3,.int .i64 0,.string ⟨#[]⟩,.bool false],.int .i64 0]) (by simp [results,Tryz.results127,go_sem,hcE]) rfl (truth_good H.out HN.out k5)
theorem join_tn_false (i:Int) (s:ByteArray) (k':Int) (i':Int) (s':ByteArray) (b':Bool) (hk':NoK k') (w:World) :
 Calls Tryz.prog 127 #[.agg #[.int .u8 3,.int .i64 i,.string s,.bool true],.agg #[.int .u8 k',.int .i64 i',.string s',.bool b'],.bool false] w (TruthPost (Lp.badT ⟨3,i,s,true⟩ ⟨k',i',s',b'⟩) (Lp.joinN ⟨3,i,s,true⟩ ⟨k',i',s',b'⟩ false) w):=by
 have H:Hid (Lp.badT ⟨3,i,s,true⟩ ⟨k',i',s',b'⟩=false):=κ (by unfold Lp.badT;rw [tv_n b' hk'];rfl)
 have HN:Hid (Lp.joinN ⟨3,i,s,true⟩ ⟨k',i',s',b'⟩ false=1):=κ (by unfold Lp.joinN;rw [tv_n b' hk'];rfl)
 have ht:[⟨3,i,s,true⟩,⟨k',i',s',b'⟩].all Lp.tr=true:=by rw [two_tr,H.out];rfl
 have HT:=κ ht
 obtain ⟨hb0, -,hx0,hr0,hrd⟩:=join_mem 3 i s true k' i' s' b' w _ rfl
 clear ht
 go_enter Tryz.func127,Tryz.ntmps127
 go_wp2_with fail
 refine (truths_two _ _ _ HT.out _ _ _ rfl _ hrd).mono ?_
 rintro e w1 ⟨rfl,hb1⟩
 have hr1:=box_below hr0 hb1
 have hx1:=hx0.below hb1
 have hx1':=hx1
 have k1:Below w.heap.size w w1:=hb0.trans (hb1.mono (by simp;omega))
 clear hb0 hb1 hr0 hx0 hrd
 obtain ⟨f0,f1,f2,f3,f4,f5,f6,f7⟩:=hx1
 go_wp2_with fail
 refine (openb_3 _ _ _ _).mono ?_
 rintro e w2 ⟨rfl,hb2⟩
 have hr2:=box_below hr1 hb2
 have hx2:=hx1'.below hb2
 have k2:=k1.trans (hb2.mono k1.size)
 clear hb2 hr1 k1 hx1' f0 f1 f2 f3 f4 f5 f6 f7
 obtain ⟨f0,f1,f2,f3,f4,f5,f6,f7⟩:=hx2
 go_wp2_with fail
 refine (openb_n _ _ _ _ hk' _).mono ?_
 rintro e w3 ⟨rfl,hb3⟩
 have hr3:=box_below hr2 hb3
 have k3:=k2.trans (hb3.mono k2.size)
 have hc3:=β hr3
 have hf3:=fun j=>frozen_of_row w3 (w.heap.size+1+1) j _ _ hr3
 clear hb3 hr2 k2 f0 f1 f2 f3 f4 f5 f6 f7
 have HCE:=κ (β (set4_same hr3 (.int .u8 0) (.int .i64 0) (.string ⟨#[]⟩) (.bool false)))
 have k5:=below_set4 k3 (g:=w.heap.size+1+1) (by omega) (.int .u8 0) (.int .i64 0) (.string ⟨#[]⟩) (.bool false)
 go_wp2
 have hcE:=HCE.out
 exact bodyPost_ret (v:=.tuple #[.agg #[.int .u8 0,.int .i64 0,.string ⟨#[]⟩,.bool false],.int .i64 0]) (by simp [results,Tryz.results127,go_sem,hcE]) rfl (truth_good H.out HN.out k5)
theorem join_ft_false (i:Int) (s:ByteArray) (i':Int) (s':ByteArray) (w:World) :
 Calls Tryz.prog 127 #[.agg #[.int .u8 3,.int .i64 i,.string s,.bool false],.agg #[.int .u8 3,.int .i64 i',.string s',.bool true],.bool false] w (TruthPost (Lp.badT ⟨3,i,s,false⟩ ⟨3,i',s',true⟩) (Lp.joinN ⟨3,i,s,false⟩ ⟨3,i',s',true⟩ false) w):=by
 have H:Hid (Lp.badT ⟨3,i,s,false⟩ ⟨3,i',s',true⟩=false):=κ (by unfold Lp.badT;rfl)
 have HN:Hid (Lp.joinN ⟨3,i,s,false⟩ ⟨3,i',s',true⟩ false=0):=κ (by unfold Lp.joinN;rfl)
 have ht:[⟨3,i,s,false⟩,⟨3,i',s',true⟩].all Lp.tr=true:=by rw [two_tr,H.out];rfl
 have HT:=κ ht
 obtain ⟨hb0, -,hx0,hr0,hrd⟩:=join_mem 3 i s false 3 i' s' true w _ rfl
 clear ht
 go_enter Tryz.func127,Tryz.ntmps127
 go_wp2_with fail
 refine (truths_two _ _ _ HT.out _ _ _ rfl _ hrd).mono ?_
 rintro e w1 ⟨rfl,hb1⟩
 have hr1:=box_below hr0 hb1
 have hx1:=hx0.below hb1
 have hx1':=hx1
 have k1:Below w.heap.size w w1:=hb0.trans (hb1.mono (by simp;omega))
 clear hb0 hb1 hr0 hx0 hrd
 obtain ⟨f0,f1,f2,f3,f4,f5,f6,f7⟩:=hx1
 go_wp2_with fail
 refine (openb_3 _ _ _ _).mono ?_
 rintro e w2 ⟨rfl,hb2⟩
 have hr2:=box_below hr1 hb2
 have hx2:=hx1'.below hb2
 have k2:=k1.trans (hb2.mono k1.size)
 clear hb2 hr1 k1 hx1' f0 f1 f2 f3 f4 f5 f6 f7
 obtain ⟨f0,f1,f2,f3,f4,f5,f6,f7⟩:=hx2
 go_wp2_with fail
 refine (openb_3 _ _ _ _).mono ?_
 rintro e w3 ⟨rfl,hb3⟩
 have hr3:=box_below hr2 hb3
 have k3:=k2.trans (hb3.mono k2.size)
 have hc3:=β hr3
 have hf3:=fun j=>frozen_of_row w3 (w.heap.size+1+1) j _ _ hr3
 clear hb3 hr2 k2 f0 f1 f2 f3 f4 f5 f6 f7
 clear hc3 hf3
 go_wp2_with fail
 refine (truthb _ _).mono ?_
 rintro e w4 ⟨rfl,hb4⟩
 have hr4:=box_below hr3 hb4
 have k4:=k3.trans (hb4.mono k3.size)
 have hc4:=β hr4
 have hf4:=fun j=>frozen_of_row w4 (w.heap.size+1+1) j _ _ hr4
 have HCE:=κ (β (set4_same hr4 (.int .u8 3) (.int .i64 0) (.string ⟨#[]⟩) (.bool false)))
 have k5:=below_set4 k4 (g:=w.heap.size+1+1) (by omega) (.int .u8 3) (.int .i64 0) (.string ⟨#[]⟩) (.bool false)
 clear hb4 hr3 k3
 go_wp2
 have hcE:=HCE.out
 exact bodyPost_ret (v:=.tuple #[.agg #[.int .u8 3,.int .i64 0,.string ⟨#[]⟩,.bool false],.int .i64 0]) (by simp [results,Tryz.results127,go_sem,hcE]) rfl (truth_good H.out HN.out k5)
theorem join_ff_false (i:Int) (s:ByteArray) (i':Int) (s':ByteArray) (w:World) :
 Calls Tryz.prog 127 #[.agg #[.int .u8 3,.int .i64 i,.string s,.bool false],.agg #[.int .u8 3,.int .i64 i',.string s',.bool false],.bool false] w (TruthPost (Lp.badT ⟨3,i,s,false⟩ ⟨3,i',s',false⟩) (Lp.joinN ⟨3,i,s,false⟩ ⟨3,i',s',false⟩ false) w):=by
 have H:Hid (Lp.badT ⟨3,i,s,false⟩ ⟨3,i',s',false⟩=false):=κ (by unfold Lp.badT;rfl)
 have HN:Hid (Lp.joinN ⟨3,i,s,false⟩ ⟨3,i',s',false⟩ false=0):=κ (by unfold Lp.joinN;rfl)
 have ht:[⟨3,i,s,false⟩,⟨3,i',s',false⟩].all Lp.tr=true:=by rw [two_tr,H.out];rfl
 have HT:=κ ht
 obtain ⟨hb0, -,hx0,hr0,hrd⟩:=join_mem 3 i s false 3 i' s' false w _ rfl
 clear ht
 go_enter Tryz.func127,Tryz.ntmps127
 go_wp2_with fail
 refine (truths_two _ _ _ HT.out _ _ _ rfl _ hrd).mono ?_
 rintro e w1 ⟨rfl,hb1⟩
 have hr1:=box_below hr0 hb1
 have hx1:=hx0.below hb1
 have hx1':=hx1
 have k1:Below w.heap.size w w1:=hb0.trans (hb1.mono (by simp;omega))
 clear hb0 hb1 hr0 hx0 hrd
 obtain ⟨f0,f1,f2,f3,f4,f5,f6,f7⟩:=hx1
 go_wp2_with fail
 refine (openb_3 _ _ _ _).mono ?_
 rintro e w2 ⟨rfl,hb2⟩
 have hr2:=box_below hr1 hb2
 have hx2:=hx1'.below hb2
 have k2:=k1.trans (hb2.mono k1.size)
 clear hb2 hr1 k1 hx1' f0 f1 f2 f3 f4 f5 f6 f7
 obtain ⟨f0,f1,f2,f3,f4,f5,f6,f7⟩:=hx2
 go_wp2_with fail
 refine (openb_3 _ _ _ _).mono ?_
 rintro e w3 ⟨rfl,hb3⟩
 have hr3:=box_below hr2 hb3
 have k3:=k2.trans (hb3.mono k2.size)
 have hc3:=β hr3
 have hf3:=fun j=>frozen_of_row w3 (w.heap.size+1+1) j _ _ hr3
 clear hb3 hr2 k2 f0 f1 f2 f3 f4 f5 f6 f7
 clear hc3 hf3
 go_wp2_with fail
 refine (truthb _ _).mono ?_
 rintro e w4 ⟨rfl,hb4⟩
 have hr4:=box_below hr3 hb4
 have k4:=k3.trans (hb4.mono k3.size)
 have hc4:=β hr4
 have hf4:=fun j=>frozen_of_row w4 (w.heap.size+1+1) j _ _ hr4
 have HCE:=κ (β (set4_same hr4 (.int .u8 3) (.int .i64 0) (.string ⟨#[]⟩) (.bool false)))
 have k5:=below_set4 k4 (g:=w.heap.size+1+1) (by omega) (.int .u8 3) (.int .i64 0) (.string ⟨#[]⟩) (.bool false)
 clear hb4 hr3 k3
 go_wp2
 have hcE:=HCE.out
 exact bodyPost_ret (v:=.tuple #[.agg #[.int .u8 3,.int .i64 0,.string ⟨#[]⟩,.bool false],.int .i64 0]) (by simp [results,Tryz.results127,go_sem,hcE]) rfl (truth_good H.out HN.out k5)
theorem join_fn_false (i:Int) (s:ByteArray) (k':Int) (i':Int) (s':ByteArray) (b':Bool) (hk':NoK k') (w:World) :
 Calls Tryz.prog 127 #[.agg #[.int .u8 3,.int .i64 i,.string s,.bool false],.agg #[.int .u8 k',.int .i64 i',.string s',.bool b'],.bool false] w (TruthPost (Lp.badT ⟨3,i,s,false⟩ ⟨k',i',s',b'⟩) (Lp.joinN ⟨3,i,s,false⟩ ⟨k',i',s',b'⟩ false) w):=by
 have H:Hid (Lp.badT ⟨3,i,s,false⟩ ⟨k',i',s',b'⟩=false):=κ (by unfold Lp.badT;rw [tv_n b' hk'];rfl)
 have HN:Hid (Lp.joinN ⟨3,i,s,false⟩ ⟨k',i',s',b'⟩ false=0):=κ (by unfold Lp.joinN;rw [tv_n b' hk'];rfl)
 have ht:[⟨3,i,s,false⟩,⟨k',i',s',b'⟩].all Lp.tr=true:=by rw [two_tr,H.out];rfl
 have HT:=κ ht
 obtain ⟨hb0, -,hx0,hr0,hrd⟩:=join_mem 3 i s false k' i' s' b' w _ rfl
 clear ht
 go_enter Tryz.func127,Tryz.ntmps127
 go_wp2_with fail
 refine (truths_two _ _ _ HT.out _ _ _ rfl _ hrd).mono ?_
 rintro e w1 ⟨rfl,hb1⟩
 have hr1:=box_below hr0 hb1
 have hx1:=hx0.below hb1
 have hx1':=hx1
 have k1:Below w.heap.size w w1:=hb0.trans (hb1.mono (by simp;omega))
 clear hb0 hb1 hr0 hx0 hrd
 obtain ⟨f0,f1,f2,f3,f4,f5,f6,f7⟩:=hx1
 go_wp2_with fail
 refine (openb_3 _ _ _ _).mono ?_
 rintro e w2 ⟨rfl,hb2⟩
 have hr2:=box_below hr1 hb2
 have hx2:=hx1'.below hb2
 have k2:=k1.trans (hb2.mono k1.size)
 clear hb2 hr1 k1 hx1' f0 f1 f2 f3 f4 f5 f6 f7
 obtain ⟨f0,f1,f2,f3,f4,f5,f6,f7⟩:=hx2
 go_wp2_with fail
 refine (openb_n _ _ _ _ hk' _).mono ?_
 rintro e w3 ⟨rfl,hb3⟩
 have hr3:=box_below hr2 hb3
 have k3:=k2.trans (hb3.mono k2.size)
 have hc3:=β hr3
 have hf3:=fun j=>frozen_of_row w3 (w.heap.size+1+1) j _ _ hr3
 clear hb3 hr2 k2 f0 f1 f2 f3 f4 f5 f6 f7
 clear hc3 hf3
 go_wp2_with fail
 refine (truthb _ _).mono ?_
 rintro e w4 ⟨rfl,hb4⟩
 have hr4:=box_below hr3 hb4
 have k4:=k3.trans (hb4.mono k3.size)
 have hc4:=β hr4
 have hf4:=fun j=>frozen_of_row w4 (w.heap.size+1+1) j _ _ hr4
 have HCE:=κ (β (set4_same hr4 (.int .u8 3) (.int .i64 0) (.string ⟨#[]⟩) (.bool false)))
 have k5:=below_set4 k4 (g:=w.heap.size+1+1) (by omega) (.int .u8 3) (.int .i64 0) (.string ⟨#[]⟩) (.bool false)
 clear hb4 hr3 k3
 go_wp2
 have hcE:=HCE.out
 exact bodyPost_ret (v:=.tuple #[.agg #[.int .u8 3,.int .i64 0,.string ⟨#[]⟩,.bool false],.int .i64 0]) (by simp [results,Tryz.results127,go_sem,hcE]) rfl (truth_good H.out HN.out k5)
theorem join_nt_false (k:Int) (i:Int) (s:ByteArray) (b:Bool) (hk:NoK k) (i':Int) (s':ByteArray) (w:World) :
 Calls Tryz.prog 127 #[.agg #[.int .u8 k,.int .i64 i,.string s,.bool b],.agg #[.int .u8 3,.int .i64 i',.string s',.bool true],.bool false] w (TruthPost (Lp.badT ⟨k,i,s,b⟩ ⟨3,i',s',true⟩) (Lp.joinN ⟨k,i,s,b⟩ ⟨3,i',s',true⟩ false) w):=by
 have H:Hid (Lp.badT ⟨k,i,s,b⟩ ⟨3,i',s',true⟩=false):=κ (by unfold Lp.badT;rw [tv_n b hk];rfl)
 have HN:Hid (Lp.joinN ⟨k,i,s,b⟩ ⟨3,i',s',true⟩ false=1):=κ (by unfold Lp.joinN;rw [tv_n b hk];rfl)
 have ht:[⟨k,i,s,b⟩,⟨3,i',s',true⟩].all Lp.tr=true:=by rw [two_tr,H.out];rfl
 have HT:=κ ht
 obtain ⟨hb0, -,hx0,hr0,hrd⟩:=join_mem k i s b 3 i' s' true w _ rfl
 clear ht
 go_enter Tryz.func127,Tryz.ntmps127
 go_wp2_with fail
 refine (truths_two _ _ _ HT.out _ _ _ rfl _ hrd).mono ?_
 rintro e w1 ⟨rfl,hb1⟩
 have hr1:=box_below hr0 hb1
 have hx1:=hx0.below hb1
 have hx1':=hx1
 have k1:Below w.heap.size w w1:=hb0.trans (hb1.mono (by simp;omega))
 clear hb0 hb1 hr0 hx0 hrd
 obtain ⟨f0,f1,f2,f3,f4,f5,f6,f7⟩:=hx1
 go_wp2_with fail
 refine (openb_n _ _ _ _ hk _).mono ?_
 rintro e w2 ⟨rfl,hb2⟩
 have hr2:=box_below hr1 hb2
 have hx2:=hx1'.below hb2
 have k2:=k1.trans (hb2.mono k1.size)
 clear hb2 hr1 k1 hx1' f0 f1 f2 f3 f4 f5 f6 f7
 obtain ⟨f0,f1,f2,f3,f4,f5,f6,f7⟩:=hx2
 go_wp2_with fail
 refine (openb_3 _ _ _ _).mono ?_
 rintro e w3 ⟨rfl,hb3⟩
 have hr3:=box_below hr2 hb3
 have k3:=k2.trans (hb3.mono k2.size)
 have hc3:=β hr3
 have hf3:=fun j=>frozen_of_row w3 (w.heap.size+1+1) j _ _ hr3
 clear hb3 hr2 k2 f0 f1 f2 f3 f4 f5 f6 f7
 have HCE:=κ (β (set4_same hr3 (.int .u8 0) (.int .i64 0) (.string ⟨#[]⟩) (.bool false)))
 have k5:=below_set4 k3 (g:=w.heap.size+1+1) (by omega) (.int .u8 0) (.int .i64 0) (.string ⟨#[]⟩) (.bool false)
 go_wp2
 have hcE:=HCE.out
 exact bodyPost_ret (v:=.tuple #[.agg #[.int .u8 0,.int .i64 0,.string ⟨#[]⟩,.bool false],.int .i64 0]) (by simp [results,Tryz.results127,go_sem,hcE]) rfl (truth_good H.out HN.out k5)
theorem join_nf_false (k:Int) (i:Int) (s:ByteArray) (b:Bool) (hk:NoK k) (i':Int) (s':ByteArray) (w:World) :
 Calls Tryz.prog 127 #[.agg #[.int .u8 k,.int .i64 i,.string s,.bool b],.agg #[.int .u8 3,.int .i64 i',.string s',.bool false],.bool false] w (TruthPost (Lp.badT ⟨k,i,s,b⟩ ⟨3,i',s',false⟩) (Lp.joinN ⟨k,i,s,b⟩ ⟨3,i',s',false⟩ false) w):=by
 have H:Hid (Lp.badT ⟨k,i,s,b⟩ ⟨3,i',s',false⟩=false):=κ (by unfold Lp.badT;rw [tv_n b hk];rfl)
 have HN:Hid (Lp.joinN ⟨k,i,s,b⟩ ⟨3,i',s',false⟩ false=0):=κ (by unfold Lp.joinN;rw [tv_n b hk];rfl)
 have ht:[⟨k,i,s,b⟩,⟨3,i',s',false⟩].all Lp.tr=true:=by rw [two_tr,H.out];rfl
 have HT:=κ ht
 obtain ⟨hb0, -,hx0,hr0,hrd⟩:=join_mem k i s b 3 i' s' false w _ rfl
 clear ht
 go_enter Tryz.func127,Tryz.ntmps127
 go_wp2_with fail
 refine (truths_two _ _ _ HT.out _ _ _ rfl _ hrd).mono ?_
 rintro e w1 ⟨rfl,hb1⟩
 have hr1:=box_below hr0 hb1
 have hx1:=hx0.below hb1
 have hx1':=hx1
 have k1:Below w.heap.size w w1:=hb0.trans (hb1.mono (by simp;omega))
 clear hb0 hb1 hr0 hx0 hrd
 obtain ⟨f0,f1,f2,f3,f4,f5,f6,f7⟩:=hx1
 go_wp2_with fail
 refine (openb_n _ _ _ _ hk _).mono ?_
 rintro e w2 ⟨rfl,hb2⟩
 have hr2:=box_below hr1 hb2
 have hx2:=hx1'.below hb2
 have k2:=k1.trans (hb2.mono k1.size)
 clear hb2 hr1 k1 hx1' f0 f1 f2 f3 f4 f5 f6 f7
 obtain ⟨f0,f1,f2,f3,f4,f5,f6,f7⟩:=hx2
 go_wp2_with fail
 refine (openb_3 _ _ _ _).mono ?_
 rintro e w3 ⟨rfl,hb3⟩
 have hr3:=box_below hr2 hb3
 have k3:=k2.trans (hb3.mono k2.size)
 have hc3:=β hr3
 have hf3:=fun j=>frozen_of_row w3 (w.heap.size+1+1) j _ _ hr3
 clear hb3 hr2 k2 f0 f1 f2 f3 f4 f5 f6 f7
 clear hc3 hf3
 go_wp2_with fail
 refine (truthb _ _).mono ?_
 rintro e w4 ⟨rfl,hb4⟩
 have hr4:=box_below hr3 hb4
 have k4:=k3.trans (hb4.mono k3.size)
 have hc4:=β hr4
 have hf4:=fun j=>frozen_of_row w4 (w.heap.size+1+1) j _ _ hr4
 have HCE:=κ (β (set4_same hr4 (.int .u8 3) (.int .i64 0) (.string ⟨#[]⟩) (.bool false)))
 have k5:=below_set4 k4 (g:=w.heap.size+1+1) (by omega) (.int .u8 3) (.int .i64 0) (.string ⟨#[]⟩) (.bool false)
 clear hb4 hr3 k3
 go_wp2
 have hcE:=HCE.out
 exact bodyPost_ret (v:=.tuple #[.agg #[.int .u8 3,.int .i64 0,.string ⟨#[]⟩,.bool false],.int .i64 0]) (by simp [results,Tryz.results127,go_sem,hcE]) rfl (truth_good H.out HN.out k5)
theorem join_nn_false (k:Int) (i:Int) (s:ByteArray) (b:Bool) (hk:NoK k) (k':Int) (i':Int) (s':ByteArray) (b':Bool) (hk':NoK k') (w:World) :
 Calls Tryz.prog 127 #[.agg #[.int .u8 k,.int .i64 i,.string s,.bool b],.agg #[.int .u8 k',.int .i64 i',.string s',.bool b'],.bool false] w (TruthPost (Lp.badT ⟨k,i,s,b⟩ ⟨k',i',s',b'⟩) (Lp.joinN ⟨k,i,s,b⟩ ⟨k',i',s',b'⟩ false) w):=by
 have H:Hid (Lp.badT ⟨k,i,s,b⟩ ⟨k',i',s',b'⟩=false):=κ (by unfold Lp.badT;rw [tv_n b hk,tv_n b' hk'];rfl)
 have HN:Hid (Lp.joinN ⟨k,i,s,b⟩ ⟨k',i',s',b'⟩ false=1):=κ (by unfold Lp.joinN;rw [tv_n b hk,tv_n b' hk'];rfl)
 have ht:[⟨k,i,s,b⟩,⟨k',i',s',b'⟩].all Lp.tr=true:=by rw [two_tr,H.out];rfl
 have HT:=κ ht
 obtain ⟨hb0, -,hx0,hr0,hrd⟩:=join_mem k i s b k' i' s' b' w _ rfl
 clear ht
 go_enter Tryz.func127,Tryz.ntmps127
 go_wp2_with fail
 refine (truths_two _ _ _ HT.out _ _ _ rfl _ hrd).mono ?_
 rintro e w1 ⟨rfl,hb1⟩
 have hr1:=box_below hr0 hb1
 have hx1:=hx0.below hb1
 have hx1':=hx1
 have k1:Below w.heap.size w w1:=hb0.trans (hb1.mono (by simp;omega))
 clear hb0 hb1 hr0 hx0 hrd
 obtain ⟨f0,f1,f2,f3,f4,f5,f6,f7⟩:=hx1
 go_wp2_with fail
 refine (openb_n _ _ _ _ hk _).mono ?_
 rintro e w2 ⟨rfl,hb2⟩
 have hr2:=box_below hr1 hb2
 have hx2:=hx1'.below hb2
 have k2:=k1.trans (hb2.mono k1.size)
 clear hb2 hr1 k1 hx1' f0 f1 f2 f3 f4 f5 f6 f7
 obtain ⟨f0,f1,f2,f3,f4,f5,f6,f7⟩:=hx2
 go_wp2_with fail
 refine (openb_n _ _ _ _ hk' _).mono ?_
 rintro e w3 ⟨rfl,hb3⟩
 have hr3:=box_below hr2 hb3
 have k3:=k2.trans (hb3.mono k2.size)
 have hc3:=β hr3
 have hf3:=fun j=>frozen_of_row w3 (w.heap.size+1+1) j _ _ hr3
 clear hb3 hr2 k2 f0 f1 f2 f3 f4 f5 f6 f7
 have HCE:=κ (β (set4_same hr3 (.int .u8 0) (.int .i64 0) (.string ⟨#[]⟩) (.bool false)))
 have k5:=below_set4 k3 (g:=w.heap.size+1+1) (by omega) (.int .u8 0) (.int .i64 0) (.string ⟨#[]⟩) (.bool false)
 go_wp2
 have hcE:=HCE.out
 exact bodyPost_ret (v:=.tuple #[.agg #[.int .u8 0,.int .i64 0,.string ⟨#[]⟩,.bool false],.int .i64 0]) (by simp [results,Tryz.results127,go_sem,hcE]) rfl (truth_good H.out HN.out k5)
theorem join_false (k i:Int) (s:ByteArray) (b:Bool) (k' i':Int) (s':ByteArray) (b':Bool) (w:World) :
 Calls Tryz.prog 127 #[.agg #[.int .u8 k,.int .i64 i,.string s,.bool b],.agg #[.int .u8 k',.int .i64 i',.string s',.bool b'],.bool false] w (TruthPost (Lp.badT ⟨k,i,s,b⟩ ⟨k',i',s',b'⟩) (Lp.joinN ⟨k,i,s,b⟩ ⟨k',i',s',b'⟩ false) w):=by
 rcases Bool.eq_false_or_eq_true (Lp.badT ⟨k,i,s,b⟩ ⟨k',i',s',b'⟩) with hbad|hbad
 ·exact join_bad k i s b k' i' s' b' false w hbad
 ·rcases kcases k with rfl|rfl|rfl|hk
  ·cases hbad
  ·cases hbad
  ·rcases kcases k' with rfl|rfl|rfl|hk'
   ·cases b<;>cases hbad
   ·cases b<;>cases hbad
   ·cases b<;>cases b'
    ·exact join_ff_false i s i' s' w
    ·exact join_ft_false i s i' s' w
    ·exact join_tf_false i s i' s' w
    ·exact join_tt_false i s i' s' w
   ·cases b
    ·exact join_fn_false i s k' i' s' b' hk' w
    ·exact join_tn_false i s k' i' s' b' hk' w
  ·rcases kcases k' with rfl|rfl|rfl|hk'
   ·unfold Lp.badT at hbad;rw [tv_n b hk] at hbad;cases hbad
   ·unfold Lp.badT at hbad;rw [tv_n b hk] at hbad;cases hbad
   ·cases b'
    ·exact join_nf_false k i s b hk i' s' w
    ·exact join_nt_false k i s b hk i' s' w
   ·exact join_nn_false k i s b hk k' i' s' b' hk' w
attribute [local go_sem] ta_i_i ta_i_s ta_i_b ta1_i ta_s_i ta_s_s ta_s_b ta1_s ta_b_i ta_b_s ta_b_b ta1_b ta_n_i ta_n_s ta_n_b
theorem join_tt_true (i:Int) (s:ByteArray) (i':Int) (s':ByteArray) (w:World) :
 Calls Tryz.prog 127 #[.agg #[.int .u8 3,.int .i64 i,.string s,.bool true],.agg #[.int .u8 3,.int .i64 i',.string s',.bool true],.bool true] w (TruthPost (Lp.badT ⟨3,i,s,true⟩ ⟨3,i',s',true⟩) (Lp.joinN ⟨3,i,s,true⟩ ⟨3,i',s',true⟩ true) w):=by
 have H:Hid (Lp.badT ⟨3,i,s,true⟩ ⟨3,i',s',true⟩=false):=κ (by unfold Lp.badT;rfl)
 have HN:Hid (Lp.joinN ⟨3,i,s,true⟩ ⟨3,i',s',true⟩ true=2):=κ (by unfold Lp.joinN;rfl)
 have ht:[⟨3,i,s,true⟩,⟨3,i',s',true⟩].all Lp.tr=true:=by rw [two_tr,H.out];rfl
 have HT:=κ ht
 obtain ⟨hb0, -,hx0,hr0,hrd⟩:=join_mem 3 i s true 3 i' s' true w _ rfl
 clear ht
 go_enter Tryz.func127,Tryz.ntmps127
 go_wp2_with fail
 refine (truths_two _ _ _ HT.out _ _ _ rfl _ hrd).mono ?_
 rintro e w1 ⟨rfl,hb1⟩
 have hr1:=box_below hr0 hb1
 have hx1:=hx0.below hb1
 have hx1':=hx1
 have k1:Below w.heap.size w w1:=hb0.trans (hb1.mono (by simp;omega))
 clear hb0 hb1 hr0 hx0 hrd
 obtain ⟨f0,f1,f2,f3,f4,f5,f6,f7⟩:=hx1
 go_wp2_with fail
 refine (openb_3 _ _ _ _).mono ?_
 rintro e w2 ⟨rfl,hb2⟩
 have hr2:=box_below hr1 hb2
 have hx2:=hx1'.below hb2
 have k2:=k1.trans (hb2.mono k1.size)
 clear hb2 hr1 k1 hx1' f0 f1 f2 f3 f4 f5 f6 f7
 obtain ⟨f0,f1,f2,f3,f4,f5,f6,f7⟩:=hx2
 go_wp2_with fail
 refine (openb_3 _ _ _ _).mono ?_
 rintro e w3 ⟨rfl,hb3⟩
 have hr3:=box_below hr2 hb3
 have k3:=k2.trans (hb3.mono k2.size)
 have hc3:=β hr3
 have hf3:=fun j=>frozen_of_row w3 (w.heap.size+1+1) j _ _ hr3
 clear hb3 hr2 k2 f0 f1 f2 f3 f4 f5 f6 f7
 clear hc3 hf3
 go_wp2_with fail
 refine (truthb _ _).mono ?_
 rintro e w4 ⟨rfl,hb4⟩
 have hr4:=box_below hr3 hb4
 have k4:=k3.trans (hb4.mono k3.size)
 have hc4:=β hr4
 have hf4:=fun j=>frozen_of_row w4 (w.heap.size+1+1) j _ _ hr4
 have HCE:=κ (β (set4_same hr4 (.int .u8 3) (.int .i64 0) (.string ⟨#[]⟩) (.bool true)))
 have k5:=below_set4 k4 (g:=w.heap.size+1+1) (by omega) (.int .u8 3) (.int .i64 0) (.string ⟨#[]⟩) (.bool true)
 clear hb4 hr3 k3
 go_wp2
 have hcE:=HCE.out
 exact bodyPost_ret (v:=.tuple #[.agg #[.int .u8 3,.int .i64 0,.string ⟨#[]⟩,.bool true],.int .i64 0]) (by simp [results,Tryz.results127,go_sem,hcE]) rfl (truth_good H.out HN.out k5)
theorem join_tf_true (i:Int) (s:ByteArray) (i':Int) (s':ByteArray) (w:World) :
 Calls Tryz.prog 127 #[.agg #[.int .u8 3,.int .i64 i,.string s,.bool true],.agg #[.int .u8 3,.int .i64 i',.string s',.bool false],.bool true] w (TruthPost (Lp.badT ⟨3,i,s,true⟩ ⟨3,i',s',false⟩) (Lp.joinN ⟨3,i,s,true⟩ ⟨3,i',s',false⟩ true) w):=by
 have H:Hid (Lp.badT ⟨3,i,s,true⟩ ⟨3,i',s',false⟩=false):=κ (by unfold Lp.badT;rfl)
 have HN:Hid (Lp.joinN ⟨3,i,s,true⟩ ⟨3,i',s',false⟩ true=2):=κ (by unfold Lp.joinN;rfl)
 have ht:[⟨3,i,s,true⟩,⟨3,i',s',false⟩].all Lp.tr=true:=by rw [two_tr,H.out];rfl
 have HT:=κ ht
 obtain ⟨hb0, -,hx0,hr0,hrd⟩:=join_mem 3 i s true 3 i' s' false w _ rfl
 clear ht
 go_enter Tryz.func127,Tryz.ntmps127
 go_wp2_with fail
 refine (truths_two _ _ _ HT.out _ _ _ rfl _ hrd).mono ?_
 rintro e w1 ⟨rfl,hb1⟩
 have hr1:=box_below hr0 hb1
 have hx1:=hx0.below hb1
 have hx1':=hx1
 have k1:Below w.heap.size w w1:=hb0.trans (hb1.mono (by simp;omega))
 clear hb0 hb1 hr0 hx0 hrd
 obtain ⟨f0,f1,f2,f3,f4,f5,f6,f7⟩:=hx1
 go_wp2_with fail
 refine (openb_3 _ _ _ _).mono ?_
 rintro e w2 ⟨rfl,hb2⟩
 have hr2:=box_below hr1 hb2
 have hx2:=hx1'.below hb2
 have k2:=k1.trans (hb2.mono k1.size)
 clear hb2 hr1 k1 hx1' f0 f1 f2 f3 f4 f5 f6 f7
 obtain ⟨f0,f1,f2,f3,f4,f5,f6,f7⟩:=hx2
 go_wp2_with fail
 refine (openb_3 _ _ _ _).mono ?_
 rintro e w3 ⟨rfl,hb3⟩
 have hr3:=box_below hr2 hb3
 have k3:=k2.trans (hb3.mono k2.size)
 have hc3:=β hr3
 have hf3:=fun j=>frozen_of_row w3 (w.heap.size+1+1) j _ _ hr3
 clear hb3 hr2 k2 f0 f1 f2 f3 f4 f5 f6 f7
 clear hc3 hf3
 go_wp2_with fail
 refine (truthb _ _).mono ?_
 rintro e w4 ⟨rfl,hb4⟩
 have hr4:=box_below hr3 hb4
 have k4:=k3.trans (hb4.mono k3.size)
 have hc4:=β hr4
 have hf4:=fun j=>frozen_of_row w4 (w.heap.size+1+1) j _ _ hr4
 have HCE:=κ (β (set4_same hr4 (.int .u8 3) (.int .i64 0) (.string ⟨#[]⟩) (.bool true)))
 have k5:=below_set4 k4 (g:=w.heap.size+1+1) (by omega) (.int .u8 3) (.int .i64 0) (.string ⟨#[]⟩) (.bool true)
 clear hb4 hr3 k3
 go_wp2
 have hcE:=HCE.out
 exact bodyPost_ret (v:=.tuple #[.agg #[.int .u8 3,.int .i64 0,.string ⟨#[]⟩,.bool true],.int .i64 0]) (by simp [results,Tryz.results127,go_sem,hcE]) rfl (truth_good H.out HN.out k5)
theorem join_tn_true (i:Int) (s:ByteArray) (k':Int) (i':Int) (s':ByteArray) (b':Bool) (hk':NoK k') (w:World) :
 Calls Tryz.prog 127 #[.agg #[.int .u8 3,.int .i64 i,.string s,.bool true],.agg #[.int .u8 k',.int .i64 i',.string s',.bool b'],.bool true] w (TruthPost (Lp.badT ⟨3,i,s,true⟩ ⟨k',i',s',b'⟩) (Lp.joinN ⟨3,i,s,true⟩ ⟨k',i',s',b'⟩ true) w):=by
 have H:Hid (Lp.badT ⟨3,i,s,true⟩ ⟨k',i',s',b'⟩=false):=κ (by unfold Lp.badT;rw [tv_n b' hk'];rfl)
 have HN:Hid (Lp.joinN ⟨3,i,s,true⟩ ⟨k',i',s',b'⟩ true=2):=κ (by unfold Lp.joinN;rw [tv_n b' hk'];rfl)
 have ht:[⟨3,i,s,true⟩,⟨k',i',s',b'⟩].all Lp.tr=true:=by rw [two_tr,H.out];rfl
 have HT:=κ ht
 obtain ⟨hb0, -,hx0,hr0,hrd⟩:=join_mem 3 i s true k' i' s' b' w _ rfl
 clear ht
 go_enter Tryz.func127,Tryz.ntmps127
 go_wp2_with fail
 refine (truths_two _ _ _ HT.out _ _ _ rfl _ hrd).mono ?_
 rintro e w1 ⟨rfl,hb1⟩
 have hr1:=box_below hr0 hb1
 have hx1:=hx0.below hb1
 have hx1':=hx1
 have k1:Below w.heap.size w w1:=hb0.trans (hb1.mono (by simp;omega))
 clear hb0 hb1 hr0 hx0 hrd
 obtain ⟨f0,f1,f2,f3,f4,f5,f6,f7⟩:=hx1
 go_wp2_with fail
 refine (openb_3 _ _ _ _).mono ?_
 rintro e w2 ⟨rfl,hb2⟩
 have hr2:=box_below hr1 hb2
 have hx2:=hx1'.below hb2
 have k2:=k1.trans (hb2.mono k1.size)
 clear hb2 hr1 k1 hx1' f0 f1 f2 f3 f4 f5 f6 f7
 obtain ⟨f0,f1,f2,f3,f4,f5,f6,f7⟩:=hx2
 go_wp2_with fail
 refine (openb_n _ _ _ _ hk' _).mono ?_
 rintro e w3 ⟨rfl,hb3⟩
 have hr3:=box_below hr2 hb3
 have k3:=k2.trans (hb3.mono k2.size)
 have hc3:=β hr3
 have hf3:=fun j=>frozen_of_row w3 (w.heap.size+1+1) j _ _ hr3
 clear hb3 hr2 k2 f0 f1 f2 f3 f4 f5 f6 f7
 clear hc3 hf3
 go_wp2_with fail
 refine (truthb _ _).mono ?_
 rintro e w4 ⟨rfl,hb4⟩
 have hr4:=box_below hr3 hb4
 have k4:=k3.trans (hb4.mono k3.size)
 have hc4:=β hr4
 have hf4:=fun j=>frozen_of_row w4 (w.heap.size+1+1) j _ _ hr4
 have HCE:=κ (β (set4_same hr4 (.int .u8 3) (.int .i64 0) (.string ⟨#[]⟩) (.bool true)))
 have k5:=below_set4 k4 (g:=w.heap.size+1+1) (by omega) (.int .u8 3) (.int .i64 0) (.string ⟨#[]⟩) (.bool true)
 clear hb4 hr3 k3
 go_wp2
 have hcE:=HCE.out
 exact bodyPost_ret (v:=.tuple #[.agg #[.int .u8 3,.int .i64 0,.string ⟨#[]⟩,.bool true],.int .i64 0]) (by simp [results,Tryz.results127,go_sem,hcE]) rfl (truth_good H.out HN.out k5)
theorem join_ft_true (i:Int) (s:ByteArray) (i':Int) (s':ByteArray) (w:World) :
 Calls Tryz.prog 127 #[.agg #[.int .u8 3,.int .i64 i,.string s,.bool false],.agg #[.int .u8 3,.int .i64 i',.string s',.bool true],.bool true] w (TruthPost (Lp.badT ⟨3,i,s,false⟩ ⟨3,i',s',true⟩) (Lp.joinN ⟨3,i,s,false⟩ ⟨3,i',s',true⟩ true) w):=by
 have H:Hid (Lp.badT ⟨3,i,s,false⟩ ⟨3,i',s',true⟩=false):=κ (by unfold Lp.badT;rfl)
 have HN:Hid (Lp.joinN ⟨3,i,s,false⟩ ⟨3,i',s',true⟩ true=2):=κ (by unfold Lp.joinN;rfl)
 have ht:[⟨3,i,s,false⟩,⟨3,i',s',true⟩].all Lp.tr=true:=by rw [two_tr,H.out];rfl
 have HT:=κ ht
 obtain ⟨hb0, -,hx0,hr0,hrd⟩:=join_mem 3 i s false 3 i' s' true w _ rfl
 clear ht
 go_enter Tryz.func127,Tryz.ntmps127
 go_wp2_with fail
 refine (truths_two _ _ _ HT.out _ _ _ rfl _ hrd).mono ?_
 rintro e w1 ⟨rfl,hb1⟩
 have hr1:=box_below hr0 hb1
 have hx1:=hx0.below hb1
 have hx1':=hx1
 have k1:Below w.heap.size w w1:=hb0.trans (hb1.mono (by simp;omega))
 clear hb0 hb1 hr0 hx0 hrd
 obtain ⟨f0,f1,f2,f3,f4,f5,f6,f7⟩:=hx1
 go_wp2_with fail
 refine (openb_3 _ _ _ _).mono ?_
 rintro e w2 ⟨rfl,hb2⟩
 have hr2:=box_below hr1 hb2
 have hx2:=hx1'.below hb2
 have k2:=k1.trans (hb2.mono k1.size)
 clear hb2 hr1 k1 hx1' f0 f1 f2 f3 f4 f5 f6 f7
 obtain ⟨f0,f1,f2,f3,f4,f5,f6,f7⟩:=hx2
 go_wp2_with fail
 refine (openb_3 _ _ _ _).mono ?_
 rintro e w3 ⟨rfl,hb3⟩
 have hr3:=box_below hr2 hb3
 have k3:=k2.trans (hb3.mono k2.size)
 have hc3:=β hr3
 have hf3:=fun j=>frozen_of_row w3 (w.heap.size+1+1) j _ _ hr3
 clear hb3 hr2 k2 f0 f1 f2 f3 f4 f5 f6 f7
 clear hc3 hf3
 go_wp2_with fail
 refine (truthb _ _).mono ?_
 rintro e w4 ⟨rfl,hb4⟩
 have hr4:=box_below hr3 hb4
 have k4:=k3.trans (hb4.mono k3.size)
 have hc4:=β hr4
 have hf4:=fun j=>frozen_of_row w4 (w.heap.size+1+1) j _ _ hr4
 have HCE:=κ (β (set4_same hr4 (.int .u8 3) (.int .i64 0) (.string ⟨#[]⟩) (.bool true)))
 have k5:=below_set4 k4 (g:=w.heap.size+1+1) (by omega) (.int .u8 3) (.int .i64 0) (.string ⟨#[]⟩) (.bool true)
 clear hb4 hr3 k3
 go_wp2
 have hcE:=HCE.out
 exact bodyPost_ret (v:=.tuple #[.agg #[.int .u8 3,.int .i64 0,.string ⟨#[]⟩,.bool true],.int .i64 0]) (by simp [results,Tryz.results127,go_sem,hcE]) rfl (truth_good H.out HN.out k5)
theorem join_ff_true (i:Int) (s:ByteArray) (i':Int) (s':ByteArray) (w:World) :
 Calls Tryz.prog 127 #[.agg #[.int .u8 3,.int .i64 i,.string s,.bool false],.agg #[.int .u8 3,.int .i64 i',.string s',.bool false],.bool true] w (TruthPost (Lp.badT ⟨3,i,s,false⟩ ⟨3,i',s',false⟩) (Lp.joinN ⟨3,i,s,false⟩ ⟨3,i',s',false⟩ true) w):=by
 have H:Hid (Lp.badT ⟨3,i,s,false⟩ ⟨3,i',s',false⟩=false):=κ (by unfold Lp.badT;rfl)
 have HN:Hid (Lp.joinN ⟨3,i,s,false⟩ ⟨3,i',s',false⟩ true=0):=κ (by unfold Lp.joinN;rfl)
 have ht:[⟨3,i,s,false⟩,⟨3,i',s',false⟩].all Lp.tr=true:=by rw [two_tr,H.out];rfl
 have HT:=κ ht
 obtain ⟨hb0, -,hx0,hr0,hrd⟩:=join_mem 3 i s false 3 i' s' false w _ rfl
 clear ht
 go_enter Tryz.func127,Tryz.ntmps127
 go_wp2_with fail
 refine (truths_two _ _ _ HT.out _ _ _ rfl _ hrd).mono ?_
 rintro e w1 ⟨rfl,hb1⟩
 have hr1:=box_below hr0 hb1
 have hx1:=hx0.below hb1
 have hx1':=hx1
 have k1:Below w.heap.size w w1:=hb0.trans (hb1.mono (by simp;omega))
 clear hb0 hb1 hr0 hx0 hrd
 obtain ⟨f0,f1,f2,f3,f4,f5,f6,f7⟩:=hx1
 go_wp2_with fail
 refine (openb_3 _ _ _ _).mono ?_
 rintro e w2 ⟨rfl,hb2⟩
 have hr2:=box_below hr1 hb2
 have hx2:=hx1'.below hb2
 have k2:=k1.trans (hb2.mono k1.size)
 clear hb2 hr1 k1 hx1' f0 f1 f2 f3 f4 f5 f6 f7
 obtain ⟨f0,f1,f2,f3,f4,f5,f6,f7⟩:=hx2
 go_wp2_with fail
 refine (openb_3 _ _ _ _).mono ?_
 rintro e w3 ⟨rfl,hb3⟩
 have hr3:=box_below hr2 hb3
 have k3:=k2.trans (hb3.mono k2.size)
 have hc3:=β hr3
 have hf3:=fun j=>frozen_of_row w3 (w.heap.size+1+1) j _ _ hr3
 clear hb3 hr2 k2 f0 f1 f2 f3 f4 f5 f6 f7
 clear hc3 hf3
 go_wp2_with fail
 refine (truthb _ _).mono ?_
 rintro e w4 ⟨rfl,hb4⟩
 have hr4:=box_below hr3 hb4
 have k4:=k3.trans (hb4.mono k3.size)
 have hc4:=β hr4
 have hf4:=fun j=>frozen_of_row w4 (w.heap.size+1+1) j _ _ hr4
 have HCE:=κ (β (set4_same hr4 (.int .u8 3) (.int .i64 0) (.string ⟨#[]⟩) (.bool false)))
 have k5:=below_set4 k4 (g:=w.heap.size+1+1) (by omega) (.int .u8 3) (.int .i64 0) (.string ⟨#[]⟩) (.bool false)
 clear hb4 hr3 k3
 go_wp2
 have hcE:=HCE.out
 exact bodyPost_ret (v:=.tuple #[.agg #[.int .u8 3,.int .i64 0,.string ⟨#[]⟩,.bool false],.int .i64 0]) (by simp [results,Tryz.results127,go_sem,hcE]) rfl (truth_good H.out HN.out k5)
theorem join_fn_true (i:Int) (s:ByteArray) (k':Int) (i':Int) (s':ByteArray) (b':Bool) (hk':NoK k') (w:World) :
 Calls Tryz.prog 127 #[.agg #[.int .u8 3,.int .i64 i,.string s,.bool false],.agg #[.int .u8 k',.int .i64 i',.string s',.bool b'],.bool true] w (TruthPost (Lp.badT ⟨3,i,s,false⟩ ⟨k',i',s',b'⟩) (Lp.joinN ⟨3,i,s,false⟩ ⟨k',i',s',b'⟩ true) w):=by
 have H:Hid (Lp.badT ⟨3,i,s,false⟩ ⟨k',i',s',b'⟩=false):=κ (by unfold Lp.badT;rw [tv_n b' hk'];rfl)
 have HN:Hid (Lp.joinN ⟨3,i,s,false⟩ ⟨k',i',s',b'⟩ true=1):=κ (by unfold Lp.joinN;rw [tv_n b' hk'];rfl)
 have ht:[⟨3,i,s,false⟩,⟨k',i',s',b'⟩].all Lp.tr=true:=by rw [two_tr,H.out];rfl
 have HT:=κ ht
 obtain ⟨hb0, -,hx0,hr0,hrd⟩:=join_mem 3 i s false k' i' s' b' w _ rfl
 clear ht
 go_enter Tryz.func127,Tryz.ntmps127
 go_wp2_with fail
 refine (truths_two _ _ _ HT.out _ _ _ rfl _ hrd).mono ?_
 rintro e w1 ⟨rfl,hb1⟩
 have hr1:=box_below hr0 hb1
 have hx1:=hx0.below hb1
 have hx1':=hx1
 have k1:Below w.heap.size w w1:=hb0.trans (hb1.mono (by simp;omega))
 clear hb0 hb1 hr0 hx0 hrd
 obtain ⟨f0,f1,f2,f3,f4,f5,f6,f7⟩:=hx1
 go_wp2_with fail
 refine (openb_3 _ _ _ _).mono ?_
 rintro e w2 ⟨rfl,hb2⟩
 have hr2:=box_below hr1 hb2
 have hx2:=hx1'.below hb2
 have k2:=k1.trans (hb2.mono k1.size)
 clear hb2 hr1 k1 hx1' f0 f1 f2 f3 f4 f5 f6 f7
 obtain ⟨f0,f1,f2,f3,f4,f5,f6,f7⟩:=hx2
 go_wp2_with fail
 refine (openb_n _ _ _ _ hk' _).mono ?_
 rintro e w3 ⟨rfl,hb3⟩
 have hr3:=box_below hr2 hb3
 have k3:=k2.trans (hb3.mono k2.size)
 have hc3:=β hr3
 have hf3:=fun j=>frozen_of_row w3 (w.heap.size+1+1) j _ _ hr3
 clear hb3 hr2 k2 f0 f1 f2 f3 f4 f5 f6 f7
 have HCE:=κ (β (set4_same hr3 (.int .u8 0) (.int .i64 0) (.string ⟨#[]⟩) (.bool false)))
 have k5:=below_set4 k3 (g:=w.heap.size+1+1) (by omega) (.int .u8 0) (.int .i64 0) (.string ⟨#[]⟩) (.bool false)
 go_wp2
 have hcE:=HCE.out
 exact bodyPost_ret (v:=.tuple #[.agg #[.int .u8 0,.int .i64 0,.string ⟨#[]⟩,.bool false],.int .i64 0]) (by simp [results,Tryz.results127,go_sem,hcE]) rfl (truth_good H.out HN.out k5)
theorem join_nt_true (k:Int) (i:Int) (s:ByteArray) (b:Bool) (hk:NoK k) (i':Int) (s':ByteArray) (w:World) :
 Calls Tryz.prog 127 #[.agg #[.int .u8 k,.int .i64 i,.string s,.bool b],.agg #[.int .u8 3,.int .i64 i',.string s',.bool true],.bool true] w (TruthPost (Lp.badT ⟨k,i,s,b⟩ ⟨3,i',s',true⟩) (Lp.joinN ⟨k,i,s,b⟩ ⟨3,i',s',true⟩ true) w):=by
 have H:Hid (Lp.badT ⟨k,i,s,b⟩ ⟨3,i',s',true⟩=false):=κ (by unfold Lp.badT;rw [tv_n b hk];rfl)
 have HN:Hid (Lp.joinN ⟨k,i,s,b⟩ ⟨3,i',s',true⟩ true=2):=κ (by unfold Lp.joinN;rw [tv_n b hk];rfl)
 have ht:[⟨k,i,s,b⟩,⟨3,i',s',true⟩].all Lp.tr=true:=by rw [two_tr,H.out];rfl
 have HT:=κ ht
 obtain ⟨hb0, -,hx0,hr0,hrd⟩:=join_mem k i s b 3 i' s' true w _ rfl
 clear ht
 go_enter Tryz.func127,Tryz.ntmps127
 go_wp2_with fail
 refine (truths_two _ _ _ HT.out _ _ _ rfl _ hrd).mono ?_
 rintro e w1 ⟨rfl,hb1⟩
 have hr1:=box_below hr0 hb1
 have hx1:=hx0.below hb1
 have hx1':=hx1
 have k1:Below w.heap.size w w1:=hb0.trans (hb1.mono (by simp;omega))
 clear hb0 hb1 hr0 hx0 hrd
 obtain ⟨f0,f1,f2,f3,f4,f5,f6,f7⟩:=hx1
 go_wp2_with fail
 refine (openb_n _ _ _ _ hk _).mono ?_
 rintro e w2 ⟨rfl,hb2⟩
 have hr2:=box_below hr1 hb2
 have hx2:=hx1'.below hb2
 have k2:=k1.trans (hb2.mono k1.size)
 clear hb2 hr1 k1 hx1' f0 f1 f2 f3 f4 f5 f6 f7
 obtain ⟨f0,f1,f2,f3,f4,f5,f6,f7⟩:=hx2
 go_wp2_with fail
 refine (openb_3 _ _ _ _).mono ?_
 rintro e w3 ⟨rfl,hb3⟩
 have hr3:=box_below hr2 hb3
 have k3:=k2.trans (hb3.mono k2.size)
 have hc3:=β hr3
 have hf3:=fun j=>frozen_of_row w3 (w.heap.size+1+1) j _ _ hr3
 clear hb3 hr2 k2 f0 f1 f2 f3 f4 f5 f6 f7
 clear hc3 hf3
 go_wp2_with fail
 refine (truthb _ _).mono ?_
 rintro e w4 ⟨rfl,hb4⟩
 have hr4:=box_below hr3 hb4
 have k4:=k3.trans (hb4.mono k3.size)
 have hc4:=β hr4
 have hf4:=fun j=>frozen_of_row w4 (w.heap.size+1+1) j _ _ hr4
 have HCE:=κ (β (set4_same hr4 (.int .u8 3) (.int .i64 0) (.string ⟨#[]⟩) (.bool true)))
 have k5:=below_set4 k4 (g:=w.heap.size+1+1) (by omega) (.int .u8 3) (.int .i64 0) (.string ⟨#[]⟩) (.bool true)
 clear hb4 hr3 k3
 go_wp2
 have hcE:=HCE.out
 exact bodyPost_ret (v:=.tuple #[.agg #[.int .u8 3,.int .i64 0,.string ⟨#[]⟩,.bool true],.int .i64 0]) (by simp [results,Tryz.results127,go_sem,hcE]) rfl (truth_good H.out HN.out k5)
theorem join_nf_true (k:Int) (i:Int) (s:ByteArray) (b:Bool) (hk:NoK k) (i':Int) (s':ByteArray) (w:World) :
 Calls Tryz.prog 127 #[.agg #[.int .u8 k,.int .i64 i,.string s,.bool b],.agg #[.int .u8 3,.int .i64 i',.string s',.bool false],.bool true] w (TruthPost (Lp.badT ⟨k,i,s,b⟩ ⟨3,i',s',false⟩) (Lp.joinN ⟨k,i,s,b⟩ ⟨3,i',s',false⟩ true) w):=by
 have H:Hid (Lp.badT ⟨k,i,s,b⟩ ⟨3,i',s',false⟩=false):=κ (by unfold Lp.badT;rw [tv_n b hk];rfl)
 have HN:Hid (Lp.joinN ⟨k,i,s,b⟩ ⟨3,i',s',false⟩ true=1):=κ (by unfold Lp.joinN;rw [tv_n b hk];rfl)
 have ht:[⟨k,i,s,b⟩,⟨3,i',s',false⟩].all Lp.tr=true:=by rw [two_tr,H.out];rfl
 have HT:=κ ht
 obtain ⟨hb0, -,hx0,hr0,hrd⟩:=join_mem k i s b 3 i' s' false w _ rfl
 clear ht
 go_enter Tryz.func127,Tryz.ntmps127
 go_wp2_with fail
 refine (truths_two _ _ _ HT.out _ _ _ rfl _ hrd).mono ?_
 rintro e w1 ⟨rfl,hb1⟩
 have hr1:=box_below hr0 hb1
 have hx1:=hx0.below hb1
 have hx1':=hx1
 have k1:Below w.heap.size w w1:=hb0.trans (hb1.mono (by simp;omega))
 clear hb0 hb1 hr0 hx0 hrd
 obtain ⟨f0,f1,f2,f3,f4,f5,f6,f7⟩:=hx1
 go_wp2_with fail
 refine (openb_n _ _ _ _ hk _).mono ?_
 rintro e w2 ⟨rfl,hb2⟩
 have hr2:=box_below hr1 hb2
 have hx2:=hx1'.below hb2
 have k2:=k1.trans (hb2.mono k1.size)
 clear hb2 hr1 k1 hx1' f0 f1 f2 f3 f4 f5 f6 f7
 obtain ⟨f0,f1,f2,f3,f4,f5,f6,f7⟩:=hx2
 go_wp2_with fail
 refine (openb_3 _ _ _ _).mono ?_
 rintro e w3 ⟨rfl,hb3⟩
 have hr3:=box_below hr2 hb3
 have k3:=k2.trans (hb3.mono k2.size)
 have hc3:=β hr3
 have hf3:=fun j=>frozen_of_row w3 (w.heap.size+1+1) j _ _ hr3
 clear hb3 hr2 k2 f0 f1 f2 f3 f4 f5 f6 f7
 have HCE:=κ (β (set4_same hr3 (.int .u8 0) (.int .i64 0) (.string ⟨#[]⟩) (.bool false)))
 have k5:=below_set4 k3 (g:=w.heap.size+1+1) (by omega) (.int .u8 0) (.int .i64 0) (.string ⟨#[]⟩) (.bool false)
 go_wp2
 have hcE:=HCE.out
 exact bodyPost_ret (v:=.tuple #[.agg #[.int .u8 0,.int .i64 0,.string ⟨#[]⟩,.bool false],.int .i64 0]) (by simp [results,Tryz.results127,go_sem,hcE]) rfl (truth_good H.out HN.out k5)
theorem join_nn_true (k:Int) (i:Int) (s:ByteArray) (b:Bool) (hk:NoK k) (k':Int) (i':Int) (s':ByteArray) (b':Bool) (hk':NoK k') (w:World) :
 Calls Tryz.prog 127 #[.agg #[.int .u8 k,.int .i64 i,.string s,.bool b],.agg #[.int .u8 k',.int .i64 i',.string s',.bool b'],.bool true] w (TruthPost (Lp.badT ⟨k,i,s,b⟩ ⟨k',i',s',b'⟩) (Lp.joinN ⟨k,i,s,b⟩ ⟨k',i',s',b'⟩ true) w):=by
 have H:Hid (Lp.badT ⟨k,i,s,b⟩ ⟨k',i',s',b'⟩=false):=κ (by unfold Lp.badT;rw [tv_n b hk,tv_n b' hk'];rfl)
 have HN:Hid (Lp.joinN ⟨k,i,s,b⟩ ⟨k',i',s',b'⟩ true=1):=κ (by unfold Lp.joinN;rw [tv_n b hk,tv_n b' hk'];rfl)
 have ht:[⟨k,i,s,b⟩,⟨k',i',s',b'⟩].all Lp.tr=true:=by rw [two_tr,H.out];rfl
 have HT:=κ ht
 obtain ⟨hb0, -,hx0,hr0,hrd⟩:=join_mem k i s b k' i' s' b' w _ rfl
 clear ht
 go_enter Tryz.func127,Tryz.ntmps127
 go_wp2_with fail
 refine (truths_two _ _ _ HT.out _ _ _ rfl _ hrd).mono ?_
 rintro e w1 ⟨rfl,hb1⟩
 have hr1:=box_below hr0 hb1
 have hx1:=hx0.below hb1
 have hx1':=hx1
 have k1:Below w.heap.size w w1:=hb0.trans (hb1.mono (by simp;omega))
 clear hb0 hb1 hr0 hx0 hrd
 obtain ⟨f0,f1,f2,f3,f4,f5,f6,f7⟩:=hx1
 go_wp2_with fail
 refine (openb_n _ _ _ _ hk _).mono ?_
 rintro e w2 ⟨rfl,hb2⟩
 have hr2:=box_below hr1 hb2
 have hx2:=hx1'.below hb2
 have k2:=k1.trans (hb2.mono k1.size)
 clear hb2 hr1 k1 hx1' f0 f1 f2 f3 f4 f5 f6 f7
 obtain ⟨f0,f1,f2,f3,f4,f5,f6,f7⟩:=hx2
 go_wp2_with fail
 refine (openb_n _ _ _ _ hk' _).mono ?_
 rintro e w3 ⟨rfl,hb3⟩
 have hr3:=box_below hr2 hb3
 have k3:=k2.trans (hb3.mono k2.size)
 have hc3:=β hr3
 have hf3:=fun j=>frozen_of_row w3 (w.heap.size+1+1) j _ _ hr3
 clear hb3 hr2 k2 f0 f1 f2 f3 f4 f5 f6 f7
 have HCE:=κ (β (set4_same hr3 (.int .u8 0) (.int .i64 0) (.string ⟨#[]⟩) (.bool false)))
 have k5:=below_set4 k3 (g:=w.heap.size+1+1) (by omega) (.int .u8 0) (.int .i64 0) (.string ⟨#[]⟩) (.bool false)
 go_wp2
 have hcE:=HCE.out
 exact bodyPost_ret (v:=.tuple #[.agg #[.int .u8 0,.int .i64 0,.string ⟨#[]⟩,.bool false],.int .i64 0]) (by simp [results,Tryz.results127,go_sem,hcE]) rfl (truth_good H.out HN.out k5)
theorem join_true (k i:Int) (s:ByteArray) (b:Bool) (k' i':Int) (s':ByteArray) (b':Bool) (w:World) :
 Calls Tryz.prog 127 #[.agg #[.int .u8 k,.int .i64 i,.string s,.bool b],.agg #[.int .u8 k',.int .i64 i',.string s',.bool b'],.bool true] w (TruthPost (Lp.badT ⟨k,i,s,b⟩ ⟨k',i',s',b'⟩) (Lp.joinN ⟨k,i,s,b⟩ ⟨k',i',s',b'⟩ true) w):=by
 rcases Bool.eq_false_or_eq_true (Lp.badT ⟨k,i,s,b⟩ ⟨k',i',s',b'⟩) with hbad|hbad
 ·exact join_bad k i s b k' i' s' b' true w hbad
 ·rcases kcases k with rfl|rfl|rfl|hk
  ·cases hbad
  ·cases hbad
  ·rcases kcases k' with rfl|rfl|rfl|hk'
   ·cases b<;>cases hbad
   ·cases b<;>cases hbad
   ·cases b<;>cases b'
    ·exact join_ff_true i s i' s' w
    ·exact join_ft_true i s i' s' w
    ·exact join_tf_true i s i' s' w
    ·exact join_tt_true i s i' s' w
   ·cases b
    ·exact join_fn_true i s k' i' s' b' hk' w
    ·exact join_tn_true i s k' i' s' b' hk' w
  ·rcases kcases k' with rfl|rfl|rfl|hk'
   ·unfold Lp.badT at hbad;rw [tv_n b hk] at hbad;cases hbad
   ·unfold Lp.badT at hbad;rw [tv_n b hk] at hbad;cases hbad
   ·cases b'
    ·exact join_nf_true k i s b hk i' s' w
    ·exact join_nt_true k i s b hk i' s' w
   ·exact join_nn_true k i s b hk k' i' s' b' hk' w
attribute [local go_sem] ta_i_i ta_i_s ta_i_b ta1_i ta_s_i ta_s_s ta_s_b ta1_s ta_b_i ta_b_s ta_b_b ta1_b ta_n_i ta_n_s ta_n_b
theorem truth_at {bad:Bool} {n:Int} {w w':World} {K E:Int} {B:Bool} (h1:(if bad then 0 else Lp.bkK n)=K) (h2:(if bad then false else Lp.bkB n)=B) (h3:(if bad then 8 else 0)=E) (hb:Below w.heap.size w w') :
 TruthPost bad n w (.returned (.tuple #[.agg #[.int .u8 K,.int .i64 0,.string ⟨#[]⟩,.bool B],.int .i64 E])) w':=by
 subst h1 h2 h3;exact ⟨rfl,hb⟩
theorem cand_any (k i:Int) (s:ByteArray) (b:Bool) (k' i':Int) (s':ByteArray) (b':Bool) (w:World) :
 Calls Tryz.prog 85 #[.agg #[.int .u8 k,.int .i64 i,.string s,.bool b],.agg #[.int .u8 k',.int .i64 i',.string s',.bool b']] w (TruthPost (Lp.badT ⟨k,i,s,b⟩ ⟨k',i',s',b'⟩) (Lp.joinN ⟨k,i,s,b⟩ ⟨k',i',s',b'⟩ false) w):=by
 have hb0:=ba (ba (ba (Below.refl w.heap.size w) (.cells #[.int .u8 k,.int .i64 i,.string s,.bool b] 31)) (.cells #[.int .u8 k',.int .i64 i',.string s',.bool b'] 31)) (.cells #[.int .u8 0,.int .i64 0,.string ⟨#[]⟩,.bool false] 31)
 have hr0:(((w.alloc (.cells #[.int .u8 k,.int .i64 i,.string s,.bool b] 31)).alloc (.cells #[.int .u8 k',.int .i64 i',.string s',.bool b'] 31)).alloc (.cells #[.int .u8 0,.int .i64 0,.string ⟨#[]⟩,.bool false] 31)).heap[w.heap.size+1+1]? = some (.cells #[.int .u8 0,.int .i64 0,.string ⟨#[]⟩,.bool false] 31 (0,0)):=by
  have:=heap_alloc_new ((w.alloc (.cells #[.int .u8 k,.int .i64 i,.string s,.bool b] 31)).alloc (.cells #[.int .u8 k',.int .i64 i',.string s',.bool b'] 31)) (.cells #[.int .u8 0,.int .i64 0,.string ⟨#[]⟩,.bool false] 31)
  simpa using this
 have HJ:=κ (fun W=>join_false k i s b k' i' s' b' W)
 obtain ⟨bad,hbad⟩:∃ bad,Lp.badT ⟨k,i,s,b⟩ ⟨k',i',s',b'⟩=bad:=⟨_,rfl⟩
 obtain ⟨n,hn⟩:∃ n,Lp.joinN ⟨k,i,s,b⟩ ⟨k',i',s',b'⟩ false=n:=⟨_,rfl⟩
 rw [hbad,hn] at HJ ⊢
 clear hbad hn
 go_enter Tryz.func85,Tryz.ntmps85
 go_wp2_with fail
 refine (HJ.out _).mono ?_
 rintro e w1 ⟨rfl,hb1⟩
 obtain ⟨K,hK⟩:∃ K,(if bad then 0 else Lp.bkK n)=K:=⟨_,rfl⟩
 obtain ⟨B,hB⟩:∃ B,(if bad then false else Lp.bkB n)=B:=⟨_,rfl⟩
 obtain ⟨E,hE⟩:∃ E:Int,(if bad then 8 else 0)=E:=⟨_,rfl⟩
 rw [hK,hB,hE]
 have HK:=κ hK
 have HB:=κ hB
 have HE:=κ hE
 clear hK hB hE
 have hr1:=box_below hr0 hb1
 have k1:Below w.heap.size w w1:=hb0.trans (hb1.mono (by simp;omega))
 have hc1:=β hr1
 have hf1:=fun j=>frozen_of_row w1 (w.heap.size+1+1) j _ _ hr1
 have HCE:=κ (β (set4_same hr1 (.int .u8 K) (.int .i64 0) (.string ⟨#[]⟩) (.bool B)))
 have k5:=below_set4 k1 (g:=w.heap.size+1+1) (by omega) (.int .u8 K) (.int .i64 0) (.string ⟨#[]⟩) (.bool B)
 clear hb0 hb1 hr0
 go_wp2
 have hcE:=HCE.out
 exact bodyPost_ret (v:=.tuple #[.agg #[.int .u8 K,.int .i64 0,.string ⟨#[]⟩,.bool B],.int .i64 E]) (by simp [results,Tryz.results85,go_sem,hcE]) rfl (truth_at HK.out HB.out HE.out k5)
theorem cor_any (k i:Int) (s:ByteArray) (b:Bool) (k' i':Int) (s':ByteArray) (b':Bool) (w:World) :
 Calls Tryz.prog 86 #[.agg #[.int .u8 k,.int .i64 i,.string s,.bool b],.agg #[.int .u8 k',.int .i64 i',.string s',.bool b']] w (TruthPost (Lp.badT ⟨k,i,s,b⟩ ⟨k',i',s',b'⟩) (Lp.joinN ⟨k,i,s,b⟩ ⟨k',i',s',b'⟩ true) w):=by
 have hb0:=ba (ba (ba (Below.refl w.heap.size w) (.cells #[.int .u8 k,.int .i64 i,.string s,.bool b] 31)) (.cells #[.int .u8 k',.int .i64 i',.string s',.bool b'] 31)) (.cells #[.int .u8 0,.int .i64 0,.string ⟨#[]⟩,.bool false] 31)
 have hr0:(((w.alloc (.cells #[.int .u8 k,.int .i64 i,.string s,.bool b] 31)).alloc (.cells #[.int .u8 k',.int .i64 i',.string s',.bool b'] 31)).alloc (.cells #[.int .u8 0,.int .i64 0,.string ⟨#[]⟩,.bool false] 31)).heap[w.heap.size+1+1]? = some (.cells #[.int .u8 0,.int .i64 0,.string ⟨#[]⟩,.bool false] 31 (0,0)):=by
  have:=heap_alloc_new ((w.alloc (.cells #[.int .u8 k,.int .i64 i,.string s,.bool b] 31)).alloc (.cells #[.int .u8 k',.int .i64 i',.string s',.bool b'] 31)) (.cells #[.int .u8 0,.int .i64 0,.string ⟨#[]⟩,.bool false] 31)
  simpa using this
 have HJ:=κ (fun W=>join_true k i s b k' i' s' b' W)
 obtain ⟨bad,hbad⟩:∃ bad,Lp.badT ⟨k,i,s,b⟩ ⟨k',i',s',b'⟩=bad:=⟨_,rfl⟩
 obtain ⟨n,hn⟩:∃ n,Lp.joinN ⟨k,i,s,b⟩ ⟨k',i',s',b'⟩ true=n:=⟨_,rfl⟩
 rw [hbad,hn] at HJ ⊢
 clear hbad hn
 go_enter Tryz.func86,Tryz.ntmps86
 go_wp2_with fail
 refine (HJ.out _).mono ?_
 rintro e w1 ⟨rfl,hb1⟩
 obtain ⟨K,hK⟩:∃ K,(if bad then 0 else Lp.bkK n)=K:=⟨_,rfl⟩
 obtain ⟨B,hB⟩:∃ B,(if bad then false else Lp.bkB n)=B:=⟨_,rfl⟩
 obtain ⟨E,hE⟩:∃ E:Int,(if bad then 8 else 0)=E:=⟨_,rfl⟩
 rw [hK,hB,hE]
 have HK:=κ hK
 have HB:=κ hB
 have HE:=κ hE
 clear hK hB hE
 have hr1:=box_below hr0 hb1
 have k1:Below w.heap.size w w1:=hb0.trans (hb1.mono (by simp;omega))
 have hc1:=β hr1
 have hf1:=fun j=>frozen_of_row w1 (w.heap.size+1+1) j _ _ hr1
 have HCE:=κ (β (set4_same hr1 (.int .u8 K) (.int .i64 0) (.string ⟨#[]⟩) (.bool B)))
 have k5:=below_set4 k1 (g:=w.heap.size+1+1) (by omega) (.int .u8 K) (.int .i64 0) (.string ⟨#[]⟩) (.bool B)
 clear hb0 hb1 hr0
 go_wp2
 have hcE:=HCE.out
 exact bodyPost_ret (v:=.tuple #[.agg #[.int .u8 K,.int .i64 0,.string ⟨#[]⟩,.bool B],.int .i64 E]) (by simp [results,Tryz.results86,go_sem,hcE]) rfl (truth_at HK.out HB.out HE.out k5)
theorem cnot_bad (k:Int) (i:Int) (s:ByteArray) (b:Bool) (hk:k=1∨k=2) (w:World) :
 Calls Tryz.prog 84 #[.agg #[.int .u8 k,.int .i64 i,.string s,.bool b]] w (TruthPost (decide (Lp.tw k b<0)) (2-Lp.tw k b) w):=by
 have H:Hid (decide (Lp.tw k b<0)=true):=κ (by rcases hk with rfl|rfl<;>rfl)
 have HT:Hid ([(⟨k,i,s,b⟩:Lp.V)].all Lp.tr=false):=κ (by rcases hk with rfl|rfl<;>rfl)
 have hb0:=ba (ba (ba (Below.refl w.heap.size w) (.cells #[.int .u8 k,.int .i64 i,.string s,.bool b] 31)) (.cells #[.int .u8 0,.int .i64 0,.string ⟨#[]⟩,.bool false] 31)) (.cells #[.int .u8 k,.int .i64 i,.string s,.bool b] 31)
 have hx0:(((w.alloc (.cells #[.int .u8 k,.int .i64 i,.string s,.bool b] 31)).alloc (.cells #[.int .u8 0,.int .i64 0,.string ⟨#[]⟩,.bool false] 31)).alloc (.cells #[.int .u8 k,.int .i64 i,.string s,.bool b] 31)).heap[w.heap.size]? = some (.cells #[.int .u8 k,.int .i64 i,.string s,.bool b] 31 (0,0)):=box_alloc (box_alloc (heap_alloc_new w _) _) _
 have hr0:(((w.alloc (.cells #[.int .u8 k,.int .i64 i,.string s,.bool b] 31)).alloc (.cells #[.int .u8 0,.int .i64 0,.string ⟨#[]⟩,.bool false] 31)).alloc (.cells #[.int .u8 k,.int .i64 i,.string s,.bool b] 31)).heap[w.heap.size+1]? = some (.cells #[.int .u8 0,.int .i64 0,.string ⟨#[]⟩,.bool false] 31 (0,0)):=box_alloc (heap_new2 w _ _) _
 have hrd:Rds (((w.alloc (.cells #[.int .u8 k,.int .i64 i,.string s,.bool b] 31)).alloc (.cells #[.int .u8 0,.int .i64 0,.string ⟨#[]⟩,.bool false] 31)).alloc (.cells #[.int .u8 k,.int .i64 i,.string s,.bool b] 31)) (some ⟨w.heap.size+1+1,0,none⟩) (Lp.vv [⟨k,i,s,b⟩]):=by
  have e:((w.alloc (.cells #[.int .u8 k,.int .i64 i,.string s,.bool b] 31)).alloc (.cells #[.int .u8 0,.int .i64 0,.string ⟨#[]⟩,.bool false] 31)).heap.size=w.heap.size+1+1:=by simp
  have:=rds_new ((w.alloc (.cells #[.int .u8 k,.int .i64 i,.string s,.bool b] 31)).alloc (.cells #[.int .u8 0,.int .i64 0,.string ⟨#[]⟩,.bool false] 31)) [.int .u8 k,.int .i64 i,.string s,.bool b] 31
  rw [e] at this;exact this
 go_enter Tryz.func84,Tryz.ntmps84
 go_wp2_with fail
 refine (truths_one _ _ HT.out _ _ _ rfl _ hrd).mono ?_
 rintro e w1 ⟨rfl,hb1⟩
 have hr1:=box_below hr0 hb1
 have hx1:=box_below hx0 hb1
 have hd1:=β hx1
 have k1:Below w.heap.size w w1:=hb0.trans (hb1.mono (by simp;omega))
 clear hb0 hb1 hr0 hx0 hrd
 have hc1:=β hr1
 have hf1:=fun j=>frozen_of_row w1 (w.heap.size+1) j _ _ hr1
 have HCE:=κ (β (set4_same hr1 (.int .u8 0) (.int .i64 0) (.string ⟨#[]⟩) (.bool false)))
 have k5:=below_set4 k1 (g:=w.heap.size+1) (by omega) (.int .u8 0) (.int .i64 0) (.string ⟨#[]⟩) (.bool false)
 go_wp2
 have hcE:=HCE.out
 exact bodyPost_ret (v:=.tuple #[.agg #[.int .u8 0,.int .i64 0,.string ⟨#[]⟩,.bool false],.int .i64 8]) (by simp [results,Tryz.results84,go_sem,hcE]) rfl (truth_bad H.out k5)
theorem cnot_t (i:Int) (s:ByteArray) (w:World) :
 Calls Tryz.prog 84 #[.agg #[.int .u8 3,.int .i64 i,.string s,.bool true]] w (TruthPost (decide (Lp.tw 3 true<0)) (2-Lp.tw 3 true) w):=by
 have H:Hid (decide (Lp.tw 3 true<0)=false):=κ (rfl)
 have HN:Hid (2-Lp.tw 3 true=0):=κ (rfl)
 have HT:Hid ([(⟨3,i,s,true⟩:Lp.V)].all Lp.tr=true):=κ (rfl)
 have hb0:=ba (ba (ba (Below.refl w.heap.size w) (.cells #[.int .u8 3,.int .i64 i,.string s,.bool true] 31)) (.cells #[.int .u8 0,.int .i64 0,.string ⟨#[]⟩,.bool false] 31)) (.cells #[.int .u8 3,.int .i64 i,.string s,.bool true] 31)
 have hx0:(((w.alloc (.cells #[.int .u8 3,.int .i64 i,.string s,.bool true] 31)).alloc (.cells #[.int .u8 0,.int .i64 0,.string ⟨#[]⟩,.bool false] 31)).alloc (.cells #[.int .u8 3,.int .i64 i,.string s,.bool true] 31)).heap[w.heap.size]? = some (.cells #[.int .u8 3,.int .i64 i,.string s,.bool true] 31 (0,0)):=box_alloc (box_alloc (heap_alloc_new w _) _) _
 have hr0:(((w.alloc (.cells #[.int .u8 3,.int .i64 i,.string s,.bool true] 31)).alloc (.cells #[.int .u8 0,.int .i64 0,.string ⟨#[]⟩,.bool false] 31)).alloc (.cells #[.int .u8 3,.int .i64 i,.string s,.bool true] 31)).heap[w.heap.size+1]? = some (.cells #[.int .u8 0,.int .i64 0,.string ⟨#[]⟩,.bool false] 31 (0,0)):=box_alloc (heap_new2 w _ _) _
 have hrd:Rds (((w.alloc (.cells #[.int .u8 3,.int .i64 i,.string s,.bool true] 31)).alloc (.cells #[.int .u8 0,.int .i64 0,.string ⟨#[]⟩,.bool false] 31)).alloc (.cells #[.int .u8 3,.int .i64 i,.string s,.bool true] 31)) (some ⟨w.heap.size+1+1,0,none⟩) (Lp.vv [⟨3,i,s,true⟩]):=by
  have e:((w.alloc (.cells #[.int .u8 3,.int .i64 i,.string s,.bool true] 31)).alloc (.cells #[.int .u8 0,.int .i64 0,.string ⟨#[]⟩,.bool false] 31)).heap.size=w.heap.size+1+1:=by simp
  have:=rds_new ((w.alloc (.cells #[.int .u8 3,.int .i64 i,.string s,.bool true] 31)).alloc (.cells #[.int .u8 0,.int .i64 0,.string ⟨#[]⟩,.bool false] 31)) [.int .u8 3,.int .i64 i,.string s,.bool true] 31
  rw [e] at this;exact this
 go_enter Tryz.func84,Tryz.ntmps84
 go_wp2_with fail
 refine (truths_one _ _ HT.out _ _ _ rfl _ hrd).mono ?_
 rintro e w1 ⟨rfl,hb1⟩
 have hr1:=box_below hr0 hb1
 have hx1:=box_below hx0 hb1
 have hd1:=β hx1
 have k1:Below w.heap.size w w1:=hb0.trans (hb1.mono (by simp;omega))
 clear hb0 hb1 hr0 hx0 hrd
 go_wp2_with fail
 refine (openb_3 _ _ _ _).mono ?_
 rintro e w2 ⟨rfl,hb2⟩
 have hr2:=box_below hr1 hb2
 have k2:=k1.trans (hb2.mono k1.size)
 clear hb2 hr1 k1 hx1 hd1
 go_wp2_with fail
 refine (truthb _ _).mono ?_
 rintro e w3 ⟨rfl,hb3⟩
 have hr3:=box_below hr2 hb3
 have k3:=k2.trans (hb3.mono k2.size)
 clear hb3 hr2 k2
 have hc3:=β hr3
 have hf3:=fun j=>frozen_of_row w3 (w.heap.size+1) j _ _ hr3
 have HCE:=κ (β (set4_same hr3 (.int .u8 3) (.int .i64 0) (.string ⟨#[]⟩) (.bool false)))
 have k5:=below_set4 k3 (g:=w.heap.size+1) (by omega) (.int .u8 3) (.int .i64 0) (.string ⟨#[]⟩) (.bool false)
 go_wp2
 have hcE:=HCE.out
 exact bodyPost_ret (v:=.tuple #[.agg #[.int .u8 3,.int .i64 0,.string ⟨#[]⟩,.bool false],.int .i64 0]) (by simp [results,Tryz.results84,go_sem,hcE]) rfl (truth_good H.out HN.out k5)
theorem cnot_f (i:Int) (s:ByteArray) (w:World) :
 Calls Tryz.prog 84 #[.agg #[.int .u8 3,.int .i64 i,.string s,.bool false]] w (TruthPost (decide (Lp.tw 3 false<0)) (2-Lp.tw 3 false) w):=by
 have H:Hid (decide (Lp.tw 3 false<0)=false):=κ (rfl)
 have HN:Hid (2-Lp.tw 3 false=2):=κ (rfl)
 have HT:Hid ([(⟨3,i,s,false⟩:Lp.V)].all Lp.tr=true):=κ (rfl)
 have hb0:=ba (ba (ba (Below.refl w.heap.size w) (.cells #[.int .u8 3,.int .i64 i,.string s,.bool false] 31)) (.cells #[.int .u8 0,.int .i64 0,.string ⟨#[]⟩,.bool false] 31)) (.cells #[.int .u8 3,.int .i64 i,.string s,.bool false] 31)
 have hx0:(((w.alloc (.cells #[.int .u8 3,.int .i64 i,.string s,.bool false] 31)).alloc (.cells #[.int .u8 0,.int .i64 0,.string ⟨#[]⟩,.bool false] 31)).alloc (.cells #[.int .u8 3,.int .i64 i,.string s,.bool false] 31)).heap[w.heap.size]? = some (.cells #[.int .u8 3,.int .i64 i,.string s,.bool false] 31 (0,0)):=box_alloc (box_alloc (heap_alloc_new w _) _) _
 have hr0:(((w.alloc (.cells #[.int .u8 3,.int .i64 i,.string s,.bool false] 31)).alloc (.cells #[.int .u8 0,.int .i64 0,.string ⟨#[]⟩,.bool false] 31)).alloc (.cells #[.int .u8 3,.int .i64 i,.string s,.bool false] 31)).heap[w.heap.size+1]? = some (.cells #[.int .u8 0,.int .i64 0,.string ⟨#[]⟩,.bool false] 31 (0,0)):=box_alloc (heap_new2 w _ _) _
 have hrd:Rds (((w.alloc (.cells #[.int .u8 3,.int .i64 i,.string s,.bool false] 31)).alloc (.cells #[.int .u8 0,.int .i64 0,.string ⟨#[]⟩,.bool false] 31)).alloc (.cells #[.int .u8 3,.int .i64 i,.string s,.bool false] 31)) (some ⟨w.heap.size+1+1,0,none⟩) (Lp.vv [⟨3,i,s,false⟩]):=by
  have e:((w.alloc (.cells #[.int .u8 3,.int .i64 i,.string s,.bool false] 31)).alloc (.cells #[.int .u8 0,.int .i64 0,.string ⟨#[]⟩,.bool false] 31)).heap.size=w.heap.size+1+1:=by simp
  have:=rds_new ((w.alloc (.cells #[.int .u8 3,.int .i64 i,.string s,.bool false] 31)).alloc (.cells #[.int .u8 0,.int .i64 0,.string ⟨#[]⟩,.bool false] 31)) [.int .u8 3,.int .i64 i,.string s,.bool false] 31
  rw [e] at this;exact this
 go_enter Tryz.func84,Tryz.ntmps84
 go_wp2_with fail
 refine (truths_one _ _ HT.out _ _ _ rfl _ hrd).mono ?_
 rintro e w1 ⟨rfl,hb1⟩
 have hr1:=box_below hr0 hb1
 have hx1:=box_below hx0 hb1
 have hd1:=β hx1
 have k1:Below w.heap.size w w1:=hb0.trans (hb1.mono (by simp;omega))
 clear hb0 hb1 hr0 hx0 hrd
 go_wp2_with fail
 refine (openb_3 _ _ _ _).mono ?_
 rintro e w2 ⟨rfl,hb2⟩
 have hr2:=box_below hr1 hb2
 have k2:=k1.trans (hb2.mono k1.size)
 clear hb2 hr1 k1 hx1 hd1
 go_wp2_with fail
 refine (truthb _ _).mono ?_
 rintro e w3 ⟨rfl,hb3⟩
 have hr3:=box_below hr2 hb3
 have k3:=k2.trans (hb3.mono k2.size)
 clear hb3 hr2 k2
 have hc3:=β hr3
 have hf3:=fun j=>frozen_of_row w3 (w.heap.size+1) j _ _ hr3
 have HCE:=κ (β (set4_same hr3 (.int .u8 3) (.int .i64 0) (.string ⟨#[]⟩) (.bool true)))
 have k5:=below_set4 k3 (g:=w.heap.size+1) (by omega) (.int .u8 3) (.int .i64 0) (.string ⟨#[]⟩) (.bool true)
 go_wp2
 have hcE:=HCE.out
 exact bodyPost_ret (v:=.tuple #[.agg #[.int .u8 3,.int .i64 0,.string ⟨#[]⟩,.bool true],.int .i64 0]) (by simp [results,Tryz.results84,go_sem,hcE]) rfl (truth_good H.out HN.out k5)
theorem cnot_n (k:Int) (i:Int) (s:ByteArray) (b:Bool) (hk:NoK k) (w:World) :
 Calls Tryz.prog 84 #[.agg #[.int .u8 k,.int .i64 i,.string s,.bool b]] w (TruthPost (decide (Lp.tw k b<0)) (2-Lp.tw k b) w):=by
 have H:Hid (decide (Lp.tw k b<0)=false):=κ (by rw [tv_n b hk];rfl)
 have HN:Hid (2-Lp.tw k b=1):=κ (by rw [tv_n b hk];rfl)
 have HT:Hid ([(⟨k,i,s,b⟩:Lp.V)].all Lp.tr=true):=κ (by simp [tr_n hk])
 have hb0:=ba (ba (ba (Below.refl w.heap.size w) (.cells #[.int .u8 k,.int .i64 i,.string s,.bool b] 31)) (.cells #[.int .u8 0,.int .i64 0,.string ⟨#[]⟩,.bool false] 31)) (.cells #[.int .u8 k,.int .i64 i,.string s,.bool b] 31)
 have hx0:(((w.alloc (.cells #[.int .u8 k,.int .i64 i,.string s,.bool b] 31)).alloc (.cells #[.int .u8 0,.int .i64 0,.string ⟨#[]⟩,.bool false] 31)).alloc (.cells #[.int .u8 k,.int .i64 i,.string s,.bool b] 31)).heap[w.heap.size]? = some (.cells #[.int .u8 k,.int .i64 i,.string s,.bool b] 31 (0,0)):=box_alloc (box_alloc (heap_alloc_new w _) _) _
 have hr0:(((w.alloc (.cells #[.int .u8 k,.int .i64 i,.string s,.bool b] 31)).alloc (.cells #[.int .u8 0,.int .i64 0,.string ⟨#[]⟩,.bool false] 31)).alloc (.cells #[.int .u8 k,.int .i64 i,.string s,.bool b] 31)).heap[w.heap.size+1]? = some (.cells #[.int .u8 0,.int .i64 0,.string ⟨#[]⟩,.bool false] 31 (0,0)):=box_alloc (heap_new2 w _ _) _
 have hrd:Rds (((w.alloc (.cells #[.int .u8 k,.int .i64 i,.string s,.bool b] 31)).alloc (.cells #[.int .u8 0,.int .i64 0,.string ⟨#[]⟩,.bool false] 31)).alloc (.cells #[.int .u8 k,.int .i64 i,.string s,.bool b] 31)) (some ⟨w.heap.size+1+1,0,none⟩) (Lp.vv [⟨k,i,s,b⟩]):=by
  have e:((w.alloc (.cells #[.int .u8 k,.int .i64 i,.string s,.bool b] 31)).alloc (.cells #[.int .u8 0,.int .i64 0,.string ⟨#[]⟩,.bool false] 31)).heap.size=w.heap.size+1+1:=by simp
  have:=rds_new ((w.alloc (.cells #[.int .u8 k,.int .i64 i,.string s,.bool b] 31)).alloc (.cells #[.int .u8 0,.int .i64 0,.string ⟨#[]⟩,.bool false] 31)) [.int .u8 k,.int .i64 i,.string s,.bool b] 31
  rw [e] at this;exact this
 go_enter Tryz.func84,Tryz.ntmps84
 go_wp2_with fail
 refine (truths_one _ _ HT.out _ _ _ rfl _ hrd).mono ?_
 rintro e w1 ⟨rfl,hb1⟩
 have hr1:=box_below hr0 hb1
 have hx1:=box_below hx0 hb1
 have hd1:=β hx1
 have k1:Below w.heap.size w w1:=hb0.trans (hb1.mono (by simp;omega))
 clear hb0 hb1 hr0 hx0 hrd
 go_wp2_with fail
 refine (openb_n _ _ _ _ hk _).mono ?_
 rintro e w2 ⟨rfl,hb2⟩
 have hr2:=box_below hr1 hb2
 have k2:=k1.trans (hb2.mono k1.size)
 clear hb2 hr1 k1 hx1 hd1
 have hc2:=β hr2
 have hf2:=fun j=>frozen_of_row w2 (w.heap.size+1) j _ _ hr2
 have HCE:=κ (β (set4_same hr2 (.int .u8 0) (.int .i64 0) (.string ⟨#[]⟩) (.bool false)))
 have k5:=below_set4 k2 (g:=w.heap.size+1) (by omega) (.int .u8 0) (.int .i64 0) (.string ⟨#[]⟩) (.bool false)
 go_wp2
 have hcE:=HCE.out
 exact bodyPost_ret (v:=.tuple #[.agg #[.int .u8 0,.int .i64 0,.string ⟨#[]⟩,.bool false],.int .i64 0]) (by simp [results,Tryz.results84,go_sem,hcE]) rfl (truth_good H.out HN.out k5)
theorem cnot_any (k i:Int) (s:ByteArray) (b:Bool) (w:World) :
 Calls Tryz.prog 84 #[.agg #[.int .u8 k,.int .i64 i,.string s,.bool b]] w (TruthPost (decide (Lp.tw k b<0)) (2-Lp.tw k b) w):=by
 rcases kcases k with rfl|rfl|rfl|hk
 ·exact cnot_bad 1 i s b (.inl rfl) w
 ·exact cnot_bad 2 i s b (.inr rfl) w
 ·cases b
  ·exact cnot_f i s w
  ·exact cnot_t i s w
 ·exact cnot_n k i s b hk w
theorem rnot_any (k i:Int) (s:ByteArray) (b:Bool) (w:World) :
 Calls Tryz.prog 55 #[.agg #[.int .u8 k,.int .i64 i,.string s,.bool b]] w (TruthPost (decide (Lp.three k b<0)) (2-Lp.three k b) w):=by
 have hb0:=ba (ba (Below.refl w.heap.size w) (.cells #[.int .u8 k,.int .i64 i,.string s,.bool b] 31)) (.cells #[.int .u8 0,.int .i64 0,.string ⟨#[]⟩,.bool false] 31)
 have hx0:((w.alloc (.cells #[.int .u8 k,.int .i64 i,.string s,.bool b] 31)).alloc (.cells #[.int .u8 0,.int .i64 0,.string ⟨#[]⟩,.bool false] 31)).heap[w.heap.size]? = some (.cells #[.int .u8 k,.int .i64 i,.string s,.bool b] 31 (0,0)):=box_alloc (heap_alloc_new w _) _
 have hr0:((w.alloc (.cells #[.int .u8 k,.int .i64 i,.string s,.bool b] 31)).alloc (.cells #[.int .u8 0,.int .i64 0,.string ⟨#[]⟩,.bool false] 31)).heap[w.heap.size+1]? = some (.cells #[.int .u8 0,.int .i64 0,.string ⟨#[]⟩,.bool false] 31 (0,0)):=heap_new2 w _ _
 have h3 : -1≤Lp.three k b∧Lp.three k b≤2:=by unfold Lp.three;split;decide;split;split<;>decide;decide
 by_cases h1:Lp.three k b<0
 ·have H:=κ (show decide (Lp.three k b<0)=true by simpa using h1)
  go_enter Tryz.func55,Tryz.ntmps55
  go_wp2_with fail
  refine (three_g _ _ _ _ _).mono ?_
  rintro e w1 ⟨rfl,hb1⟩
  have hr1:=box_below hr0 hb1
  have k1:Below w.heap.size w w1:=hb0.trans (hb1.mono (by simp;omega))
  have hc1:=β hr1
  have hf1:=fun j=>frozen_of_row w1 (w.heap.size+1) j _ _ hr1
  generalize Lp.three k b=T1 at *
  have HCE:=κ (β (set4_same hr1 (.int .u8 0) (.int .i64 0) (.string ⟨#[]⟩) (.bool false)))
  have k5:=below_set4 k1 (g:=w.heap.size+1) (by omega) (.int .u8 0) (.int .i64 0) (.string ⟨#[]⟩) (.bool false)
  clear hb0 hb1 hx0 hr0
  go_wp2
  have hcE:=HCE.out
  exact bodyPost_ret (v:=.tuple #[.agg #[.int .u8 0,.int .i64 0,.string ⟨#[]⟩,.bool false],.int .i64 8]) (by simp [results,Tryz.results55,go_sem,hcE]) rfl (truth_bad H.out k5)
 ·have H:=κ (show decide (Lp.three k b<0)=false from decide_eq_false h1)
  have H3:=κ (fun W=>three_g k i s b W)
  obtain ⟨T1,hT⟩:∃ T1,Lp.three k b=T1:=⟨_,rfl⟩
  rw [hT] at H3 h3 h1 H ⊢
  clear hT
  have h1':¬T1<0:=h1
  go_enter Tryz.func55,Tryz.ntmps55
  go_wp2_with fail
  refine (H3.out _).mono ?_
  rintro e w1 ⟨rfl,hb1⟩
  have hr1:=box_below hr0 hb1
  have hx1:=box_below hx0 hb1
  have k1:Below w.heap.size w w1:=hb0.trans (hb1.mono (by simp;omega))
  have hd1:=β hx1
  clear hb0 hb1 hx0 hr0
  go_wp2_with fail
  refine (H3.out _).mono ?_
  rintro e w2 ⟨rfl,hb2⟩
  have hr2:=box_below hr1 hb2
  have k2:=k1.trans (hb2.mono k1.size)
  clear hb2 hr1 k1 hx1 hd1
  go_wp2_with fail
  refine (back_g _ _).mono ?_
  rintro e w3 ⟨rfl,hb3⟩
  have hr3:=box_below hr2 hb3
  have k3:=k2.trans (hb3.mono k2.size)
  have hc3:=β hr3
  have hf3:=fun j=>frozen_of_row w3 (w.heap.size+1) j _ _ hr3
  have HCE:=κ (β (set4_same hr3 (.int .u8 (Lp.bkK (2-T1))) (.int .i64 0) (.string ⟨#[]⟩) (.bool (Lp.bkB (2-T1)))))
  have k5:=below_set4 k3 (g:=w.heap.size+1) (by omega) (.int .u8 (Lp.bkK (2-T1))) (.int .i64 0) (.string ⟨#[]⟩) (.bool (Lp.bkB (2-T1)))
  clear hb3 hr2 k2
  go_wp2
  have hcE:=HCE.out
  exact bodyPost_ret (v:=.tuple #[.agg #[.int .u8 (Lp.bkK (2-T1)),.int .i64 0,.string ⟨#[]⟩,.bool (Lp.bkB (2-T1))],.int .i64 0]) (by simp [results,Tryz.results55,go_sem,hcE]) rfl (truth_good H.out rfl k5)
end Go.Proofs.YtkfjmgmjbljnbaaGreatDoor
