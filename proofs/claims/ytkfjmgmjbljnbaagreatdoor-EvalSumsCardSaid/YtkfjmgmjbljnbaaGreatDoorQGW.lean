/-
 Contracts and laws, joined: Ref2C, Cell1, Cell2, Cell3, Cell4. Conditions: those of each.
-/
import Derived.Test.YtkfjmgmjbljnbaaGreatDoorQGA
import Derived.Test.YtkfjmgmjbljnbaaGreatDoorQGT
import Derived.Deep.RegionHeld3
import Derived.Test.YtkfjmgmjbljnbaaGreatDoorQGD
import Derived.Deep.QuietTactic
import Derived.BigQuiet
set_option maxRecDepth 100000
set_option maxHeartbeats 8000000
namespace Go.Proofs.YtkfjmgmjbljnbaaGreatDoor
open Go.RowKit
theorem place_any (k i:Int) (s:ByteArray) (b:Bool) (w:World) :
 Calls Tryz.prog 96 #[.agg #[.int .u8 k,.int .i64 i,.string s,.bool b]] w fun e w'=>e=.returned (.int .i64 (Lp.place ⟨k,i,s,b⟩))∧Below w.heap.size w w':=by
 have hb0:∀ o,Below w.heap.size w (w.alloc o):=fun o=>(Below.refl _ _).alloc (Nat.le_refl _) o
 by_cases h3:k=3
 ·subst h3
  cases b
  ·go_enter Tryz.func96,Tryz.ntmps96
   go_wp2
   go_ret
   exact ⟨rfl,hb0 _⟩
  ·go_enter Tryz.func96,Tryz.ntmps96
   go_wp2
   go_ret
   exact ⟨rfl,hb0 _⟩
 ·by_cases h1:k=1
  ·subst h1
   go_enter Tryz.func96,Tryz.ntmps96
   go_wp2
   go_ret
   exact ⟨rfl,hb0 _⟩
  ·by_cases h2:k=2
   ·subst h2
    go_enter Tryz.func96,Tryz.ntmps96
    go_wp2
    go_ret
    exact ⟨rfl,hb0 _⟩
   ·have e:Lp.place ⟨k,i,s,b⟩=0:=by simp [Lp.place,h1,h2,h3]
    rw [e]
    have e1:(k==1)=false:=by simpa using h1
    have e2:(k==2)=false:=by simpa using h2
    have e3:(k==3)=false:=by simpa using h3
    clear h1 h2 h3 e
    go_enter Tryz.func96,Tryz.ntmps96
    go_wp2
    go_ret
    exact ⟨rfl,hb0 _⟩
def TwoBox (g:Nat) (k i:Int) (s:ByteArray) (b:Bool) (k' i':Int) (s':ByteArray) (b':Bool) (w:World):Prop :=
 w.cell? ⟨g,0,none⟩=some (.int .u8 k)∧w.cell? ⟨g,1,none⟩=some (.int .i64 i)∧w.cell? ⟨g,2,none⟩=some (.string s)∧w.cell? ⟨g,3,none⟩=some (.bool b) ∧
 w.cell? ⟨g+1,0,none⟩=some (.int .u8 k')∧w.cell? ⟨g+1,1,none⟩=some (.int .i64 i')∧w.cell? ⟨g+1,2,none⟩=some (.string s')∧w.cell? ⟨g+1,3,none⟩=some (.bool b')
theorem TwoBox.below {g:Nat} {k i:Int} {s:ByteArray} {b:Bool} {k' i':Int} {s':ByteArray} {b':Bool} {w w':World} (h:TwoBox g k i s b k' i' s' b' w) (hb:Below w.heap.size w w'):TwoBox g k i s b k' i' s' b' w':=by
 have h1:g<w.heap.size:=World.block_lt_of_cell? w _ h.1
 have h2:g+1<w.heap.size:=World.block_lt_of_cell? w _ h.2.2.2.2.1
 have e1:∀ o,w'.cell? ⟨g,o,none⟩=w.cell? ⟨g,o,none⟩:=fun o=>hb.cell (p:=⟨g,o,none⟩) h1
 have e2:∀ o,w'.cell? ⟨g+1,o,none⟩=w.cell? ⟨g+1,o,none⟩:=fun o=>hb.cell (p:=⟨g+1,o,none⟩) h2
 unfold TwoBox at *
 simp only [e1,e2];exact h
theorem TwoBox.new (w:World) (k i:Int) (s:ByteArray) (b:Bool) (k' i':Int) (s':ByteArray) (b':Bool) (t t':TypeId) :
 TwoBox w.heap.size k i s b k' i' s' b' ((w.alloc (.cells #[.int .u8 k,.int .i64 i,.string s,.bool b] t)).alloc (.cells #[.int .u8 k',.int .i64 i',.string s',.bool b'] t')):=by
 have h1:=β (box_alloc (heap_alloc_new w (.cells #[.int .u8 k,.int .i64 i,.string s,.bool b] t)) (.cells #[.int .u8 k',.int .i64 i',.string s',.bool b'] t'))
 have h2:=β (heap_new2 w (.cells #[.int .u8 k,.int .i64 i,.string s,.bool b] t) (.cells #[.int .u8 k',.int .i64 i',.string s',.bool b'] t'))
 exact ⟨h1 0,h1 1,h1 2,h1 3,h2 0,h2 1,h2 2,h2 3⟩
theorem less2_ne (k i:Int) (s:ByteArray) (b:Bool) (k' i':Int) (s':ByteArray) (b':Bool) (w:World) (hp:Lp.place ⟨k,i,s,b⟩≠Lp.place ⟨k',i',s',b'⟩) :
 Calls Tryz.prog 60 #[.agg #[.int .u8 k,.int .i64 i,.string s,.bool b],.agg #[.int .u8 k',.int .i64 i',.string s',.bool b']] w
  fun e w'=>e=.returned (.bool (Lp.vless ⟨k,i,s,b⟩ ⟨k',i',s',b'⟩))∧Below w.heap.size w w':=by
 have ev:Lp.vless ⟨k,i,s,b⟩ ⟨k',i',s',b'⟩=decide (Lp.place ⟨k,i,s,b⟩<Lp.place ⟨k',i',s',b'⟩):=by unfold Lp.vless;rw [if_pos hp]
 rw [ev]
 have hb0:=((Below.refl w.heap.size w).alloc (Nat.le_refl _) (.cells #[.int .u8 k,.int .i64 i,.string s,.bool b] 31)).alloc (by simp) (.cells #[.int .u8 k',.int .i64 i',.string s',.bool b'] 31)
 have hx0:=TwoBox.new w k i s b k' i' s' b' 31 31
 have hq:(Lp.place ⟨k,i,s,b⟩==Lp.place ⟨k',i',s',b'⟩)=false:=beq_eq_false_iff_ne.2 hp
 clear ev hp
 go_enter Tryz.func60,Tryz.ntmps60
 go_wp2_with fail
 go_region_held3 (fun w'=>w'.cell? ⟨w.heap.size,0,none⟩=some (.int .u8 k)∧w'.cell? ⟨w.heap.size,1,none⟩=some (.int .i64 i)∧w'.cell? ⟨w.heap.size,2,none⟩=some (.string s)∧w'.cell? ⟨w.heap.size,3,none⟩=some (.bool b) ∧
  w'.cell? ⟨w.heap.size+1,0,none⟩=some (.int .u8 k')∧w'.cell? ⟨w.heap.size+1,1,none⟩=some (.int .i64 i')∧w'.cell? ⟨w.heap.size+1,2,none⟩=some (.string s')∧w'.cell? ⟨w.heap.size+1,3,none⟩=some (.bool b'))
  (first|go_keep|exact hx2|exact hx1)
  (first
   | (go_at_call 96;refine (place_any _ _ _ _ _).mono ?_;rintro e w2 ⟨rfl,hb2⟩;have hx2:=(fun h=>TwoBox.below h hb2) hx1)
   | (go_at_call 96;refine (place_any _ _ _ _ _).mono ?_;rintro e w1 ⟨rfl,hb1⟩;have hx1:=(fun h=>TwoBox.below h hb1) hx0))
 go_wp2_with fail
 go_region_held3 (fun w'=>w'.cell? ⟨w.heap.size,0,none⟩=some (.int .u8 k)∧w'.cell? ⟨w.heap.size,1,none⟩=some (.int .i64 i)∧w'.cell? ⟨w.heap.size,2,none⟩=some (.string s)∧w'.cell? ⟨w.heap.size,3,none⟩=some (.bool b) ∧
  w'.cell? ⟨w.heap.size+1,0,none⟩=some (.int .u8 k')∧w'.cell? ⟨w.heap.size+1,1,none⟩=some (.int .i64 i')∧w'.cell? ⟨w.heap.size+1,2,none⟩=some (.string s')∧w'.cell? ⟨w.heap.size+1,3,none⟩=some (.bool b'))
  (first|go_keep|exact hx4|exact hx3)
  (first
   | (go_at_call 96;refine (place_any _ _ _ _ _).mono ?_;rintro e w4 ⟨rfl,hb4⟩;have hx4:=(fun h=>TwoBox.below h hb4) hx3)
   | (go_at_call 96;refine (place_any _ _ _ _ _).mono ?_;rintro e w3 ⟨rfl,hb3⟩;have hx3:=(fun h=>TwoBox.below h hb3) hx2))
 go_wp2
 go_ret
 have k1:Below w.heap.size w w1:=hb0.drew.trans (hb1.mono (by simp;omega))
 have k2:Below w.heap.size w w2:=k1.trans (hb2.mono k1.size)
 have k3:Below w.heap.size w w3:=k2.drew.trans (hb3.mono k2.size)
 exact ⟨rfl,k3.trans (hb4.mono k3.size)⟩
theorem less2_eq (k i:Int) (s:ByteArray) (b:Bool) (k' i':Int) (s':ByteArray) (b':Bool) (w:World) (hp:Lp.place ⟨k,i,s,b⟩=Lp.place ⟨k',i',s',b'⟩) :
 Calls Tryz.prog 60 #[.agg #[.int .u8 k,.int .i64 i,.string s,.bool b],.agg #[.int .u8 k',.int .i64 i',.string s',.bool b']] w
  fun e w'=>e=.returned (.bool (Lp.vless ⟨k,i,s,b⟩ ⟨k',i',s',b'⟩))∧Below w.heap.size w w':=by
 have ev:Lp.vless ⟨k,i,s,b⟩ ⟨k',i',s',b'⟩=((decide (k=1)&&decide (i<i'))||(decide (k=2)&&Op.bytesLess s.toList s'.toList)):=by unfold Lp.vless;rw [if_neg (by simpa using hp),ByteArray.toList_eq,ByteArray.toList_eq]
 rw [ev]
 have hb0:=((Below.refl w.heap.size w).alloc (Nat.le_refl _) (.cells #[.int .u8 k,.int .i64 i,.string s,.bool b] 31)).alloc (by simp) (.cells #[.int .u8 k',.int .i64 i',.string s',.bool b'] 31)
 have hx0:=TwoBox.new w k i s b k' i' s' b' 31 31
 have hq:(Lp.place ⟨k,i,s,b⟩ !=Lp.place ⟨k',i',s',b'⟩)=false:=by simp [hp]
 clear ev hp
 go_enter Tryz.func60,Tryz.ntmps60
 go_wp2_with fail
 go_region_held3 (fun w'=>w'.cell? ⟨w.heap.size,0,none⟩=some (.int .u8 k)∧w'.cell? ⟨w.heap.size,1,none⟩=some (.int .i64 i)∧w'.cell? ⟨w.heap.size,2,none⟩=some (.string s)∧w'.cell? ⟨w.heap.size,3,none⟩=some (.bool b) ∧
  w'.cell? ⟨w.heap.size+1,0,none⟩=some (.int .u8 k')∧w'.cell? ⟨w.heap.size+1,1,none⟩=some (.int .i64 i')∧w'.cell? ⟨w.heap.size+1,2,none⟩=some (.string s')∧w'.cell? ⟨w.heap.size+1,3,none⟩=some (.bool b'))
  (first|go_keep|exact hx2|exact hx1)
  (first
   | (go_at_call 96;refine (place_any _ _ _ _ _).mono ?_;rintro e w2 ⟨rfl,hb2⟩;have hx2:=(fun h=>TwoBox.below h hb2) hx1)
   | (go_at_call 96;refine (place_any _ _ _ _ _).mono ?_;rintro e w1 ⟨rfl,hb1⟩;have hx1:=(fun h=>TwoBox.below h hb1) hx0))
 obtain ⟨f0,f1,f2,f3,f4,f5,f6,f7⟩:=hx2
 have k1:Below w.heap.size w w1:=hb0.drew.trans (hb1.mono (by simp;omega))
 have k2:Below w.heap.size w w2:=k1.trans (hb2.mono k1.size)
 clear hb0 hb1 hb2 hx1 hx0 k1
 go_wp2
 all_goals
  go_ret
  exact ⟨by clear k2;simp_all [Lp.beqd],by exact k2⟩
theorem less2_any (k i:Int) (s:ByteArray) (b:Bool) (k' i':Int) (s':ByteArray) (b':Bool) (w:World) :
 Calls Tryz.prog 60 #[.agg #[.int .u8 k,.int .i64 i,.string s,.bool b],.agg #[.int .u8 k',.int .i64 i',.string s',.bool b']] w
  fun e w'=>e=.returned (.bool (Lp.vless ⟨k,i,s,b⟩ ⟨k',i',s',b'⟩))∧Below w.heap.size w w':=by
 by_cases hp:Lp.place ⟨k,i,s,b⟩=Lp.place ⟨k',i',s',b'⟩
 ·exact less2_eq k i s b k' i' s' b' w hp
 ·exact less2_ne k i s b k' i' s' b' w hp
theorem same2_any (k i:Int) (s:ByteArray) (b:Bool) (k' i':Int) (s':ByteArray) (b':Bool) (w:World) :
 Calls Tryz.prog 61 #[.agg #[.int .u8 k,.int .i64 i,.string s,.bool b],.agg #[.int .u8 k',.int .i64 i',.string s',.bool b']] w
  fun e w'=>e=.returned (.bool (Lp.vsame ⟨k,i,s,b⟩ ⟨k',i',s',b'⟩))∧Below w.heap.size w w':=by
 have hb0:=((Below.refl w.heap.size w).alloc (Nat.le_refl _) (.cells #[.int .u8 k,.int .i64 i,.string s,.bool b] 31)).alloc (by simp) (.cells #[.int .u8 k',.int .i64 i',.string s',.bool b'] 31)
 have hx0:=TwoBox.new w k i s b k' i' s' b' 31 31
 unfold Lp.vsame
 go_enter Tryz.func61,Tryz.ntmps61
 go_wp2_with fail
 refine (less2_any _ _ _ _ _ _ _ _ _).mono ?_
 rintro e w1 ⟨rfl,hb1⟩
 have hx1:=hx0.below hb1
 have k1:Below w.heap.size w w1:=hb0.trans (hb1.mono (by simp;omega))
 clear hx0 hb1 hb0
 obtain ⟨f0,f1,f2,f3,f4,f5,f6,f7⟩:=hx1
 cases h1:Lp.vless ⟨k,i,s,b⟩ ⟨k',i',s',b'⟩
 ·have H1:=κ h1
  clear h1
  go_wp2_with fail
  refine (less2_any _ _ _ _ _ _ _ _ _).mono ?_
  rintro e w2 ⟨rfl,hb2⟩
  go_wp2
  go_ret
  exact ⟨by rw [H1.out];rfl,k1.trans (hb2.mono k1.size)⟩
 ·have H1:=κ h1
  clear h1
  go_wp2
  go_ret
  exact ⟨by rw [H1.out];rfl,k1⟩
def TwoAt (g o g' o':Nat) (k i:Int) (s:ByteArray) (b:Bool) (k' i':Int) (s':ByteArray) (b':Bool) (w:World):Prop :=
 w.cell? ⟨g,o,none⟩=some (.int .u8 k)∧w.cell? ⟨g,o+1,none⟩=some (.int .i64 i)∧w.cell? ⟨g,o+2,none⟩=some (.string s)∧w.cell? ⟨g,o+3,none⟩=some (.bool b) ∧
 w.cell? ⟨g',o',none⟩=some (.int .u8 k')∧w.cell? ⟨g',o'+1,none⟩=some (.int .i64 i')∧w.cell? ⟨g',o'+2,none⟩=some (.string s')∧w.cell? ⟨g',o'+3,none⟩=some (.bool b')
theorem TwoAt.below {g o g' o':Nat} {k i:Int} {s:ByteArray} {b:Bool} {k' i':Int} {s':ByteArray} {b':Bool} {w w':World} (h:TwoAt g o g' o' k i s b k' i' s' b' w) (hb:Below w.heap.size w w'):TwoAt g o g' o' k i s b k' i' s' b' w':=by
 have h1:g<w.heap.size:=World.block_lt_of_cell? w _ h.1
 have h2:g'<w.heap.size:=World.block_lt_of_cell? w _ h.2.2.2.2.1
 have e1:∀ o,w'.cell? ⟨g,o,none⟩=w.cell? ⟨g,o,none⟩:=fun o=>hb.cell (p:=⟨g,o,none⟩) h1
 have e2:∀ o,w'.cell? ⟨g',o,none⟩=w.cell? ⟨g',o,none⟩:=fun o=>hb.cell (p:=⟨g',o,none⟩) h2
 unfold TwoAt at *
 simp only [e1,e2];exact h
attribute [local go_sem] ta_i_i ta_i_s ta_i_b ta1_i ta_s_i ta_s_s ta_s_b ta1_s ta_b_i ta_b_s ta_b_b ta1_b ta_n_i ta_n_s ta_n_b
def bx (k i:Int) (s:ByteArray) (b:Bool):Obj:=.cells #[.int .u8 k,.int .i64 i,.string s,.bool b] 31
theorem open_1 (i:Int) (s:ByteArray) (b:Bool) (w:World):Calls Tryz.prog 125 #[.agg #[.int .u8 1,.int .i64 i,.string s,.bool b]] w fun e w'=>e=.returned (.iface 2 (.int .i64 i))∧w.alloc (.cells #[.int .u8 1,.int .i64 i,.string s,.bool b] 31)=w':=by
 go_enter Tryz.func125,Tryz.ntmps125
 go_wp2
 go_ret
 exact ⟨rfl,rfl⟩
theorem open_2 (i:Int) (s:ByteArray) (b:Bool) (w:World):Calls Tryz.prog 125 #[.agg #[.int .u8 2,.int .i64 i,.string s,.bool b]] w fun e w'=>e=.returned (.iface 9 (.string s))∧w.alloc (.cells #[.int .u8 2,.int .i64 i,.string s,.bool b] 31)=w':=by
 go_enter Tryz.func125,Tryz.ntmps125
 go_wp2
 go_ret
 exact ⟨rfl,rfl⟩
theorem open_3 (i:Int) (s:ByteArray) (b:Bool) (w:World):Calls Tryz.prog 125 #[.agg #[.int .u8 3,.int .i64 i,.string s,.bool b]] w fun e w'=>e=.returned (.iface 4 (.bool b))∧w.alloc (.cells #[.int .u8 3,.int .i64 i,.string s,.bool b] 31)=w':=by
 go_enter Tryz.func125,Tryz.ntmps125
 go_wp2
 go_ret
 exact ⟨rfl,rfl⟩
def NoK (k:Int):Prop:=(k==1)=false∧(k==2)=false∧(k==3)=false
theorem open_n (k i:Int) (s:ByteArray) (b:Bool) (hk:NoK k) (w:World):Calls Tryz.prog 125 #[.agg #[.int .u8 k,.int .i64 i,.string s,.bool b]] w fun e w'=>e=.returned .nilIface∧w.alloc (.cells #[.int .u8 k,.int .i64 i,.string s,.bool b] 31)=w':=by
 obtain ⟨h1,h2,h3⟩:=hk
 go_enter Tryz.func125,Tryz.ntmps125
 go_wp2
 go_ret
 exact ⟨rfl,rfl⟩
theorem truth_b (b:Bool) (w:World):Calls Tryz.prog 126 #[.iface 4 (.bool b)] w fun e w'=>e=.returned (.agg #[.int .u8 3,.int .i64 0,.string ⟨#[]⟩,.bool b])∧w.alloc (.cells #[.int .u8 3,.int .i64 0,.string ⟨#[]⟩,.bool b] 31)=w':=by
 go_enter Tryz.func126,Tryz.ntmps126
 go_wp2
 exact bodyPost_ret (v:=.agg #[.int .u8 3,.int .i64 0,.string ⟨#[]⟩,.bool b]) (by simp [results,Tryz.results126,go_sem]) rfl ⟨rfl,rfl⟩
theorem bit_any (b:Bool) (w:World):Calls Tryz.prog 208 #[.bool b] w fun e w'=>e=.returned (.int .i64 (if b then 1 else 0))∧w=w':=by
 cases b
 ·go_enter Tryz.func208,Tryz.ntmps208
  go_wp2
  go_ret
  exact ⟨rfl,rfl⟩
 ·go_enter Tryz.func208,Tryz.ntmps208
  go_wp2
  go_ret
  exact ⟨rfl,rfl⟩
theorem rank_1 (w:World):Calls Tryz.prog 205 #[.int .u8 1] w fun e w'=>e=.returned (.int .i64 2)∧w=w':=by
 go_enter Tryz.func205,Tryz.ntmps205
 go_wp2
 go_ret
 exact ⟨rfl,rfl⟩
theorem rank_2 (w:World):Calls Tryz.prog 205 #[.int .u8 2] w fun e w'=>e=.returned (.int .i64 3)∧w=w':=by
 go_enter Tryz.func205,Tryz.ntmps205
 go_wp2
 go_ret
 exact ⟨rfl,rfl⟩
theorem rank_3 (w:World):Calls Tryz.prog 205 #[.int .u8 3] w fun e w'=>e=.returned (.int .i64 1)∧w=w':=by
 go_enter Tryz.func205,Tryz.ntmps205
 go_wp2
 go_ret
 exact ⟨rfl,rfl⟩
theorem rank_n (k:Int) (hk:NoK k) (w:World):Calls Tryz.prog 205 #[.int .u8 k] w fun e w'=>e=.returned (.int .i64 0)∧w=w':=by
 obtain ⟨h1,h2,h3⟩:=hk
 go_enter Tryz.func205,Tryz.ntmps205
 go_wp2
 go_ret
 exact ⟨rfl,rfl⟩
def Lp.rank (k:Int):Int:=if k=1 then 2 else if k=2 then 3 else if k=3 then 1 else 0
theorem kcases (k:Int):k=1∨k=2∨k=3∨NoK k:=by
 by_cases h1:k=1
 ·exact .inl h1
 ·by_cases h2:k=2
  ·exact .inr (.inl h2)
  ·by_cases h3:k=3
   ·exact .inr (.inr (.inl h3))
   ·exact .inr (.inr (.inr ⟨beq_eq_false_iff_ne.2 h1,beq_eq_false_iff_ne.2 h2,beq_eq_false_iff_ne.2 h3⟩))
theorem rank_any (k:Int) (w:World):Calls Tryz.prog 205 #[.int .u8 k] w fun e w'=>e=.returned (.int .i64 (Lp.rank k))∧w=w':=by
 rcases kcases k with rfl|rfl|rfl|h
 ·exact rank_1 w
 ·exact rank_2 w
 ·exact rank_3 w
 ·have e:Lp.rank k=0:=by
   have h1:=beq_eq_false_iff_ne.1 h.1
   have h2:=beq_eq_false_iff_ne.1 h.2.1
   have h3:=beq_eq_false_iff_ne.1 h.2.2
   simp [Lp.rank,h1,h2,h3]
  rw [e];exact rank_n k h w
def Lp.cmpI (a b:Int):Int:=if a<b then -1 else if b<a then 1 else 0
def Lp.cmpS (a b:List UInt8):Int:=if Op.bytesLess a b then -1 else if Op.bytesLess b a then 1 else 0
theorem cmpI_any (a b:Int) (w:World):Calls Tryz.prog 204 #[.int .i64 a,.int .i64 b] w fun e w'=>e=.returned (.int .i64 (Lp.cmpI a b))∧w=w':=by
 rcases Int.lt_trichotomy a b with h|h|h
 ·have e:Lp.cmpI a b = -1:=if_pos h
  rw [e];clear e
  go_enter Tryz.func204,Tryz.ntmps204
  go_wp2
  go_ret
  exact ⟨rfl,rfl⟩
 ·subst h
  have e:Lp.cmpI a a=0:=by simp [Lp.cmpI]
  rw [e];clear e
  go_enter Tryz.func204,Tryz.ntmps204
  go_wp2
  go_ret
  exact ⟨rfl,rfl⟩
 ·have e:Lp.cmpI a b=1:=by unfold Lp.cmpI;rw [if_neg (by omega),if_pos h]
  have h2:¬a<b:=by omega
  rw [e];clear e
  go_enter Tryz.func204,Tryz.ntmps204
  go_wp2
  go_ret
  exact ⟨rfl,rfl⟩
theorem cmpL_any (a b:Int) (w:World):Calls Tryz.prog 206 #[.int .i64 a,.int .i64 b] w fun e w'=>e=.returned (.int .i64 (Lp.cmpI a b))∧w=w':=by
 rcases Int.lt_trichotomy a b with h|h|h
 ·have e:Lp.cmpI a b = -1:=if_pos h
  rw [e];clear e
  go_enter Tryz.func206,Tryz.ntmps206
  go_wp2
  go_ret
  exact ⟨rfl,rfl⟩
 ·subst h
  have e:Lp.cmpI a a=0:=by simp [Lp.cmpI]
  rw [e];clear e
  go_enter Tryz.func206,Tryz.ntmps206
  go_wp2
  go_ret
  exact ⟨rfl,rfl⟩
 ·have e:Lp.cmpI a b=1:=by unfold Lp.cmpI;rw [if_neg (by omega),if_pos h]
  have h2:¬a<b:=by omega
  rw [e];clear e
  go_enter Tryz.func206,Tryz.ntmps206
  go_wp2
  go_ret
  exact ⟨rfl,rfl⟩
theorem cmpS_any (a b:ByteArray) (w:World):Calls Tryz.prog 207 #[.string a,.string b] w fun e w'=>e=.returned (.int .i64 (Lp.cmpS a.data.toList b.data.toList))∧w=w':=by
 rw [←ByteArray.toList_eq, ←ByteArray.toList_eq]
 cases h1:Op.bytesLess a.toList b.toList
 ·cases h2:Op.bytesLess b.toList a.toList
  ·have e:Lp.cmpS a.toList b.toList=0:=by simp [Lp.cmpS,h1,h2]
   have he:(a.toList==b.toList)=true:=by rw [Lp.less_total,h1,h2];rfl
   rw [e];clear e
   go_enter Tryz.func207,Tryz.ntmps207
   go_wp2
   go_ret
   exact ⟨rfl,rfl⟩
  ·have e:Lp.cmpS a.toList b.toList=1:=by simp [Lp.cmpS,h1,h2]
   have he:(a.toList==b.toList)=false:=by rw [Lp.less_total,h1,h2];rfl
   rw [e];clear e
   go_enter Tryz.func207,Tryz.ntmps207
   go_wp2
   go_ret
   exact ⟨rfl,rfl⟩
 ·have e:Lp.cmpS a.toList b.toList = -1:=by simp [Lp.cmpS,h1]
  rw [e];clear e
  go_enter Tryz.func207,Tryz.ntmps207
  go_wp2
  go_ret
  exact ⟨rfl,rfl⟩
attribute [local go_sem] ta_i_i ta_i_s ta_i_b ta1_i ta_s_i ta_s_s ta_s_b ta1_s ta_b_i ta_b_s ta_b_b ta1_b ta_n_i ta_n_s ta_n_b
def Lp.bit (b:Bool):Int:=if b then 1 else 0
def Lp.vord (u v:Lp.V):Int :=
 if Lp.rank u.k=Lp.rank v.k then
  (if u.k=1 then Lp.cmpI u.i v.i else if u.k=2 then Lp.cmpS u.s.data.toList v.s.data.toList else if u.k=3 then Lp.cmpI (Lp.bit u.b) (Lp.bit v.b) else 0)
 else Lp.cmpI (Lp.rank u.k) (Lp.rank v.k)
theorem rank_of_n {k:Int} (h:NoK k):Lp.rank k=0:=by
 have h1:=beq_eq_false_iff_ne.1 h.1
 have h2:=beq_eq_false_iff_ne.1 h.2.1
 have h3:=beq_eq_false_iff_ne.1 h.2.2
 simp [Lp.rank,h1,h2,h3]
theorem rank_kind {k k':Int} (h:Lp.rank k=Lp.rank k'):(k=1∧k'=1)∨(k=2∧k'=2)∨(k=3∧k'=3)∨(NoK k∧NoK k'):=by
 rcases kcases k with rfl|rfl|rfl|h1<;>rcases kcases k' with rfl|rfl|rfl|h2<;>first
  | exact .inl ⟨rfl,rfl⟩
  | exact .inr (.inl ⟨rfl,rfl⟩)
  | exact .inr (.inr (.inl ⟨rfl,rfl⟩))
  | exact .inr (.inr (.inr ⟨h1,h2⟩))
  | (rw [rank_of_n h1] at h;simp [Lp.rank] at h)
  | (rw [rank_of_n h2] at h;simp [Lp.rank] at h)
  | (simp [Lp.rank] at h)
theorem cmpI_ne {a b:Int} (h:a≠b):Lp.cmpI a b≠0:=by unfold Lp.cmpI;split;decide;split;decide;omega
theorem cmpI_same (a:Int):Lp.cmpI a a=0:=by simp [Lp.cmpI]
theorem bit_is (b:Bool) (w:World):Calls Tryz.prog 208 #[.bool b] w fun e w'=>e=.returned (.int .i64 (Lp.bit b))∧w=w':=bit_any b w
theorem openb_1 (i:Int) (s:ByteArray) (b:Bool) (w:World):Calls Tryz.prog 125 #[.agg #[.int .u8 1,.int .i64 i,.string s,.bool b]] w fun e w'=>e=.returned (.iface 2 (.int .i64 i))∧Below w.heap.size w w' :=
 (open_1 i s b w).mono fun _ _ ⟨h1,h2⟩=>⟨h1,h2▸(Below.refl _ _).alloc (Nat.le_refl _) _⟩
theorem openb_2 (i:Int) (s:ByteArray) (b:Bool) (w:World):Calls Tryz.prog 125 #[.agg #[.int .u8 2,.int .i64 i,.string s,.bool b]] w fun e w'=>e=.returned (.iface 9 (.string s))∧Below w.heap.size w w' :=
 (open_2 i s b w).mono fun _ _ ⟨h1,h2⟩=>⟨h1,h2▸(Below.refl _ _).alloc (Nat.le_refl _) _⟩
theorem openb_3 (i:Int) (s:ByteArray) (b:Bool) (w:World):Calls Tryz.prog 125 #[.agg #[.int .u8 3,.int .i64 i,.string s,.bool b]] w fun e w'=>e=.returned (.iface 4 (.bool b))∧Below w.heap.size w w' :=
 (open_3 i s b w).mono fun _ _ ⟨h1,h2⟩=>⟨h1,h2▸(Below.refl _ _).alloc (Nat.le_refl _) _⟩
theorem openb_n (k i:Int) (s:ByteArray) (b:Bool) (hk:NoK k) (w:World):Calls Tryz.prog 125 #[.agg #[.int .u8 k,.int .i64 i,.string s,.bool b]] w fun e w'=>e=.returned .nilIface∧Below w.heap.size w w' :=
 (open_n k i s b hk w).mono fun _ _ ⟨h1,h2⟩=>⟨h1,h2▸(Below.refl _ _).alloc (Nat.le_refl _) _⟩
theorem order_any (k i:Int) (s:ByteArray) (b:Bool) (k' i':Int) (s':ByteArray) (b':Bool) (w:World) :
 Calls Tryz.prog 182 #[.agg #[.int .u8 k,.int .i64 i,.string s,.bool b],.agg #[.int .u8 k',.int .i64 i',.string s',.bool b']] w
  fun e w'=>e=.returned (.int .i64 (Lp.vord ⟨k,i,s,b⟩ ⟨k',i',s',b'⟩))∧Below w.heap.size w w':=by
 have hb0:=((Below.refl w.heap.size w).alloc (Nat.le_refl _) (.cells #[.int .u8 k,.int .i64 i,.string s,.bool b] 31)).alloc (by simp) (.cells #[.int .u8 k',.int .i64 i',.string s',.bool b'] 31)
 have hx0:=TwoBox.new w k i s b k' i' s' b' 31 31
 by_cases hr:Lp.rank k=Lp.rank k'
 ·have hkk:=rank_kind hr
  have hrr:=cmpI_same (Lp.rank k')
  have HR:=κ hr
  clear hr
  rcases hkk with ⟨rfl,rfl⟩|⟨rfl,rfl⟩|⟨rfl,rfl⟩|⟨n1,n2⟩
  ·have hv:Lp.vord ⟨1,i,s,b⟩ ⟨1,i',s',b'⟩=Lp.cmpI i i':=by simp [Lp.vord]
   rw [hv];clear hv
   go_enter Tryz.func182,Tryz.ntmps182
   go_wp2_with fail
   go_region_held3 (fun w'=>w'.cell? ⟨w.heap.size,0,none⟩=some (.int .u8 1)∧w'.cell? ⟨w.heap.size+1,0,none⟩=some (.int .u8 1))
    (first|go_keep|exact ⟨hx0.1,hx0.2.2.2.2.1⟩)
    (first|(go_at_call 205;refine (rank_any _ _).mono ?_;rintro e w' ⟨rfl,rfl⟩)|(go_at_call 204;refine (cmpI_any _ _ _).mono ?_;rintro e w' ⟨rfl,rfl⟩))
   try rw [hrr]
   obtain ⟨f0,f1,f2,f3,f4,f5,f6,f7⟩:=hx0
   go_wp2_with fail
   refine (openb_1 _ _ _ _).mono ?_
   rintro e w1 ⟨rfl,hb1⟩
   have k1:Below w.heap.size w w1:=hb0.drew.trans (hb1.mono (by simp;omega))
   have hx1:=(fun h=>TwoBox.below h hb1) (TwoBox.new w 1 i s b 1 i' s' b' 31 31)
   clear hb1 hb0 f0 f1 f2 f3 f4 f5 f6 f7
   obtain ⟨f0,f1,f2,f3,f4,f5,f6,f7⟩:=hx1
   go_wp2_with fail
   refine (openb_1 _ _ _ _).mono ?_
   rintro e w2 ⟨rfl,hb2⟩
   have k2:=k1.trans (hb2.mono k1.size)
   go_wp2_with (go_at_call 206;refine (cmpL_any _ _ _).mono ?_;rintro e w' ⟨rfl,rfl⟩)
   go_ret
   exact ⟨rfl,k2⟩
  ·have hv:Lp.vord ⟨2,i,s,b⟩ ⟨2,i',s',b'⟩=Lp.cmpS s.data.toList s'.data.toList:=by simp [Lp.vord]
   rw [hv];clear hv
   go_enter Tryz.func182,Tryz.ntmps182
   go_wp2_with fail
   go_region_held3 (fun w'=>w'.cell? ⟨w.heap.size,0,none⟩=some (.int .u8 2)∧w'.cell? ⟨w.heap.size+1,0,none⟩=some (.int .u8 2))
    (first|go_keep|exact ⟨hx0.1,hx0.2.2.2.2.1⟩)
    (first|(go_at_call 205;refine (rank_any _ _).mono ?_;rintro e w' ⟨rfl,rfl⟩)|(go_at_call 204;refine (cmpI_any _ _ _).mono ?_;rintro e w' ⟨rfl,rfl⟩))
   try rw [hrr]
   obtain ⟨f0,f1,f2,f3,f4,f5,f6,f7⟩:=hx0
   go_wp2_with fail
   refine (openb_2 _ _ _ _).mono ?_
   rintro e w1 ⟨rfl,hb1⟩
   have k1:Below w.heap.size w w1:=hb0.drew.trans (hb1.mono (by simp;omega))
   have hx1:=(fun h=>TwoBox.below h hb1) (TwoBox.new w 2 i s b 2 i' s' b' 31 31)
   clear hb1 hb0 f0 f1 f2 f3 f4 f5 f6 f7
   obtain ⟨f0,f1,f2,f3,f4,f5,f6,f7⟩:=hx1
   go_wp2_with fail
   refine (openb_2 _ _ _ _).mono ?_
   rintro e w2 ⟨rfl,hb2⟩
   have k2:=k1.trans (hb2.mono k1.size)
   go_wp2_with (go_at_call 207;refine (cmpS_any _ _ _).mono ?_;rintro e w' ⟨rfl,rfl⟩)
   go_ret
   exact ⟨rfl,k2⟩
  ·have hv:Lp.vord ⟨3,i,s,b⟩ ⟨3,i',s',b'⟩=Lp.cmpI (Lp.bit b) (Lp.bit b'):=by simp [Lp.vord]
   rw [hv];clear hv
   go_enter Tryz.func182,Tryz.ntmps182
   go_wp2_with fail
   go_region_held3 (fun w'=>w'.cell? ⟨w.heap.size,0,none⟩=some (.int .u8 3)∧w'.cell? ⟨w.heap.size+1,0,none⟩=some (.int .u8 3))
    (first|go_keep|exact ⟨hx0.1,hx0.2.2.2.2.1⟩)
    (first|(go_at_call 205;refine (rank_any _ _).mono ?_;rintro e w' ⟨rfl,rfl⟩)|(go_at_call 204;refine (cmpI_any _ _ _).mono ?_;rintro e w' ⟨rfl,rfl⟩))
   try rw [hrr]
   obtain ⟨f0,f1,f2,f3,f4,f5,f6,f7⟩:=hx0
   go_wp2_with fail
   refine (openb_3 _ _ _ _).mono ?_
   rintro e w1 ⟨rfl,hb1⟩
   have k1:Below w.heap.size w w1:=hb0.drew.trans (hb1.mono (by simp;omega))
   have hx1:=(fun h=>TwoBox.below h hb1) (TwoBox.new w 3 i s b 3 i' s' b' 31 31)
   clear hb1 hb0 f0 f1 f2 f3 f4 f5 f6 f7
   have hS1:w1.drew.cell? ⟨w.heap.size+1,0,none⟩=some (.int .u8 3)∧w1.drew.cell? ⟨w.heap.size+1,1,none⟩=some (.int .i64 i')∧w1.drew.cell? ⟨w.heap.size+1,2,none⟩=some (.string s')∧w1.drew.cell? ⟨w.heap.size+1,3,none⟩=some (.bool b'):=hx1.2.2.2.2
   go_wp2_with fail
   go_region_held3 (fun w'=>w'.cell? ⟨w.heap.size+1,0,none⟩=some (.int .u8 3)∧w'.cell? ⟨w.heap.size+1,1,none⟩=some (.int .i64 i')∧w'.cell? ⟨w.heap.size+1,2,none⟩=some (.string s')∧w'.cell? ⟨w.heap.size+1,3,none⟩=some (.bool b'))
    (first|exact hS1|go_keep|exact hx2.2.2.2.2)
    (first
     | (go_at_call 208;refine (bit_is _ _).mono ?_;rintro e w' ⟨rfl,rfl⟩)
     | (go_at_call 125;refine (openb_3 _ _ _ _).mono ?_;rintro e w2 ⟨rfl,hb2⟩;have hx2:=(fun h=>TwoBox.below h hb2) hx1)
     | (go_at_call 204;refine (cmpI_any _ _ _).mono ?_;rintro e w' ⟨rfl,rfl⟩))
   all_goals
    have k2:Below w.heap.size w w2:=k1.drew.trans (hb2.mono k1.size)
    go_wp2
    go_ret
    exact ⟨rfl,k2⟩
  ·have hv:Lp.vord ⟨k,i,s,b⟩ ⟨k',i',s',b'⟩=0:=by
    have h1:=beq_eq_false_iff_ne.1 n1.1
    have h2:=beq_eq_false_iff_ne.1 n1.2.1
    have h3:=beq_eq_false_iff_ne.1 n1.2.2
    simp [Lp.vord,HR.out,h1,h2,h3]
   rw [hv];clear hv
   have hR:=HR.out
   have N1:=κ n1
   clear n1 n2
   go_enter Tryz.func182,Tryz.ntmps182
   go_wp2_with fail
   go_region_held3 (fun w'=>w'.cell? ⟨w.heap.size,0,none⟩=some (.int .u8 k)∧w'.cell? ⟨w.heap.size+1,0,none⟩=some (.int .u8 k'))
    (first|go_keep|exact ⟨hx0.1,hx0.2.2.2.2.1⟩)
    (first|(go_at_call 205;refine (rank_any _ _).mono ?_;rintro e w' ⟨rfl,rfl⟩)|(go_at_call 204;refine (cmpI_any _ _ _).mono ?_;rintro e w' ⟨rfl,rfl⟩))
   try rw [hR]
   try rw [hrr]
   clear hR
   obtain ⟨f0,f1,f2,f3,f4,f5,f6,f7⟩:=hx0
   go_wp2_with fail
   refine (openb_n _ _ _ _ N1.out _).mono ?_
   rintro e w1 ⟨rfl,hb1⟩
   have k1:Below w.heap.size w w1:=hb0.drew.trans (hb1.mono (by simp;omega))
   go_wp2
   go_ret
   exact ⟨rfl,k1⟩
 ·have hv:Lp.vord ⟨k,i,s,b⟩ ⟨k',i',s',b'⟩=Lp.cmpI (Lp.rank k) (Lp.rank k'):=by unfold Lp.vord;rw [if_neg hr]
  rw [hv];clear hv
  have hn:=cmpI_ne hr
  generalize hC:Lp.cmpI (Lp.rank k) (Lp.rank k')=C at *
  have hn2:(C !=0)=true:=bne_iff_ne.2 hn
  have HC:=κ hC
  clear hn hr hC
  go_enter Tryz.func182,Tryz.ntmps182
  go_wp2_with fail
  go_region_held3 (fun w'=>w'.cell? ⟨w.heap.size,0,none⟩=some (.int .u8 k)∧w'.cell? ⟨w.heap.size+1,0,none⟩=some (.int .u8 k'))
   (first|go_keep|exact ⟨hx0.1,hx0.2.2.2.2.1⟩)
   (first|(go_at_call 205;refine (rank_any _ _).mono ?_;rintro e w' ⟨rfl,rfl⟩)|(go_at_call 204;refine (cmpI_any _ _ _).mono ?_;rintro e w' ⟨rfl,rfl⟩))
  try rw [HC.out]
  go_wp2
  go_ret
  exact ⟨rfl,hb0.drew⟩
attribute [local go_sem] ta_i_i ta_i_s ta_i_b ta1_i ta_s_i ta_s_s ta_s_b ta1_s ta_b_i ta_b_s ta_b_b ta1_b ta_n_i ta_n_s ta_n_b
theorem cmpI_neg (a b:Int):decide (Lp.cmpI a b<0)=decide (a<b):=by
 unfold Lp.cmpI;split
 ·simp [*]
 ·split<;>simp [*]
theorem cmpS_neg (a b:List UInt8):decide (Lp.cmpS a b<0)=Op.bytesLess a b:=by
 unfold Lp.cmpS
 cases Op.bytesLess a b
 ·cases Op.bytesLess b a<;>simp
 ·simp
theorem cmpI_turn (a b:Int):Lp.cmpI b a = - Lp.cmpI a b:=by
 unfold Lp.cmpI
 rcases Int.lt_trichotomy a b with h|h|h
 ·rw [if_neg (by omega),if_pos h,if_pos h];rfl
 ·subst h;simp
 ·rw [if_pos h,if_neg (by omega),if_pos h]
theorem cmpS_turn (a b:List UInt8):Lp.cmpS b a = - Lp.cmpS a b:=by
 unfold Lp.cmpS
 cases h1:Op.bytesLess a b
 ·cases h2:Op.bytesLess b a<;>simp
 ·rw [Lp.less_asymm h1];simp
theorem vord_turn (u v:Lp.V):Lp.vord v u = - Lp.vord u v:=by
 unfold Lp.vord
 by_cases hr:Lp.rank u.k=Lp.rank v.k
 ·rw [if_pos hr,if_pos hr.symm]
  rcases rank_kind hr with ⟨h1,h2⟩|⟨h1,h2⟩|⟨h1,h2⟩|⟨h1,h2⟩
  ·simp [h1,h2,cmpI_turn u.i v.i]
  ·simp [h1,h2,cmpS_turn u.s.data.toList v.s.data.toList]
  ·simp [h1,h2,cmpI_turn (Lp.bit u.b) (Lp.bit v.b)]
  ·have a1:=beq_eq_false_iff_ne.1 h1.1
   have a2:=beq_eq_false_iff_ne.1 h1.2.1
   have a3:=beq_eq_false_iff_ne.1 h1.2.2
   have b1:=beq_eq_false_iff_ne.1 h2.1
   have b2:=beq_eq_false_iff_ne.1 h2.2.1
   have b3:=beq_eq_false_iff_ne.1 h2.2.2
   simp [a1,a2,a3,b1,b2,b3]
 ·rw [if_neg hr,if_neg (fun g=>hr g.symm),cmpI_turn]
theorem place_n {v:Lp.V} (h:NoK v.k):Lp.place v=0:=by
 have a1:=beq_eq_false_iff_ne.1 h.1
 have a2:=beq_eq_false_iff_ne.1 h.2.1
 have a3:=beq_eq_false_iff_ne.1 h.2.2
 simp [Lp.place,a1,a2,a3]
theorem vless_ord (u v:Lp.V):Lp.vless u v=decide (Lp.vord u v<0):=by
 obtain ⟨k,i,s,b⟩:=u
 obtain ⟨k',i',s',b'⟩:=v
 rcases kcases k with rfl|rfl|rfl|h1<;>rcases kcases k' with rfl|rfl|rfl|h2
 case inl.inl=>simp [Lp.vless,Lp.vord,Lp.place,cmpI_neg]
 case inr.inl.inr.inl=>simp [Lp.vless,Lp.vord,Lp.place,cmpS_neg]
 case inr.inr.inl.inr.inr.inl=>cases b<;>cases b'<;>rfl
 case inr.inr.inr.inr.inr.inr =>
  have a1:=beq_eq_false_iff_ne.1 h1.1
  have a2:=beq_eq_false_iff_ne.1 h1.2.1
  have a3:=beq_eq_false_iff_ne.1 h1.2.2
  unfold Lp.vless Lp.vord
  rw [place_n (v:=⟨k,i,s,b⟩) h1,place_n (v:=⟨k',i',s',b'⟩) h2]
  simp only [rank_of_n h1,rank_of_n h2]
  simp [a1,a2,a3]
 case inr.inr.inr.inl=>unfold Lp.vless Lp.vord;rw [place_n (v:=⟨k,i,s,b⟩) h1];simp only [rank_of_n h1];simp [Lp.place,Lp.rank,Lp.cmpI]
 case inr.inr.inr.inr.inl=>unfold Lp.vless Lp.vord;rw [place_n (v:=⟨k,i,s,b⟩) h1];simp only [rank_of_n h1];simp [Lp.place,Lp.rank,Lp.cmpI]
 case inr.inr.inr.inr.inr.inl=>unfold Lp.vless Lp.vord;rw [place_n (v:=⟨k,i,s,b⟩) h1];simp only [rank_of_n h1];cases b'<;>simp [Lp.place,Lp.rank,Lp.cmpI]
 case inl.inr.inr.inr=>unfold Lp.vless Lp.vord;rw [place_n (v:=⟨k',i',s',b'⟩) h2];simp only [rank_of_n h2];simp [Lp.place,Lp.rank,Lp.cmpI]
 case inr.inl.inr.inr.inr=>unfold Lp.vless Lp.vord;rw [place_n (v:=⟨k',i',s',b'⟩) h2];simp only [rank_of_n h2];simp [Lp.place,Lp.rank,Lp.cmpI]
 case inr.inr.inl.inr.inr.inr=>unfold Lp.vless Lp.vord;rw [place_n (v:=⟨k',i',s',b'⟩) h2];simp only [rank_of_n h2];cases b<;>simp [Lp.place,Lp.rank,Lp.cmpI]
 case inl.inr.inl=>rfl
 case inl.inr.inr.inl=>cases b'<;>rfl
 case inr.inl.inl=>rfl
 case inr.inl.inr.inr.inl=>cases b'<;>rfl
 case inr.inr.inl.inl=>cases b<;>rfl
 case inr.inr.inl.inr.inl=>cases b<;>rfl
theorem vsame_ord (u v:Lp.V):Lp.vsame u v=(Lp.vord u v==0):=by
 unfold Lp.vsame
 rw [vless_ord,vless_ord,vord_turn u v,Bool.eq_iff_iff]
 simp;omega
theorem cless_any (k i:Int) (s:ByteArray) (b:Bool) (k' i':Int) (s':ByteArray) (b':Bool) (w:World) :
 Calls Tryz.prog 123 #[.agg #[.int .u8 k,.int .i64 i,.string s,.bool b],.agg #[.int .u8 k',.int .i64 i',.string s',.bool b']] w
  fun e w'=>e=.returned (.bool (Lp.vless ⟨k,i,s,b⟩ ⟨k',i',s',b'⟩))∧Below w.heap.size w w':=by
 rw [vless_ord]
 go_enter Tryz.func123,Tryz.ntmps123
 go_wp2_with fail
 refine (order_any _ _ _ _ _ _ _ _ _).mono ?_
 rintro e w1 ⟨rfl,hb1⟩
 go_wp2
 go_ret
 exact ⟨rfl,Below.trans (by repeat (first|exact Below.refl _ _|refine Below.alloc ?_ (by simp) _)) (hb1.mono (by simp;try omega))⟩
attribute [local go_sem] ta_i_i ta_i_s ta_i_b ta1_i ta_s_i ta_s_s ta_s_b ta1_s ta_b_i ta_b_s ta_b_b ta1_b ta_n_i ta_n_s ta_n_b
def Lp.isK (k:Int):Bool:=k==1||k==2||k==3
theorem isK_no {k:Int} (h:Lp.isK k=false):NoK k:=by simpa [Lp.isK,NoK,and_assoc] using h
theorem isK_yes {k:Int} (h:Lp.isK k=true):k=1∨k=2∨k=3:=by simpa [Lp.isK,or_assoc] using h
def Lp.cmpV (u v:Lp.V):Int:=if Lp.isK u.k&&Lp.isK v.k&&decide (u.k=v.k) then Lp.vord u v else 0
def Lp.cmpB (u v:Lp.V):Bool:=Lp.isK u.k&&Lp.isK v.k&&decide (u.k=v.k)
def Lp.cmpE (u v:Lp.V):Int:=if Lp.isK u.k&&Lp.isK v.k && !decide (u.k=v.k) then 8 else 0
def CmpPost (u v:Lp.V) (w:World) (e:Ending) (w':World):Prop:=e=.returned (.tuple #[.int .i64 (Lp.cmpV u v),.bool (Lp.cmpB u v),.int .i64 (Lp.cmpE u v)])∧Below w.heap.size w w'
theorem cmpPost {u v:Lp.V} {w w':World} {a c:Int} {b:Bool} (h1:Lp.cmpV u v=a) (h2:Lp.cmpB u v=b) (h3:Lp.cmpE u v=c) (hb:Below w.heap.size w w'):CmpPost u v w (.returned (.tuple #[.int .i64 a,.bool b,.int .i64 c])) w':=by
 subst h1 h2 h3;exact ⟨rfl,hb⟩
theorem compare_none (k i:Int) (s:ByteArray) (b:Bool) (k' i':Int) (s':ByteArray) (b':Bool) (w:World) (hk:Lp.isK k=false) :
 Calls Tryz.prog 133 #[.agg #[.int .u8 k,.int .i64 i,.string s,.bool b],.agg #[.int .u8 k',.int .i64 i',.string s',.bool b']] w (CmpPost ⟨k,i,s,b⟩ ⟨k',i',s',b'⟩ w):=by
 have h1:Lp.cmpV ⟨k,i,s,b⟩ ⟨k',i',s',b'⟩=0:=by simp [Lp.cmpV,hk]
 have h2:Lp.cmpB ⟨k,i,s,b⟩ ⟨k',i',s',b'⟩=false:=by simp [Lp.cmpB,hk]
 have h3:Lp.cmpE ⟨k,i,s,b⟩ ⟨k',i',s',b'⟩=0:=by simp [Lp.cmpE,hk]
 have H1:=κ h1
 have H2:=κ h2
 have H3:=κ h3
 have N:=κ (isK_no hk)
 have hb0:=((Below.refl w.heap.size w).alloc (Nat.le_refl _) (.cells #[.int .u8 k,.int .i64 i,.string s,.bool b] 31)).alloc (by simp) (.cells #[.int .u8 k',.int .i64 i',.string s',.bool b'] 31)
 clear h1 h2 h3 hk
 go_enter Tryz.func133,Tryz.ntmps133
 go_wp2_with fail
 refine (openb_n _ _ _ _ N.out _).mono ?_
 rintro e w1 ⟨rfl,hb1⟩
 have k1:Below w.heap.size w w1:=hb0.trans (hb1.mono (by simp;omega))
 go_wp2
 go_ret3
 exact cmpPost H1.out H2.out H3.out k1
theorem compare_half_1 (i:Int) (s:ByteArray) (b:Bool) (k' i':Int) (s':ByteArray) (b':Bool) (w:World) (hk:Lp.isK k'=false) :
 Calls Tryz.prog 133 #[.agg #[.int .u8 1,.int .i64 i,.string s,.bool b],.agg #[.int .u8 k',.int .i64 i',.string s',.bool b']] w (CmpPost ⟨1,i,s,b⟩ ⟨k',i',s',b'⟩ w):=by
 have h1:Lp.cmpV ⟨1,i,s,b⟩ ⟨k',i',s',b'⟩=0:=by simp [Lp.cmpV,hk]
 have h2:Lp.cmpB ⟨1,i,s,b⟩ ⟨k',i',s',b'⟩=false:=by simp [Lp.cmpB,hk]
 have h3:Lp.cmpE ⟨1,i,s,b⟩ ⟨k',i',s',b'⟩=0:=by simp [Lp.cmpE,hk]
 have H1:=κ h1
 have H2:=κ h2
 have H3:=κ h3
 have N:=κ (isK_no hk)
 have hb0:=((Below.refl w.heap.size w).alloc (Nat.le_refl _) (.cells #[.int .u8 1,.int .i64 i,.string s,.bool b] 31)).alloc (by simp) (.cells #[.int .u8 k',.int .i64 i',.string s',.bool b'] 31)
 have hx0:=TwoBox.new w 1 i s b k' i' s' b' 31 31
 clear h1 h2 h3 hk
 go_enter Tryz.func133,Tryz.ntmps133
 go_wp2_with fail
 refine (openb_1 _ _ _ _).mono ?_
 rintro e w1 ⟨rfl,hb1⟩
 have k1:Below w.heap.size w w1:=hb0.trans (hb1.mono (by simp;omega))
 have hx1:=hx0.below hb1
 clear hb0 hb1 hx0
 obtain ⟨f0,f1,f2,f3,f4,f5,f6,f7⟩:=hx1
 go_wp2_with fail
 refine (openb_n _ _ _ _ N.out _).mono ?_
 rintro e w2 ⟨rfl,hb2⟩
 have k2:=k1.trans (hb2.mono k1.size)
 go_wp2
 go_ret3
 exact cmpPost H1.out H2.out H3.out k2
theorem compare_half_2 (i:Int) (s:ByteArray) (b:Bool) (k' i':Int) (s':ByteArray) (b':Bool) (w:World) (hk:Lp.isK k'=false) :
 Calls Tryz.prog 133 #[.agg #[.int .u8 2,.int .i64 i,.string s,.bool b],.agg #[.int .u8 k',.int .i64 i',.string s',.bool b']] w (CmpPost ⟨2,i,s,b⟩ ⟨k',i',s',b'⟩ w):=by
 have h1:Lp.cmpV ⟨2,i,s,b⟩ ⟨k',i',s',b'⟩=0:=by simp [Lp.cmpV,hk]
 have h2:Lp.cmpB ⟨2,i,s,b⟩ ⟨k',i',s',b'⟩=false:=by simp [Lp.cmpB,hk]
 have h3:Lp.cmpE ⟨2,i,s,b⟩ ⟨k',i',s',b'⟩=0:=by simp [Lp.cmpE,hk]
 have H1:=κ h1
 have H2:=κ h2
 have H3:=κ h3
 have N:=κ (isK_no hk)
 have hb0:=((Below.refl w.heap.size w).alloc (Nat.le_refl _) (.cells #[.int .u8 2,.int .i64 i,.string s,.bool b] 31)).alloc (by simp) (.cells #[.int .u8 k',.int .i64 i',.string s',.bool b'] 31)
 have hx0:=TwoBox.new w 2 i s b k' i' s' b' 31 31
 clear h1 h2 h3 hk
 go_enter Tryz.func133,Tryz.ntmps133
 go_wp2_with fail
 refine (openb_2 _ _ _ _).mono ?_
 rintro e w1 ⟨rfl,hb1⟩
 have k1:Below w.heap.size w w1:=hb0.trans (hb1.mono (by simp;omega))
 have hx1:=hx0.below hb1
 clear hb0 hb1 hx0
 obtain ⟨f0,f1,f2,f3,f4,f5,f6,f7⟩:=hx1
 go_wp2_with fail
 refine (openb_n _ _ _ _ N.out _).mono ?_
 rintro e w2 ⟨rfl,hb2⟩
 have k2:=k1.trans (hb2.mono k1.size)
 go_wp2
 go_ret3
 exact cmpPost H1.out H2.out H3.out k2
theorem compare_half_3 (i:Int) (s:ByteArray) (b:Bool) (k' i':Int) (s':ByteArray) (b':Bool) (w:World) (hk:Lp.isK k'=false) :
 Calls Tryz.prog 133 #[.agg #[.int .u8 3,.int .i64 i,.string s,.bool b],.agg #[.int .u8 k',.int .i64 i',.string s',.bool b']] w (CmpPost ⟨3,i,s,b⟩ ⟨k',i',s',b'⟩ w):=by
 have h1:Lp.cmpV ⟨3,i,s,b⟩ ⟨k',i',s',b'⟩=0:=by simp [Lp.cmpV,hk]
 have h2:Lp.cmpB ⟨3,i,s,b⟩ ⟨k',i',s',b'⟩=false:=by simp [Lp.cmpB,hk]
 have h3:Lp.cmpE ⟨3,i,s,b⟩ ⟨k',i',s',b'⟩=0:=by simp [Lp.cmpE,hk]
 have H1:=κ h1
 have H2:=κ h2
 have H3:=κ h3
 have N:=κ (isK_no hk)
 have hb0:=((Below.refl w.heap.size w).alloc (Nat.le_refl _) (.cells #[.int .u8 3,.int .i64 i,.string s,.bool b] 31)).alloc (by simp) (.cells #[.int .u8 k',.int .i64 i',.string s',.bool b'] 31)
 have hx0:=TwoBox.new w 3 i s b k' i' s' b' 31 31
 clear h1 h2 h3 hk
 go_enter Tryz.func133,Tryz.ntmps133
 go_wp2_with fail
 refine (openb_3 _ _ _ _).mono ?_
 rintro e w1 ⟨rfl,hb1⟩
 have k1:Below w.heap.size w w1:=hb0.trans (hb1.mono (by simp;omega))
 have hx1:=hx0.below hb1
 clear hb0 hb1 hx0
 obtain ⟨f0,f1,f2,f3,f4,f5,f6,f7⟩:=hx1
 go_wp2_with fail
 refine (openb_n _ _ _ _ N.out _).mono ?_
 rintro e w2 ⟨rfl,hb2⟩
 have k2:=k1.trans (hb2.mono k1.size)
 go_wp2
 go_ret3
 exact cmpPost H1.out H2.out H3.out k2
theorem compare_1_1 (i:Int) (s:ByteArray) (b:Bool) (i':Int) (s':ByteArray) (b':Bool) (w:World) :
 Calls Tryz.prog 133 #[.agg #[.int .u8 1,.int .i64 i,.string s,.bool b],.agg #[.int .u8 1,.int .i64 i',.string s',.bool b']] w (CmpPost ⟨1,i,s,b⟩ ⟨1,i',s',b'⟩ w):=by
 have hb0:=((Below.refl w.heap.size w).alloc (Nat.le_refl _) (.cells #[.int .u8 1,.int .i64 i,.string s,.bool b] 31)).alloc (by simp) (.cells #[.int .u8 1,.int .i64 i',.string s',.bool b'] 31)
 have hx0:=TwoBox.new w 1 i s b 1 i' s' b' 31 31
 go_enter Tryz.func133,Tryz.ntmps133
 go_wp2_with fail
 refine (openb_1 _ _ _ _).mono ?_
 rintro e w1 ⟨rfl,hb1⟩
 have k1:Below w.heap.size w w1:=hb0.trans (hb1.mono (by simp;omega))
 have hx1:=hx0.below hb1
 clear hb0 hb1 hx0
 have hx1':=hx1
 obtain ⟨f0,f1,f2,f3,f4,f5,f6,f7⟩:=hx1
 go_wp2_with fail
 refine (openb_1 _ _ _ _).mono ?_
 rintro e w2 ⟨rfl,hb2⟩
 have k2:=k1.trans (hb2.mono k1.size)
 have hx2:=hx1'.below hb2
 clear k1 hb2 hx1' f0 f1 f2 f3 f4 f5 f6 f7
 obtain ⟨f0,f1,f2,f3,f4,f5,f6,f7⟩:=hx2
 go_wp2_with fail
 refine (order_any _ _ _ _ _ _ _ _ _).mono ?_
 rintro e w3 ⟨rfl,hb3⟩
 have k3:=k2.trans (hb3.mono k2.size)
 go_wp2
 go_ret3
 exact cmpPost rfl rfl rfl k3
theorem compare_1_2 (i:Int) (s:ByteArray) (b:Bool) (i':Int) (s':ByteArray) (b':Bool) (w:World) :
 Calls Tryz.prog 133 #[.agg #[.int .u8 1,.int .i64 i,.string s,.bool b],.agg #[.int .u8 2,.int .i64 i',.string s',.bool b']] w (CmpPost ⟨1,i,s,b⟩ ⟨2,i',s',b'⟩ w):=by
 have hb0:=((Below.refl w.heap.size w).alloc (Nat.le_refl _) (.cells #[.int .u8 1,.int .i64 i,.string s,.bool b] 31)).alloc (by simp) (.cells #[.int .u8 2,.int .i64 i',.string s',.bool b'] 31)
 have hx0:=TwoBox.new w 1 i s b 2 i' s' b' 31 31
 go_enter Tryz.func133,Tryz.ntmps133
 go_wp2_with fail
 refine (openb_1 _ _ _ _).mono ?_
 rintro e w1 ⟨rfl,hb1⟩
 have k1:Below w.heap.size w w1:=hb0.trans (hb1.mono (by simp;omega))
 have hx1:=hx0.below hb1
 clear hb0 hb1 hx0
 have hx1':=hx1
 obtain ⟨f0,f1,f2,f3,f4,f5,f6,f7⟩:=hx1
 go_wp2_with fail
 refine (openb_2 _ _ _ _).mono ?_
 rintro e w2 ⟨rfl,hb2⟩
 have k2:=k1.trans (hb2.mono k1.size)
 have hx2:=hx1'.below hb2
 clear k1 hb2 hx1' f0 f1 f2 f3 f4 f5 f6 f7
 obtain ⟨f0,f1,f2,f3,f4,f5,f6,f7⟩:=hx2
 go_wp2
 go_ret3
 exact cmpPost rfl rfl rfl k2
theorem compare_1_3 (i:Int) (s:ByteArray) (b:Bool) (i':Int) (s':ByteArray) (b':Bool) (w:World) :
 Calls Tryz.prog 133 #[.agg #[.int .u8 1,.int .i64 i,.string s,.bool b],.agg #[.int .u8 3,.int .i64 i',.string s',.bool b']] w (CmpPost ⟨1,i,s,b⟩ ⟨3,i',s',b'⟩ w):=by
 have hb0:=((Below.refl w.heap.size w).alloc (Nat.le_refl _) (.cells #[.int .u8 1,.int .i64 i,.string s,.bool b] 31)).alloc (by simp) (.cells #[.int .u8 3,.int .i64 i',.string s',.bool b'] 31)
 have hx0:=TwoBox.new w 1 i s b 3 i' s' b' 31 31
 go_enter Tryz.func133,Tryz.ntmps133
 go_wp2_with fail
 refine (openb_1 _ _ _ _).mono ?_
 rintro e w1 ⟨rfl,hb1⟩
 have k1:Below w.heap.size w w1:=hb0.trans (hb1.mono (by simp;omega))
 have hx1:=hx0.below hb1
 clear hb0 hb1 hx0
 have hx1':=hx1
 obtain ⟨f0,f1,f2,f3,f4,f5,f6,f7⟩:=hx1
 go_wp2_with fail
 refine (openb_3 _ _ _ _).mono ?_
 rintro e w2 ⟨rfl,hb2⟩
 have k2:=k1.trans (hb2.mono k1.size)
 have hx2:=hx1'.below hb2
 clear k1 hb2 hx1' f0 f1 f2 f3 f4 f5 f6 f7
 obtain ⟨f0,f1,f2,f3,f4,f5,f6,f7⟩:=hx2
 go_wp2
 go_ret3
 exact cmpPost rfl rfl rfl k2
theorem compare_2_1 (i:Int) (s:ByteArray) (b:Bool) (i':Int) (s':ByteArray) (b':Bool) (w:World) :
 Calls Tryz.prog 133 #[.agg #[.int .u8 2,.int .i64 i,.string s,.bool b],.agg #[.int .u8 1,.int .i64 i',.string s',.bool b']] w (CmpPost ⟨2,i,s,b⟩ ⟨1,i',s',b'⟩ w):=by
 have hb0:=((Below.refl w.heap.size w).alloc (Nat.le_refl _) (.cells #[.int .u8 2,.int .i64 i,.string s,.bool b] 31)).alloc (by simp) (.cells #[.int .u8 1,.int .i64 i',.string s',.bool b'] 31)
 have hx0:=TwoBox.new w 2 i s b 1 i' s' b' 31 31
 go_enter Tryz.func133,Tryz.ntmps133
 go_wp2_with fail
 refine (openb_2 _ _ _ _).mono ?_
 rintro e w1 ⟨rfl,hb1⟩
 have k1:Below w.heap.size w w1:=hb0.trans (hb1.mono (by simp;omega))
 have hx1:=hx0.below hb1
 clear hb0 hb1 hx0
 have hx1':=hx1
 obtain ⟨f0,f1,f2,f3,f4,f5,f6,f7⟩:=hx1
 go_wp2_with fail
 refine (openb_1 _ _ _ _).mono ?_
 rintro e w2 ⟨rfl,hb2⟩
 have k2:=k1.trans (hb2.mono k1.size)
 have hx2:=hx1'.below hb2
 clear k1 hb2 hx1' f0 f1 f2 f3 f4 f5 f6 f7
 obtain ⟨f0,f1,f2,f3,f4,f5,f6,f7⟩:=hx2
 go_wp2
 go_ret3
 exact cmpPost rfl rfl rfl k2
theorem compare_2_2 (i:Int) (s:ByteArray) (b:Bool) (i':Int) (s':ByteArray) (b':Bool) (w:World) :
 Calls Tryz.prog 133 #[.agg #[.int .u8 2,.int .i64 i,.string s,.bool b],.agg #[.int .u8 2,.int .i64 i',.string s',.bool b']] w (CmpPost ⟨2,i,s,b⟩ ⟨2,i',s',b'⟩ w):=by
 have hb0:=((Below.refl w.heap.size w).alloc (Nat.le_refl _) (.cells #[.int .u8 2,.int .i64 i,.string s,.bool b] 31)).alloc (by simp) (.cells #[.int .u8 2,.int .i64 i',.string s',.bool b'] 31)
 have hx0:=TwoBox.new w 2 i s b 2 i' s' b' 31 31
 go_enter Tryz.func133,Tryz.ntmps133
 go_wp2_with fail
 refine (openb_2 _ _ _ _).mono ?_
 rintro e w1 ⟨rfl,hb1⟩
 have k1:Below w.heap.size w w1:=hb0.trans (hb1.mono (by simp;omega))
 have hx1:=hx0.below hb1
 clear hb0 hb1 hx0
 have hx1':=hx1
 obtain ⟨f0,f1,f2,f3,f4,f5,f6,f7⟩:=hx1
 go_wp2_with fail
 refine (openb_2 _ _ _ _).mono ?_
 rintro e w2 ⟨rfl,hb2⟩
 have k2:=k1.trans (hb2.mono k1.size)
 have hx2:=hx1'.below hb2
 clear k1 hb2 hx1' f0 f1 f2 f3 f4 f5 f6 f7
 obtain ⟨f0,f1,f2,f3,f4,f5,f6,f7⟩:=hx2
 go_wp2_with fail
 refine (order_any _ _ _ _ _ _ _ _ _).mono ?_
 rintro e w3 ⟨rfl,hb3⟩
 have k3:=k2.trans (hb3.mono k2.size)
 go_wp2
 go_ret3
 exact cmpPost rfl rfl rfl k3
theorem compare_2_3 (i:Int) (s:ByteArray) (b:Bool) (i':Int) (s':ByteArray) (b':Bool) (w:World) :
 Calls Tryz.prog 133 #[.agg #[.int .u8 2,.int .i64 i,.string s,.bool b],.agg #[.int .u8 3,.int .i64 i',.string s',.bool b']] w (CmpPost ⟨2,i,s,b⟩ ⟨3,i',s',b'⟩ w):=by
 have hb0:=((Below.refl w.heap.size w).alloc (Nat.le_refl _) (.cells #[.int .u8 2,.int .i64 i,.string s,.bool b] 31)).alloc (by simp) (.cells #[.int .u8 3,.int .i64 i',.string s',.bool b'] 31)
 have hx0:=TwoBox.new w 2 i s b 3 i' s' b' 31 31
 go_enter Tryz.func133,Tryz.ntmps133
 go_wp2_with fail
 refine (openb_2 _ _ _ _).mono ?_
 rintro e w1 ⟨rfl,hb1⟩
 have k1:Below w.heap.size w w1:=hb0.trans (hb1.mono (by simp;omega))
 have hx1:=hx0.below hb1
 clear hb0 hb1 hx0
 have hx1':=hx1
 obtain ⟨f0,f1,f2,f3,f4,f5,f6,f7⟩:=hx1
 go_wp2_with fail
 refine (openb_3 _ _ _ _).mono ?_
 rintro e w2 ⟨rfl,hb2⟩
 have k2:=k1.trans (hb2.mono k1.size)
 have hx2:=hx1'.below hb2
 clear k1 hb2 hx1' f0 f1 f2 f3 f4 f5 f6 f7
 obtain ⟨f0,f1,f2,f3,f4,f5,f6,f7⟩:=hx2
 go_wp2
 go_ret3
 exact cmpPost rfl rfl rfl k2
theorem compare_3_1 (i:Int) (s:ByteArray) (b:Bool) (i':Int) (s':ByteArray) (b':Bool) (w:World) :
 Calls Tryz.prog 133 #[.agg #[.int .u8 3,.int .i64 i,.string s,.bool b],.agg #[.int .u8 1,.int .i64 i',.string s',.bool b']] w (CmpPost ⟨3,i,s,b⟩ ⟨1,i',s',b'⟩ w):=by
 have hb0:=((Below.refl w.heap.size w).alloc (Nat.le_refl _) (.cells #[.int .u8 3,.int .i64 i,.string s,.bool b] 31)).alloc (by simp) (.cells #[.int .u8 1,.int .i64 i',.string s',.bool b'] 31)
 have hx0:=TwoBox.new w 3 i s b 1 i' s' b' 31 31
 go_enter Tryz.func133,Tryz.ntmps133
 go_wp2_with fail
 refine (openb_3 _ _ _ _).mono ?_
 rintro e w1 ⟨rfl,hb1⟩
 have k1:Below w.heap.size w w1:=hb0.trans (hb1.mono (by simp;omega))
 have hx1:=hx0.below hb1
 clear hb0 hb1 hx0
 have hx1':=hx1
 obtain ⟨f0,f1,f2,f3,f4,f5,f6,f7⟩:=hx1
 go_wp2_with fail
 refine (openb_1 _ _ _ _).mono ?_
 rintro e w2 ⟨rfl,hb2⟩
 have k2:=k1.trans (hb2.mono k1.size)
 have hx2:=hx1'.below hb2
 clear k1 hb2 hx1' f0 f1 f2 f3 f4 f5 f6 f7
 obtain ⟨f0,f1,f2,f3,f4,f5,f6,f7⟩:=hx2
 go_wp2
 go_ret3
 exact cmpPost rfl rfl rfl k2
theorem compare_3_2 (i:Int) (s:ByteArray) (b:Bool) (i':Int) (s':ByteArray) (b':Bool) (w:World) :
 Calls Tryz.prog 133 #[.agg #[.int .u8 3,.int .i64 i,.string s,.bool b],.agg #[.int .u8 2,.int .i64 i',.string s',.bool b']] w (CmpPost ⟨3,i,s,b⟩ ⟨2,i',s',b'⟩ w):=by
 have hb0:=((Below.refl w.heap.size w).alloc (Nat.le_refl _) (.cells #[.int .u8 3,.int .i64 i,.string s,.bool b] 31)).alloc (by simp) (.cells #[.int .u8 2,.int .i64 i',.string s',.bool b'] 31)
 have hx0:=TwoBox.new w 3 i s b 2 i' s' b' 31 31
 go_enter Tryz.func133,Tryz.ntmps133
 go_wp2_with fail
 refine (openb_3 _ _ _ _).mono ?_
 rintro e w1 ⟨rfl,hb1⟩
 have k1:Below w.heap.size w w1:=hb0.trans (hb1.mono (by simp;omega))
 have hx1:=hx0.below hb1
 clear hb0 hb1 hx0
 have hx1':=hx1
 obtain ⟨f0,f1,f2,f3,f4,f5,f6,f7⟩:=hx1
 go_wp2_with fail
 refine (openb_2 _ _ _ _).mono ?_
 rintro e w2 ⟨rfl,hb2⟩
 have k2:=k1.trans (hb2.mono k1.size)
 have hx2:=hx1'.below hb2
 clear k1 hb2 hx1' f0 f1 f2 f3 f4 f5 f6 f7
 obtain ⟨f0,f1,f2,f3,f4,f5,f6,f7⟩:=hx2
 go_wp2
 go_ret3
 exact cmpPost rfl rfl rfl k2
theorem compare_3_3 (i:Int) (s:ByteArray) (b:Bool) (i':Int) (s':ByteArray) (b':Bool) (w:World) :
 Calls Tryz.prog 133 #[.agg #[.int .u8 3,.int .i64 i,.string s,.bool b],.agg #[.int .u8 3,.int .i64 i',.string s',.bool b']] w (CmpPost ⟨3,i,s,b⟩ ⟨3,i',s',b'⟩ w):=by
 have hb0:=((Below.refl w.heap.size w).alloc (Nat.le_refl _) (.cells #[.int .u8 3,.int .i64 i,.string s,.bool b] 31)).alloc (by simp) (.cells #[.int .u8 3,.int .i64 i',.string s',.bool b'] 31)
 have hx0:=TwoBox.new w 3 i s b 3 i' s' b' 31 31
 go_enter Tryz.func133,Tryz.ntmps133
 go_wp2_with fail
 refine (openb_3 _ _ _ _).mono ?_
 rintro e w1 ⟨rfl,hb1⟩
 have k1:Below w.heap.size w w1:=hb0.trans (hb1.mono (by simp;omega))
 have hx1:=hx0.below hb1
 clear hb0 hb1 hx0
 have hx1':=hx1
 obtain ⟨f0,f1,f2,f3,f4,f5,f6,f7⟩:=hx1
 go_wp2_with fail
 refine (openb_3 _ _ _ _).mono ?_
 rintro e w2 ⟨rfl,hb2⟩
 have k2:=k1.trans (hb2.mono k1.size)
 have hx2:=hx1'.below hb2
 clear k1 hb2 hx1' f0 f1 f2 f3 f4 f5 f6 f7
 obtain ⟨f0,f1,f2,f3,f4,f5,f6,f7⟩:=hx2
 go_wp2_with fail
 refine (order_any _ _ _ _ _ _ _ _ _).mono ?_
 rintro e w3 ⟨rfl,hb3⟩
 have k3:=k2.trans (hb3.mono k2.size)
 go_wp2
 go_ret3
 exact cmpPost rfl rfl rfl k3
theorem compare_any (k i:Int) (s:ByteArray) (b:Bool) (k' i':Int) (s':ByteArray) (b':Bool) (w:World) :
 Calls Tryz.prog 133 #[.agg #[.int .u8 k,.int .i64 i,.string s,.bool b],.agg #[.int .u8 k',.int .i64 i',.string s',.bool b']] w (CmpPost ⟨k,i,s,b⟩ ⟨k',i',s',b'⟩ w):=by
 cases h1:Lp.isK k
 ·exact compare_none k i s b k' i' s' b' w h1
 ·cases h2:Lp.isK k'
  ·rcases isK_yes h1 with rfl|rfl|rfl
   ·exact compare_half_1 i s b k' i' s' b' w h2
   ·exact compare_half_2 i s b k' i' s' b' w h2
   ·exact compare_half_3 i s b k' i' s' b' w h2
  ·rcases isK_yes h1 with rfl|rfl|rfl<;>rcases isK_yes h2 with rfl|rfl|rfl
   ·exact compare_1_1 i s b i' s' b' w
   ·exact compare_1_2 i s b i' s' b' w
   ·exact compare_1_3 i s b i' s' b' w
   ·exact compare_2_1 i s b i' s' b' w
   ·exact compare_2_2 i s b i' s' b' w
   ·exact compare_2_3 i s b i' s' b' w
   ·exact compare_3_1 i s b i' s' b' w
   ·exact compare_3_2 i s b i' s' b' w
   ·exact compare_3_3 i s b i' s' b' w
end Go.Proofs.YtkfjmgmjbljnbaaGreatDoor
