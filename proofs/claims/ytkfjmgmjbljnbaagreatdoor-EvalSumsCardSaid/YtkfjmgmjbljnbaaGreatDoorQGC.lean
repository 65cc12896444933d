/-
 Contracts and laws, joined: Parse1, Parse2, TreeP. Conditions: those of each.
-/
import Derived.Test.YtkfjmgmjbljnbaaGreatDoorQGA
import Derived.Deep.QuietTactic
import Derived.BigQuiet
import Derived.Test.YtkfjmgmjbljnbaaGreatDoorQGB
set_option maxRecDepth 100000
set_option maxHeartbeats 8000000
namespace Go.Proofs.YtkfjmgmjbljnbaaGreatDoor
open Go.RowKit
def Stop (c:Int):Ending:=.panicked [{ v:=.iface 145 (.agg #[.int .i64 c]),recovered:=false }]
theorem ret_b {a b:Bool} (h:a=b):Ending.returned (.bool a)=.returned (.bool b):=by rw [h]
theorem fail_any (c:Int) (w:World):Calls Tryz.prog 118 #[.int .i64 c] w fun e w'=>e=Stop c∧w=w':=by
 go_enter Tryz.func118,Tryz.ntmps118
 go_wp2
 exact ⟨rfl,rfl,rfl⟩
theorem must_yes (w:World):Calls Tryz.prog 79 #[.bool true] w fun e w'=>e=.returned (.tuple #[])∧w=w':=by
 go_enter Tryz.func79,Tryz.ntmps79
 go_wp2
 go_end0
 exact ⟨rfl,rfl⟩
theorem must_no (w:World):Calls Tryz.prog 79 #[.bool false] w fun e w'=>e=Stop 4∧w=w':=by
 go_enter Tryz.func79,Tryz.ntmps79
 go_wp2_with fail
 refine (fail_any 4 w).mono ?_
 rintro e w' ⟨rfl,rfl⟩
 unfold Stop
 go_wp2
 exact ⟨rfl,rfl,rfl⟩
theorem is_any (P d:Nat) (l:List Lp.Tok) (s:ByteArray) (w:World) (h:PS w P l d) :
 Calls Tryz.prog 117 #[.pointer (some ⟨P,0,none⟩),.string s] w fun e w'=>e=.returned (.bool (Lp.isF s.data.toList l))∧w=w':=by
 obtain ⟨A,c,h1,h2,h3⟩:=h
 have hc0:=β h1 0
 cases l with
 | nil =>
   clear h1 h2 h3
   go_enter Tryz.func117,Tryz.ntmps117
   go_wp2
   go_ret
   exact ⟨rfl,rfl⟩
 | cons t r =>
   obtain ⟨b,off,rfl,hlt,k0,k1,k2⟩:=h3.front
   have hlen:0<(((t::r).length:Nat):Int):=by simp
   have hlen2:0<(t::r).length:=by simp
   obtain ⟨n,hn⟩:∃ n,(t::r).length=n:=⟨_,rfl⟩
   rw [hn] at hc0 hlen hlen2
   clear h1 h2 h3 hn
   go_enter Tryz.func117,Tryz.ntmps117
   go_wp2
   all_goals
    go_ret
    exact ⟨ret_b (by simp [Lp.isF, *,ByteArray.toList_eq] at *;try simp [*]),rfl⟩
theorem is_is (P d:Nat) (l:List Lp.Tok) (s:ByteArray) (w:World) (h:PS w P l d) (r:Bool) (hr:Lp.isF s.data.toList l=r) :
 Calls Tryz.prog 117 #[.pointer (some ⟨P,0,none⟩),.string s] w fun e w'=>e=.returned (.bool r)∧w=w':=by
 subst hr
 exact is_any P d l s w h
def HasPost (P:Nat) (w:World) (l:List Lp.Tok) (d:Nat) (r:Bool) (e:Ending) (w':World):Prop :=
 e=.returned (.bool r)∧But P w w'∧PS w' P (if r then l.tail else l) d
theorem has_no (P d:Nat) (l:List Lp.Tok) (s:ByteArray) (w:World) (h:PS w P l d) (hr:Lp.isF s.data.toList l=false) :
 Calls Tryz.prog 78 #[.pointer (some ⟨P,0,none⟩),.string s] w (HasPost P w l d false):=by
 have hI:=κ (is_is P d l s w h false hr)
 have H:=κ h
 clear h hr
 go_enter Tryz.func78,Tryz.ntmps78
 go_wp2_with fail
 refine hI.out.mono ?_
 rintro e w' ⟨rfl,rfl⟩
 go_wp2
 go_ret
 exact ⟨rfl,But.refl _ _,H.out⟩
theorem has_yes (P d:Nat) (t:Lp.Tok) (r:List Lp.Tok) (s:ByteArray) (w:World) (h:PS w P (t::r) d) (hr:Lp.isF s.data.toList (t::r)=true) :
 Calls Tryz.prog 78 #[.pointer (some ⟨P,0,none⟩),.string s] w (HasPost P w (t::r) d true):=by
 have hI:=κ (is_is P d (t::r) s w h true hr)
 obtain ⟨A,c,h1,h2,h3⟩:=h
 have hc0:=β h1 0
 have hfz:=frozen_of_row w P 0 _ _ h1
 obtain ⟨b,off,rfl,hlt, -, -, -⟩:=h3.front
 have h2':r.length+1≤c:=by simpa using h2
 have HT:=κ (h3.tail h2')
 have H1:=κ h1
 have hn1:(t::r).length=r.length+1:=rfl
 rw [hn1] at hc0
 have hpos:(1:Int)≤((r.length:Nat):Int)+1:=by omega
 have hcc:((r.length:Nat):Int)+1≤(c:Int):=by omega
 clear h1 h2 h3 hr hn1
 by_cases hc1:c=1
 ·have hr0:r=[]:=List.eq_nil_of_length_eq_zero (by omega)
  subst hr0
  subst hc1
  go_enter Tryz.func78,Tryz.ntmps78
  go_wp2_with fail
  refine hI.out.mono ?_
  rintro e w' ⟨rfl,rfl⟩
  go_wp2
  go_ret
  refine ⟨rfl,But.set _ _ _ _,_,_,heap_setCell_same _ _ _ _ _ _ H1.out,Nat.zero_le _,.inl rfl⟩
 ·go_enter Tryz.func78,Tryz.ntmps78
  go_wp2_with fail
  refine hI.out.mono ?_
  rintro e w' ⟨rfl,rfl⟩
  go_wp2
  go_ret
  refine ⟨rfl,But.set _ _ _ _,_,_,heap_setCell_same _ _ _ _ _ _ H1.out,(show r.length≤c-1 by omega),HT.out.but (But.set _ _ _ _)⟩
theorem has_is (P d:Nat) (l:List Lp.Tok) (s:ByteArray) (w:World) (h:PS w P l d) (b:Bool) (hr:Lp.isF s.data.toList l=b) :
 Calls Tryz.prog 78 #[.pointer (some ⟨P,0,none⟩),.string s] w (HasPost P w l d b):=by
 cases b
 ·exact has_no P d l s w h hr
 ·obtain ⟨t,r,rfl⟩:=Lp.isF_ne hr
  exact has_yes P d t r s w h hr
def needs:List (List UInt8)→List Lp.Tok→Option (List Lp.Tok)
 | [],l=>some l
 | s::ws,l=>match Lp.needF s l with
   | none=>none
   | some r=>needs ws r
def wv (ws:List (List UInt8)):List Value:=ws.map fun x=>.string ⟨x.toArray⟩
def NeedPost (P:Nat) (w:World) (d:Nat) (q:Option (List Lp.Tok)) (e:Ending) (w':World):Prop :=
 But P w w'∧match q with
 | none=>e=Stop 4
 | some r=>e=.returned (.tuple #[])∧PS w' P r d
theorem needs_snoc:∀ (ws:List (List UInt8)) (s:List UInt8) (l:List Lp.Tok),needs (ws++[s]) l=match needs ws l with|none=>none|some r=>Lp.needF s r
 | [],s,l=>by
   show (match Lp.needF s l with|none=>none|some r=>some r)=Lp.needF s l
   cases Lp.needF s l<;>rfl
 | u::ws,s,l=>by
   show (match Lp.needF u l with|none=>none|some r=>needs (ws++[s]) r)=match (match Lp.needF u l with|none=>none|some r=>needs ws r) with|none=>none|some r=>Lp.needF s r
   cases Lp.needF u l with
   | none=>rfl
   | some r=>exact needs_snoc ws s r
theorem needs_pre:∀ (ws vs:List (List UInt8)) (l:List Lp.Tok),needs ws l=none→needs (ws++vs) l=none
 | [],vs,l,h=>by cases h
 | u::ws,vs,l,h=>by
   show (match Lp.needF u l with|none=>none|some r=>needs (ws++vs) r)=none
   have h':(match Lp.needF u l with|none=>none|some r=>needs ws r)=none:=h
   cases hu:Lp.needF u l with
   | none=>rfl
   | some r=>rw [hu] at h';exact needs_pre ws vs r h'
theorem need_any (P d g c:Nat) (ws:List (List UInt8)) (l:List Lp.Tok) (w:World) (h:PS w P l d) (hg:g≠P) (hw:∀ j u,(wv ws)[j]? = some u→w.cell? ⟨g,j,none⟩=some u) (hn:ws.length≤10) :
 Calls Tryz.prog 116 #[.pointer (some ⟨P,0,none⟩),.slice (some ⟨g,0,none⟩) ws.length c] w (NeedPost P w d (needs ws l)):=by
 have HW:=κ hw
 have hn':(ws.length:Int)≤10:=by omega
 clear hw
 go_enter Tryz.func116,Tryz.ntmps116
 go_wp2_with fail
 go_loopw [5,8] (fun _ s8 wr=>∃ (k:Nat) (r:List Lp.Tok),k≤ws.length∧s8=.int .i64 k∧But P w wr∧PS wr P r d∧needs (ws.take k) l=some r) (fun _ s8 _=>ws.length-(intOf s8).toNat)
 case atStart=>exact ⟨0,l,Nat.zero_le _,rfl,But.refl _ _,h,rfl⟩
 case round =>
  obtain ⟨k,r,hk,rfl,hb,hp,hq⟩:=hrel
  by_cases hlt:k<ws.length
  ·have hc:=but_cell hb (HW.out k (.string ⟨(ws[k]).toArray⟩) (by simp [wv,List.getElem?_eq_getElem hlt])) hg
   have hq1:needs (ws.take (k+1)) l=Lp.needF ws[k] r:=by
    rw [List.take_succ_eq_append_getElem hlt,needs_snoc,hq]
   generalize ws[k]=s at *
   cases hf:Lp.isF s r
   ·have HN:=κ (show needs ws l=none by
     have:=needs_pre _ (ws.drop (k+1)) l (hq1.trans (by simp [Lp.needF,hf]))
     rwa [List.take_append_drop] at this)
    have hI:=κ (has_is P d r ⟨s.toArray⟩ wr hp false hf)
    clear hq hq1 hf hp HW
    go_wp2_with fail
    refine hI.out.mono ?_
    rintro e w1 ⟨rfl,hb1, -⟩
    go_wp2_with fail
    refine (must_no w1).mono ?_
    rintro e w2 ⟨rfl,rfl⟩
    unfold Stop
    go_wp2
    refine ⟨rfl,hb.trans hb1, ?_⟩
    rw [HN.out]
    rfl
   ·have HN:=κ (show needs (ws.take (k+1)) l=some r.tail from hq1.trans (by simp [Lp.needF,hf]))
    have hI:=κ (has_is P d r ⟨s.toArray⟩ wr hp true hf)
    clear hq hq1 hf hp HW
    go_wp2_with fail
    refine hI.out.mono ?_
    rintro e w1 ⟨rfl,hb1,hp1⟩
    simp only [if_true] at hp1
    go_wp2_with fail
    refine (must_yes w1).mono ?_
    rintro e w2 ⟨rfl,rfl⟩
    go_wp2
    go_roundw
    case rel=>exact ⟨k+1,r.tail,by omega,by go_num,hb.trans hb1,hp1,HN.out⟩
    case measure=>simp [intOf];omega
  ·have hk2:k=ws.length:=by omega
   have HN:=κ (show needs ws l=some r by rwa [hk2,List.take_length] at hq)
   clear hq hk2
   go_wp2
   go_end0
   refine ⟨hb, ?_⟩
   rw [HN.out]
   exact ⟨rfl,hp⟩
def TakePost (P:Nat) (w:World) (t:Lp.Tok) (r:List Lp.Tok) (d:Nat) (e:Ending) (w':World):Prop :=
 e=.returned (.agg #[.int .u8 t.k,.string ⟨t.s.toArray⟩,.int .i64 t.n])∧But P w w'∧PS w' P r d
theorem take_yes (P d:Nat) (t:Lp.Tok) (r:List Lp.Tok) (k:Int) (w:World) (h:PS w P (t::r) d) (hk:t.k=k) :
 Calls Tryz.prog 166 #[.pointer (some ⟨P,0,none⟩),.int .u8 k] w (TakePost P w t r d):=by
 subst hk
 obtain ⟨A,c,h1,h2,h3⟩:=h
 have hc0:=β h1 0
 have hfz:=frozen_of_row w P 0 _ _ h1
 obtain ⟨b,off,rfl,hlt,k0,k1,k2⟩:=h3.front
 have h2':r.length+1≤c:=by simpa using h2
 have HT:=κ (h3.tail h2')
 have H1:=κ h1
 have hPs:=heap_lt h1
 have hn1:(t::r).length=r.length+1:=rfl
 rw [hn1] at hc0
 have hpos:(1:Int)≤((r.length:Nat):Int)+1:=by omega
 have hpos0:(0:Int)<((r.length:Nat):Int)+1:=by omega
 have hcc:((r.length:Nat):Int)+1≤(c:Int):=by omega
 have hbs:=World.block_lt_of_cell? w _ k0
 clear h1 h2 h3 hn1
 by_cases hc1:c=1
 ·have hr0:r=[]:=List.eq_nil_of_length_eq_zero (by omega)
  subst hr0
  subst hc1
  go_enter Tryz.func166,Tryz.ntmps166
  go_wp2_with fail
  refine (must_yes _).mono ?_
  rintro e w1 ⟨rfl,rfl⟩
  go_wp2
  refine bodyPost_ret (v:=.agg #[.int .u8 t.k,.string ⟨t.s.toArray⟩,.int .i64 t.n]) (by simp [results,Tryz.results166,go_sem]) rfl ⟨rfl,((But.set _ _ _ _).trans (But.alloc _ _ _)).trans (But.alloc _ _ _),_,_,box_alloc (box_alloc (heap_setCell_same _ _ _ _ _ _ H1.out) _) _,Nat.zero_le _,.inl rfl⟩
 ·go_enter Tryz.func166,Tryz.ntmps166
  go_wp2_with fail
  refine (must_yes _).mono ?_
  rintro e w1 ⟨rfl,rfl⟩
  go_wp2
  refine bodyPost_ret (v:=.agg #[.int .u8 t.k,.string ⟨t.s.toArray⟩,.int .i64 t.n]) (by simp [results,Tryz.results166,go_sem]) rfl ⟨rfl,((But.set _ _ _ _).trans (But.alloc _ _ _)).trans (But.alloc _ _ _),_,_,box_alloc (box_alloc (heap_setCell_same _ _ _ _ _ _ H1.out) _) _,(show r.length≤c-1 by omega),HT.out.but (((But.set _ _ _ _).trans (But.alloc _ _ _)).trans (But.alloc _ _ _))⟩
theorem wv_at {ws:List (List UInt8)} {k:Nat} (h:k<ws.length):(wv ws)[k]? = some (.string ⟨(ws[k]).toArray⟩):=by simp [wv,List.getElem?_eq_getElem h]
def WdsAt (w:World) (g:Nat) (ws:List (List UInt8)):Prop:=∀ j u,(wv ws)[j]? = some u→w.cell? ⟨g,j,none⟩=some u
theorem WdsAt.below {w w':World} {g:Nat} {ws:List (List UInt8)} (h:WdsAt w g ws) (hb:Below w.heap.size w w'):WdsAt w' g ws :=
 fun j u hu=>(hb.cell (p:=⟨g,j,none⟩) (World.block_lt_of_cell? w _ (h j u hu))).trans (h j u hu)
theorem WdsAt.but {w w':World} {P g:Nat} {ws:List (List UInt8)} (h:WdsAt w g ws) (hb:But P w w') (hn:g≠P):WdsAt w' g ws :=
 fun j u hu=>but_cell hb (h j u hu) hn
def hasW (ws:List (List UInt8)) (x:List UInt8):Bool:=ws.contains x
def RetIdx (b:Bool) (w:World) (e:Ending) (w':World):Prop:=∃ i:Int,e=.returned (.int .i64 i)∧decide (0≤i)=b∧w=w'
theorem index_any (g c:Nat) (ws:List (List UInt8)) (s:ByteArray) (w:World) (h:WdsAt w g ws) (hn:ws.length≤1000) :
 Calls Tryz.prog 136 #[.slice (some ⟨g,0,none⟩) ws.length c,.string s] w (RetIdx (hasW ws s.data.toList) w):=by
 have H:=κ h
 have hn':(ws.length:Int)≤1000:=by omega
 clear h
 go_enter Tryz.func136,Tryz.ntmps136
 go_wp2_with fail
 go_loop [5,8] (fun _ s8=>∃ k:Nat,k≤ws.length∧s8=.int .i64 k∧(ws.take k).contains s.data.toList=false) (fun _ s8=>ws.length-(intOf s8).toNat)
 case atStart=>exact ⟨0,Nat.zero_le _,rfl,rfl⟩
 case round =>
  obtain ⟨k,hk,rfl,hq⟩:=hrel
  by_cases hlt:k<ws.length
  ·have hc:=H.out k _ (wv_at hlt)
   have hq1:(ws.take (k+1)).contains s.data.toList=(s.data.toList==ws[k]):=by
    rw [List.take_succ_eq_append_getElem hlt,List.contains_eq_any_beq,List.any_append, ←List.contains_eq_any_beq,hq]
    simp
   have HE:s.data.toList=ws[k]→ws.contains s.data.toList=true:=by
    intro e
    rw [e]
    simp
   generalize ws[k]=t at *
   by_cases he:s.data.toList=t
   ·have HE':=κ (show hasW ws s.data.toList=true from HE he)
    have e1:(s.toList==t)=true:=by rw [ByteArray.toList_eq,he];simp
    clear hq hq1 HE he
    go_wp2
    go_ret
    exact ⟨_,rfl,by rw [HE'.out];simp,rfl⟩
   ·have HQ:=κ (show (ws.take (k+1)).contains s.data.toList=false by rw [hq1];simpa using he)
    have e1:(s.toList==t)=false:=by rw [ByteArray.toList_eq];simpa using he
    clear hq hq1 HE he
    go_wp2
    go_round
    case rel=>exact ⟨k+1,by omega,by go_num,HQ.out⟩
    case measure=>simp [intOf];omega
  ·have hk2:k=ws.length:=by omega
   have HQ:=κ (show hasW ws s.data.toList=false by show ws.contains _=false;rwa [hk2,List.take_length] at hq)
   clear hq hk2
   go_wp2
   go_ret
   exact ⟨_,rfl,by rw [HQ.out];rfl,rfl⟩
theorem contains_any (g c:Nat) (ws:List (List UInt8)) (s:ByteArray) (w:World) (h:WdsAt w g ws) (hn:ws.length≤1000) :
 Calls Tryz.prog 93 #[.slice (some ⟨g,0,none⟩) ws.length c,.string s] w fun e w'=>e=.returned (.bool (hasW ws s.data.toList))∧w=w':=by
 have HI:=κ (index_any g c ws s w h hn)
 clear h
 generalize hasW ws s.data.toList=b at *
 go_enter Tryz.func93,Tryz.ntmps93
 go_wp2_with fail
 refine HI.out.mono ?_
 rintro e w' ⟨i,rfl,hi,rfl⟩
 go_wp2
 go_ret
 exact ⟨by first|exact ret_b hi|rfl,rfl⟩
def Resv (w:World):Prop:=WdsAt w 3 Lp.resL
theorem resv_below {w w':World} (h:Resv w) (hb:Below w.heap.size w w'):Resv w':=WdsAt.below h hb
theorem reserved_any (s:ByteArray) (w:World) (h:Resv w) :
 Calls Tryz.prog 196 #[.string s] w fun e w'=>e=.returned (.bool (Lp.resB s.data.toList))∧w=w':=by
 have HI:=κ (show Calls Tryz.prog 93 #[.slice (some ⟨3,0,none⟩) 39 39,.string s] w fun e w'=>e=.returned (.bool (Lp.resB s.data.toList))∧w=w' from contains_any 3 39 Lp.resL s w h (by decide))
 clear h
 go_enter Tryz.func196,Tryz.ntmps196
 go_wp2_with fail
 refine HI.out.mono ?_
 rintro e w' ⟨rfl,rfl⟩
 go_wp2
 go_ret
 exact ⟨rfl,rfl⟩
theorem tok_S (k:Int) (s:ByteArray) (n:Int) (w:World):(Instr.field 183 (.agg #[.int .u8 k,.string s,.int .i64 n]) 1).run Tryz.prog w=.ok (.string s) w:=by kernel_rfl
theorem tok_N (k:Int) (s:ByteArray) (n:Int) (w:World):(Instr.field 183 (.agg #[.int .u8 k,.string s,.int .i64 n]) 2).run Tryz.prog w=.ok (.int .i64 n) w:=by kernel_rfl
attribute [local go_sem] tok_S tok_N
def NamePost (P:Nat) (w:World) (d:Nat) (q:Option (List UInt8×List Lp.Tok)) (e:Ending) (w':World):Prop :=
 But P w w'∧match q with
 | none=>∃ c,e=Stop c∧c≠0
 | some (n,r)=>e=.returned (.string ⟨n.toArray⟩)∧PS w' P r d
theorem name_any (P d:Nat) (l:List Lp.Tok) (w:World) (h:PS w P l d) (hR:Resv w) :
 Calls Tryz.prog 155 #[.pointer (some ⟨P,0,none⟩)] w (NamePost P w d (Lp.nameF l)):=by
 have hPS:=κ h
 obtain ⟨A,c,h1,h2,h3⟩:=h
 have hc0:=β h1 0
 cases l with
 | nil =>
   clear h1 h2 h3
   go_enter Tryz.func155,Tryz.ntmps155
   go_wp2_with fail
   refine (must_no _).mono ?_
   rintro e w1 ⟨rfl,rfl⟩
   unfold Stop
   go_wp2
   exact ⟨rfl,But.refl _ _,4,rfl,by decide⟩
 | cons t r =>
   obtain ⟨b,off,rfl,hlt,k0,k1,k2⟩:=h3.front
   have HR:=κ (reserved_any ⟨t.s.toArray⟩ w hR)
   have hlen:0<(((t::r).length:Nat):Int):=by simp
   have hlen2:0<(t::r).length:=by simp
   obtain ⟨n,hn⟩:∃ n,(t::r).length=n:=⟨_,rfl⟩
   rw [hn] at hc0 hlen hlen2
   clear h1 h2 h3 hn hR
   by_cases hk:t.k=1
   ·cases hb:Lp.resB t.s
    ·have HT:=κ (take_yes P d t r 1 w hPS.out hk)
     have ek:(t.k==1)=true:=by rw [hk];rfl
     by_cases h20:t.s.length≤20
     ·have HQ:=κ (show Lp.nameF (t::r)=some (t.s,r) by simp [Lp.nameF,hk,hb,h20])
      have h20':¬((20:Int)<((t.s.length:Nat):Int)):=by omega
      have hb':=κ hb
      clear hb hk
      go_enter Tryz.func155,Tryz.ntmps155
      go_wp2_with fail
      refine HR.out.mono ?_
      rintro e w1 ⟨rfl,rfl⟩
      rw [hb'.out]
      go_wp2_with fail
      refine (must_yes _).mono ?_
      rintro e w1 ⟨rfl,rfl⟩
      go_wp2_with fail
      refine HT.out.mono ?_
      rintro e w1 ⟨rfl,hb1,hp1⟩
      go_wp2
      go_ret
      refine ⟨hb1, ?_⟩
      rw [HQ.out]
      exact ⟨rfl,hp1⟩
     ·have HQ:=κ (show Lp.nameF (t::r)=none by simp [Lp.nameF,h20])
      have h20':((20:Int)<((t.s.length:Nat):Int)):=by omega
      have hb':=κ hb
      clear hb hk
      go_enter Tryz.func155,Tryz.ntmps155
      go_wp2_with fail
      refine HR.out.mono ?_
      rintro e w1 ⟨rfl,rfl⟩
      rw [hb'.out]
      go_wp2_with fail
      refine (must_yes _).mono ?_
      rintro e w1 ⟨rfl,rfl⟩
      go_wp2_with fail
      refine (fail_any 2 _).mono ?_
      rintro e w1 ⟨rfl,rfl⟩
      unfold Stop
      go_wp2
      refine ⟨rfl,But.refl _ _, ?_⟩
      rw [HQ.out]
      exact ⟨2,rfl,by decide⟩
    ·have HQ:=κ (show Lp.nameF (t::r)=none by simp [Lp.nameF,hb])
     have ek:(t.k==1)=true:=by rw [hk];rfl
     have hb':=κ hb
     clear hb hk
     go_enter Tryz.func155,Tryz.ntmps155
     go_wp2_with fail
     refine HR.out.mono ?_
     rintro e w1 ⟨rfl,rfl⟩
     rw [hb'.out]
     go_wp2_with fail
     refine (must_no _).mono ?_
     rintro e w1 ⟨rfl,rfl⟩
     unfold Stop
     go_wp2
     refine ⟨rfl,But.refl _ _, ?_⟩
     rw [HQ.out]
     exact ⟨4,rfl,by decide⟩
   ·have HQ:=κ (show Lp.nameF (t::r)=none by simp [Lp.nameF,hk])
    have ek:(t.k==1)=false:=beq_eq_false_iff_ne.2 hk
    clear hk
    go_enter Tryz.func155,Tryz.ntmps155
    go_wp2_with fail
    refine (must_no _).mono ?_
    rintro e w1 ⟨rfl,rfl⟩
    unfold Stop
    go_wp2
    refine ⟨rfl,But.refl _ _, ?_⟩
    rw [HQ.out]
    exact ⟨4,rfl,by decide⟩
def PX (B:Nat) (w:World):Lp.X→Value→Prop
 | .lit k i s b,v=>∃ g,B≤g∧v=.iface 133 (.pointer (some ⟨g,0,none⟩))∧w.heap[g]? = some (.cells #[.int .u8 k,.int .i64 i,.string ⟨s.toArray⟩,.bool b] 135 (0,0))
 | .col t s,v=>∃ g,B≤g∧v=.iface 167 (.pointer (some ⟨g,0,none⟩))∧w.heap[g]? = some (.cells #[.string ⟨t.toArray⟩,.string ⟨s.toArray⟩] 218 (0,0))
 | .un op x,v=>∃ g u,B≤g∧v=.iface 169 (.pointer (some ⟨g,0,none⟩))∧w.heap[g]? = some (.cells #[.string ⟨op.toArray⟩,u] 171 (0,0))∧PX B w x u
 | .bin op a b,v=>∃ g u1 u2,B≤g∧v=.iface 176 (.pointer (some ⟨g,0,none⟩))∧w.heap[g]? = some (.cells #[.string ⟨op.toArray⟩,u1,u2] 223 (0,0))∧PX B w a u1∧PX B w b u2
 | .isn n x,v=>∃ g u,B≤g∧v=.iface 173 (.pointer (some ⟨g,0,none⟩))∧w.heap[g]? = some (.cells #[u,.bool n] 175 (0,0))∧PX B w x u
 | .agg op x,v=>∃ g u,B≤g∧v=.iface 179 (.pointer (some ⟨g,0,none⟩))∧w.heap[g]? = some (.cells #[.string ⟨op.toArray⟩,u] 225 (0,0))∧PX B w x u
 | .cnt,v=>∃ g,B≤g∧v=.iface 179 (.pointer (some ⟨g,0,none⟩))∧w.heap[g]? = some (.cells #[.string ⟨Lp.uCount.toArray⟩,.nilIface] 225 (0,0))
theorem PX.form {B:Nat} {w:World} {e:Lp.X} {v:Value} (h:PX B w e v):∃ T g,v=.iface T (.pointer (some ⟨g,0,none⟩)):=by
 cases e with
 | lit=>obtain ⟨g,_,h,_⟩:=h;exact ⟨_,g,h⟩
 | col=>obtain ⟨g,_,h,_⟩:=h;exact ⟨_,g,h⟩
 | un=>obtain ⟨g,_,_,h,_⟩:=h;exact ⟨_,g,h⟩
 | bin=>obtain ⟨g,_,_,_,h,_⟩:=h;exact ⟨_,g,h⟩
 | isn=>obtain ⟨g,_,_,h,_⟩:=h;exact ⟨_,g,h⟩
 | agg=>obtain ⟨g,_,_,h,_⟩:=h;exact ⟨_,g,h⟩
 | cnt=>obtain ⟨g,_,h,_⟩:=h;exact ⟨_,g,h⟩
theorem PX.mono {B B':Nat} {w:World} (hB:B'≤B):∀ {e:Lp.X} {v:Value},PX B w e v→PX B' w e v
 | .lit ..,v,h=>by obtain ⟨g,h0,h⟩:=h;exact ⟨g,Nat.le_trans hB h0,h⟩
 | .col ..,v,h=>by obtain ⟨g,h0,h⟩:=h;exact ⟨g,Nat.le_trans hB h0,h⟩
 | .un _ x,v,h=>by obtain ⟨g,u,h0,h1,h2,h3⟩:=h;exact ⟨g,u,Nat.le_trans hB h0,h1,h2,PX.mono hB h3⟩
 | .bin _ a b,v,h=>by obtain ⟨g,u1,u2,h0,h1,h2,h3,h4⟩:=h;exact ⟨g,u1,u2,Nat.le_trans hB h0,h1,h2,PX.mono hB h3,PX.mono hB h4⟩
 | .isn _ x,v,h=>by obtain ⟨g,u,h0,h1,h2,h3⟩:=h;exact ⟨g,u,Nat.le_trans hB h0,h1,h2,PX.mono hB h3⟩
 | .agg _ x,v,h=>by obtain ⟨g,u,h0,h1,h2,h3⟩:=h;exact ⟨g,u,Nat.le_trans hB h0,h1,h2,PX.mono hB h3⟩
 | .cnt,v,h=>by obtain ⟨g,h0,h⟩:=h;exact ⟨g,Nat.le_trans hB h0,h⟩
theorem PX.keepB {B:Nat} {w w':World} (hs:∀ g o,B≤g→w.heap[g]? = some o→w'.heap[g]? = some o):∀ {e:Lp.X} {v:Value},PX B w e v→PX B w' e v
 | .lit ..,v,h=>by obtain ⟨g,h0,h1,h2⟩:=h;exact ⟨g,h0,h1,hs _ _ h0 h2⟩
 | .col ..,v,h=>by obtain ⟨g,h0,h1,h2⟩:=h;exact ⟨g,h0,h1,hs _ _ h0 h2⟩
 | .un _ x,v,h=>by obtain ⟨g,u,h0,h1,h2,h3⟩:=h;exact ⟨g,u,h0,h1,hs _ _ h0 h2,PX.keepB hs h3⟩
 | .bin _ a b,v,h=>by obtain ⟨g,u1,u2,h0,h1,h2,h3,h4⟩:=h;exact ⟨g,u1,u2,h0,h1,hs _ _ h0 h2,PX.keepB hs h3,PX.keepB hs h4⟩
 | .isn _ x,v,h=>by obtain ⟨g,u,h0,h1,h2,h3⟩:=h;exact ⟨g,u,h0,h1,hs _ _ h0 h2,PX.keepB hs h3⟩
 | .agg _ x,v,h=>by obtain ⟨g,u,h0,h1,h2,h3⟩:=h;exact ⟨g,u,h0,h1,hs _ _ h0 h2,PX.keepB hs h3⟩
 | .cnt,v,h=>by obtain ⟨g,h0,h1,h2⟩:=h;exact ⟨g,h0,h1,hs _ _ h0 h2⟩
def Stays (w w':World):Prop:=∀ (g:Nat) (cs:Array Value) (t:TypeId),w.heap[g]? = some (.cells cs t (0,0))→t≠148→w'.heap[g]? = some (.cells cs t (0,0))
theorem Stays.refl (w:World):Stays w w:=fun _ _ _ h _=>h
theorem Stays.trans {a b c:World} (h:Stays a b) (k:Stays b c):Stays a c:=fun g cs t hg ht=>k g cs t (h g cs t hg ht) ht
theorem stays_below {w w':World} (hb:Below w.heap.size w w'):Stays w w':=fun _ _ _ h _=>box_below h hb
theorem stays_but {w w':World} {P d:Nat} {l:List Lp.Tok} (hb:But P w w') (hp:PS w P l d):Stays w w':=by
 intro g cs t hg ht
 refine but_box hb hg ?_
 rintro rfl
 obtain ⟨A,c,h1,_⟩:=hp
 rw [hg] at h1
 injection h1 with h1
 injection h1 with _ h1
 exact ht h1
theorem PX.keep {B:Nat} {w w':World} (hs:Stays w w'):∀ {e:Lp.X} {v:Value},PX B w e v→PX B w' e v
 | .lit ..,v,h=>by obtain ⟨g,h0,h1,h2⟩:=h;exact ⟨g,h0,h1,hs _ _ _ h2 (by decide)⟩
 | .col ..,v,h=>by obtain ⟨g,h0,h1,h2⟩:=h;exact ⟨g,h0,h1,hs _ _ _ h2 (by decide)⟩
 | .un _ x,v,h=>by obtain ⟨g,u,h0,h1,h2,h3⟩:=h;exact ⟨g,u,h0,h1,hs _ _ _ h2 (by decide),PX.keep hs h3⟩
 | .bin _ a b,v,h=>by obtain ⟨g,u1,u2,h0,h1,h2,h3,h4⟩:=h;exact ⟨g,u1,u2,h0,h1,hs _ _ _ h2 (by decide),PX.keep hs h3,PX.keep hs h4⟩
 | .isn _ x,v,h=>by obtain ⟨g,u,h0,h1,h2,h3⟩:=h;exact ⟨g,u,h0,h1,hs _ _ _ h2 (by decide),PX.keep hs h3⟩
 | .agg _ x,v,h=>by obtain ⟨g,u,h0,h1,h2,h3⟩:=h;exact ⟨g,u,h0,h1,hs _ _ _ h2 (by decide),PX.keep hs h3⟩
 | .cnt,v,h=>by obtain ⟨g,h0,h1,h2⟩:=h;exact ⟨g,h0,h1,hs _ _ _ h2 (by decide)⟩
def XPost (P:Nat) (w:World) (d:Nat) (q:Option (Lp.X×List Lp.Tok)) (e:Ending) (w':World):Prop :=
 But P w w'∧match q with
 | none=>∃ c,e=Stop c∧c≠0
 | some (x,r)=>∃ T g,e=.returned (.iface T (.pointer (some ⟨g,0,none⟩)))∧PX w.heap.size w' x (.iface T (.pointer (some ⟨g,0,none⟩)))∧PS w' P r d
theorem wds_ne {w:World} {P d g:Nat} {l:List Lp.Tok} {s:List UInt8} {ws:List (List UInt8)} (h:WdsAt w g (s::ws)) (hp:PS w P l d):g≠P:=by
 rintro rfl
 obtain ⟨A,c,h1,_⟩:=hp
 have h2:=h 0 _ rfl
 rw [β h1 0] at h2
 simp at h2
theorem Resv.but {w w':World} {P d:Nat} {l:List Lp.Tok} (h:Resv w) (hp:PS w P l d) (hb:But P w w'):Resv w':=WdsAt.but h hb (wds_ne h hp)
theorem Lsane.sfx {l r:List Lp.Tok} (h:Lsane l) (hr:r <:+ l):Lsane r:=⟨Nat.le_trans hr.length_le h.1,fun t ht=>h.2 t (hr.subset ht)⟩
theorem find_at {α:Type} {p:α→Bool}:∀ {l:List α} {k:Nat} {s:α},l[k]? = some s→p s=true→(∀ u∈l.take k,p u=false)→l.find? p=some s
 | [],k,s,h,_,_=>by simp at h
 | a::l,0,s,h,hs,_=>by
   simp only [List.getElem?_cons_zero,Option.some.injEq] at h
   subst h
   simp [hs]
 | a::l,k+1,s,h,hs,hu=>by
   have ha:p a=false:=hu a (by simp)
   rw [List.find?_cons,ha]
   exact find_at (k:=k) (by simpa using h) hs (fun u h=>hu u (by simp [h]))
theorem find_no {α:Type} {p:α→Bool} {l:List α} (h:∀ u∈l,p u=false):l.find? p=none:=by
 rw [List.find?_eq_none]
 intro u hu
 rw [h u hu]
 exact Bool.false_ne_true
def IdxPost (P:Nat) (w:World) (d:Nat) (ws:List (List UInt8)) (l:List Lp.Tok) (adv:Bool) (e:Ending) (w':World):Prop :=
 But P w w'∧((∃ (k:Nat) (s:List UInt8),ws[k]? = some s∧e=.returned (.int .i64 k)∧Lp.isF s l=true∧(∀ u∈ws.take k,Lp.isF u l=false)∧PS w' P (if adv then l.tail else l) d)∨(e=.returned (.int .i64 (-1))∧(∀ u∈ws,Lp.isF u l=false)∧PS w' P l d))
theorem all_snoc {p:List UInt8→Bool} {ws:List (List UInt8)} {k:Nat} (h:k<ws.length) (h1:∀ u∈ws.take k,p u=false) (h2:p ws[k]=false):∀ u∈ws.take (k+1),p u=false:=by
 rw [List.take_succ_eq_append_getElem h]
 intro u hu
 rcases List.mem_append.1 hu with hu|hu
 ·exact h1 u hu
 ·rw [List.mem_singleton] at hu;subst hu;exact h2
theorem idx_has (P d g c:Nat) (ws:List (List UInt8)) (l:List Lp.Tok) (w:World) (h:PS w P l d) (hw:WdsAt w g ws) (hg:g≠P) (hn:ws.length≤10) :
 Calls Tryz.prog 215 #[.slice (some ⟨g,0,none⟩) ws.length c,.func (.func 78) #[.pointer (some ⟨P,0,none⟩)] #[]] w (IdxPost P w d ws l true):=by
 have HW:=κ hw
 have hn':(ws.length:Int)≤10:=by omega
 clear hw
 go_enter Tryz.func215,Tryz.ntmps215
 go_wp2_with fail
 go_loopw [5,8] (fun _ s8 wr=>∃ k:Nat,k≤ws.length∧s8=.int .i64 k∧But P w wr∧PS wr P l d∧∀ u∈ws.take k,Lp.isF u l=false) (fun _ s8 _=>ws.length-(intOf s8).toNat)
 case atStart=>exact ⟨0,Nat.zero_le _,rfl,But.refl _ _,h,fun _ h=>by simp at h⟩
 case round =>
  obtain ⟨k,hk,rfl,hb,hp,hq⟩:=hrel
  by_cases hlt:k<ws.length
  ·have hc:=but_cell hb (HW.out k _ (wv_at hlt)) hg
   have hk1:ws[k]? = some ws[k]:=List.getElem?_eq_getElem hlt
   cases hf:Lp.isF ws[k] l
   ·have HQ:=κ (all_snoc hlt hq hf)
    have hI:=κ (has_is P d l ⟨(ws[k]).toArray⟩ wr hp false hf)
    generalize ws[k]=s at *
    clear hq hf hp HW hk1
    go_wp2_with fail
    refine hI.out.mono ?_
    rintro e w1 ⟨rfl,hb1,hp1⟩
    go_wp2
    go_roundw
    case rel=>exact ⟨k+1,by omega,by go_num,hb.trans hb1,hp1,HQ.out⟩
    case measure=>simp [intOf];omega
   ·have hI:=κ (has_is P d l ⟨(ws[k]).toArray⟩ wr hp true hf)
    have HQ:=κ (ι hk1 (ι hf hq))
    generalize ws[k]=s at *
    clear hq hf hp HW hk1
    go_wp2_with fail
    refine hI.out.mono ?_
    rintro e w1 ⟨rfl,hb1,hp1⟩
    go_wp2
    go_ret
    exact ⟨hb.trans hb1,.inl ⟨k,s,HQ.out.1,rfl,HQ.out.2.1,HQ.out.2.2,hp1⟩⟩
  ·have hk2:k=ws.length:=by omega
   have HQ:=κ (show ∀ u∈ws,Lp.isF u l=false by rwa [hk2,List.take_length] at hq)
   clear hq hk2
   go_wp2
   go_ret
   exact ⟨hb,.inr ⟨rfl,HQ.out,hp⟩⟩
theorem idx_is (P d g c:Nat) (ws:List (List UInt8)) (l:List Lp.Tok) (w:World) (h:PS w P l d) (hw:WdsAt w g ws) (hn:ws.length≤10) :
 Calls Tryz.prog 215 #[.slice (some ⟨g,0,none⟩) ws.length c,.func (.func 117) #[.pointer (some ⟨P,0,none⟩)] #[]] w (IdxPost P w d ws l false):=by
 have HW:=κ hw
 have hn':(ws.length:Int)≤10:=by omega
 clear hw
 go_enter Tryz.func215,Tryz.ntmps215
 go_wp2_with fail
 go_loop [5,8] (fun _ s8=>∃ k:Nat,k≤ws.length∧s8=.int .i64 k∧∀ u∈ws.take k,Lp.isF u l=false) (fun _ s8=>ws.length-(intOf s8).toNat)
 case atStart=>exact ⟨0,Nat.zero_le _,rfl,fun _ h=>by simp at h⟩
 case round =>
  obtain ⟨k,hk,rfl,hq⟩:=hrel
  by_cases hlt:k<ws.length
  ·have hc:=HW.out k _ (wv_at hlt)
   have hk1:ws[k]? = some ws[k]:=List.getElem?_eq_getElem hlt
   cases hf:Lp.isF ws[k] l
   ·have HQ:=κ (all_snoc hlt hq hf)
    have hI:=κ (is_is P d l ⟨(ws[k]).toArray⟩ w h false hf)
    generalize ws[k]=s at *
    clear hq hf HW hk1
    go_wp2_with fail
    refine hI.out.mono ?_
    rintro e w1 ⟨rfl,rfl⟩
    go_wp2
    go_round
    case rel=>exact ⟨k+1,by omega,by go_num,HQ.out⟩
    case measure=>simp [intOf];omega
   ·have hI:=κ (is_is P d l ⟨(ws[k]).toArray⟩ w h true hf)
    have HQ:=κ (ι hk1 (ι hf hq))
    generalize ws[k]=s at *
    clear hq hf HW hk1
    go_wp2_with fail
    refine hI.out.mono ?_
    rintro e w1 ⟨rfl,rfl⟩
    go_wp2
    go_ret
    exact ⟨But.refl _ _,.inl ⟨k,s,HQ.out.1,rfl,HQ.out.2.1,HQ.out.2.2,h⟩⟩
  ·have hk2:k=ws.length:=by omega
   have HQ:=κ (show ∀ u∈ws,Lp.isF u l=false by rwa [hk2,List.take_length] at hq)
   clear hq hk2
   go_wp2
   go_ret
   exact ⟨But.refl _ _,.inr ⟨rfl,HQ.out,h⟩⟩
end Go.Proofs.YtkfjmgmjbljnbaaGreatDoor
