/-
 Contracts. Conditions: those of each.
-/
import Derived.Deep.QuietTactic
import Derived.BigQuiet
import Derived.Test.YtkolcimllghnaaaGreatDoorQbGB
set_option maxRecDepth 100000
set_option maxHeartbeats 8000000
namespace Go.Proofs.YtkolcimllghnaaaGreatDoor
open Lp Go.Proofs.Tryz
open Go.RowKit
def aV (c:Int):Ending:=.panicked [{ v:=.iface 97 (.agg #[.int .i64 c]),recovered:=false }]
theorem Aw {a b:Bool} (h:a=b):Ending.returned (.bool a)=.returned (.bool b):=by rw [h]
theorem pY (c:Int) (w:World):Calls prog 72 #[.int .i64 c] w fun e w'=>e=aV c∧w=w':=by
 go_enter func72,ntmps72
 go_wp2
 exact ⟨rfl,rfl,rfl⟩
theorem cZ (w:World):Calls prog 31 #[.bool true] w fun e w'=>e=.returned (.tuple #[])∧w=w':=by
 go_enter func31,ntmps31
 go_wp2
 go_end0
 exact ⟨rfl,rfl⟩
theorem jR (w:World):Calls prog 31 #[.bool false] w fun e w'=>e=aV 4∧w=w':=by
 go_enter func31,ntmps31
 go_wp2_with fail
 refine (pY 4 w).mono ?_
 rintro e w' ⟨rfl,rfl⟩
 unfold aV
 go_wp2
 exact ⟨rfl,rfl,rfl⟩
theorem Yw (P d:Nat) (l:List Tok) (s:ByteArray) (w:World) (h:PS w P l d) :
 Calls prog 71 #[.pointer (some ⟨P,0,none⟩),.string s] w fun e w'=>e=.returned (.bool (isF s.data.toList l))∧w=w':=by
 obtain ⟨A,c,h1,h2,h3⟩:=h
 have hc0:=β h1 0
 cases l with
 | nil =>
   clear h1 h2 h3
   go_enter func71,ntmps71
   go_wp2
   go_ret
   exact ⟨rfl,rfl⟩
 | cons t r =>
   obtain ⟨b,off,rfl,hlt,k0,k1,k2⟩:=h3.front
   have hlen:0<(((t::r).length:Nat):Int):=by simp
   have hlen2:0<(t::r).length:=by simp
   obtain ⟨n,hn⟩:∃ n,(t::r).length=n:=⟨_,rfl⟩
   rw [hn] at hc0 hlen hlen2
   clear h1 h2 h3 hn
   go_enter func71,ntmps71
   go_wp2
   all_goals
    go_ret
    exact ⟨Aw (by simp [isF, *,ByteArray.toList_eq] at *;try simp [*]),rfl⟩
theorem mG (P d:Nat) (l:List Tok) (s:ByteArray) (w:World) (h:PS w P l d) (r:Bool) (hr:isF s.data.toList l=r) :
 Calls prog 71 #[.pointer (some ⟨P,0,none⟩),.string s] w fun e w'=>e=.returned (.bool r)∧w=w':=by
 subst hr
 exact Yw P d l s w h
def zP (P:Nat) (w:World) (l:List Tok) (d:Nat) (r:Bool) (e:Ending) (w':World):Prop :=
 e=.returned (.bool r)∧But P w w'∧PS w' P (if r then l.tail else l) d
theorem Yy (P d:Nat) (l:List Tok) (s:ByteArray) (w:World) (h:PS w P l d) (hr:isF s.data.toList l=false) :
 Calls prog 30 #[.pointer (some ⟨P,0,none⟩),.string s] w (zP P w l d false):=by
 have hI:=κ (mG P d l s w h false hr)
 have H:=κ h
 clear h hr
 go_enter func30,ntmps30
 go_wp2_with fail
 refine μ hI ?_
 rintro e w' ⟨rfl,rfl⟩
 go_wp2
 go_ret
 exact ⟨rfl,But.refl _ _,H.out⟩
theorem Vj (P d:Nat) (t:Tok) (r:List Tok) (s:ByteArray) (w:World) (h:PS w P (t::r) d) (hr:isF s.data.toList (t::r)=true) :
 Calls prog 30 #[.pointer (some ⟨P,0,none⟩),.string s] w (zP P w (t::r) d true):=by
 have hI:=κ (mG P d (t::r) s w h true hr)
 obtain ⟨A,c,h1,h2,h3⟩:=h
 have hc0:=β h1 0
 have hfz:=frozen_of_row w P 0 _ _ h1
 obtain ⟨b,off,rfl,hlt, -, -, -⟩:=h3.front
 have h2':r.length+1≤c:=by simpa using h2
 have HT:=κ (h3.tail h2')
 have H1:=κ h1
 have hn1:(t::r).length=r.length+1:=rfl
 rw [hn1] at hc0
 have hpos:(1:Int)≤((r.length:Nat):Int)+1:=by omega
 have hcc:((r.length:Nat):Int)+1≤(c:Int):=by omega
 clear h1 h2 h3 hr hn1
 by_cases hc1:c=1
 ·have hr0:r=[]:=List.eq_nil_of_length_eq_zero (by omega)
  subst hr0
  subst hc1
  go_enter func30,ntmps30
  go_wp2_with fail
  refine μ hI ?_
  rintro e w' ⟨rfl,rfl⟩
  go_wp2
  go_ret
  refine ⟨rfl,But.set _ _ _ _,_,_,heap_setCell_same _ _ _ _ _ _ H1.out,Nat.zero_le _,.inl rfl⟩
 ·go_enter func30,ntmps30
  go_wp2_with fail
  refine μ hI ?_
  rintro e w' ⟨rfl,rfl⟩
  go_wp2
  go_ret
  refine ⟨rfl,But.set _ _ _ _,_,_,heap_setCell_same _ _ _ _ _ _ H1.out,(show r.length≤c-1 by omega),HT.out.but (But.set _ _ _ _)⟩
theorem bM (P d:Nat) (l:List Tok) (s:ByteArray) (w:World) (h:PS w P l d) (b:Bool) (hr:isF s.data.toList l=b) :
 Calls prog 30 #[.pointer (some ⟨P,0,none⟩),.string s] w (zP P w l d b):=by
 cases b
 ·exact Yy P d l s w h hr
 ·obtain ⟨t,r,rfl⟩:=nE hr
  exact Vj P d t r s w h hr
def hH:List (List UInt8)→List Tok→Option (List Tok)
 | [],l=>some l
 | s::ws,l=>match aE s l with
   | none=>none
   | some r=>hH ws r
def wv (ws:List (List UInt8)):List Value:=ws.map fun x=>.string ⟨x.toArray⟩
def NeedPost (P:Nat) (w:World) (d:Nat) (q:Option (List Tok)) (e:Ending) (w':World):Prop :=
 But P w w'∧match q with
 | none=>e=aV 4
 | some r=>e=.returned (.tuple #[])∧PS w' P r d
theorem tY:∀ (ws:List (List UInt8)) (s:List UInt8) (l:List Tok),hH (ws++[s]) l=match hH ws l with|none=>none|some r=>aE s r
 | [],s,l=>by
   show (match aE s l with|none=>none|some r=>some r)=aE s l
   cases aE s l<;>rfl
 | u::ws,s,l=>by
   show (match aE u l with|none=>none|some r=>hH (ws++[s]) r)=match (match aE u l with|none=>none|some r=>hH ws r) with|none=>none|some r=>aE s r
   cases aE u l with
   | none=>rfl
   | some r=>exact tY ws s r
theorem wU:∀ (ws vs:List (List UInt8)) (l:List Tok),hH ws l=none→hH (ws++vs) l=none
 | [],vs,l,h=>by cases h
 | u::ws,vs,l,h=>by
   show (match aE u l with|none=>none|some r=>hH (ws++vs) r)=none
   have h':(match aE u l with|none=>none|some r=>hH ws r)=none:=h
   cases hu:aE u l with
   | none=>rfl
   | some r=>rw [hu] at h';exact wU ws vs r h'
theorem Bo (P d g c:Nat) (ws:List (List UInt8)) (l:List Tok) (w:World) (h:PS w P l d) (hg:g≠P) (hw:∀ j u,(wv ws)[j]? = some u→w.cell? ⟨g,j,none⟩=some u) (hn:ws.length≤10) :
 Calls prog 70 #[.pointer (some ⟨P,0,none⟩),.slice (some ⟨g,0,none⟩) ws.length c] w (NeedPost P w d (hH ws l)):=by
 have HW:=κ hw
 have hn':(ws.length:Int)≤10:=by omega
 clear hw
 go_enter func70,ntmps70
 go_wp2_with fail
 go_loopw [5,8] (fun _ s8 wr=>∃ (k:Nat) (r:List Tok),k≤ws.length∧s8=.int .i64 k∧But P w wr∧PS wr P r d∧hH (ws.take k) l=some r) (fun _ s8 _=>ws.length-(intOf s8).toNat)
 case atStart=>exact ⟨0,l,Nat.zero_le _,rfl,But.refl _ _,h,rfl⟩
 case round =>
  obtain ⟨k,r,hk,rfl,hb,hp,hq⟩:=hrel
  by_cases hlt:k<ws.length
  ·have hc:=nJ hb (HW.out k (.string ⟨(ws[k]).toArray⟩) (by simp [wv,List.getElem?_eq_getElem hlt])) hg
   have hq1:hH (ws.take (k+1)) l=aE ws[k] r:=by
    rw [List.take_succ_eq_append_getElem hlt,tY,hq]
   generalize ws[k]=s at *
   cases hf:isF s r
   ·have HN:=κ (show hH ws l=none by
     have:=wU _ (ws.drop (k+1)) l (hq1.trans (by simp [aE,hf]))
     rwa [List.take_append_drop] at this)
    have hI:=κ (bM P d r ⟨s.toArray⟩ wr hp false hf)
    clear hq hq1 hf hp HW
    go_wp2_with fail
    refine μ hI ?_
    rintro e w1 ⟨rfl,hb1, -⟩
    go_wp2_with fail
    refine (jR w1).mono ?_
    rintro e w2 ⟨rfl,rfl⟩
    unfold aV
    go_wp2
    refine ⟨rfl,hb.trans hb1, ?_⟩
    rw [HN.out]
    rfl
   ·have HN:=κ (show hH (ws.take (k+1)) l=some r.tail from hq1.trans (by simp [aE,hf]))
    have hI:=κ (bM P d r ⟨s.toArray⟩ wr hp true hf)
    clear hq hq1 hf hp HW
    go_wp2_with fail
    refine μ hI ?_
    rintro e w1 ⟨rfl,hb1,hp1⟩
    simp only [if_true] at hp1
    go_wp2_with fail
    refine (cZ w1).mono ?_
    rintro e w2 ⟨rfl,rfl⟩
    go_wp2
    go_roundw
    case rel=>exact ⟨k+1,r.tail,by omega,by go_num,hb.trans hb1,hp1,HN.out⟩
    case measure=>simp [intOf];omega
  ·have hk2:k=ws.length:=by omega
   have HN:=κ (show hH ws l=some r by rwa [hk2,List.take_length] at hq)
   clear hq hk2
   go_wp2
   go_end0
   refine ⟨hb, ?_⟩
   rw [HN.out]
   exact ⟨rfl,hp⟩
def Si (P:Nat) (w:World) (t:Tok) (r:List Tok) (d:Nat) (e:Ending) (w':World):Prop :=
 e=.returned (.agg #[.int .u8 t.k,.string ⟨t.s.toArray⟩,.int .i64 t.n])∧But P w w'∧PS w' P r d
theorem pH (P d:Nat) (t:Tok) (r:List Tok) (k:Int) (w:World) (h:PS w P (t::r) d) (hk:t.k=k) :
 Calls prog 130 #[.pointer (some ⟨P,0,none⟩),.int .u8 k] w (Si P w t r d):=by
 subst hk
 obtain ⟨A,c,h1,h2,h3⟩:=h
 have hc0:=β h1 0
 have hfz:=frozen_of_row w P 0 _ _ h1
 obtain ⟨b,off,rfl,hlt,k0,k1,k2⟩:=h3.front
 have h2':r.length+1≤c:=by simpa using h2
 have HT:=κ (h3.tail h2')
 have H1:=κ h1
 have hPs:=aL h1
 have hn1:(t::r).length=r.length+1:=rfl
 rw [hn1] at hc0
 have hpos:(1:Int)≤((r.length:Nat):Int)+1:=by omega
 have hpos0:(0:Int)<((r.length:Nat):Int)+1:=by omega
 have hcc:((r.length:Nat):Int)+1≤(c:Int):=by omega
 have hbs:=World.block_lt_of_cell? w _ k0
 clear h1 h2 h3 hn1
 by_cases hc1:c=1
 ·have hr0:r=[]:=List.eq_nil_of_length_eq_zero (by omega)
  subst hr0
  subst hc1
  go_enter func130,ntmps130
  go_wp2_with fail
  refine (cZ _).mono ?_
  rintro e w1 ⟨rfl,rfl⟩
  go_wp2
  refine bodyPost_ret (v:=.agg #[.int .u8 t.k,.string ⟨t.s.toArray⟩,.int .i64 t.n]) (by simp [results,results130,go_sem]) rfl ⟨rfl,((But.set _ _ _ _).trans (But.alloc _ _ _)).trans (But.alloc _ _ _),_,_,aC (aC (heap_setCell_same _ _ _ _ _ _ H1.out) _) _,Nat.zero_le _,.inl rfl⟩
 ·go_enter func130,ntmps130
  go_wp2_with fail
  refine (cZ _).mono ?_
  rintro e w1 ⟨rfl,rfl⟩
  go_wp2
  refine bodyPost_ret (v:=.agg #[.int .u8 t.k,.string ⟨t.s.toArray⟩,.int .i64 t.n]) (by simp [results,results130,go_sem]) rfl ⟨rfl,((But.set _ _ _ _).trans (But.alloc _ _ _)).trans (But.alloc _ _ _),_,_,aC (aC (heap_setCell_same _ _ _ _ _ _ H1.out) _) _,(show r.length≤c-1 by omega),HT.out.but (((But.set _ _ _ _).trans (But.alloc _ _ _)).trans (But.alloc _ _ _))⟩
theorem oW {ws:List (List UInt8)} {k:Nat} (h:k<ws.length):(wv ws)[k]? = some (.string ⟨(ws[k]).toArray⟩):=by simp [wv,List.getElem?_eq_getElem h]
def WdsAt (w:World) (g:Nat) (ws:List (List UInt8)):Prop:=∀ j u,(wv ws)[j]? = some u→w.cell? ⟨g,j,none⟩=some u
theorem WdsAt.below {w w':World} {g:Nat} {ws:List (List UInt8)} (h:WdsAt w g ws) (hb:Below w.heap.size w w'):WdsAt w' g ws :=
 fun j u hu=>(hb.cell (p:=⟨g,j,none⟩) (World.block_lt_of_cell? w _ (h j u hu))).trans (h j u hu)
theorem WdsAt.but {w w':World} {P g:Nat} {ws:List (List UInt8)} (h:WdsAt w g ws) (hb:But P w w') (hn:g≠P):WdsAt w' g ws :=
 fun j u hu=>nJ hb (h j u hu) hn
def Qe (ws:List (List UInt8)) (x:List UInt8):Bool:=ws.contains x
def Zw (b:Bool) (w:World) (e:Ending) (w':World):Prop:=∃ i:Int,e=.returned (.int .i64 i)∧decide (0≤i)=b∧w=w'
theorem Jj (g c:Nat) (ws:List (List UInt8)) (s:ByteArray) (w:World) (h:WdsAt w g ws) (hn:ws.length≤1000) :
 Calls prog 178 #[.slice (some ⟨g,0,none⟩) ws.length c,.string s] w (Zw (Qe ws s.data.toList) w):=by
 have H:=κ h
 have hn':(ws.length:Int)≤1000:=by omega
 clear h
 go_enter func178,ntmps178
 go_wp2_with fail
 go_loop [5,8] (fun _ s8=>∃ k:Nat,k≤ws.length∧s8=.int .i64 k∧(ws.take k).contains s.data.toList=false) (fun _ s8=>ws.length-(intOf s8).toNat)
 case atStart=>exact ⟨0,Nat.zero_le _,rfl,rfl⟩
 case round =>
  obtain ⟨k,hk,rfl,hq⟩:=hrel
  by_cases hlt:k<ws.length
  ·have hc:=H.out k _ (oW hlt)
   have hq1:(ws.take (k+1)).contains s.data.toList=(s.data.toList==ws[k]):=by
    rw [List.take_succ_eq_append_getElem hlt,List.contains_eq_any_beq,List.any_append, ←List.contains_eq_any_beq,hq]
    simp
   have HE:s.data.toList=ws[k]→ws.contains s.data.toList=true:=by
    intro e
    rw [e]
    simp
   generalize ws[k]=t at *
   by_cases he:s.data.toList=t
   ·have HE':=κ (show Qe ws s.data.toList=true from HE he)
    have e1:(s.toList==t)=true:=by rw [ByteArray.toList_eq,he];simp
    clear hq hq1 HE he
    go_wp2
    go_ret
    exact ⟨_,rfl,by rw [HE'.out];simp,rfl⟩
   ·have HQ:=κ (show (ws.take (k+1)).contains s.data.toList=false by rw [hq1];simpa using he)
    have e1:(s.toList==t)=false:=by rw [ByteArray.toList_eq];simpa using he
    clear hq hq1 HE he
    go_wp2
    go_round
    case rel=>exact ⟨k+1,by omega,by go_num,HQ.out⟩
    case measure=>simp [intOf];omega
  ·have hk2:k=ws.length:=by omega
   have HQ:=κ (show Qe ws s.data.toList=false by show ws.contains _=false;rwa [hk2,List.take_length] at hq)
   clear hq hk2
   go_wp2
   go_ret
   exact ⟨_,rfl,by rw [HQ.out];rfl,rfl⟩
theorem yY (g c:Nat) (ws:List (List UInt8)) (s:ByteArray) (w:World) (h:WdsAt w g ws) (hn:ws.length≤1000) :
 Calls prog 167 #[.slice (some ⟨g,0,none⟩) ws.length c,.string s] w fun e w'=>e=.returned (.bool (Qe ws s.data.toList))∧w=w':=by
 have HI:=κ (Jj g c ws s w h hn)
 clear h
 generalize Qe ws s.data.toList=b at *
 go_enter func167,ntmps167
 go_wp2_with fail
 refine μ HI ?_
 rintro e w' ⟨i,rfl,hi,rfl⟩
 go_wp2
 go_ret
 exact ⟨by first|exact Aw hi|rfl,rfl⟩
def Resv (w:World):Prop:=WdsAt w 3 Io
theorem bP {w w':World} (h:Resv w) (hb:Below w.heap.size w w'):Resv w':=WdsAt.below h hb
theorem yC (s:ByteArray) (w:World) (h:Resv w) :
 Calls prog 155 #[.string s] w fun e w'=>e=.returned (.bool (vR s.data.toList))∧w=w':=by
 have HI:=κ (show Calls prog 167 #[.slice (some ⟨3,0,none⟩) 39 39,.string s] w fun e w'=>e=.returned (.bool (vR s.data.toList))∧w=w' from yY 3 39 Io s w h (by decide))
 clear h
 go_enter func155,ntmps155
 go_wp2_with fail
 refine μ HI ?_
 rintro e w' ⟨rfl,rfl⟩
 go_wp2
 go_ret
 exact ⟨rfl,rfl⟩
theorem Lm (k:Int) (s:ByteArray) (n:Int) (w:World):(Instr.field 160 (.agg #[.int .u8 k,.string s,.int .i64 n]) 1).run prog w=.ok (.string s) w:=by kernel_rfl
theorem Gg (k:Int) (s:ByteArray) (n:Int) (w:World):(Instr.field 160 (.agg #[.int .u8 k,.string s,.int .i64 n]) 2).run prog w=.ok (.int .i64 n) w:=by kernel_rfl
attribute [local go_sem] Lm Gg
def nN (P:Nat) (w:World) (d:Nat) (q:Option (List UInt8×List Tok)) (e:Ending) (w':World):Prop :=
 But P w w'∧match q with
 | none=>∃ c,e=aV c∧c≠0
 | some (n,r)=>e=.returned (.string ⟨n.toArray⟩)∧PS w' P r d
theorem dU (P d:Nat) (l:List Tok) (w:World) (h:PS w P l d) (hR:Resv w) :
 Calls prog 119 #[.pointer (some ⟨P,0,none⟩)] w (nN P w d (aZ l)):=by
 have hPS:=κ h
 obtain ⟨A,c,h1,h2,h3⟩:=h
 have hc0:=β h1 0
 cases l with
 | nil =>
   clear h1 h2 h3
   go_enter func119,ntmps119
   go_wp2_with fail
   refine (jR _).mono ?_
   rintro e w1 ⟨rfl,rfl⟩
   unfold aV
   go_wp2
   exact ⟨rfl,But.refl _ _,4,rfl,by decide⟩
 | cons t r =>
   obtain ⟨b,off,rfl,hlt,k0,k1,k2⟩:=h3.front
   have HR:=κ (yC ⟨t.s.toArray⟩ w hR)
   have hlen:0<(((t::r).length:Nat):Int):=by simp
   have hlen2:0<(t::r).length:=by simp
   obtain ⟨n,hn⟩:∃ n,(t::r).length=n:=⟨_,rfl⟩
   rw [hn] at hc0 hlen hlen2
   clear h1 h2 h3 hn hR
   by_cases hk:t.k=1
   ·cases hb:vR t.s
    ·have HT:=κ (pH P d t r 1 w hPS.out hk)
     have ek:(t.k==1)=true:=by rw [hk];rfl
     by_cases h20:t.s.length≤20
     ·have HQ:=κ (show aZ (t::r)=some (t.s,r) by simp [aZ,hk,hb,h20])
      have h20':¬((20:Int)<((t.s.length:Nat):Int)):=by omega
      have hb':=κ hb
      clear hb hk
      go_enter func119,ntmps119
      go_wp2_with fail
      refine μ HR ?_
      rintro e w1 ⟨rfl,rfl⟩
      rw [hb'.out]
      go_wp2_with fail
      refine (cZ _).mono ?_
      rintro e w1 ⟨rfl,rfl⟩
      go_wp2_with fail
      refine μ HT ?_
      rintro e w1 ⟨rfl,hb1,hp1⟩
      go_wp2
      go_ret
      refine ⟨hb1, ?_⟩
      rw [HQ.out]
      exact ⟨rfl,hp1⟩
     ·have HQ:=κ (show aZ (t::r)=none by simp [aZ,h20])
      have h20':((20:Int)<((t.s.length:Nat):Int)):=by omega
      have hb':=κ hb
      clear hb hk
      go_enter func119,ntmps119
      go_wp2_with fail
      refine μ HR ?_
      rintro e w1 ⟨rfl,rfl⟩
      rw [hb'.out]
      go_wp2_with fail
      refine (cZ _).mono ?_
      rintro e w1 ⟨rfl,rfl⟩
      go_wp2_with fail
      refine (pY 2 _).mono ?_
      rintro e w1 ⟨rfl,rfl⟩
      unfold aV
      go_wp2
      refine ⟨rfl,But.refl _ _, ?_⟩
      rw [HQ.out]
      exact ⟨2,rfl,by decide⟩
    ·have HQ:=κ (show aZ (t::r)=none by simp [aZ,hb])
     have ek:(t.k==1)=true:=by rw [hk];rfl
     have hb':=κ hb
     clear hb hk
     go_enter func119,ntmps119
     go_wp2_with fail
     refine μ HR ?_
     rintro e w1 ⟨rfl,rfl⟩
     rw [hb'.out]
     go_wp2_with fail
     refine (jR _).mono ?_
     rintro e w1 ⟨rfl,rfl⟩
     unfold aV
     go_wp2
     refine ⟨rfl,But.refl _ _, ?_⟩
     rw [HQ.out]
     exact ⟨4,rfl,by decide⟩
   ·have HQ:=κ (show aZ (t::r)=none by simp [aZ,hk])
    have ek:(t.k==1)=false:=η hk
    clear hk
    go_enter func119,ntmps119
    go_wp2_with fail
    refine (jR _).mono ?_
    rintro e w1 ⟨rfl,rfl⟩
    unfold aV
    go_wp2
    refine ⟨rfl,But.refl _ _, ?_⟩
    rw [HQ.out]
    exact ⟨4,rfl,by decide⟩
def PX (B:Nat) (w:World):Lp.X→Value→Prop
 | .lit k i s b,v=>∃ g,B≤g∧v=.iface 121 (.pointer (some ⟨g,0,none⟩))∧w.heap[g]? = some (.cells #[.int .u8 k,.int .i64 i,.string ⟨s.toArray⟩,.bool b] 123 (0,0))
 | .col t s,v=>∃ g,B≤g∧v=.iface 192 (.pointer (some ⟨g,0,none⟩))∧w.heap[g]? = some (.cells #[.string ⟨t.toArray⟩,.string ⟨s.toArray⟩] 206 (0,0))
 | .un op x,v=>∃ g u,B≤g∧v=.iface 194 (.pointer (some ⟨g,0,none⟩))∧w.heap[g]? = some (.cells #[.string ⟨op.toArray⟩,u] 196 (0,0))∧PX B w x u
 | .bin op a b,v=>∃ g u1 u2,B≤g∧v=.iface 201 (.pointer (some ⟨g,0,none⟩))∧w.heap[g]? = some (.cells #[.string ⟨op.toArray⟩,u1,u2] 247 (0,0))∧PX B w a u1∧PX B w b u2
 | .isn n x,v=>∃ g u,B≤g∧v=.iface 198 (.pointer (some ⟨g,0,none⟩))∧w.heap[g]? = some (.cells #[u,.bool n] 200 (0,0))∧PX B w x u
 | .agg op x,v=>∃ g u,B≤g∧v=.iface 204 (.pointer (some ⟨g,0,none⟩))∧w.heap[g]? = some (.cells #[.string ⟨op.toArray⟩,u] 208 (0,0))∧PX B w x u
 | .cnt,v=>∃ g,B≤g∧v=.iface 204 (.pointer (some ⟨g,0,none⟩))∧w.heap[g]? = some (.cells #[.string ⟨aU.toArray⟩,.nilIface] 208 (0,0))
theorem PX.form {B:Nat} {w:World} {e:Lp.X} {v:Value} (h:PX B w e v):∃ T g,v=.iface T (.pointer (some ⟨g,0,none⟩)):=by
 cases e with
 | lit=>obtain ⟨g,_,h,_⟩:=h;exact ⟨_,g,h⟩
 | col=>obtain ⟨g,_,h,_⟩:=h;exact ⟨_,g,h⟩
 | un=>obtain ⟨g,_,_,h,_⟩:=h;exact ⟨_,g,h⟩
 | bin=>obtain ⟨g,_,_,_,h,_⟩:=h;exact ⟨_,g,h⟩
 | isn=>obtain ⟨g,_,_,h,_⟩:=h;exact ⟨_,g,h⟩
 | agg=>obtain ⟨g,_,_,h,_⟩:=h;exact ⟨_,g,h⟩
 | cnt=>obtain ⟨g,_,h,_⟩:=h;exact ⟨_,g,h⟩
theorem PX.mono {B B':Nat} {w:World} (hB:B'≤B):∀ {e:Lp.X} {v:Value},PX B w e v→PX B' w e v
 | .lit ..,v,h=>by obtain ⟨g,h0,h⟩:=h;exact ⟨g,Nat.le_trans hB h0,h⟩
 | .col ..,v,h=>by obtain ⟨g,h0,h⟩:=h;exact ⟨g,Nat.le_trans hB h0,h⟩
 | .un _ x,v,h=>by obtain ⟨g,u,h0,h1,h2,h3⟩:=h;exact ⟨g,u,Nat.le_trans hB h0,h1,h2,PX.mono hB h3⟩
 | .bin _ a b,v,h=>by obtain ⟨g,u1,u2,h0,h1,h2,h3,h4⟩:=h;exact ⟨g,u1,u2,Nat.le_trans hB h0,h1,h2,PX.mono hB h3,PX.mono hB h4⟩
 | .isn _ x,v,h=>by obtain ⟨g,u,h0,h1,h2,h3⟩:=h;exact ⟨g,u,Nat.le_trans hB h0,h1,h2,PX.mono hB h3⟩
 | .agg _ x,v,h=>by obtain ⟨g,u,h0,h1,h2,h3⟩:=h;exact ⟨g,u,Nat.le_trans hB h0,h1,h2,PX.mono hB h3⟩
 | .cnt,v,h=>by obtain ⟨g,h0,h⟩:=h;exact ⟨g,Nat.le_trans hB h0,h⟩
theorem PX.keepB {B:Nat} {w w':World} (hs:∀ g o,B≤g→w.heap[g]? = some o→w'.heap[g]? = some o):∀ {e:Lp.X} {v:Value},PX B w e v→PX B w' e v
 | .lit ..,v,h=>by obtain ⟨g,h0,h1,h2⟩:=h;exact ⟨g,h0,h1,hs _ _ h0 h2⟩
 | .col ..,v,h=>by obtain ⟨g,h0,h1,h2⟩:=h;exact ⟨g,h0,h1,hs _ _ h0 h2⟩
 | .un _ x,v,h=>by obtain ⟨g,u,h0,h1,h2,h3⟩:=h;exact ⟨g,u,h0,h1,hs _ _ h0 h2,PX.keepB hs h3⟩
 | .bin _ a b,v,h=>by obtain ⟨g,u1,u2,h0,h1,h2,h3,h4⟩:=h;exact ⟨g,u1,u2,h0,h1,hs _ _ h0 h2,PX.keepB hs h3,PX.keepB hs h4⟩
 | .isn _ x,v,h=>by obtain ⟨g,u,h0,h1,h2,h3⟩:=h;exact ⟨g,u,h0,h1,hs _ _ h0 h2,PX.keepB hs h3⟩
 | .agg _ x,v,h=>by obtain ⟨g,u,h0,h1,h2,h3⟩:=h;exact ⟨g,u,h0,h1,hs _ _ h0 h2,PX.keepB hs h3⟩
 | .cnt,v,h=>by obtain ⟨g,h0,h1,h2⟩:=h;exact ⟨g,h0,h1,hs _ _ h0 h2⟩
def Stays (w w':World):Prop:=∀ (g:Nat) (cs:Array Value) (t:TypeId),w.heap[g]? = some (.cells cs t (0,0))→t≠100→w'.heap[g]? = some (.cells cs t (0,0))
theorem Stays.refl (w:World):Stays w w:=fun _ _ _ h _=>h
theorem Stays.trans {a b c:World} (h:Stays a b) (k:Stays b c):Stays a c:=fun g cs t hg ht=>k g cs t (h g cs t hg ht) ht
theorem aK {w w':World} (hb:Below w.heap.size w w'):Stays w w':=fun _ _ _ h _=>aA h hb
theorem cG {w w':World} {P d:Nat} {l:List Tok} (hb:But P w w') (hp:PS w P l d):Stays w w':=by
 intro g cs t hg ht
 refine aO hb hg ?_
 rintro rfl
 obtain ⟨A,c,h1,_⟩:=hp
 rw [hg] at h1
 injection h1 with h1
 injection h1 with _ h1
 exact ht h1
theorem PX.keep {B:Nat} {w w':World} (hs:Stays w w'):∀ {e:Lp.X} {v:Value},PX B w e v→PX B w' e v
 | .lit ..,v,h=>by obtain ⟨g,h0,h1,h2⟩:=h;exact ⟨g,h0,h1,hs _ _ _ h2 (by decide)⟩
 | .col ..,v,h=>by obtain ⟨g,h0,h1,h2⟩:=h;exact ⟨g,h0,h1,hs _ _ _ h2 (by decide)⟩
 | .un _ x,v,h=>by obtain ⟨g,u,h0,h1,h2,h3⟩:=h;exact ⟨g,u,h0,h1,hs _ _ _ h2 (by decide),PX.keep hs h3⟩
 | .bin _ a b,v,h=>by obtain ⟨g,u1,u2,h0,h1,h2,h3,h4⟩:=h;exact ⟨g,u1,u2,h0,h1,hs _ _ _ h2 (by decide),PX.keep hs h3,PX.keep hs h4⟩
 | .isn _ x,v,h=>by obtain ⟨g,u,h0,h1,h2,h3⟩:=h;exact ⟨g,u,h0,h1,hs _ _ _ h2 (by decide),PX.keep hs h3⟩
 | .agg _ x,v,h=>by obtain ⟨g,u,h0,h1,h2,h3⟩:=h;exact ⟨g,u,h0,h1,hs _ _ _ h2 (by decide),PX.keep hs h3⟩
 | .cnt,v,h=>by obtain ⟨g,h0,h1,h2⟩:=h;exact ⟨g,h0,h1,hs _ _ _ h2 (by decide)⟩
def XPost (P:Nat) (w:World) (d:Nat) (q:Option (Lp.X×List Tok)) (e:Ending) (w':World):Prop :=
 But P w w'∧match q with
 | none=>∃ c,e=aV c∧c≠0
 | some (x,r)=>∃ T g,e=.returned (.iface T (.pointer (some ⟨g,0,none⟩)))∧PX w.heap.size w' x (.iface T (.pointer (some ⟨g,0,none⟩)))∧PS w' P r d
theorem oJ {w:World} {P d g:Nat} {l:List Tok} {s:List UInt8} {ws:List (List UInt8)} (h:WdsAt w g (s::ws)) (hp:PS w P l d):g≠P:=by
 rintro rfl
 obtain ⟨A,c,h1,_⟩:=hp
 have h2:=h 0 _ rfl
 rw [β h1 0] at h2
 simp at h2
theorem Resv.but {w w':World} {P d:Nat} {l:List Tok} (h:Resv w) (hp:PS w P l d) (hb:But P w w'):Resv w':=WdsAt.but h hb (oJ h hp)
theorem Lsane.sfx {l r:List Tok} (h:Lsane l) (hr:r <:+ l):Lsane r:=⟨Nat.le_trans hr.length_le h.1,fun t ht=>h.2 t (hr.subset ht)⟩
theorem kY {α:Type} {p:α→Bool}:∀ {l:List α} {k:Nat} {s:α},l[k]? = some s→p s=true→(∀ u∈l.take k,p u=false)→l.find? p=some s
 | [],k,s,h,_,_=>by simp at h
 | a::l,0,s,h,hs,_=>by
   simp only [δ,Option.some.injEq] at h
   subst h
   simp [hs]
 | a::l,k+1,s,h,hs,hu=>by
   have ha:p a=false:=hu a (by simp)
   rw [List.find?_cons,ha]
   exact kY (k:=k) (by simpa using h) hs (fun u h=>hu u (by simp [h]))
theorem lZ {α:Type} {p:α→Bool} {l:List α} (h:∀ u∈l,p u=false):l.find? p=none:=by
 rw [List.find?_eq_none]
 intro u hu
 rw [h u hu]
 exact Bool.false_ne_true
def zO (P:Nat) (w:World) (d:Nat) (ws:List (List UInt8)) (l:List Tok) (adv:Bool) (e:Ending) (w':World):Prop :=
 But P w w'∧((∃ (k:Nat) (s:List UInt8),ws[k]? = some s∧e=.returned (.int .i64 k)∧isF s l=true∧(∀ u∈ws.take k,isF u l=false)∧PS w' P (if adv then l.tail else l) d)∨(e=.returned (.int .i64 (-1))∧(∀ u∈ws,isF u l=false)∧PS w' P l d))
theorem gB {p:List UInt8→Bool} {ws:List (List UInt8)} {k:Nat} (h:k<ws.length) (h1:∀ u∈ws.take k,p u=false) (h2:p ws[k]=false):∀ u∈ws.take (k+1),p u=false:=by
 rw [List.take_succ_eq_append_getElem h]
 intro u hu
 rcases List.mem_append.1 hu with hu|hu
 ·exact h1 u hu
 ·rw [List.mem_singleton] at hu;subst hu;exact h2
theorem Vi (P d g c:Nat) (ws:List (List UInt8)) (l:List Tok) (w:World) (h:PS w P l d) (hw:WdsAt w g ws) (hg:g≠P) (hn:ws.length≤10) :
 Calls prog 168 #[.slice (some ⟨g,0,none⟩) ws.length c,.func (.func 30) #[.pointer (some ⟨P,0,none⟩)] #[]] w (zO P w d ws l true):=by
 have HW:=κ hw
 have hn':(ws.length:Int)≤10:=by omega
 clear hw
 go_enter func168,ntmps168
 go_wp2_with fail
 go_loopw [5,8] (fun _ s8 wr=>∃ k:Nat,k≤ws.length∧s8=.int .i64 k∧But P w wr∧PS wr P l d∧∀ u∈ws.take k,isF u l=false) (fun _ s8 _=>ws.length-(intOf s8).toNat)
 case atStart=>exact ⟨0,Nat.zero_le _,rfl,But.refl _ _,h,fun _ h=>by simp at h⟩
 case round =>
  obtain ⟨k,hk,rfl,hb,hp,hq⟩:=hrel
  by_cases hlt:k<ws.length
  ·have hc:=nJ hb (HW.out k _ (oW hlt)) hg
   have hk1:ws[k]? = some ws[k]:=List.getElem?_eq_getElem hlt
   cases hf:isF ws[k] l
   ·have HQ:=κ (gB hlt hq hf)
    have hI:=κ (bM P d l ⟨(ws[k]).toArray⟩ wr hp false hf)
    generalize ws[k]=s at *
    clear hq hf hp HW hk1
    go_wp2_with fail
    refine μ hI ?_
    rintro e w1 ⟨rfl,hb1,hp1⟩
    go_wp2
    go_roundw
    case rel=>exact ⟨k+1,by omega,by go_num,hb.trans hb1,hp1,HQ.out⟩
    case measure=>simp [intOf];omega
   ·have hI:=κ (bM P d l ⟨(ws[k]).toArray⟩ wr hp true hf)
    have HQ:=κ (ι hk1 (ι hf hq))
    generalize ws[k]=s at *
    clear hq hf hp HW hk1
    go_wp2_with fail
    refine μ hI ?_
    rintro e w1 ⟨rfl,hb1,hp1⟩
    go_wp2
    go_ret
    exact ⟨hb.trans hb1,.inl ⟨k,s,HQ.out.1,rfl,HQ.out.2.1,HQ.out.2.2,hp1⟩⟩
  ·have hk2:k=ws.length:=by omega
   have HQ:=κ (show ∀ u∈ws,isF u l=false by rwa [hk2,List.take_length] at hq)
   clear hq hk2
   go_wp2
   go_ret
   exact ⟨hb,.inr ⟨rfl,HQ.out,hp⟩⟩
theorem Yx (P d g c:Nat) (ws:List (List UInt8)) (l:List Tok) (w:World) (h:PS w P l d) (hw:WdsAt w g ws) (hn:ws.length≤10) :
 Calls prog 168 #[.slice (some ⟨g,0,none⟩) ws.length c,.func (.func 71) #[.pointer (some ⟨P,0,none⟩)] #[]] w (zO P w d ws l false):=by
 have HW:=κ hw
 have hn':(ws.length:Int)≤10:=by omega
 clear hw
 go_enter func168,ntmps168
 go_wp2_with fail
 go_loop [5,8] (fun _ s8=>∃ k:Nat,k≤ws.length∧s8=.int .i64 k∧∀ u∈ws.take k,isF u l=false) (fun _ s8=>ws.length-(intOf s8).toNat)
 case atStart=>exact ⟨0,Nat.zero_le _,rfl,fun _ h=>by simp at h⟩
 case round =>
  obtain ⟨k,hk,rfl,hq⟩:=hrel
  by_cases hlt:k<ws.length
  ·have hc:=HW.out k _ (oW hlt)
   have hk1:ws[k]? = some ws[k]:=List.getElem?_eq_getElem hlt
   cases hf:isF ws[k] l
   ·have HQ:=κ (gB hlt hq hf)
    have hI:=κ (mG P d l ⟨(ws[k]).toArray⟩ w h false hf)
    generalize ws[k]=s at *
    clear hq hf HW hk1
    go_wp2_with fail
    refine μ hI ?_
    rintro e w1 ⟨rfl,rfl⟩
    go_wp2
    go_round
    case rel=>exact ⟨k+1,by omega,by go_num,HQ.out⟩
    case measure=>simp [intOf];omega
   ·have hI:=κ (mG P d l ⟨(ws[k]).toArray⟩ w h true hf)
    have HQ:=κ (ι hk1 (ι hf hq))
    generalize ws[k]=s at *
    clear hq hf HW hk1
    go_wp2_with fail
    refine μ hI ?_
    rintro e w1 ⟨rfl,rfl⟩
    go_wp2
    go_ret
    exact ⟨But.refl _ _,.inl ⟨k,s,HQ.out.1,rfl,HQ.out.2.1,HQ.out.2.2,h⟩⟩
  ·have hk2:k=ws.length:=by omega
   have HQ:=κ (show ∀ u∈ws,isF u l=false by rwa [hk2,List.take_length] at hq)
   clear hq hk2
   go_wp2
   go_ret
   exact ⟨But.refl _ _,.inr ⟨rfl,HQ.out,h⟩⟩
