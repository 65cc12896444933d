/-
 Contracts. Conditions: those of each.
-/
import Derived.Deep.QuietTactic
import Derived.BigQuiet
import Derived.Test.YtkolcimllghnaaaGreatDoorQdGB
set_option maxRecDepth 100000
set_option maxHeartbeats 8000000
namespace Go.Proofs.YtkolcimllghnaaaGreatDoor
open Lp Go.Proofs.Tryz
open Go.RowKit
variable{P d g k:Nat}{w w':World}{l:ZW}
def aT (c:Int):Ending:=.panicked [{ v:=.iface 97 (.agg #[.int .i64 c]),recovered:=false }]
theorem Bg {a b:Bool} (h:a=b):Ending.returned (.bool a)=.returned (.bool b):=ch
theorem tD (c:Int) (w:World):Calls prog 72 #[.int .i64 c] w λe w'=>e=aT c∧w=w':=by
 go_enter func72,ntmps72;go_wp2;exact ⟨rfl,rfl,rfl⟩
theorem dF (w:World):Calls prog 31 #[true] w λe w'=>e=.returned (.tuple #[])∧w=w':=by
 go_enter func31,ntmps31;go_wp2;go_end0;exact cm
theorem lK (w:World):Calls prog 31 #[false] w λe w'=>e=aT 4∧w=w':=by
 go_enter func31,ntmps31;go_wp2_with fail;refine (tD 4 w).mono ?_;rintro e w' ⟨rfl,rfl⟩;unfold aT;go_wp2;exact ⟨rfl,rfl,rfl⟩
theorem aIM (P d:Nat) (l:ZW) (s:ByteArray) (w:World) (h:PS w P l d) :
 Calls prog 71 #[P,s] w λe w'=>e=.returned (.bool (isF s.data.toList l))∧w=w':=by
 obtain ⟨A,c,h1,h2,h3⟩:=h;have hc0:=cq;cases l with
 | nil =>
   clear h1 h2 h3;go_enter func71,ntmps71;go_wp2;go_ret;exact cm
 | cons t r =>
   obtain ⟨b,off,rfl,hlt,k0,k1,k2⟩:=h3.front;have hlen:=cu
   have hlen2:0<(t::r).length:=aa
   obtain ⟨n,hn⟩:∃ n,(t::r).length=n:=cw;rw [hn] at hc0 hlen hlen2;clear h1 h2 h3 hn;go_enter func71,ntmps71;go_wp2
   all_goals
    go_ret;exact ⟨Bg (by simp [isF, *,ByteArray.toList_eq] at *;try simp [*]),rfl⟩
theorem oM (P d:Nat) (l:ZW) (s:ByteArray) (w:World) (h:PS w P l d) (r:Bool) (hr:isF s.data.toList l=r) :
 Calls prog 71 #[P,s] w λe w'=>e=.returned (.bool r)∧w=w':=by
 subst hr;exact aIM P d l s w h
def Ev (P:Nat) (w:World) (l:ZW) (d:Nat) (r:Bool) (e:Ending) (w':World):Prop :=
 e=.returned (.bool r)∧But P w w'∧PS w' P (if r then l.tail else l) d
theorem aIO (P d:Nat) (l:ZW) (s:ByteArray) (w:World) (h:PS w P l d) (hr:isF s.data.toList l=false) :
 Calls prog 30 #[P,s] w (Ev P w l d false):=by
 have hI:=κ (oM P d l s w h false hr);have H:=da;clear h hr;go_enter func30,ntmps30;go_wp2_with fail;refine μ hI ?_;rintro e w' ⟨rfl,rfl⟩;go_wp2;go_ret;exact ⟨rfl,But.refl _ _,H.o⟩
theorem aEL (P d:Nat) (t:Tok) (r:ZW) (s:ByteArray) (w:World) (h:PS w P (t::r) d) (hr:isF s.data.toList (t::r)=true) :
 Calls prog 30 #[P,s] w (Ev P w (t::r) d true):=by
 have hI:=κ (oM P d (t::r) s w h true hr);obtain ⟨A,c,h1,h2,h3⟩:=h;have hc0:=cq;have hfz:=frozen_of_row w P 0 _ _ h1;obtain ⟨b,off,rfl,hlt, -, -, -⟩:=h3.front;have h2':r.length+1≤c:=db
 have HT:=κ (h3.tail h2');have H1:=κ h1;have hn1:(t::r).length=r.length+1:=rfl;rw [hn1] at hc0;have hpos:(1:Int)≤((r.length:Nat):Int)+1:=ac
 have hcc:((r.length:Nat):Int)+1≤(c:Int):=ac
 clear h1 h2 h3 hr hn1
 by_cases hc1:c=1
 ·have hr0:r=[]:=List.eq_nil_of_length_eq_zero ac;subst hr0;subst hc1;go_enter func30,ntmps30;go_wp2_with fail;refine μ hI ?_;rintro e w' ⟨rfl,rfl⟩;go_wp2;go_ret;refine ⟨rfl,But.set _ _ _ _,_,_,heap_setCell_same _ _ _ _ _ _ H1.o,Nat.zero_le _,.inl rfl⟩
 ·go_enter func30,ntmps30;go_wp2_with fail;refine μ hI ?_;rintro e w' ⟨rfl,rfl⟩;go_wp2;go_ret;refine ⟨rfl,But.set _ _ _ _,_,_,heap_setCell_same _ _ _ _ _ _ H1.o,(show r.length≤c-1 by omega),HT.o.but (But.set _ _ _ _)⟩
theorem bS (P d:Nat) (l:ZW) (s:ByteArray) (w:World) (h:PS w P l d) (b:Bool) (hr:isF s.data.toList l=b) :
 Calls prog 30 #[P,s] w (Ev P w l d b):=by
 cases b
 ·exact aIO P d l s w h hr
 ·obtain ⟨t,r,rfl⟩:=pT hr;exact aEL P d t r s w h hr
def jP:List ZS->ZW->Option ZW
 | [],l=>some l
 | s::ws,l=>match aD s l with
   | none=>none
   | some r=>jP ws r
def wv (ws:List ZS):ZU:=ws.map λx=>.string ⟨x.toArray⟩
def NeedPost (P:Nat) (w:World) (d:Nat) (q:Option ZW) (e:Ending) (w':World):Prop :=
 But P w w'∧match q with
 | none=>e=aT 4
 | some r=>e=.returned (.tuple #[])∧PS w' P r d
theorem xU:∀ (ws:List ZS) (s:ZS) (l:ZW),jP (ws++[s]) l=match jP ws l with|none=>none|some r=>aD s r
 | [],s,l=>by
   show (match aD s l with|none=>none|some r=>some r)=aD s l;cases aD s l<;>rfl
 | u::ws,s,l=>by
   show (match aD u l with|none=>none|some r=>jP (ws++[s]) r)=match (match aD u l with|none=>none|some r=>jP ws r) with|none=>none|some r=>aD s r;cases aD u l with
   | none=>rfl
   | some r=>exact xU ws s r
theorem Bs:∀ (ws vs:List ZS) (l:ZW),jP ws l=none->jP (ws++vs) l=none
 | [],vs,l,h=>by cases h
 | u::ws,vs,l,h=>by
   show (match aD u l with|none=>none|some r=>jP (ws++vs) r)=none;have h':(match aD u l with|none=>none|some r=>jP ws r)=none:=h;cases hu:aD u l with
   | none=>rfl
   | some r=>rw [hu] at h';exact Bs ws vs r h'
theorem Hc (P d g c:Nat) (ws:List ZS) (l:ZW) (w:World) (h:PS w P l d) (hg:g≠P) (hw:∀ j u,(wv ws)[j]? = some u->w.cell? ⟨g,j,none⟩=some u) (hn:ws.length≤10) :
 Calls prog 70 #[P,.slice (some ⟨g,0,none⟩) ws.length c] w (NeedPost P w d (jP ws l)):=by
 have HW:=κ hw;have hn':=dc
 clear hw;go_enter func70,ntmps70;go_wp2_with fail
 go_loopw [5,8] (λ_ s8 wr=>∃ (k:Nat) (r:ZW),k≤ws.length∧s8=.int .i64 k∧But P w wr∧PS wr P r d∧jP (ws.take k) l=some r) (λ_ s8 _=>ws.length-(intOf s8).toNat)
 case atStart=>exact ⟨0,l,Nat.zero_le _,rfl,But.refl _ _,h,rfl⟩
 case round =>
  obtain ⟨k,r,hk,rfl,hb,hp,hq⟩:=dd
  by_cases hlt:k<ws.length
  ·have hc:=qA hb (HW.o k (.string ⟨(ws[k]).toArray⟩) (by simp [wv,List.getElem?_eq_getElem hlt])) hg;have hq1:jP (ws.take (k+1)) l=aD ws[k] r:=by
    rw [List.take_succ_eq_append_getElem hlt,xU,hq]
   generalize ws[k]=s at *;cases hf:isF s r
   ·have HN:=κ (show jP ws l=none by
     have:=Bs _ (ws.drop (k+1)) l (hq1.trans (by simp [aD,hf]));rwa [List.take_append_drop] at this)
    have hI:=κ (bS P d r s wr hp false hf);clear hq hq1 hf hp HW;go_wp2_with fail;refine μ hI ?_;rintro e w1 ⟨rfl,hb1, -⟩;go_wp2_with fail;refine (lK w1).mono ?_;rintro e w2 ⟨rfl,rfl⟩;unfold aT;go_wp2;refine ⟨rfl,hb.trans hb1, ?_⟩;rw [HN.o];rfl
   ·have HN:=κ (show jP (ws.take (k+1)) l=some r.tail from hq1.trans (by simp [aD,hf]));have hI:=κ (bS P d r s wr hp true hf);clear hq hq1 hf hp HW;go_wp2_with fail;refine μ hI ?_;rintro e w1 ⟨rfl,hb1,hp1⟩;simp only [if_true] at hp1;go_wp2_with fail;refine (dF w1).mono ?_;rintro e w2 ⟨rfl,rfl⟩;go_wp2
    go_roundw
    case rel=>exact ⟨k+1,r.tail,ac,de,hb.trans hb1,hp1,HN.o⟩
    case measure=>simp [intOf];omega
  ·have hk2:=dg
   have HN:=κ (show jP ws l=some r by rwa [hk2,List.take_length] at hq);clear hq hk2;go_wp2;go_end0;refine ⟨hb, ?_⟩;rw [HN.o];exact ⟨rfl,hp⟩
def aBD (P:Nat) (w:World) (t:Tok) (r:ZW) (d:Nat) (e:Ending) (w':World):Prop :=
 e=.returned (.agg #[.int .u8 t.k,t.s,.int .i64 t.n])∧But P w w'∧PS w' P r d
theorem sJ (P d:Nat) (t:Tok) (r:ZW) (k:Int) (w:World) (h:PS w P (t::r) d) (hk:t.k=k) :
 Calls prog 130 #[P,.int .u8 k] w (aBD P w t r d):=by
 subst hk;obtain ⟨A,c,h1,h2,h3⟩:=h;have hc0:=cq;have hfz:=frozen_of_row w P 0 _ _ h1;obtain ⟨b,off,rfl,hlt,k0,k1,k2⟩:=h3.front;have h2':r.length+1≤c:=db
 have HT:=κ (h3.tail h2');have H1:=κ h1;have hPs:=aG h1;have hn1:(t::r).length=r.length+1:=rfl;rw [hn1] at hc0;have hpos:(1:Int)≤((r.length:Nat):Int)+1:=ac
 have hpos0:(0:Int)<((r.length:Nat):Int)+1:=ac
 have hcc:((r.length:Nat):Int)+1≤(c:Int):=ac
 have hbs:=World.block_lt_of_cell? w _ k0;clear h1 h2 h3 hn1
 by_cases hc1:c=1
 ·have hr0:r=[]:=List.eq_nil_of_length_eq_zero ac;subst hr0;subst hc1;go_enter func130,ntmps130;go_wp2_with fail;refine (dF _).mono ?_;rintro e w1 ⟨rfl,rfl⟩;go_wp2;refine bodyPost_ret (v:=.agg #[.int .u8 t.k,t.s,.int .i64 t.n]) dh rfl ⟨rfl,((But.set _ _ _ _).trans (But.alloc _ _ _)).trans (But.alloc _ _ _),_,_,aB (aB (heap_setCell_same _ _ _ _ _ _ H1.o) _) _,Nat.zero_le _,.inl rfl⟩
 ·go_enter func130,ntmps130;go_wp2_with fail;refine (dF _).mono ?_;rintro e w1 ⟨rfl,rfl⟩;go_wp2;refine bodyPost_ret (v:=.agg #[.int .u8 t.k,t.s,.int .i64 t.n]) dh rfl ⟨rfl,((But.set _ _ _ _).trans (But.alloc _ _ _)).trans (But.alloc _ _ _),_,_,aB (aB (heap_setCell_same _ _ _ _ _ _ H1.o) _) _,(show r.length≤c-1 by omega),HT.o.but (((But.set _ _ _ _).trans (But.alloc _ _ _)).trans (But.alloc _ _ _))⟩
theorem rZ {ws:List ZS} (h:k<ws.length):(wv ws)[k]? = some (.string ⟨(ws[k]).toArray⟩):=by simp [wv,List.getElem?_eq_getElem h]
def WdsAt (w:World) (g:Nat) (ws:List ZS):Prop:=∀ j u,(wv ws)[j]? = some u->w.cell? ⟨g,j,none⟩=some u
theorem WdsAt.below {ws:List ZS} (h:WdsAt w g ws) (hb:Below w w w'):WdsAt w' g ws :=
 λj u hu=>(hb.cell (p:=⟨g,j,none⟩) (World.block_lt_of_cell? w _ (h j u hu))).trans (h j u hu)
theorem WdsAt.but {ws:List ZS} (h:WdsAt w g ws) (hb:But P w w') (hn:g≠P):WdsAt w' g ws :=
 λj u hu=>qA hb (h j u hu) hn
def Yp (ws:List ZS) (x:ZS):Bool:=ws.contains x
def aJP (b:Bool) (w:World) (e:Ending) (w':World):Prop:=∃ i:Int,e=.returned (.int .i64 i)∧decide (0≤i)=b∧w=w'
theorem Re (g c:Nat) (ws:List ZS) (s:ByteArray) (w:World) (h:WdsAt w g ws) (hn:ws.length≤1000) :
 Calls prog 178 #[.slice (some ⟨g,0,none⟩) ws.length c,s] w (aJP (Yp ws s.data.toList) w):=by
 have H:=da;have hn':(ws.length:Int)≤1000:=ac
 clear h;go_enter func178,ntmps178;go_wp2_with fail
 go_loop [5,8] (λ_ s8=>∃ k:Nat,k≤ws.length∧s8=.int .i64 k∧(ws.take k).contains s.data.toList=false) (λ_ s8=>ws.length-(intOf s8).toNat)
 case atStart=>exact ⟨0,Nat.zero_le _,rfl,rfl⟩
 case round =>
  obtain ⟨k,hk,rfl,hq⟩:=dd
  by_cases hlt:k<ws.length
  ·have hc:=H.o k _ (rZ hlt);have hq1:(ws.take (k+1)).contains s.data.toList=(s.data.toList==ws[k]):=by
    rw [List.take_succ_eq_append_getElem hlt,List.contains_eq_any_beq,List.any_append, <-List.contains_eq_any_beq,hq];simp
   have HE:s.data.toList=ws[k]->ws.contains s.data.toList=true:=by
    intro e;rw [e];simp
   generalize ws[k]=t at *
   by_cases he:s.data.toList=t
   ·have HE':=κ (show Yp ws s.data.toList=true from HE he);have e1:(s.toList==t)=true:=di
    clear hq hq1 HE he;go_wp2;go_ret;exact ⟨_,rfl,by rw [HE'.o];simp,rfl⟩
   ·have HQ:=dj;have e1:(s.toList==t)=false:=by rw [ByteArray.toList_eq];simpa using he
    clear hq hq1 HE he;go_wp2
    go_round
    case rel=>exact ⟨k+1,ac,de,HQ.o⟩
    case measure=>simp [intOf];omega
  ·have hk2:=dg
   have HQ:=κ (show Yp ws s.data.toList=false by show ws.contains _=false;rwa [hk2,List.take_length] at hq);clear hq hk2;go_wp2;go_ret;exact ⟨_,rfl,dk,rfl⟩
theorem Ed (g c:Nat) (ws:List ZS) (s:ByteArray) (w:World) (h:WdsAt w g ws) (hn:ws.length≤1000) :
 Calls prog 167 #[.slice (some ⟨g,0,none⟩) ws.length c,s] w λe w'=>e=.returned (.bool (Yp ws s.data.toList))∧w=w':=by
 have HI:=κ (Re g c ws s w h hn);clear h;generalize Yp ws s.data.toList=b at *;go_enter func167,ntmps167;go_wp2_with fail;refine μ HI ?_;rintro e w' ⟨i,rfl,hi,rfl⟩;go_wp2;go_ret;exact ⟨by first|exact Bg hi|rfl,rfl⟩
def Resv (w:World):Prop:=WdsAt w 3 Qf
theorem cC (h:Resv w) (hb:Below w w w'):Resv w':=WdsAt.below h hb
theorem De (s:ByteArray) (w:World) (h:Resv w) :
 Calls prog 155 #[s] w λe w'=>e=.returned (.bool (zT s.data.toList))∧w=w':=by
 have HI:=κ (show Calls prog 167 #[.slice (some ⟨3,0,none⟩) 39 39,s] w λe w'=>e=.returned (.bool (zT s.data.toList))∧w=w' from Ed 3 39 Qf s w h am);clear h;go_enter func155,ntmps155;go_wp2_with fail;refine μ HI ?_;rintro e w' ⟨rfl,rfl⟩;go_wp2;go_ret;exact cm
theorem To (k:Int) (s:ByteArray) (n:Int) (w:World):(Instr.field 160 (.agg #[.int .u8 k,s,.int .i64 n]) 1).run prog w=.ok (.string s) w:=aj
theorem My (k:Int) (s:ByteArray) (n:Int) (w:World):(Instr.field 160 (.agg #[.int .u8 k,s,.int .i64 n]) 2).run prog w=.ok (.int .i64 n) w:=aj
attribute [local go_sem] To My
def qF (P:Nat) (w:World) (d:Nat) (q:Option (ZS×ZW)) (e:Ending) (w':World):Prop :=
 But P w w'∧match q with
 | none=>∃ c,e=aT c∧c≠0
 | some (n,r)=>e=.returned (.string n)∧PS w' P r d
theorem eD (P d:Nat) (l:ZW) (w:World) (h:PS w P l d) (hR:Resv w) :
 Calls prog 119 #[P] w (qF P w d (bB l)):=by
 have hPS:=da;obtain ⟨A,c,h1,h2,h3⟩:=h;have hc0:=cq;cases l with
 | nil =>
   clear h1 h2 h3;go_enter func119,ntmps119;go_wp2_with fail;refine (lK _).mono ?_;rintro e w1 ⟨rfl,rfl⟩;unfold aT;go_wp2;exact ⟨rfl,But.refl _ _,4,rfl,am⟩
 | cons t r =>
   obtain ⟨b,off,rfl,hlt,k0,k1,k2⟩:=h3.front;have HR:=κ (De t.s w hR);have hlen:=cu
   have hlen2:0<(t::r).length:=aa
   obtain ⟨n,hn⟩:∃ n,(t::r).length=n:=cw;rw [hn] at hc0 hlen hlen2;clear h1 h2 h3 hn hR
   by_cases hk:t.k=1
   ·cases hb:zT t.s
    ·have HT:=κ (sJ P d t r 1 w hPS.o hk);have ek:=dl
     by_cases h20:t.s.length≤20
     ·have HQ:=κ (show bB (t::r)=some (t.s,r) by simp [bB,hk,hb,h20]);have h20':¬((20:Int)<((t.s.length:Nat):Int)):=ac
      have hb':=dm;clear hb hk;go_enter func119,ntmps119;go_wp2_with fail;refine μ HR ?_;rintro e w1 ⟨rfl,rfl⟩;rw [hb'.o];go_wp2_with fail;refine (dF _).mono ?_;rintro e w1 ⟨rfl,rfl⟩;go_wp2_with fail;refine μ HT ?_;rintro e w1 ⟨rfl,hb1,hp1⟩;go_wp2;go_ret;refine ⟨hb1, ?_⟩;rw [HQ.o];exact ⟨rfl,hp1⟩
     ·have HQ:=κ (show bB (t::r)=none by simp [bB,h20]);have h20':((20:Int)<((t.s.length:Nat):Int)):=ac
      have hb':=dm;clear hb hk;go_enter func119,ntmps119;go_wp2_with fail;refine μ HR ?_;rintro e w1 ⟨rfl,rfl⟩;rw [hb'.o];go_wp2_with fail;refine (dF _).mono ?_;rintro e w1 ⟨rfl,rfl⟩;go_wp2_with fail;refine (tD 2 _).mono ?_;rintro e w1 ⟨rfl,rfl⟩;unfold aT;go_wp2;refine ⟨rfl,But.refl _ _, ?_⟩;rw [HQ.o];exact ⟨2,rfl,am⟩
    ·have HQ:=κ (show bB (t::r)=none by simp [bB,hb]);have ek:=dl
     have hb':=dm;clear hb hk;go_enter func119,ntmps119;go_wp2_with fail;refine μ HR ?_;rintro e w1 ⟨rfl,rfl⟩;rw [hb'.o];go_wp2_with fail;refine (lK _).mono ?_;rintro e w1 ⟨rfl,rfl⟩;unfold aT;go_wp2;refine ⟨rfl,But.refl _ _, ?_⟩;rw [HQ.o];exact dn
   ·have HQ:=κ (show bB (t::r)=none by simp [bB,hk]);have ek:(t.k==1)=false:=η hk;clear hk;go_enter func119,ntmps119;go_wp2_with fail;refine (lK _).mono ?_;rintro e w1 ⟨rfl,rfl⟩;unfold aT;go_wp2;refine ⟨rfl,But.refl _ _, ?_⟩;rw [HQ.o];exact dn
def PX (B:Nat) (w:World):Lp.X->Value->Prop
 | .lit k i s b,v=>∃ g,B≤g∧v=.iface 121 (.pointer (some ⟨g,0,none⟩))∧w.heap[g]? = some (.cells #[.int .u8 k,.int .i64 i,s,b] 123 (0,0))
 | .col t s,v=>∃ g,B≤g∧v=.iface 192 (.pointer (some ⟨g,0,none⟩))∧w.heap[g]? = some (.cells #[t,s] 206 (0,0))
 | .un op x,v=>∃ g u,B≤g∧v=.iface 194 (.pointer (some ⟨g,0,none⟩))∧w.heap[g]? = some (.cells #[op,u] 196 (0,0))∧PX B w x u
 | .bin op a b,v=>∃ g u1 u2,B≤g∧v=.iface 201 (.pointer (some ⟨g,0,none⟩))∧w.heap[g]? = some (.cells #[op,u1,u2] 247 (0,0))∧PX B w a u1∧PX B w b u2
 | .isn n x,v=>∃ g u,B≤g∧v=.iface 198 (.pointer (some ⟨g,0,none⟩))∧w.heap[g]? = some (.cells #[u,n] 200 (0,0))∧PX B w x u
 | .agg op x,v=>∃ g u,B≤g∧v=.iface 204 (.pointer (some ⟨g,0,none⟩))∧w.heap[g]? = some (.cells #[op,u] 208 (0,0))∧PX B w x u
 | .cnt,v=>∃ g,B≤g∧v=.iface 204 (.pointer (some ⟨g,0,none⟩))∧w.heap[g]? = some (.cells #[aJ,.nilIface] 208 (0,0))
theorem PX.form {B:Nat} {e:Lp.X} {v:Value} (h:PX B w e v):∃ T g,v=.iface T (.pointer (some ⟨g,0,none⟩)):=by
 cases e with
 | lit=>obtain ⟨g,_,h,_⟩:=h;exact dp
 | col=>obtain ⟨g,_,h,_⟩:=h;exact dp
 | un=>obtain ⟨g,_,_,h,_⟩:=h;exact dp
 | bin=>obtain ⟨g,_,_,_,h,_⟩:=h;exact dp
 | isn=>obtain ⟨g,_,_,h,_⟩:=h;exact dp
 | agg=>obtain ⟨g,_,_,h,_⟩:=h;exact dp
 | cnt=>obtain ⟨g,_,h,_⟩:=h;exact dp
theorem PX.mono {B B':Nat} {w:World} (hB:B'≤B):∀ {e:Lp.X} {v:Value},PX B w e v->PX B' w e v
 | .lit ..,v,h=>dq
 | .col ..,v,h=>dq
 | .un _ x,v,h=>dr
 | .bin _ a b,v,h=>by obtain ⟨g,u1,u2,h0,h1,h2,h3,h4⟩:=h;exact ⟨g,u1,u2,Nat.le_trans hB h0,h1,h2,PX.mono hB h3,PX.mono hB h4⟩
 | .isn _ x,v,h=>dr
 | .agg _ x,v,h=>dr
 | .cnt,v,h=>dq
theorem PX.keepB {B:Nat} {w w':World} (hs:∀ g o,B≤g->w.heap[g]? = some o->w'.heap[g]? = some o):∀ {e:Lp.X} {v:Value},PX B w e v->PX B w' e v
 | .lit ..,v,h=>dt
 | .col ..,v,h=>dt
 | .un _ x,v,h=>du
 | .bin _ a b,v,h=>by obtain ⟨g,u1,u2,h0,h1,h2,h3,h4⟩:=h;exact ⟨g,u1,u2,h0,h1,hs _ _ h0 h2,PX.keepB hs h3,PX.keepB hs h4⟩
 | .isn _ x,v,h=>du
 | .agg _ x,v,h=>du
 | .cnt,v,h=>dt
def Stays (w w':World):Prop:=∀ (g:Nat) (cs:ZV) (t:TypeId),w.heap[g]? = some (.cells cs t (0,0))->t≠100->w'.heap[g]? = some (.cells cs t (0,0))
theorem Stays.refl (w:World):Stays w w:=λ_ _ _ h _=>h
theorem Stays.trans {a b c:World} (h:Stays a b) (k:Stays b c):Stays a c:=λg cs t hg ht=>k g cs t (h g cs t hg ht) ht
theorem aP (hb:Below w w w'):Stays w w':=λ_ _ _ h _=>aA h hb
theorem cT (hb:But P w w') (hp:PS w P l d):Stays w w':=by
 intro g cs t hg ht;refine aL hb hg ?_;rintro rfl;obtain ⟨A,c,h1,_⟩:=hp;rw [hg] at h1;injection h1 with h1;injection h1 with _ h1;exact ht h1
theorem PX.keep {B:Nat} {w w':World} (hs:Stays w w'):∀ {e:Lp.X} {v:Value},PX B w e v->PX B w' e v
 | .lit ..,v,h=>dv
 | .col ..,v,h=>dv
 | .un _ x,v,h=>dw
 | .bin _ a b,v,h=>by obtain ⟨g,u1,u2,h0,h1,h2,h3,h4⟩:=h;exact ⟨g,u1,u2,h0,h1,hs _ _ _ h2 am,PX.keep hs h3,PX.keep hs h4⟩
 | .isn _ x,v,h=>dw
 | .agg _ x,v,h=>dw
 | .cnt,v,h=>dv
def XPost (P:Nat) (w:World) (d:Nat) (q:Option (Lp.X×ZW)) (e:Ending) (w':World):Prop :=
 But P w w'∧match q with
 | none=>∃ c,e=aT c∧c≠0
 | some (x,r)=>∃ T g,e=.returned (.iface T (.pointer (some ⟨g,0,none⟩)))∧PX w w' x (.iface T (.pointer (some ⟨g,0,none⟩)))∧PS w' P r d
theorem rM {s:ZS} {ws:List ZS} (h:WdsAt w g (s::ws)) (hp:PS w P l d):g≠P:=by
 rintro rfl;obtain ⟨A,c,h1,_⟩:=hp;have h2:=h 0 _ rfl;rw [β h1 0] at h2;simp at h2
theorem Resv.but {w w':World} {P d:Nat} {l:ZW} (h:Resv w) (hp:PS w P l d) (hb:But P w w'):Resv w':=WdsAt.but h hb (rM h hp)
theorem Lsane.sfx {r:ZW} (h:Lsane l) (hr:r <:+ l):Lsane r:=⟨Nat.le_trans hr.length_le h.1,λt ht=>h.2 t (hr.subset ht)⟩
theorem mY {α:Type} {p:α->Bool}:∀ {l:List α} {k:Nat} {s:α},l[k]? = some s->p s=true->(∀ u∈l.take k,p u=false)->l.find? p=some s
 | [],k,s,h,_,_=>ar
 | a::l,0,s,h,hs,_=>by
   simp only [δ,Option.some.injEq] at h;subst h;simp [hs]
 | a::l,k+1,s,h,hs,hu=>by
   have ha:p a=false:=hu a aa;rw [List.find?_cons,ha];exact mY (k:=k) an hs (λu h=>hu u (by simp [h]))
theorem oG {α:Type} {p:α->Bool} {l:List α} (h:∀ u∈l,p u=false):l.find? p=none:=by
 rw [List.find?_eq_none];intro u hu;rw [h u hu];exact Bool.false_ne_true
def Eu (P:Nat) (w:World) (d:Nat) (ws:List ZS) (l:ZW) (adv:Bool) (e:Ending) (w':World):Prop :=
 But P w w'∧((∃ (k:Nat) (s:ZS),ws[k]? = some s∧e=.returned (.int .i64 k)∧isF s l=true∧(∀ u∈ws.take k,isF u l=false)∧PS w' P (if adv then l.tail else l) d)∨(e=.returned (.int .i64 (-1))∧(∀ u∈ws,isF u l=false)∧PS w' P l d))
theorem iD {p:ZS->Bool} {ws:List ZS} (h:k<ws.length) (h1:∀ u∈ws.take k,p u=false) (h2:p ws[k]=false):∀ u∈ws.take (k+1),p u=false:=by
 rw [List.take_succ_eq_append_getElem h];intro u hu;rcases List.mem_append.1 hu with hu|hu
 ·exact h1 u hu
 ·rw [List.mem_singleton] at hu;subst hu;exact h2
theorem aEK (P d g c:Nat) (ws:List ZS) (l:ZW) (w:World) (h:PS w P l d) (hw:WdsAt w g ws) (hg:g≠P) (hn:ws.length≤10) :
 Calls prog 168 #[.slice (some ⟨g,0,none⟩) ws.length c,.func (.func 30) #[P] #[]] w (Eu P w d ws l true):=by
 have HW:=κ hw;have hn':=dc
 clear hw;go_enter func168,ntmps168;go_wp2_with fail
 go_loopw [5,8] (λ_ s8 wr=>∃ k:Nat,k≤ws.length∧s8=.int .i64 k∧But P w wr∧PS wr P l d∧∀ u∈ws.take k,isF u l=false) (λ_ s8 _=>ws.length-(intOf s8).toNat)
 case atStart=>exact ⟨0,Nat.zero_le _,rfl,But.refl _ _,h,λ_ h=>ar⟩
 case round =>
  obtain ⟨k,hk,rfl,hb,hp,hq⟩:=dd
  by_cases hlt:k<ws.length
  ·have hc:=qA hb (HW.o k _ (rZ hlt)) hg;have hk1:ws[k]? = some ws[k]:=List.getElem?_eq_getElem hlt;cases hf:isF ws[k] l
   ·have HQ:=κ (iD hlt hq hf);have hI:=κ (bS P d l ⟨(ws[k]).toArray⟩ wr hp false hf);generalize ws[k]=s at *;clear hq hf hp HW hk1;go_wp2_with fail;refine μ hI ?_;rintro e w1 ⟨rfl,hb1,hp1⟩;go_wp2
    go_roundw
    case rel=>exact ⟨k+1,ac,de,hb.trans hb1,hp1,HQ.o⟩
    case measure=>simp [intOf];omega
   ·have hI:=κ (bS P d l ⟨(ws[k]).toArray⟩ wr hp true hf);have HQ:=κ (ι hk1 (ι hf hq));generalize ws[k]=s at *;clear hq hf hp HW hk1;go_wp2_with fail;refine μ hI ?_;rintro e w1 ⟨rfl,hb1,hp1⟩;go_wp2;go_ret;exact ⟨hb.trans hb1,.inl ⟨k,s,HQ.o.1,rfl,HQ.o.2.1,HQ.o.2.2,hp1⟩⟩
  ·have hk2:=dg
   have HQ:=dx;clear hq hk2;go_wp2;go_ret;exact ⟨hb,.inr ⟨rfl,HQ.o,hp⟩⟩
theorem aIN (P d g c:Nat) (ws:List ZS) (l:ZW) (w:World) (h:PS w P l d) (hw:WdsAt w g ws) (hn:ws.length≤10) :
 Calls prog 168 #[.slice (some ⟨g,0,none⟩) ws.length c,.func (.func 71) #[P] #[]] w (Eu P w d ws l false):=by
 have HW:=κ hw;have hn':=dc
 clear hw;go_enter func168,ntmps168;go_wp2_with fail
 go_loop [5,8] (λ_ s8=>∃ k:Nat,k≤ws.length∧s8=.int .i64 k∧∀ u∈ws.take k,isF u l=false) (λ_ s8=>ws.length-(intOf s8).toNat)
 case atStart=>exact ⟨0,Nat.zero_le _,rfl,λ_ h=>ar⟩
 case round =>
  obtain ⟨k,hk,rfl,hq⟩:=dd
  by_cases hlt:k<ws.length
  ·have hc:=HW.o k _ (rZ hlt);have hk1:ws[k]? = some ws[k]:=List.getElem?_eq_getElem hlt;cases hf:isF ws[k] l
   ·have HQ:=κ (iD hlt hq hf);have hI:=κ (oM P d l ⟨(ws[k]).toArray⟩ w h false hf);generalize ws[k]=s at *;clear hq hf HW hk1;go_wp2_with fail;refine μ hI ?_;rintro e w1 ⟨rfl,rfl⟩;go_wp2
    go_round
    case rel=>exact ⟨k+1,ac,de,HQ.o⟩
    case measure=>simp [intOf];omega
   ·have hI:=κ (oM P d l ⟨(ws[k]).toArray⟩ w h true hf);have HQ:=κ (ι hk1 (ι hf hq));generalize ws[k]=s at *;clear hq hf HW hk1;go_wp2_with fail;refine μ hI ?_;rintro e w1 ⟨rfl,rfl⟩;go_wp2;go_ret;exact ⟨But.refl _ _,.inl ⟨k,s,HQ.o.1,rfl,HQ.o.2.1,HQ.o.2.2,h⟩⟩
  ·have hk2:=dg
   have HQ:=dx;clear hq hk2;go_wp2;go_ret;exact ⟨But.refl _ _,.inr ⟨rfl,HQ.o,h⟩⟩
