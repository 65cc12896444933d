/-
 Contracts. Conditions: those of each.
-/
import Derived.Test.YtkolcimllghnaaaGreatDoorQbZT
import Derived.Test.YtkolcimllghnaaaGreatDoorQbGS
import Derived.Test.YtkolcimllghnaaaGreatDoorQbScope17
set_option maxRecDepth 100000
set_option maxHeartbeats 20000000
namespace Go.Proofs.YtkolcimllghnaaaGreatDoor
open Lp Go.Proofs.Tryz
open Go.RowKit
def Hh (w:World) (q:Option Sm) (e:Ending) (w':World):Prop :=
 Below w.heap.size w w'∧∃ (cs:List Value) (c:Int),Cs13 cs∧e=.returned (.tuple #[.agg cs.toArray,.int .i64 c])∧match q with
 | none=>c≠0
 | some (.ins rows)=>c=0∧cs[0]? = some (.int .u8 5)∧∃ A c5 vs,cs[5]? = some (.slice A rows.length c5)∧w'.ownsRow 0 36 1 (.slice A rows.length c5) rows.length vs∧RowsR 0 w' rows vs
 | some (.upd ss)=>c=0∧cs[0]? = some (.int .u8 6)∧∃ A c6 l,cs[6]? = some (.slice A ss.length c6)∧w'.ownsRow 0 72 10 (.slice A ss.length c6) ss.length (sv l)∧l.map (·.1)=ss.map (·.1)∧RXL (fun _=>True) w' (ss.map (·.2)) (l.map (·.2))
 | some .oth=>True
theorem RowsR.mono {B B':Nat} (hB:B'≤B) {w:World}:∀ {xs:List (List Lp.X)} {vs:List Value},RowsR B w xs vs→RowsR B' w xs vs
 | [],[],_=>trivial
 | [],_::_,h=>h.elim
 | _::_,[],h=>h.elim
 | _::_,_::_,⟨h1,h2⟩=>⟨h1.mono hB,RowsR.mono hB h2⟩
def exP (t:TypeId):Bool:=t==60||t==36||t==72
theorem Qp {w w':World} (hs:StaysT exP w w'):StaysT exT w w':=fun k ds t h ht=>hs k ds t h (by unfold exT at ht;rw [eq_of_beq ht];decide)
theorem InsE.stays {B:Nat} {L:List Tok} {cs:List Value} {w w':World} (h:InsE B L cs w) (hs:StaysT exP w w'):InsE B L cs w':=fun p hp=>by
 obtain ⟨h1,A,c,vs,h2,h3,h4⟩:=h p hp
 exact ⟨h1,A,c,vs,h2,jV h3 hs (by decide),h4.stays (Qp hs)⟩
theorem UpdE.stays {B:Nat} {L:List Tok} {cs:List Value} {w w':World} (h:UpdE B L cs w) (hs:StaysT exP w w'):UpdE B L cs w':=fun p hp=>by
 obtain ⟨h1,A,c,l,h2,h3,h4,h5⟩:=h p hp
 exact ⟨h1,A,c,l,h2,jV h3 hs (by decide),h4,h5.stays (Qp hs)⟩
def KnO (B:Nat) (L:List Tok) (cs:List Value) (o:Option (List Tok)) (w:World):Prop:=(isF cE L=true→o=(gT L.tail).map (fun p=>p.2.2)∧InsE B L cs w)∧(isF cC L=true→o=(gN L.tail).map (fun p=>p.2.2.2)∧UpdE B L cs w)
theorem KnS.ko {P B:Nat} {L:List Tok} {cs:List Value} {w:World} (h:KnS P B L cs w):∃ o,RO P w o∧KnO B L cs o w:=by
 obtain ⟨h1,h2,o, -,h3⟩:=h
 by_cases k1:isF cE L=true
 ·exact ⟨_,(h1 k1).1,fun _=>⟨rfl,(h1 k1).2⟩,(fun k2=>by rw [aT k1 (by decide)] at k2;cases k2)⟩
 ·by_cases k2:isF cC L=true
  ·exact ⟨_,(h2 k2).1,(fun k=>absurd k k1),fun _=>⟨rfl,(h2 k2).2⟩⟩
  ·exact ⟨o,h3,(fun k=>absurd k k1),(fun k=>absurd k k2)⟩
theorem KnO.stays {B:Nat} {L:List Tok} {cs:List Value} {o:Option (List Tok)} {w w':World} (h:KnO B L cs o w) (hs:StaysT exP w w'):KnO B L cs o w':=⟨fun k=>⟨(h.1 k).1,(h.1 k).2.stays hs⟩,fun k=>⟨(h.2 k).1,(h.2 k).2.stays hs⟩⟩
def Ro:Option (List Tok)→Option (List Tok)
 | some []=>some []
 | _=>none
theorem Nh {B:Nat} {L:List Tok} {cs:List Value} {o:Option (List Tok)} {w w':World} (hc:Cs13 cs) (h:KnO B L cs o w') (hb:Below w.heap.size w w') (ho:o.map mJ=some []):Hh w (Ad L) (.returned (.tuple #[.agg cs.toArray,.int .i64 0])) w':=by
 refine ⟨hb,cs,0,hc,rfl, ?_⟩
 unfold Ad
 by_cases k1:isF cE L=true
 ·rw [if_pos k1]
  obtain ⟨h1,h2⟩:=h.1 k1
  rcases hq:gT L.tail with _|p
  ·rw [h1,hq] at ho;cases ho
  ·rw [h1,hq] at ho
   have ho':mJ p.2.2=[]:=by simpa using ho
   obtain ⟨h3,A,c,vs,h4,h5,h6⟩:=h2 p hq
   dsimp only
   rw [if_pos ho']
   exact ⟨rfl,h3,A,c,vs,h4,kJ (Nat.zero_le _) h5,h6.mono (Nat.zero_le _)⟩
 ·rw [if_neg k1]
  by_cases k2:isF cC L=true
  ·rw [if_pos k2]
   obtain ⟨h1,h2⟩:=h.2 k2
   rcases hq:gN L.tail with _|p
   ·rw [h1,hq] at ho;cases ho
   ·rw [h1,hq] at ho
    have ho':mJ p.2.2.2=[]:=by simpa using ho
    obtain ⟨h3,A,c,l,h4,h5,h6,h7⟩:=h2 p hq
    dsimp only
    rw [if_pos ho']
    exact ⟨rfl,h3,A,c,l,h4,kJ (Nat.zero_le _) h5,h6,RXL.turn (fun _ _ _ hg=>⟨trivial,hg⟩) h7⟩
  ·rw [if_neg k2]
   trivial
theorem Ni {B:Nat} {L:List Tok} {cs:List Value} {o:Option (List Tok)} {w w0 w':World} {c:Int} (h:KnO B L cs o w0) (hb:Below w.heap.size w w') (ho:o.map mJ≠some []) (hc:c≠0):Hh w (Ad L) (.returned (.tuple #[.agg stZ.toArray,.int .i64 c])) w':=by
 refine ⟨hb,stZ,c,mR 0 ⟨#[]⟩ ⟨#[]⟩ ⟨#[]⟩,rfl, ?_⟩
 unfold Ad
 by_cases k1:isF cE L=true
 ·rw [if_pos k1]
  obtain ⟨h1,h2⟩:=h.1 k1
  rcases hq:gT L.tail with _|p
  ·exact hc
  ·rw [h1,hq] at ho
   have ho':¬mJ p.2.2=[]:=by simpa using ho
   dsimp only
   rw [if_neg ho']
   exact hc
 ·rw [if_neg k1]
  by_cases k2:isF cC L=true
  ·rw [if_pos k2]
   obtain ⟨h1,h2⟩:=h.2 k2
   rcases hq:gN L.tail with _|p
   ·exact hc
   ·rw [h1,hq] at ho
    have ho':¬mJ p.2.2.2=[]:=by simpa using ho
    dsimp only
    rw [if_neg ho']
    exact hc
  ·rw [if_neg k2]
   trivial
theorem oN {P:Nat} {w w':World} {o:Option (List Tok)} (hb:But P w w') (hp:RO P w o):StaysT exP w w':=fun g cs t h ht=>aO hb h (hp.box h (by rintro rfl;cases ht))
def PrZ (P G:Nat) (cs:List Value) (w0 w:World):Prop:=But P w0 w∧w.heap[w0.heap.size]? = some (.cells stZ.toArray 38 (0,0))∧w.heap[G]? = some (.cells cs.toArray 38 (0,0))
theorem PrZ.next {P G:Nat} {cs:List Value} {w0 w w':World} {o:Option (List Tok)} (h:PrZ P G cs w0 w) (hp:RO P w o) (hb:But P w w'):PrZ P G cs w0 w':=⟨h.1.trans hb,aO hb h.2.1 (hp.box h.2.1 (by decide)),aO hb h.2.2 (hp.box h.2.2 (by decide))⟩
theorem Tr (s:ByteArray) (w:World) (hs:s.size≤9223372036854775807) (L:List Tok) (hL:dT s.data.toList=(L,0)) :
 Calls prog 9 #[.string s] w (Hh w (Ad L)):=by
 have hb0:Below w.heap.size w (w.alloc (.cells stZ.toArray 38)):=ρ
 have hz0:=heap_alloc_new w (.cells stZ.toArray 38)
 have hl:=oO s (w.alloc (.cells stZ.toArray 38)) hs
 unfold iW at hl
 have hsn:=(qL s.data.toList).1
 rw [hL] at hl hsn
 have HL:=κ hl
 have H0:=κ (ι hb0 hz0)
 have HN:=κ hsn
 clear hb0 hz0 hl hL hsn
 go_enter func9,ntmps9
 go_wp2_with fail
 refine μ HL ?_
 rintro e w1 ⟨hb1,A,c,rfl, -,hown⟩
 have hz1:=aA H0.out.2 hb1
 have hBP:w.heap.size<w1.heap.size:=by have:=hb1.size;rw [World.size_alloc] at this;omega
 have hb2:Below w1.heap.size w1 (w1.alloc (.cells #[.slice A L.length c,.int .i64 0,.int .i64 0,.int .i64 0] 108)):=ρ
 have hp2:RS (w1.alloc (.cells #[.slice A L.length c,.int .i64 0,.int .i64 0,.int .i64 0] 108)) w1.heap.size L 0 0:=by
  refine ⟨A,c,0, ?_, ?_,by rw [Nat.zero_add];exact HN.out⟩
  ·rw [Nat.zero_add];exact heap_alloc_new w1 _
  ·by_cases hne:0<L.length
   ·obtain ⟨b,cap,hv, -⟩:=hown.form hne
    injection hv with hA _ _
    subst hA
    have hlt:=hown.lt b rfl
    refine .inr ⟨b,0,rfl,hlt.2,fun j u hu => ?_⟩
    have h1:=hown.cells (g:=b) rfl j u hu
    have e:(⟨b,0,none⟩:Addr).add j=⟨b,0+j,none⟩:=by unfold Addr.add;split<;>simp_all
    rw [e] at h1
    exact bZ (by simpa using h1) hb2
   ·exact .inl (List.eq_nil_of_length_eq_zero (by omega))
 have HS:=κ (Tl w1.heap.size L _ hp2)
 have HW:=κ (ι ((H0.out.1.trans (hb1.mono H0.out.1.size)).trans (hb2.mono (Nat.le_of_lt hBP))) (aA hz1 hb2))
 have hP2:w1.heap.size<(w1.alloc (.cells #[.slice A L.length c,.int .i64 0,.int .i64 0,.int .i64 0] 108)).heap.size:=by rw [World.size_alloc];omega
 clear hz1 hb2 hp2 hown hb1 HL
 go_wp2_with fail
 generalize (w1.alloc (.cells #[.slice A L.length c,.int .i64 0,.int .i64 0,.int .i64 0] 108))=w2 at *
 generalize w1.heap.size=P at *
 refine μ HS ?_
 rintro e w3 ⟨cs,hc,rfl,hbw,hk⟩
 obtain ⟨o,ho,hko⟩:=hk.ko
 have HC13:=κ hc
 obtain ⟨k,s1,s2,s3,A4,n4,c4,A5,n5,c5,A6,n6,c6,A7,n7,c7,A8,n8,c8,A9,n9,c9,A10,n10,c10,A11,n11,c11,li,rfl⟩:=qR hc
 have hb4:Below w3.heap.size w3 (w3.alloc (.cells #[.int .u8 k,.string s1,.string s2,.string s3,.slice A4 n4 c4,.slice A5 n5 c5,.slice A6 n6 c6,.slice A7 n7 c7,.slice A8 n8 c8,.slice A9 n9 c9,.slice A10 n10 c10,.slice A11 n11 c11,.int .i64 li] 38)):=ρ
 have HZ:=κ (show PrZ P w3.heap.size [.int .u8 k,.string s1,.string s2,.string s3,.slice A4 n4 c4,.slice A5 n5 c5,.slice A6 n6 c6,.slice A7 n7 c7,.slice A8 n8 c8,.slice A9 n9 c9,.slice A10 n10 c10,.slice A11 n11 c11,.int .i64 li] w (w3.alloc (.cells #[.int .u8 k,.string s1,.string s2,.string s3,.slice A4 n4 c4,.slice A5 n5 c5,.slice A6 n6 c6,.slice A7 n7 c7,.slice A8 n8 c8,.slice A9 n9 c9,.slice A10 n10 c10,.slice A11 n11 c11,.int .i64 li] 38)) from ⟨((But.of HW.out.1).trans hbw).trans (But.of hb4),aA (aO hbw HW.out.2 (by omega)) hb4,heap_alloc_new w3 _⟩)
 have HK:=κ (hko.stays (StaysT.below hb4))
 have HO:=κ (ho.below hb4)
 have HC:=κ (gK P o ⟨#[59]⟩ _ HO.out _ rfl)
 clear hc hbw hk ho hko hb4 HS
 go_wp2_with fail
 refine μ HC ?_
 rintro e v1 ⟨rfl,hb,hp⟩
 have hoe:(if Iu (⟨#[59]⟩:ByteArray).data.toList o=true then o.map List.tail else o)=o.map mJ:=by
  cases o with
  | none=>cases Iu (⟨#[59]⟩:ByteArray).data.toList none<;>rfl
  | some l =>
    show (if isF [59] l=true then some l.tail else some l)=some (if isF [59] l then l.tail else l)
    split<;>rfl
 rw [hoe] at hp
 replace HZ:=κ (HZ.out.next HO.out hb)
 replace HK:=κ (HK.out.stays (oN hb HO.out))
 obtain ⟨o',ho'⟩:∃ o',o.map mJ=o':=⟨_,rfl⟩
 rw [ho'] at hp
 have HE:=κ ho'
 replace HO:=κ hp
 clear hb hp hoe ho' HC
 generalize Iu (⟨#[59]⟩:ByteArray).data.toList o=pb at *
 go_upto_region 7 with fail
 go_cut [33] (fun s33 wx=>∃ b:Bool,s33=.bool b∧Drawn v1 wx∧∀ l',o'=some l'→b=decide (0<l'.length))
 case first =>
  obtain ⟨l,d,bd,⟨A0,c0,i0,k1, -, -⟩,hl⟩:∃ l d bd,RS v1 P l d bd∧∀ l',o'=some l'→l'=l:=by
   have h:=HO.out
   cases o' with
   | none=>obtain ⟨l,d,bd, -,h2, -⟩:=h;exact ⟨l,d,bd,h2,fun l' h=>by cases h⟩
   | some l=>exact ⟨l,0,0,h,fun l' h=>by injection h with h;exact h.symm⟩
  have p0:=β k1 0
  have p1:=β k1 1
  simp only [γ,δ,ε] at p0 p1
  obtain ⟨n,hn⟩:∃ n,i0+l.length=n:=⟨_,rfl⟩
  rw [hn] at p0
  have HD:=κ (fun (l':List Tok) (h:o'=some l')=>(show decide (i0<n)=decide (0<l'.length) by rw [hl l' h, ←hn];congr 1;simp))
  clear k1 hl hn
  go_wp2_with fail
  go_quiet (fail)
  go_wp2
  go_meet
  exact ⟨_,rfl,⟨nq,rfl⟩,HD.out⟩
 case rest =>
  obtain ⟨b,rfl,hd,hbl⟩:=hcut
  replace HZ:=κ (HZ.out.next HO.out hd.but)
  replace HK:=κ (HK.out.stays (oN hd.but HO.out))
  have HO2:=κ (show RO P wc o' from HO.out.low HO.out.lt (by obtain ⟨n,rfl⟩:=hd;exact vE n (θ)))
  have HB:=κ hbl
  clear hd hbl HO
  go_upto_if 33 with fail
  go_cut [] (fun wx=>PrZ P w3.heap.size [.int .u8 k,.string s1,.string s2,.string s3,.slice A4 n4 c4,.slice A5 n5 c5,.slice A6 n6 c6,.slice A7 n7 c7,.slice A8 n8 c8,.slice A9 n9 c9,.slice A10 n10 c10,.slice A11 n11 c11,.int .i64 li] w wx∧KnO w2.heap.size L [.int .u8 k,.string s1,.string s2,.string s3,.slice A4 n4 c4,.slice A5 n5 c5,.slice A6 n6 c6,.slice A7 n7 c7,.slice A8 n8 c8,.slice A9 n9 c9,.slice A10 n10 c10,.slice A11 n11 c11,.int .i64 li] o wx∧RO P wx (Ro o'))
  case first =>
   cases b
   ·have HX:=κ (show RO P wc (Ro o') by
     have h:=HO2.out
     cases o' with
     | none=>exact h
     | some l =>
       have:=HB.out l rfl
       cases l with
       | nil=>exact h
       | cons t r=>simp at this)
    go_wp2
    go_meet
    exact ⟨HZ.out,HK.out,HX.out⟩
   ·have hcl:Ro o'=none:=by
     cases o' with
     | none=>rfl
     | some l =>
       have:=HB.out l rfl
       cases l with
       | nil=>simp at this
       | cons t r=>rfl
    have HC:=κ (Xn P o' 4 (by decide) _ HO2.out)
    have HCL:=κ hcl
    clear hcl
    go_wp2_with fail
    refine μ HC ?_
    rintro e v2 ⟨rfl,hb,hp⟩
    have HX:=κ (ι (HZ.out.next HO2.out hb) (ι (HK.out.stays (oN hb HO2.out)) (show RO P v2 (Ro o') by rw [HCL.out];exact hp)))
    clear hb hp HC
    go_wp2
    go_meet
    exact HX.out
  case rest =>
   clear HZ HK HO2 HB
   obtain ⟨hz,hk,hp⟩:=hcut
   have HPr:=κ (ι hz hk)
   have cz:=β hz.2.1
   have cx:=β hz.2.2
   have fz:=fun j=>frozen_of_row _ _ j _ _ hz.2.1
   have hbz:=(hz.1.new (by omega):Below w.heap.size w wc)
   simp only [stZ,stC] at cz fz
   by_cases hoc:o'=some []
   ·rw [hoc] at hp
    obtain ⟨A0,c0,i0,k1, -, -⟩:=(show RS wc P [] 0 0 from hp)
    have p3:=β k1 3
    simp only [γ,δ,ε] at p3
    have h13:=kH [.int .u8 k,.string s1,.string s2,.string s3,.slice A4 n4 c4,.slice A5 n5 c5,.slice A6 n6 c6,.slice A7 n7 c7,.slice A8 n8 c8,.slice A9 n9 c9,.slice A10 n10 c10,.slice A11 n11 c11,.int .i64 li] 0 wc stZ hz.2.1 rfl
    rw [List.take_zero,List.nil_append] at h13
    have HR:=κ (ι (Nh (w:=w) HC13.out (hk.stays (fun j ds t hj ht=>(sX hz.2.1 [.int .u8 k,.string s1,.string s2,.string s3,.slice A4 n4 c4,.slice A5 n5 c5,.slice A6 n6 c6,.slice A7 n7 c7,.slice A8 n8 c8,.slice A9 n9 c9,.slice A10 n10 c10,.slice A11 n11 c11,.int .i64 li] 0) j ds t hj (by unfold exP at ht;unfold nSt;rcases Bool.or_eq_true _ _ |>.mp ht with h|h;rcases Bool.or_eq_true _ _ |>.mp h with h|h;all_goals (rw [eq_of_beq h];decide)))) (jB (g:=w.heap.size) (ν _) [.int .u8 k,.string s1,.string s2,.string s3,.slice A4 n4 c4,.slice A5 n5 c5,.slice A6 n6 c6,.slice A7 n7 c7,.slice A8 n8 c8,.slice A9 n9 c9,.slice A10 n10 c10,.slice A11 n11 c11,.int .i64 li] 0 wc hbz) (HE.out.trans hoc)) h13)
    clear hz hk hp k1 h13 hoc hbz
    go_wp2
    change bodyPost _ _ _ _ _ (puts wc w.heap.size [.int .u8 k,.string s1,.string s2,.string s3,.slice A4 n4 c4,.slice A5 n5 c5,.slice A6 n6 c6,.slice A7 n7 c7,.slice A8 n8 c8,.slice A9 n9 c9,.slice A10 n10 c10,.slice A11 n11 c11,.int .i64 li] 0)
    have hR:=HR.out
    generalize puts wc w.heap.size [.int .u8 k,.string s1,.string s2,.string s3,.slice A4 n4 c4,.slice A5 n5 c5,.slice A6 n6 c6,.slice A7 n7 c7,.slice A8 n8 c8,.slice A9 n9 c9,.slice A10 n10 c10,.slice A11 n11 c11,.int .i64 li] 0=WE at *
    have hcE:=β hR.2
    exact bodyPost_ret (v:=.tuple #[.agg #[.int .u8 k,.string s1,.string s2,.string s3,.slice A4 n4 c4,.slice A5 n5 c5,.slice A6 n6 c6,.slice A7 n7 c7,.slice A8 n8 c8,.slice A9 n9 c9,.slice A10 n10 c10,.slice A11 n11 c11,.int .i64 li],.int .i64 0]) (by simp [results,results9,go_sem,hcE]) rfl hR.1
   ·have hcl:Ro o'=none:=by
     cases o' with
     | none=>rfl
     | some l =>
       cases l with
       | nil=>exact absurd rfl hoc
       | cons t r=>rfl
    rw [hcl] at hp
    obtain ⟨l,d,bd,hbd,⟨A0,c0,i0,k1, -, -⟩, -, -⟩:=(show RBad P wc 0 from hp)
    have p3:=β k1 3
    simp only [γ,δ,ε] at p3
    have eb:(bd==0)=false:=η hbd
    have eb2:(bd !=0)=true:=by rw [bne,eb];rfl
    have HX:=κ (ι (show o.map mJ≠some [] by rw [HE.out];exact hoc) (ι hbd (ι hz.2.1 hbz)))
    clear hz hk hp k1 hcl hoc hbd hbz cx
    go_wp2_with fail
    go_region
    have h13:=kH stZ 0 wc stZ HX.out.2.2.1 rfl
    rw [List.take_zero,List.nil_append] at h13
    have HR:=κ (ι (Ni (w':=(puts wc w.heap.size stZ 0).drew) HPr.out.2 (jB (g:=w.heap.size) (ν _) stZ 0 wc HX.out.2.2.2).drew HX.out.1 HX.out.2.1) h13)
    clear h13 cz fz p3 HX
    go_wp2
    change bodyPost _ _ _ _ _ (puts wc w.heap.size stZ 0).drew
    have hR:=HR.out
    generalize puts wc w.heap.size stZ 0=WE at *
    have hcE:=β (w:=WE.drew) hR.2
    simp only [stZ,stC] at hcE
    exact bodyPost_ret (v:=.tuple #[.agg stZ.toArray,.int .i64 bd]) (by simp [results,results9,go_sem,hcE,stZ,stC]) rfl hR.1
theorem Nj (s:ByteArray) (w:World) (hs:s.size≤9223372036854775807) :
 Calls prog 9 #[.string s] w (Hh w (Dw s.data.toList)):=by
 obtain ⟨L,E,hL⟩:∃ L E,dT s.data.toList=(L,E):=⟨_,_,rfl⟩
 unfold Dw
 rw [hL]
 by_cases hE:E=0
 ·subst hE
  rw [if_pos rfl]
  exact Tr s w hs L hL
 ·rw [if_neg hE]
  refine (tE s w hs L E hL hE).mono ?_
  rintro e w' ⟨h1,c,h2,h3⟩
  exact ⟨h1,stZ,c,mR 0 ⟨#[]⟩ ⟨#[]⟩ ⟨#[]⟩,h3,h2⟩
theorem Yf {w w':World} {e:Ending} (h:ScPost 1 w e w'):∃ A1 n c1 A2 c2 ok,e=.returned (.tuple #[.slice A1 n c1,.slice A2 n c2,.bool ok])∧Below w.heap.size w w'∧(ok=true→n≠0→∃ nm cs At ct,n=1∧ScA w' A1 [((⟨nm,cs⟩,At,ct):dL)]∧ScA w' A2 [((⟨nm,cs⟩,At,ct):dL)]∧cs.length≤8∧rF cs):=by
 obtain ⟨hb,rfl|⟨l,A1,c1,A2,c2,rfl,h1,h2,h3,h4⟩⟩:=h
 ·exact ⟨none,0,0,none,0,false,rfl,hb,fun h=>by cases h⟩
 ·refine ⟨A1,l.length,c1,A2,c2,true,rfl,hb,fun _ hn => ?_⟩
  match l,h1,h2,h3,h4,hn with
  | [],_,_,_,_,hn=>exact absurd rfl hn
  | [p],h1,h2,_,h4,_ =>
    obtain ⟨⟨nm,cs⟩,At,ct⟩:=p
    have h5:=h4 _ (List.mem_singleton.2 rfl)
    exact ⟨nm,cs,At,ct,rfl,h1,h2,h5.1,h5.2.1⟩
  | _::_::_,_,_,h3,_,_=>simp at h3
def PrsK (q:Option Sm) (v:Value) (w':World):Prop:=match q with
 | none=>False
 | some (.ins rows)=>∃ g t A c vs,v=.iface 41 (.pointer (some ⟨g,0,none⟩))∧w'.heap[g]? = some (.cells #[.string t,.slice A rows.length c] 44 (0,0))∧Rds w' A vs∧RowsX 0 w' rows vs
 | some (.upd ss)=>∃ g t A c vs u,v=.iface 61 (.pointer (some ⟨g,0,none⟩))∧w'.heap[g]? = some (.cells #[.string t,.slice A ss.length c,u] 68 (0,0))∧Rds w' A vs∧SetsX 0 w' ss vs
 | some .oth=>∃ T g,nM T=true∧v=.iface T (.pointer (some ⟨g,0,none⟩))
theorem Tz {w w':World} {q:Option Sm} {e:Ending} (h:aAU w q e w'):∃ v c,e=.returned (.tuple #[v,.int .i64 c])∧Below w.heap.size w w'∧(c=0→PrsK q v w'):=by
 obtain ⟨hb,h⟩:=h
 match q,h with
 | none,⟨c,h1,h2⟩=>exact ⟨_,c,h2,hb,fun h=>absurd h h1⟩
 | some (.ins rows),⟨g,t,A,c,vs,h1,h2,h3,h4⟩=>exact ⟨_,0,h1,hb,fun _=>⟨g,t,A,c,vs,rfl,h2,h3,h4.mono (Nat.zero_le _)⟩⟩
 | some (.upd ss),⟨g,t,A,c,vs,u,h1,h2,h3,h4⟩=>exact ⟨_,0,h1,hb,fun _=>⟨g,t,A,c,vs,u,rfl,h2,h3,h4.mono (Nat.zero_le _)⟩⟩
 | some .oth,.inl ⟨c,h1,h2⟩=>exact ⟨_,c,h2,hb,fun h=>absurd h h1⟩
 | some .oth,.inr ⟨T,g,h1,h2⟩=>exact ⟨_,0,h2,hb,fun _=>⟨T,g,h1,rfl⟩⟩
theorem PrsK.below {q:Option Sm} {v:Value} {w w':World} (h:PrsK q v w) (hb:Below w.heap.size w w'):PrsK q v w':=by
 match q,h with
 | some (.ins rows),⟨g,t,A,c,vs,h1,h2,h3,h4⟩=>exact ⟨g,t,A,c,vs,h1,aA h2 hb,h3.below hb,h4.stays (StaysT.below hb)⟩
 | some (.upd ss),⟨g,t,A,c,vs,u,h1,h2,h3,h4⟩=>exact ⟨g,t,A,c,vs,u,h1,aA h2 hb,h3.below hb,h4.stays (StaysT.below hb)⟩
 | some .oth,h=>exact h
theorem RowsX.at_ {B:Nat} {w:World}:∀ {xs:List (List Lp.X)} {vs:List Value} {i:Nat} (_:RowsX B w xs vs) (h:i<xs.length),∃ v,vs[i]? = some v∧RowX B w xs[i] v
 | [],_,_,_,h=>by simp at h
 | _::_,[],_,hp,_=>hp.elim
 | _::_,v::_,0,hp,_=>⟨v,rfl,hp.1⟩
 | _::xs,_::vs,i+1,hp,h=>by
   obtain ⟨v,h1,h2⟩:=RowsX.at_ (i:=i) hp.2 (by simpa using h)
   exact ⟨v,by simpa using h1,by simpa using h2⟩
theorem Xe (g:Nat) (w:World):(Instr.typeAssert (.iface 41 (.pointer (some ⟨g,0,none⟩))) 28 41 true).run prog w=.ok (.tuple #[.pointer (some ⟨g,0,none⟩),.bool true]) w:=by kernel_rfl
theorem aAB (g:Nat) (w:World):(Instr.typeAssert (.iface 61 (.pointer (some ⟨g,0,none⟩))) 28 41 true).run prog w=.ok (.tuple #[.pointer none,.bool false]) w:=by kernel_rfl
theorem aAA (g:Nat) (w:World):(Instr.typeAssert (.iface 61 (.pointer (some ⟨g,0,none⟩))) 28 61 true).run prog w=.ok (.tuple #[.pointer (some ⟨g,0,none⟩),.bool true]) w:=by kernel_rfl
theorem Ll {T:TypeId} (h:nM T=true) (g:Nat) (w:World):(Instr.typeAssert (.iface T (.pointer (some ⟨g,0,none⟩))) 28 41 true).run prog w=.ok (.tuple #[.pointer none,.bool false]) w∧(Instr.typeAssert (.iface T (.pointer (some ⟨g,0,none⟩))) 28 61 true).run prog w=.ok (.tuple #[.pointer none,.bool false]) w:=by
 unfold nM at h
 simp only [Bool.or_eq_true,beq_iff_eq] at h
 rcases h with (((((((h|h)|h)|h)|h)|h)|h)|h)|h<;>subst h<;>exact ⟨by kernel_rfl,by kernel_rfl⟩
