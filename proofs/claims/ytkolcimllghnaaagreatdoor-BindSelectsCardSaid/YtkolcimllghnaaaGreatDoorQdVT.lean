/-
 Contracts. Conditions: those of each.
-/
import Derived.Test.YtkolcimllghnaaaGreatDoorQdDcS
import Derived.Test.YtkolcimllghnaaaGreatDoorQdGS
import Derived.Test.YtkolcimllghnaaaGreatDoorQdRs17
set_option maxRecDepth 100000
set_option maxHeartbeats 20000000
namespace Go.Proofs.YtkolcimllghnaaaGreatDoor
open Lp Go.Proofs.Tryz
open Go.RowKit
variable{e:Ending}{sc:List Tb}{x:Lp.X}{P:Nat}{S:Nat->Prop}{q:Option Lp.X}{W w w' w0:World}{cs:ZU}{L:ZW}
def Oo (w:World) (q:Option Sm) (e:Ending) (w':World):Prop :=
 Below w w w'∧∃ (cs:ZU) (c:Int),Cs13 cs∧e=.returned (.tuple #[.agg cs.toArray,.int .i64 c])∧match q with
 | none=>c≠0
 | some (.sel s)=>c=0∧∀ j u,cs[j]? = some u->FldR (λ_=>True) w' s j u
 | some .oth=>c=0->∃ k:Int,k≠8∧cs[0]? = some (.int .u8 k)
def KnO (w0:World) (L:ZW) (cs:ZU) (o:Option ZW) (w:World):Prop:=(isF cO L=true->o=(mK L.tail).map (·.2)∧∀ q,mK L.tail=some q->∀ j u,cs[j]? = some u->FldR (Zb w0) w q.1 j u)∧(isF cO L=false->∃ k:Int,k≠8∧cs[0]? = some (.int .u8 k))
theorem KnQ.ko (h:KnQ P w0 L cs w):∃ o,RO P w o∧KnO w0 L cs o w:=by
 cases h1:isF cO L with
 | true=>exact ⟨_,(h.1 h1).1,(λ_=>⟨rfl,(h.1 h1).2⟩),λh=>tq⟩
 | false =>
   obtain ⟨o, -,ho⟩:=h.2.2;exact ⟨o,ho,(λh=>tq),h.2.1⟩
theorem KnO.turn {L:ZW} {cs:ZU} {o:Option ZW} {w0 w w':World} (h:KnO w0 L cs o w) (ht:∀ g,w0.heap.size+2≤g->g<w.heap.size->w'.heap[g]? = w.heap[g]?):KnO w0 L cs o w':=⟨λk=>⟨(h.1 k).1,λq hq j u hu=>((h.1 k).2 q hq j u hu).turn λg hg hl=>⟨hg,ht g hg hl⟩⟩,h.2⟩
theorem KnO.but {o:Option ZW} (h:KnO w0 L cs o w) (hP:P<w0) (hb:But P w w'):KnO w0 L cs o w':=h.turn λg hg hl=>hb.block g hl ac
def aAF:Option ZW->Option ZW
 | some []=>some []
 | _=>none
theorem Vr {o:Option ZW} (hc:Cs13 cs) (h:KnO w0 L cs o w') (hb:Below w w w') (ho:o.map tE=some []):Oo w (Fo L) (.returned (.tuple #[.agg cs.toArray,.int .i64 0])) w':=by
 refine ⟨hb,cs,0,hc,rfl, ?_⟩;unfold Fo
 by_cases k1:isF cO L=true
 ·rw [if_pos k1];obtain ⟨h1,h2⟩:=h.1 k1;rcases hq:mK L.tail with _|p
  ·rw [h1,hq] at ho;cases ho
  ·rw [h1,hq] at ho;have ho':tE p.2=[]:=by simpa using ho
   dsimp only
   rw [if_pos ho'];exact ⟨rfl,λj u hu=>(h2 p hq j u hu).turn λg _ _=>⟨trivial,rfl⟩⟩
 ·rw [if_neg k1];exact λ_=>h.2 (by simpa using k1)
theorem Vs {o:Option ZW} {w1:World} {c:Int} (h:KnO w1 L cs o w0) (hb:Below w w w') (ho:o.map tE≠some []) (hc:c≠0):Oo w (Fo L) (.returned (.tuple #[.agg stZ.toArray,.int .i64 c])) w':=by
 refine ⟨hb,stZ,c,nC 0 ⟨#[]⟩ ⟨#[]⟩ ⟨#[]⟩,rfl, ?_⟩;unfold Fo
 by_cases k1:isF cO L=true
 ·rw [if_pos k1];obtain ⟨h1,h2⟩:=h.1 k1;rcases hq:mK L.tail with _|p
  ·exact hc
  ·rw [h1,hq] at ho;have ho':¬tE p.2=[]:=by simpa using ho
   dsimp only
   rw [if_neg ho'];exact hc
 ·rw [if_neg k1];exact λh=>absurd h hc
def PrZ (P G:Nat) (cs:ZU) (w0 w:World):Prop:=But P w0 w∧w.heap[w0.heap.size]? = some (.cells stZ.toArray 38 (0,0))∧w.heap[G]? = some (.cells cs.toArray 38 (0,0))
theorem PrZ.next {G:Nat} {o:Option ZW} (h:PrZ P G cs w0 w) (hp:RO P w o) (hb:But P w w'):PrZ P G cs w0 w':=⟨h.1.trans hb,aL hb h.2.1 (hp.box h.2.1 am),aL hb h.2.2 (hp.box h.2.2 am)⟩
theorem aCQ (s:ByteArray) (w:World) (hs:s.size≤9223372036854775807) (L:ZW) (hL:eL s.data.toList=(L,0)) :
 Calls prog 9 #[s] w (Oo w (Fo L)):=by
 have hb0:=OX;have hz0:=OW;have hl:=OV;unfold kK at hl;have hsn:=(tZ s.data.toList).1;rw [hL] at hl hsn;have HL:=κ hl;have H0:=OU;have HN:=κ hsn;clear hb0 hz0 hl hL hsn;go_enter func9,ntmps9;go_wp2_with fail;refine μ HL ?_;rintro e w1 ⟨hb1,A,c,rfl, -,hown⟩;have hz1:=aA H0.o.2 hb1;have hBP:=OZ
 have hb2:Below w1 w1 (w1.alloc (.cells #[.slice A L.length c,.int .i64 0,.int .i64 0,.int .i64 0] 108)):=ρ;have hp2:RS (w1.alloc (.cells #[.slice A L.length c,.int .i64 0,.int .i64 0,.int .i64 0] 108)) w1 L 0 0:=by
  refine ⟨A,c,0, ?_, ?_,by rw [Nat.zero_add];exact HN.o⟩
  ·rw [Nat.zero_add];exact heap_alloc_new w1 _
  ·by_cases hne:0<L.length
   ·obtain ⟨b,cap,hv, -⟩:=hown.form hne;injection hv with hA _ _;subst hA;have hlt:=hown.lt b rfl;refine .inr ⟨b,0,rfl,hlt.2,λj u hu => ?_⟩;have h1:=kn;have e:=km
    rw [e] at h1;exact cN fu hb2
   ·exact .inl (List.eq_nil_of_length_eq_zero ac)
 have HS:=κ (aCK w1 L _ hp2);have HW:=PA;have hP2:w1.heap.size<(w1.alloc (.cells #[.slice A L.length c,.int .i64 0,.int .i64 0,.int .i64 0] 108)).heap.size:=FO
 clear hz1 hb2 hp2 hown hb1 HL;go_wp2_with fail;generalize (w1.alloc (.cells #[.slice A L.length c,.int .i64 0,.int .i64 0,.int .i64 0] 108))=w2 at *;generalize w1.heap.size=P at *;refine μ HS ?_;rintro e w3 ⟨cs,hc,rfl,hbw,hk⟩;obtain ⟨o,ho,hko⟩:=hk.ko;have HC13:=κ hc;obtain ⟨k,s1,s2,s3,A4,n4,c4,A5,n5,c5,A6,n6,c6,A7,n7,c7,A8,n8,c8,A9,n9,c9,A10,n10,c10,A11,n11,c11,li,rfl⟩:=nE hc;have hb4:Below w3 w3 (w3.alloc (.cells #[.int .u8 k,s1,s2,s3,.slice A4 n4 c4,.slice A5 n5 c5,.slice A6 n6 c6,.slice A7 n7 c7,.slice A8 n8 c8,.slice A9 n9 c9,.slice A10 n10 c10,.slice A11 n11 c11,.int .i64 li] 38)):=ρ;have HZ:=κ (show PrZ P w3 [.int .u8 k,.string s1,.string s2,.string s3,.slice A4 n4 c4,.slice A5 n5 c5,.slice A6 n6 c6,.slice A7 n7 c7,.slice A8 n8 c8,.slice A9 n9 c9,.slice A10 n10 c10,.slice A11 n11 c11,.int .i64 li] w (w3.alloc (.cells #[.int .u8 k,s1,s2,s3,.slice A4 n4 c4,.slice A5 n5 c5,.slice A6 n6 c6,.slice A7 n7 c7,.slice A8 n8 c8,.slice A9 n9 c9,.slice A10 n10 c10,.slice A11 n11 c11,.int .i64 li] 38)) from ⟨((But.of HW.o.1).trans hbw).trans (But.of hb4),aA (aL hbw HW.o.2 ac) hb4,heap_alloc_new w3 _⟩);have HK:=κ (hko.turn λg _ hl=>hb4.block g hl);have HO:=κ (ho.below hb4);have HC:=κ (fB P o ⟨#[59]⟩ _ HO.o _ rfl);clear hc hbw hk ho hko hb4 HS;go_wp2_with fail;refine μ HC ?_;rintro e v1 ⟨rfl,hb,hp⟩;have hoe:(if lC (⟨#[59]⟩:ByteArray).data.toList o=true then o.map List.tail else o)=o.map tE:=by
  cases o with
  | none=>cases lC (⟨#[59]⟩:ByteArray).data.toList none<;>rfl
  | some l =>
    show (if isF [59] l=true then some l.tail else some l)=some (if isF [59] l then l.tail else l)
    split<;>rfl
 rw [hoe] at hp;replace HZ:=κ (HZ.o.next HO.o hb);replace HK:=κ (HK.o.but hP2 hb);obtain ⟨o',ho'⟩:∃ o',o.map tE=o':=cw;rw [ho'] at hp;have HE:=κ ho';replace HO:=ef;clear hb hp hoe ho' HC;generalize lC (⟨#[59]⟩:ByteArray).data.toList o=pb at *;go_upto_region 7 with fail
 go_cut [33] (λs33 wx=>∃ b:Bool,s33=.bool b∧Drawn v1 wx∧∀ l',o'=some l'->b=decide (0<l'.length))
 case first =>
  obtain ⟨l,d,bd,⟨A0,c0,i0,k1, -, -⟩,hl⟩:∃ l d bd,RS v1 P l d bd∧∀ l',o'=some l'->l'=l:=by
   have h:=HO.o;cases o' with
   | none=>obtain ⟨l,d,bd, -,h2, -⟩:=h;exact ⟨l,d,bd,h2,λl' h=>lq⟩
   | some l=>exact ⟨l,0,0,h,λl' h=>by injection h with h;exact h.symm⟩
  have p0:=β k1 0;have p1:=β k1 1;simp only [γ,δ,ε] at p0 p1;obtain ⟨n,hn⟩:∃ n,i0+l.length=n:=cw;rw [hn] at p0;have HD:=κ (λ(l':ZW) (h:o'=some l')=>(show decide (i0<n)=decide (0<l'.length) by rw [hl l' h, <-hn];congr 1;simp));clear k1 hl hn;go_wp2_with fail;go_quiet (fail);go_wp2
  go_meet
  exact ⟨_,rfl,⟨nq,rfl⟩,HD.o⟩
 case rest =>
  obtain ⟨b,rfl,hd,hbl⟩:=sn;replace HZ:=κ (HZ.o.next HO.o hd.but);replace HK:=κ (HK.o.but hP2 hd.but);have HO2:=κ (show RO P wc o' from HO.o.low HO.o.lt (by obtain ⟨n,rfl⟩:=hd;exact nX n (θ)));have HB:=κ hbl;clear hd hbl HO;go_upto_if 33 with fail
  go_cut [] (λwx=>PrZ P w3 [.int .u8 k,.string s1,.string s2,.string s3,.slice A4 n4 c4,.slice A5 n5 c5,.slice A6 n6 c6,.slice A7 n7 c7,.slice A8 n8 c8,.slice A9 n9 c9,.slice A10 n10 c10,.slice A11 n11 c11,.int .i64 li] w wx∧KnO w2 L [.int .u8 k,.string s1,.string s2,.string s3,.slice A4 n4 c4,.slice A5 n5 c5,.slice A6 n6 c6,.slice A7 n7 c7,.slice A8 n8 c8,.slice A9 n9 c9,.slice A10 n10 c10,.slice A11 n11 c11,.int .i64 li] o wx∧RO P wx (aAF o'))
  case first =>
   cases b
   ·have HX:=κ (show RO P wc (aAF o') by
     have h:=HO2.o;cases o' with
     | none=>exact h
     | some l =>
       have:=HB.o l rfl;cases l with
       | nil=>exact h
       | cons t r=>simp at this)
    go_wp2
    go_meet
    exact ⟨HZ.o,HK.o,HX.o⟩
   ·have hcl:aAF o'=none:=by
     cases o' with
     | none=>rfl
     | some l =>
       have:=HB.o l rfl;cases l with
       | nil=>simp at this
       | cons t r=>rfl
    have HC:=κ (Ih P o' 4 am _ HO2.o);have HCL:=κ hcl;clear hcl;go_wp2_with fail;refine μ HC ?_;rintro e v2 ⟨rfl,hb,hp⟩;have HX:=κ (ι (HZ.o.next HO2.o hb) (ι (HK.o.but hP2 hb) (show RO P v2 (aAF o') by rw [HCL.o];exact hp)));clear hb hp HC;go_wp2
    go_meet
    exact HX.o
  case rest =>
   clear HZ HK HO2 HB;obtain ⟨hz,hk,hp⟩:=sn;have HPr:=κ (ι hz hk);have cz:=β hz.2.1;have cx:=β hz.2.2;have fz:=λj=>frozen_of_row _ _ j _ _ hz.2.1;have hbz:=(hz.1.new ac:Below w w wc);simp only [stZ,stC] at cz fz
   by_cases hoc:o'=some []
   ·rw [hoc] at hp;obtain ⟨A0,c0,i0,k1, -, -⟩:=(show RS wc P [] 0 0 from hp);have p3:=β k1 3;simp only [γ,δ,ε] at p3;have h13:=kP [.int .u8 k,.string s1,.string s2,.string s3,.slice A4 n4 c4,.slice A5 n5 c5,.slice A6 n6 c6,.slice A7 n7 c7,.slice A8 n8 c8,.slice A9 n9 c9,.slice A10 n10 c10,.slice A11 n11 c11,.int .i64 li] 0 wc stZ hz.2.1 rfl;rw [List.take_zero,List.nil_append] at h13;have HR:=κ (ι (Vr (w:=w) HC13.o (hk.turn λg hg _=>jG (by have:=HW.o.1.size;omega) _ 0 wc) (gZ (g:=w) (ν _) [.int .u8 k,.string s1,.string s2,.string s3,.slice A4 n4 c4,.slice A5 n5 c5,.slice A6 n6 c6,.slice A7 n7 c7,.slice A8 n8 c8,.slice A9 n9 c9,.slice A10 n10 c10,.slice A11 n11 c11,.int .i64 li] 0 wc hbz) (HE.o.trans hoc)) h13);clear hz hk hp k1 h13 hoc hbz;go_wp2;change bodyPost _ _ _ _ _ (puts wc w [.int .u8 k,.string s1,.string s2,.string s3,.slice A4 n4 c4,.slice A5 n5 c5,.slice A6 n6 c6,.slice A7 n7 c7,.slice A8 n8 c8,.slice A9 n9 c9,.slice A10 n10 c10,.slice A11 n11 c11,.int .i64 li] 0);have hR:=lc;generalize puts wc w [.int .u8 k,.string s1,.string s2,.string s3,.slice A4 n4 c4,.slice A5 n5 c5,.slice A6 n6 c6,.slice A7 n7 c7,.slice A8 n8 c8,.slice A9 n9 c9,.slice A10 n10 c10,.slice A11 n11 c11,.int .i64 li] 0=WE at *;have hcE:=β hR.2
    exact bodyPost_ret (v:=.tuple #[.agg #[.int .u8 k,s1,s2,s3,.slice A4 n4 c4,.slice A5 n5 c5,.slice A6 n6 c6,.slice A7 n7 c7,.slice A8 n8 c8,.slice A9 n9 c9,.slice A10 n10 c10,.slice A11 n11 c11,.int .i64 li],.int .i64 0]) (by simp [results,results9,go_sem,hcE]) rfl hR.1
   ·have hcl:aAF o'=none:=by
     cases o' with
     | none=>rfl
     | some l =>
       cases l with
       | nil=>exact absurd rfl hoc
       | cons t r=>rfl
    rw [hcl] at hp;obtain ⟨l,d,bd,hbd,⟨A0,c0,i0,k1, -, -⟩, -, -⟩:=(show RBad P wc 0 from hp);have p3:=β k1 3;simp only [γ,δ,ε] at p3;have eb:(bd==0)=false:=η hbd;have eb2:(bd !=0)=true:=PD
    have HX:=κ (ι (show o.map tE≠some [] by rw [HE.o];exact hoc) (ι hbd (ι hz.2.1 hbz)));clear hz hk hp k1 hcl hoc hbd hbz cx;go_wp2_with fail
    go_region
    have h13:=kP stZ 0 wc stZ HX.o.2.2.1 rfl;rw [List.take_zero,List.nil_append] at h13;have HR:=κ (ι (Vs (w':=(puts wc w stZ 0).drew) HPr.o.2 (gZ (g:=w) (ν _) stZ 0 wc HX.o.2.2.2).drew HX.o.1 HX.o.2.1) h13);clear h13 cz fz p3 HX;go_wp2;change bodyPost _ _ _ _ _ (puts wc w stZ 0).drew;have hR:=lc;generalize puts wc w stZ 0=WE at *;have hcE:=β (w:=WE.drew) hR.2;simp only [stZ,stC] at hcE;exact bodyPost_ret (v:=.tuple #[.agg stZ.toArray,.int .i64 bd]) (by simp [results,results9,go_sem,hcE,stZ,stC]) rfl hR.1
theorem Vt (s:ByteArray) (w:World) (hs:s.size≤9223372036854775807) :
 Calls prog 9 #[s] w (Oo w (Ka s.data.toList)):=by
 obtain ⟨L,E,hL⟩:∃ L E,eL s.data.toList=(L,E):=⟨_,_,rfl⟩;unfold Ka;rw [hL]
 by_cases hE:E=0
 ·subst hE;rw [if_pos rfl];exact aCQ s w hs L hL
 ·rw [if_neg hE];refine (xB s w hs L E hL hE).mono ?_;rintro e w' ⟨h1,c,h2,h3⟩;exact ⟨h1,stZ,c,nC 0 ⟨#[]⟩ ⟨#[]⟩ ⟨#[]⟩,h3,h2⟩
theorem aHT (h:ScPost 2 w e w'):∃ A1 n c1 A2 c2 ok,e=.returned (.tuple #[.slice A1 n c1,.slice A2 n c2,.bool ok])∧Below w w w'∧(ok=true->∃ l:List dW,n=l.length∧ScA w' A1 l∧ScA w' A2 l∧nA (aE l)):=by
 obtain ⟨hb,rfl|⟨l,A1,c1,A2,c2,rfl,h1,h2,h3,h4⟩⟩:=h
 ·exact ⟨none,0,0,none,0,false,rfl,hb,λh=>lq⟩
 ·refine ⟨A1,l.length,c1,A2,c2,true,rfl,hb,λ_=>⟨l,rfl,h1,h2,by rw [pG];exact h3,λtb htb => ?_⟩⟩;obtain ⟨p,hp,rfl⟩:=List.mem_map.1 htb;obtain ⟨k1,k2, -,k3⟩:=h4 p hp;exact ⟨k1,k2,k3⟩
theorem Fh {s:Sel} (hok:nA sc) (h:SelOk s) (p:Lp.X×ZS) (hp:p∈aY sc s):p.1.wf:=by
 unfold aY at hp
 split at hp
 ·obtain ⟨tb,h1,h2⟩:=ra;obtain ⟨c,h3,rfl⟩:=qz;obtain ⟨-,hD, -,hn2⟩:=hok.2 tb h1;exact ⟨hn2,(hD.2 c h3).2⟩
 ·exact (h.itm.1 p hp).1
def PrsK (q:Option Sm) (v:Value) (w':World):Prop:=match q with
 | none=>False
 | some (.sel s)=>∃ g cs,v=.iface 74 (.pointer (some ⟨g,0,none⟩))∧w'.heap[g]? = some (.cells cs 136 (0,0))∧SelC 0 w' s 9 cs
 | some .oth=>∃ T g,v=.iface T (.pointer (some ⟨g,0,none⟩))
theorem aDB {q:Option Sm} (h:aLB w q e w'):∃ v c,e=.returned (.tuple #[v,.int .i64 c])∧Below w w w'∧(c=0->PrsK q v w'):=by
 obtain ⟨hb,h⟩:=h
 match q,h with
 | none,⟨c,h1,h2⟩=>exact ⟨_,c,h2,hb,λh=>absurd h h1⟩
 | some (.sel s),⟨g,cs,h1,h2,h3⟩=>exact ⟨_,0,h1,hb,λ_=>⟨g,cs,rfl,h2,h3.1,λj u hj hu=>(h3.2 j u hj hu).map (λ_ _ h=>h.mono (Nat.zero_le _)) (λh=>xO (Nat.zero_le _) h)⟩⟩
 | some .oth,.inl ⟨c,h1,h2⟩=>exact ⟨_,c,h2,hb,λh=>absurd h h1⟩
 | some .oth,.inr ⟨T,g,h1,h2⟩=>exact ⟨_,0,h2,hb,λ_=>⟨T,g,rfl⟩⟩
theorem PrsK.below {q:Option Sm} {v:Value} {w w':World} (h:PrsK q v w) (hb:Below w w w'):PrsK q v w':=by
 match q,h with
 | some (.sel s),⟨g,cs,h1,h2,h3⟩=>exact ⟨g,cs,h1,aA h2 hb,h3.stays (StaysT.below hb)⟩
 | some .oth,h=>exact h
theorem aJT (g:Nat) (w:World):(Instr.typeAssert (.iface 74 g) 28 74 true).run prog w=.ok (.tuple #[g,true]) w:=aj
structure QV (sc:List Tb) (s:Sel) (q:Nat) (An:ZT) (cn:Nat) (Bi:ZT) (ci:Nat) (on wh:Value) (Ag:ZT) (cg:Nat) (Ao:ZT) (co:Nat) (Ad:ZT) (cd:Nat) (gi gg go:List Nat) (w:World):Prop where
 bx:w.heap[q]? = some (.cells #[.slice An (aY sc s).length cn,.slice Bi (aY sc s).length ci,on,wh,.slice Ag s.group.length cg,.slice Ao s.order.length co,.slice Ad s.order.length cd,.int .i64 s.limit,.bool (mL sc s)] 84 (0,0))
 on_:OnS Any w sc s.on on
 wh_:OnS Any w sc s.wh wh
 nm_:Rds w An ((aY sc s).map nmV)
 it_:Rds w Bi (gi.map ptr)∧NTs Any w sc ((aY sc s).map (·.1)) gi
 gr_:Rds w Ag (gg.map ptr)∧NTs Any w sc s.group gg
 or_:Rds w Ao (go.map ptr)∧NTs Any w sc (s.order.map (·.1)) go
 ds_:Rds w Ad (s.order.map λp=>.bool p.2)
section
variable {sc:List Tb} {s:Sel} {q cn ci cg co cd:Nat} {An Bi Ag Ao Ad:ZT} {on wh:Value} {gi gg go:List Nat} {w w':World}
theorem QV.below (h:QV sc s q An cn Bi ci on wh Ag cg Ao co Ad cd gi gg go w) (hb:Below w w w'):QV sc s q An cn Bi ci on wh Ag cg Ao co Ad cd gi gg go w' :=
 ⟨aA h.bx hb,h.on_.turn (Turn.below hb),h.wh_.turn (Turn.below hb),h.nm_.below hb,⟨h.it_.1.below hb,NTs.turn (Turn.below hb) h.it_.2⟩,⟨h.gr_.1.below hb,NTs.turn (Turn.below hb) h.gr_.2⟩,⟨h.or_.1.below hb,NTs.turn (Turn.below hb) h.or_.2⟩,h.ds_.below hb⟩
theorem aKI {e:Ending} (h:Jk sc s w e w'):Below w w w'∧∃ v,e=.returned (.tuple #[.pointer v,.int .i64 (fO sc s)])∧(fO sc s≠0->v=none)∧(fO sc s=0->∃ q An cn Bi ci on wh Ag cg Ao co Ad cd gi gg go,v=some ⟨q,0,none⟩∧QV sc s q An cn Bi ci on wh Ag cg Ao co Ad cd gi gg go w'):=by
 obtain ⟨hb,h⟩:=h;refine ⟨hb, ?_⟩
 split at h
 ·rename_i h0
  obtain ⟨q,nm,it,on,wh,gr,od,ds,rfl,h1,⟨⟨o1,o2,Ag,cg,gg,rfl,g2,g3,g4⟩,⟨An,cn,rfl,n1⟩,Bi,ci,gi,rfl,i2,i3,i4⟩,⟨Ao,co,go,rfl,r2,r3,r4⟩,Ad,cd,rfl,d1⟩:=h;rw [List.length_map] at h1;refine ⟨some ⟨q,0,none⟩,by rw [h0];rfl,λh=>absurd h0 h,λ_=>⟨q,An,cn,Bi,ci,on,wh,Ag,cg,Ao,co,Ad,cd,gi,gg,go,rfl, ?_,o1,o2,n1.rds,⟨i3.rds,i4⟩,⟨g3.rds,g4⟩,⟨r3.rds,r4⟩,d1.rds⟩⟩;rw [List.length_map] at h1;exact h1
 ·rename_i h0
  exact ⟨none,h,λ_=>rfl,λh=>absurd h h0⟩
end
theorem Ds {S:Nat->Prop} {w:World} {sc:List Tb}:∀ {xs:List Lp.X} {gs:List Nat} {i:Nat} (_:NTs S w sc xs gs) (h:i<xs.length) (h':i<gs.length),NT S w sc xs[i] gs[i]
 | _::_,_::_,0,hp,_,_=>hp.1
 | _::xs,_::gs,i+1,hp,h,h'=>by
   have:=Ds (i:=i) hp.2 an (by simpa using h')
   simpa using this
 | [],_,_,_,h,_=>absurd h (Nat.not_lt_zero _)
 | _::_,[],_,_,_,h'=>absurd h' (Nat.not_lt_zero _)
theorem aDE {l:List (Lp.X×ZS×Bool)} {pr:List (RC×ZS×Bool)} (h:PRl S w l pr) {i:Nat} (hi:i<l.length) (hr:i<pr.length):pr[i].2=l[i].2:=by
 have e:(pr.map (·.2))[i]? = (l.map (·.2))[i]? := by rw [h.1]
 rw [List.getElem?_map,List.getElem?_map,List.getElem?_eq_getElem hi,List.getElem?_eq_getElem hr] at e
 simpa using e
theorem aGS {l:List (Lp.X×ZS×Bool)} {A:ZT} {n c:Nat} (h:PR (λ_=>True) w l (.slice A n c)):n=l.length∧∃ tr,TR w A (l.map (·.1)) tr∧∀ i (hi:i<l.length) (hr:i<tr.length),tr[i].2=l[i].2:=by
 obtain ⟨A',c',pr,e,h1,h2⟩:=h;injection e with e1 e2 e3;subst e1 e2;exact ⟨rfl,pr,⟨by rw [gM h2,List.length_map],h1.rds,h2.2⟩,λi hi hr=>aDE h2 hi hr⟩
theorem Pj (w:World):Calls prog 12 #[.pointer none] w λe w'=>e=.returned (.string ⟨#[]⟩)∧Below w w w':=by
 go_enter func12,ntmps12;go_wp2;go_ret;exact ⟨rfl,θ⟩
theorem aGO {o:Option Lp.X} {u:Value} (hwd:bY sc≤10000) (hx:∀ x,o=some x->x.wf∧x.size≤10000) (h:OnS S w sc o u) (hL:LitT w) (hb:Below w w W):Calls prog 12 #[u] W λe w'=>e=.returned (.string (shO sc o))∧Below w w w':=by
 cases o with
 | none =>
   rw [show u=.pointer none from h];exact (Pj W).mono λ_ _ ⟨h1,h2⟩=>⟨h1,hb.trans (h2.mono hb.size)⟩
 | some x =>
   obtain ⟨g,rfl,hn⟩:=h;exact pE sc hwd x (hx x rfl).1 (hx x rfl).2 S w W g hn hL hb
def tT:List Tb:=[⟨[116],[⟨[97],1⟩,⟨[98],2⟩]⟩]
theorem aBX (w:World):Calls prog 61 #[] w λe w'=>∃ g,e=.returned (.slice (some ⟨g,0,none⟩) 1 1)∧ScM w' (some ⟨g,0,none⟩) tT∧Below w w w':=by
 have hb0:Below w w (w.alloc (.cells #[.string ⟨#[97]⟩,.int .u8 1,.string ⟨#[98]⟩,.int .u8 2] 116)):=ρ;have hb1:Below w w ((w.alloc (.cells #[.string ⟨#[97]⟩,.int .u8 1,.string ⟨#[98]⟩,.int .u8 2] 116)).alloc (.cells #[.string ⟨#[116]⟩,.slice (some ⟨w,0,none⟩) 2 2] 50)):=hb0.alloc aa _;have hx0:=aB (heap_alloc_new w (.cells #[.string ⟨#[97]⟩,.int .u8 1,.string ⟨#[98]⟩,.int .u8 2] 116)) (.cells #[.string ⟨#[116]⟩,.slice (some ⟨w,0,none⟩) 2 2] 50);have hx1:=bG w (.cells #[.string ⟨#[97]⟩,.int .u8 1,.string ⟨#[98]⟩,.int .u8 2] 116) (.cells #[.string ⟨#[116]⟩,.slice (some ⟨w,0,none⟩) 2 2] 50);have hS:ScM ((w.alloc (.cells #[.string ⟨#[97]⟩,.int .u8 1,.string ⟨#[98]⟩,.int .u8 2] 116)).alloc (.cells #[.string ⟨#[116]⟩,.slice (some ⟨w,0,none⟩) 2 2] 50)) (some ⟨w+1,0,none⟩) tT:=by
  refine ⟨[(⟨[116],[⟨[97],1⟩,⟨[98],2⟩]⟩,some ⟨w,0,none⟩,2)],rfl,aS _ hx1, ?_⟩;intro p hp;rw [List.mem_singleton] at hp;subst hp;exact aS _ hx0
 have HR:=κ (ι hS hb1);clear hb0 hb1 hx0 hx1 hS;go_enter func61,ntmps61;go_wp2;go_ret;exact ⟨_,rfl,HR.o.1,HR.o.2⟩
def Aj (q:Option Lp.X):ByteArray:=match q with
 | none=>⟨#[]⟩
 | some x=>if (aC tT x false).2=0 then shB tT x else ⟨#[]⟩
def Ak (q:Option Lp.X):Int:=match q with
 | none=>4
 | some x=>(aC tT x false).2
theorem Jc:bY tT≤10000:=am
theorem aAU (h:q=none):Aj q=⟨#[]⟩∧Ak q=4:=by subst h;exact ⟨rfl,rfl⟩
theorem aFV (h:q=some x) (hk:¬(aC tT x false).2=0):Aj q=⟨#[]⟩∧Ak q=(aC tT x false).2:=by
 subst h;exact ⟨if_neg hk,rfl⟩
theorem aFU (h:q=some x) (hk:(aC tT x false).2=0):Aj q=shB tT x∧Ak q=0:=by
 subst h;exact ⟨if_pos hk,hk⟩
theorem aFT (s:ByteArray) (w:World) (hT:eQ w) (hR:Resv w) (hL:LitT w) :
 Calls prog 23 #[s] w λe w'=>e=.returned (.tuple #[.string (Aj (eN (s.data.toList.take 600))),.int .i64 (Ak (eN (s.data.toList.take 600)))])∧Below w w w':=by
 have HC:=κ (Aa s w hT hR);have HL:=κ hL;have hok:∀ x,eN (s.data.toList.take 600)=some x->x.wf∧x.size≤2000:=λx h=>Zv rx h;have HO:=κ hok;generalize hq:eN (s.data.toList.take 600)=q at *;clear hT hR hL hok hq;go_enter func23,ntmps23;go_wp2_with fail;refine μ HC ?_;rintro e w1 ⟨hb1,hc⟩;cases q with
 | none =>
   obtain ⟨⟨k,vk,vi,vs,vb,tt,ss,A,nn,c⟩,rfl⟩:=hc;have HB:=κ hb1;obtain ⟨q1,q2⟩:=aAU (q:=none) rfl;have Q1:=κ q1;have Q2:=κ q2;simp only [RC.val];clear hb1 HC q1 q2;go_wp2;go_ret2;exact ⟨PL,HB.o.alloc HB.o.size _⟩
 | some x =>
   obtain ⟨T,g,⟨k,vk,vi,vs,vb,tt,ss,A,nn,c⟩,rfl,hp, -⟩:=hc;have hw:=HO.o x rfl;simp only [RC.val];have hba:=vp;have HP:=κ (PX.mono (Nat.zero_le _) (PX.keep (aP hba) hp));have HB:=κ (hb1.trans (hba.mono hb1.size));have HW:=κ hw;clear hp hba hb1 HC hw;go_wp2_with fail;refine (aBX _).mono ?_;rintro e w2 ⟨g2,rfl,hS,hb2⟩;have HB2:=FA;have HE:=κ (tJ (some ⟨g2,0,none⟩) 1 tT false x (.iface T g) w2 am Jc HW.o.1 (PX.keep (aP hb2) HP.o) hS);clear hS hb2 HP HB;go_wp2_with fail;refine μ HE ?_;rintro e w3 ⟨hb3,hr⟩;have HB3:=κ (HB2.o.trans (hb3.mono HB2.o.size))
   by_cases hk:(aC tT x false).2=0
   ·rw [if_pos hk] at hr;obtain ⟨g3,rfl,hnt⟩:=hr;have HSh:=κ (pE tT Jc x HW.o.1 (by have:=HW.o.2;omega) _ w3 w3 g3 hnt (HL.o.below HB3.o) (θ));obtain ⟨q1,q2⟩:=aFU rfl hk;have Q1:=κ q1;have Q2:=κ q2;clear hnt hb3 HB2 HE hk q1 q2;go_wp2_with fail;refine μ HSh ?_;rintro e w4 ⟨rfl,hb4⟩;have HB4:=κ (HB3.o.trans (hb4.mono HB3.o.size));clear hb4;go_wp2;go_ret2;exact ⟨PL,HB4.o⟩
   ·rw [if_neg hk] at hr;subst hr;obtain ⟨q1,q2⟩:=aFV rfl hk;have Q1:=κ q1;have Q2:=κ q2;clear hb3 HB2 HE hk q1 q2;generalize (aC tT x false).2=E at *;go_wp2_with fail;refine (Us _).mono ?_;rintro e w4 ⟨rfl,rfl⟩;go_wp2;go_ret2;exact ⟨PL,HB3.o⟩
theorem aFD:eN [97,32,43,32,49]=some (.bin [43] (.col [] [97]) (.lit 1 1 [] false)):=aj
theorem aFC:eN [98,32,43,32,49]=some (.bin [43] (.col [] [98]) (.lit 1 1 [] false)):=aj
theorem aJB:eN [120]=some (.col [] [120]):=aj
theorem Zs:eN [83,85,77,40,97,41]=some (.agg dZ (.col [] [97])):=aj
theorem aKU:Aj (eN [97,32,43,32,49])=⟨#[40,35,48,32,43,32,49,41]⟩∧Ak (eN [97,32,43,32,49])=0:=by
 rw [aFD];have h0:Lib.itoa 0=[48]:=by
  have:=Lib.decDigits_one (i:=0) am;show (if (0:Int)<0 then _ else Lib.decDigits (0:Int).toNat)=_;rw [if_neg am];exact ah
 have h1:Lib.itoa 1=[49]:=by
  have:=Lib.decDigits_one (i:=1) am;show (if (1:Int)<0 then _ else Lib.decDigits (1:Int).toNat)=_;rw [if_neg am];exact ah
 have hf:dX tT [] [97]=some (0,1):=am
 have hk:aC tT (.bin [43] (.col [] [97]) (.lit 1 1 [] false)) false=(1,0):=am
 refine ⟨?_, ?_⟩
 ·unfold Aj;simp only [hk,if_true];apply kF;simp [shB,aO,atX,hf,h0,rV,Lp.lit,h1]
 ·unfold Ak;simp only [hk]
theorem aLQ:Ak (eN [98,32,43,32,49])=8:=by rw [aFC];decide
theorem aLP:Ak (eN [120])=6:=by rw [aJB];decide
theorem aLO:Ak (eN [83,85,77,40,97,41])=3:=by rw [Zs];decide
theorem tL (s:ByteArray) (l:ZS) (T:ByteArray) (E:Int) (hl:s.data.toList.take 600=l) (h1:Aj (eN l)=T) (h2:Ak (eN l)=E) (hT:eQ w) (hR:Resv w) (hL:LitT w) (hb:Below w w W) :
 Calls prog 23 #[s] W λe w'=>e=.returned (.tuple #[T,.int .i64 E])∧Below w w w':=by
 subst h1 h2 hl;exact (aFT s W (aQ hT hb) (cC hR hb) (hL.below hb)).mono λe w' h=>⟨h.1,hb.trans (h.2.mono hb.size)⟩
theorem aFS (w:World) (hT:eQ w) (hR:Resv w) (hL:LitT w) :
 Calls prog 5 #[] w λe w'=>e=.returned (.bool true)∧Below w w w':=by
 have H1:=κ (λ(W:World) (hb:Below w w W)=>tL ⟨#[97,32,43,32,49]⟩ _ _ _ rfl aKU.1 aKU.2 hT hR hL hb);have H2:=κ (λ(W:World) (hb:Below w w W)=>tL ⟨#[98,32,43,32,49]⟩ _ _ _ rfl rfl aLQ hT hR hL hb);have H3:=κ (λ(W:World) (hb:Below w w W)=>tL ⟨#[120]⟩ _ _ _ rfl rfl aLP hT hR hL hb);have H4:=κ (λ(W:World) (hb:Below w w W)=>tL ⟨#[83,85,77,40,97,41]⟩ _ _ _ rfl rfl aLO hT hR hL hb);generalize Aj (eN [98,32,43,32,49])=T2 at *;generalize Aj (eN [120])=T3 at *;generalize Aj (eN [83,85,77,40,97,41])=T4 at *;clear hT hR hL;go_enter func5,ntmps5;go_wp2_with fail;refine (H1.o _ (θ)).mono ?_;rintro e w1 ⟨rfl,hb1⟩;go_wp2_with fail;refine (H2.o _ hb1).mono ?_;rintro e w2 ⟨rfl,hb2⟩;go_wp2_with fail;refine (H3.o _ hb2).mono ?_;rintro e w3 ⟨rfl,hb3⟩;go_wp2_with fail;refine (H4.o _ hb3).mono ?_;rintro e w4 ⟨rfl,hb4⟩;go_wp2;go_ret;exact ⟨rfl,hb4⟩
