/-
 Contracts. Conditions: those of each.
-/
import Derived.Test.YtkolcimllghnaaaGreatDoorQcDcS
set_option maxRecDepth 100000
set_option maxHeartbeats 20000000
namespace Go.Proofs.YtkolcimllghnaaaGreatDoor
open Lp Go.Proofs.Tryz
open Go.RowKit
variable{P:Nat}{w w' w0:World}{cs:ZU}{L:ZW}
def Oo (w:World) (q:Option Sm) (e:Ending) (w':World):Prop :=
 Below w w w'/\∃ (cs:ZU) (c:Int),Cs13 cs/\e=.returned (.tuple #[.agg cs.toArray,.int .i64 c])/\match q with
 | none=>c≠0
 | some (.sel s)=>c=0/\∀ j u,cs[j]? = some u->FldR (λ_=>True) w' s j u
 | some .oth=>c=0->∃ k:Int,k≠8/\cs[0]? = some (.int .u8 k)
def KnO (w0:World) (L:ZW) (cs:ZU) (o:Option ZW) (w:World):Prop:=(isF cO L=true->o=(mK L.tail).map (·.2)/\∀ q,mK L.tail=some q->∀ j u,cs[j]? = some u->FldR (Zb w0) w q.1 j u)/\(isF cO L=false->∃ k:Int,k≠8/\cs[0]? = some (.int .u8 k))
theorem KnQ.ko (h:KnQ P w0 L cs w):∃ o,RO P w o/\KnO w0 L cs o w:=by
 cases h1:isF cO L with
 | true=>exact ⟨_,(h.1 h1).1,(λ_=>⟨rfl,(h.1 h1).2⟩),λh=>pu⟩
 | false =>
   obtain ⟨o, -,ho⟩:=h.2.2;exact ⟨o,ho,(λh=>pu),h.2.1⟩
theorem KnO.turn {L:ZW} {cs:ZU} {o:Option ZW} {w0 w w':World} (h:KnO w0 L cs o w) (ht:∀ g,w0.heap.size+2<=g->g<w.heap.size->w'.heap[g]? = w.heap[g]?):KnO w0 L cs o w':=⟨λk=>⟨(h.1 k).1,λq hq j u hu=>((h.1 k).2 q hq j u hu).turn λg hg hl=>⟨hg,ht g hg hl⟩⟩,h.2⟩
theorem KnO.but {o:Option ZW} (h:KnO w0 L cs o w) (hP:P<w0) (hb:But P w w'):KnO w0 L cs o w':=h.turn λg hg hl=>hb.block g hl ac
def aAF:Option ZW->Option ZW
 | some []=>some []
 | _=>none
theorem Vr {o:Option ZW} (hc:Cs13 cs) (h:KnO w0 L cs o w') (hb:Below w w w') (ho:o.map tE=some []):Oo w (Fo L) (.returned (.tuple #[.agg cs.toArray,.int .i64 0])) w':=by
 refine ⟨hb,cs,0,hc,rfl, ?_⟩;unfold Fo
 by_cases k1:isF cO L=true
 ·rw [if_pos k1];obtain ⟨h1,h2⟩:=h.1 k1;rcases hq:mK L.tail with _|p
  ·rw [h1,hq] at ho;cases ho
  ·rw [h1,hq] at ho;have ho':tE p.2=[]:=by simpa using ho
   dsimp only
   rw [if_pos ho'];exact ⟨rfl,λj u hu=>(h2 p hq j u hu).turn λg _ _=>⟨trivial,rfl⟩⟩
 ·rw [if_neg k1];exact λ_=>h.2 (by simpa using k1)
theorem Vs {o:Option ZW} {w1:World} {c:Int} (h:KnO w1 L cs o w0) (hb:Below w w w') (ho:o.map tE≠some []) (hc:c≠0):Oo w (Fo L) (.returned (.tuple #[.agg stZ.toArray,.int .i64 c])) w':=by
 refine ⟨hb,stZ,c,nC 0 ⟨#[]⟩ ⟨#[]⟩ ⟨#[]⟩,rfl, ?_⟩;unfold Fo
 by_cases k1:isF cO L=true
 ·rw [if_pos k1];obtain ⟨h1,h2⟩:=h.1 k1;rcases hq:mK L.tail with _|p
  ·exact hc
  ·rw [h1,hq] at ho;have ho':¬tE p.2=[]:=by simpa using ho
   dsimp only
   rw [if_neg ho'];exact hc
 ·rw [if_neg k1];exact λh=>absurd h hc
def PrZ (P G:Nat) (cs:ZU) (w0 w:World):Prop:=But P w0 w/\w.heap[w0.heap.size]? = some (.cells stZ.toArray 38 (0,0))/\w.heap[G]? = some (.cells cs.toArray 38 (0,0))
theorem PrZ.next {G:Nat} {o:Option ZW} (h:PrZ P G cs w0 w) (hp:RO P w o) (hb:But P w w'):PrZ P G cs w0 w':=⟨h.1.trans hb,aL hb h.2.1 (hp.box h.2.1 am),aL hb h.2.2 (hp.box h.2.2 am)⟩
theorem aCQ (s:ByteArray) (w:World) (hs:s.size<=9223372036854775807) (L:ZW) (hL:eL s.data.toList=(L,0)) :
 Calls prog 9 #[s] w (Oo w (Fo L)):=by
 have hb0:=PB;have hz0:=PA;have hl:=OZ;unfold kK at hl;have hsn:=(tZ s.data.toList).1;rw [hL] at hl hsn;have HL:=κ hl;have H0:=OY;have HN:=κ hsn;clear hb0 hz0 hl hL hsn;go_enter func9,ntmps9;go_wp2_with fail;refine μ HL ?_;rintro e w1 ⟨hb1,A,c,rfl, -,hown⟩;have hz1:=aA H0.o.2 hb1;have hBP:=QY
 have hb2:Below w1 w1 (w1.alloc (.cells #[.slice A L.length c,.int .i64 0,.int .i64 0,.int .i64 0] 108)):=ρ;have hp2:RS (w1.alloc (.cells #[.slice A L.length c,.int .i64 0,.int .i64 0,.int .i64 0] 108)) w1 L 0 0:=by
  refine ⟨A,c,0, ?_, ?_,by rw [Nat.zero_add];exact HN.o⟩
  ·rw [Nat.zero_add];exact heap_alloc_new w1 _
  ·by_cases hne:0<L.length
   ·obtain ⟨b,cap,hv, -⟩:=hown.form hne;injection hv with hA _ _;subst hA;have hlt:=hown.lt b rfl;refine .inr ⟨b,0,rfl,hlt.2,λj u hu => ?_⟩;have h1:=rb;have e:=ra
    rw [e] at h1;exact cN ji hb2
   ·exact .inl (List.eq_nil_of_length_eq_zero ac)
 have HS:=κ (aCK w1 L _ hp2);have HW:=PE;have hP2:w1.heap.size<(w1.alloc (.cells #[.slice A L.length c,.int .i64 0,.int .i64 0,.int .i64 0] 108)).heap.size:=GO
 clear hz1 hb2 hp2 hown hb1 HL;go_wp2_with fail;generalize (w1.alloc (.cells #[.slice A L.length c,.int .i64 0,.int .i64 0,.int .i64 0] 108))=w2 at *;generalize w1.heap.size=P at *;refine μ HS ?_;rintro e w3 ⟨cs,hc,rfl,hbw,hk⟩;obtain ⟨o,ho,hko⟩:=hk.ko;have HC13:=κ hc;obtain ⟨k,s1,s2,s3,A4,n4,c4,A5,n5,c5,A6,n6,c6,A7,n7,c7,A8,n8,c8,A9,n9,c9,A10,n10,c10,A11,n11,c11,li,rfl⟩:=nE hc;have hb4:Below w3 w3 (w3.alloc (.cells #[.int .u8 k,s1,s2,s3,.slice A4 n4 c4,.slice A5 n5 c5,.slice A6 n6 c6,.slice A7 n7 c7,.slice A8 n8 c8,.slice A9 n9 c9,.slice A10 n10 c10,.slice A11 n11 c11,.int .i64 li] 38)):=ρ;have HZ:=κ (show PrZ P w3 [.int .u8 k,.string s1,.string s2,.string s3,.slice A4 n4 c4,.slice A5 n5 c5,.slice A6 n6 c6,.slice A7 n7 c7,.slice A8 n8 c8,.slice A9 n9 c9,.slice A10 n10 c10,.slice A11 n11 c11,.int .i64 li] w (w3.alloc (.cells #[.int .u8 k,s1,s2,s3,.slice A4 n4 c4,.slice A5 n5 c5,.slice A6 n6 c6,.slice A7 n7 c7,.slice A8 n8 c8,.slice A9 n9 c9,.slice A10 n10 c10,.slice A11 n11 c11,.int .i64 li] 38)) from ⟨((But.of HW.o.1).trans hbw).trans (But.of hb4),aA (aL hbw HW.o.2 ac) hb4,heap_alloc_new w3 _⟩);have HK:=κ (hko.turn λg _ hl=>hb4.block g hl);have HO:=κ (ho.below hb4);have HC:=κ (fB P o ⟨#[59]⟩ _ HO.o _ rfl);clear hc hbw hk ho hko hb4 HS;go_wp2_with fail;refine μ HC ?_;rintro e v1 ⟨rfl,hb,hp⟩;have hoe:(if lC (⟨#[59]⟩:ByteArray).data.toList o=true then o.map List.tail else o)=o.map tE:=by
  cases o with
  | none=>cases lC (⟨#[59]⟩:ByteArray).data.toList none<;>rfl
  | some l =>
    show (if isF [59] l=true then some l.tail else some l)=some (if isF [59] l then l.tail else l)
    split<;>rfl
 rw [hoe] at hp;replace HZ:=κ (HZ.o.next HO.o hb);replace HK:=κ (HK.o.but hP2 hb);obtain ⟨o',ho'⟩:∃ o',o.map tE=o':=da;rw [ho'] at hp;have HE:=κ ho';replace HO:=eh;clear hb hp hoe ho' HC;generalize lC (⟨#[59]⟩:ByteArray).data.toList o=pb at *;go_upto_region 7 with fail
 go_cut [33] (λs33 wx=>∃ b:Bool,s33=.bool b/\Drawn v1 wx/\∀ l',o'=some l'->b=decide (0<l'.length))
 case first =>
  obtain ⟨l,d,bd,⟨A0,c0,i0,k1, -, -⟩,hl⟩:∃ l d bd,RS v1 P l d bd/\∀ l',o'=some l'->l'=l:=by
   have h:=HO.o;cases o' with
   | none=>obtain ⟨l,d,bd, -,h2, -⟩:=h;exact ⟨l,d,bd,h2,λl' h=>ao⟩
   | some l=>exact ⟨l,0,0,h,λl' h=>by injection h with h;exact h.symm⟩
  have p0:=β k1 0;have p1:=β k1 1;simp only [γ,δ,ε] at p0 p1;obtain ⟨n,hn⟩:∃ n,i0+l.length=n:=da;rw [hn] at p0;have HD:=κ (λ(l':ZW) (h:o'=some l')=>(show decide (i0<n)=decide (0<l'.length) by rw [hl l' h, <-hn];congr 1;simp));clear k1 hl hn;go_wp2_with fail;go_quiet (fail);go_wp2
  go_meet
  exact ⟨_,rfl,⟨nq,rfl⟩,HD.o⟩
 case rest =>
  obtain ⟨b,rfl,hd,hbl⟩:=pj;replace HZ:=κ (HZ.o.next HO.o hd.but);replace HK:=κ (HK.o.but hP2 hd.but);have HO2:=κ (show RO P wc o' from HO.o.low HO.o.lt (by obtain ⟨n,rfl⟩:=hd;exact nX n (θ)));have HB:=κ hbl;clear hd hbl HO;go_upto_if 33 with fail
  go_cut [] (λwx=>PrZ P w3 [.int .u8 k,.string s1,.string s2,.string s3,.slice A4 n4 c4,.slice A5 n5 c5,.slice A6 n6 c6,.slice A7 n7 c7,.slice A8 n8 c8,.slice A9 n9 c9,.slice A10 n10 c10,.slice A11 n11 c11,.int .i64 li] w wx/\KnO w2 L [.int .u8 k,.string s1,.string s2,.string s3,.slice A4 n4 c4,.slice A5 n5 c5,.slice A6 n6 c6,.slice A7 n7 c7,.slice A8 n8 c8,.slice A9 n9 c9,.slice A10 n10 c10,.slice A11 n11 c11,.int .i64 li] o wx/\RO P wx (aAF o'))
  case first =>
   cases b
   ·have HX:=κ (show RO P wc (aAF o') by
     have h:=HO2.o;cases o' with
     | none=>exact h
     | some l =>
       have:=HB.o l rfl;cases l with
       | nil=>exact h
       | cons t r=>simp at this)
    go_wp2
    go_meet
    exact ⟨HZ.o,HK.o,HX.o⟩
   ·have hcl:aAF o'=none:=by
     cases o' with
     | none=>rfl
     | some l =>
       have:=HB.o l rfl;cases l with
       | nil=>simp at this
       | cons t r=>rfl
    have HC:=κ (Ih P o' 4 am _ HO2.o);have HCL:=κ hcl;clear hcl;go_wp2_with fail;refine μ HC ?_;rintro e v2 ⟨rfl,hb,hp⟩;have HX:=κ (ι (HZ.o.next HO2.o hb) (ι (HK.o.but hP2 hb) (show RO P v2 (aAF o') by rw [HCL.o];exact hp)));clear hb hp HC;go_wp2
    go_meet
    exact HX.o
  case rest =>
   clear HZ HK HO2 HB;obtain ⟨hz,hk,hp⟩:=pj;have HPr:=κ (ι hz hk);have cz:=β hz.2.1;have cx:=β hz.2.2;have fz:=λj=>frozen_of_row _ _ j _ _ hz.2.1;have hbz:=(hz.1.new ac:Below w w wc);simp only [stZ,stC] at cz fz
   by_cases hoc:o'=some []
   ·rw [hoc] at hp;obtain ⟨A0,c0,i0,k1, -, -⟩:=(show RS wc P [] 0 0 from hp);have p3:=β k1 3;simp only [γ,δ,ε] at p3;have h13:=kP [.int .u8 k,.string s1,.string s2,.string s3,.slice A4 n4 c4,.slice A5 n5 c5,.slice A6 n6 c6,.slice A7 n7 c7,.slice A8 n8 c8,.slice A9 n9 c9,.slice A10 n10 c10,.slice A11 n11 c11,.int .i64 li] 0 wc stZ hz.2.1 rfl;rw [List.take_zero,List.nil_append] at h13;have HR:=κ (ι (Vr (w:=w) HC13.o (hk.turn λg hg _=>jG (by have:=HW.o.1.size;omega) _ 0 wc) (gZ (g:=w) (ν _) [.int .u8 k,.string s1,.string s2,.string s3,.slice A4 n4 c4,.slice A5 n5 c5,.slice A6 n6 c6,.slice A7 n7 c7,.slice A8 n8 c8,.slice A9 n9 c9,.slice A10 n10 c10,.slice A11 n11 c11,.int .i64 li] 0 wc hbz) (HE.o.trans hoc)) h13);clear hz hk hp k1 h13 hoc hbz;go_wp2;change bodyPost _ _ _ _ _ (puts wc w [.int .u8 k,.string s1,.string s2,.string s3,.slice A4 n4 c4,.slice A5 n5 c5,.slice A6 n6 c6,.slice A7 n7 c7,.slice A8 n8 c8,.slice A9 n9 c9,.slice A10 n10 c10,.slice A11 n11 c11,.int .i64 li] 0);have hR:=rj;generalize puts wc w [.int .u8 k,.string s1,.string s2,.string s3,.slice A4 n4 c4,.slice A5 n5 c5,.slice A6 n6 c6,.slice A7 n7 c7,.slice A8 n8 c8,.slice A9 n9 c9,.slice A10 n10 c10,.slice A11 n11 c11,.int .i64 li] 0=WE at *;have hcE:=β hR.2
    exact bodyPost_ret (v:=.tuple #[.agg #[.int .u8 k,s1,s2,s3,.slice A4 n4 c4,.slice A5 n5 c5,.slice A6 n6 c6,.slice A7 n7 c7,.slice A8 n8 c8,.slice A9 n9 c9,.slice A10 n10 c10,.slice A11 n11 c11,.int .i64 li],.int .i64 0]) (by simp [results,results9,go_sem,hcE]) rfl hR.1
   ·have hcl:aAF o'=none:=by
     cases o' with
     | none=>rfl
     | some l =>
       cases l with
       | nil=>exact absurd rfl hoc
       | cons t r=>rfl
    rw [hcl] at hp;obtain ⟨l,d,bd,hbd,⟨A0,c0,i0,k1, -, -⟩, -, -⟩:=(show RBad P wc 0 from hp);have p3:=β k1 3;simp only [γ,δ,ε] at p3;have eb:(bd==0)=false:=η hbd;have eb2:(bd !=0)=true:=PJ
    have HX:=κ (ι (show o.map tE≠some [] by rw [HE.o];exact hoc) (ι hbd (ι hz.2.1 hbz)));clear hz hk hp k1 hcl hoc hbd hbz cx;go_wp2_with fail
    go_region
    have h13:=kP stZ 0 wc stZ HX.o.2.2.1 rfl;rw [List.take_zero,List.nil_append] at h13;have HR:=κ (ι (Vs (w':=(puts wc w stZ 0).drew) HPr.o.2 (gZ (g:=w) (ν _) stZ 0 wc HX.o.2.2.2).drew HX.o.1 HX.o.2.1) h13);clear h13 cz fz p3 HX;go_wp2;change bodyPost _ _ _ _ _ (puts wc w stZ 0).drew;have hR:=rj;generalize puts wc w stZ 0=WE at *;have hcE:=β (w:=WE.drew) hR.2;simp only [stZ,stC] at hcE;exact bodyPost_ret (v:=.tuple #[.agg stZ.toArray,.int .i64 bd]) (by simp [results,results9,go_sem,hcE,stZ,stC]) rfl hR.1
theorem Vt (s:ByteArray) (w:World) (hs:s.size<=9223372036854775807) :
 Calls prog 9 #[s] w (Oo w (Ka s.data.toList)):=by
 obtain ⟨L,E,hL⟩:∃ L E,eL s.data.toList=(L,E):=⟨_,_,rfl⟩;unfold Ka;rw [hL]
 by_cases hE:E=0
 ·subst hE;rw [if_pos rfl];exact aCQ s w hs L hL
 ·rw [if_neg hE];refine (xB s w hs L E hL hE).mono ?_;rintro e w' ⟨h1,c,h2,h3⟩;exact ⟨h1,stZ,c,nC 0 ⟨#[]⟩ ⟨#[]⟩ ⟨#[]⟩,h3,h2⟩
theorem Fv (A:ZT) (c:Nat) (la:List dW) (most:Nat) (hmost:most<=2) (w:World) (hA:ScA w A la) :
 Calls prog 6 #[.slice A la.length c,.int .i64 (most:Nat)] w (ScPost most w):=by
 obtain ⟨iB,hiB,hB0,hB1,hB2⟩:=info_parts Tz;obtain ⟨iM,hiM,hM0,hM1,hM2⟩:=info_parts Ty;have HA:=κ hA;clear hA;go_enter func6,ntmps6;go_wp2_with fail
 go_loopw [7,8,9,10,13] (λs7 s8 _ _ s13 wr=>∃ (i:Nat) (l:List dW) (A1:ZT) (c1:Nat) (A2:ZT) (c2:Nat),i<=la.length/\i<=most/\i=l.length/\s13=.int .i64 i/\s7=.slice A1 i c1/\s8=.slice A2 i c2/\wr.ownsRow w 50 2 (.slice A1 i c1) i (tbv l)/\wr.ownsRow w 52 2 (.slice A2 i c2) i (tbv l)/\TabsIn wr w l/\Below w w wr) (λ_ _ _ _ s13 _=>la.length-(intOf s13).toNat)
 case atStart=>exact ⟨0,[],none,0,none,0,Nat.zero_le _,Nat.zero_le _,rfl,rfl,rfl,rfl,World.ownsRow_nil _ _ _ _,World.ownsRow_nil _ _ _ _,λp hp=>absurd hp List.not_mem_nil,θ⟩
 case round =>
  obtain ⟨i,l,A1,c1,A2,c2,hi,hi2,hil,rfl,rfl,rfl,ho1,ho2,hTT,hb⟩:=de;have HIL:=κ hil;clear hil
  by_cases hlt:i<la.length
  ·obtain ⟨bT,oT,hAT,q0,q1⟩:=qK ((HA.o.below hb).1) hlt;have hok:=(HA.o.below hb).2 _ (List.getElem_mem hlt);generalize (la[i])=p at *;obtain ⟨⟨nm,cs⟩,At,ct⟩:=p;simp only at q0 q1 hok;subst hAT;have HB:=κ (ι ho1 (ι ho2 (ι hTT hb)));have HK:=κ hok;obtain ⟨s,hs⟩:∃ s:ByteArray,s=⟨nm.toArray⟩:=da;rw [<-hs] at q0;have hbT:Below wr wr (wr.alloc (.cells #[s,.slice At cs.length ct] 52)):=ρ;have HF:=κ (Ls s At ct cs _ (hok.2.1.below hbT) hok.2.2.1 hok.2.2.2);have hzT:=heap_alloc_new wr (.cells #[s,.slice At cs.length ct] 52);have HT:=κ (ι hbT hzT);have HS:=κ hs;clear ho1 ho2 hTT hb hok hbT hzT hs
   by_cases h2:i<most
   ·go_wp2_with fail;refine μ HF ?_;rintro e w1 ⟨hb1,A3,c3,cs3,rfl,ho3,h8,hc3,hok3⟩;have hz1:=aA HT.o.2 hb1;have hk1:=HT.o.1.trans (hb1.mono HT.o.1.size);have c1x:=β hz1;have f1x:=λj=>frozen_of_row _ _ j _ _ hz1;have hz2:=heap_setCell_same _ wr 1 _ _ (.slice A3 cs3.length c3) (heap_setCell_same w1 wr 0 _ _ (.string s) hz1);rw [show ((#[Value.string s,.slice At cs.length ct]:ZV).setIfInBounds 0 (.string s)).setIfInBounds 1 (.slice A3 cs3.length c3)=#[.string s,.slice A3 cs3.length c3] by simp] at hz2;have hk2:=(hk1.setCell (p:=⟨wr,0,none⟩) (ν _) (.string s)).setCell (p:=⟨wr,1,none⟩) (ν _) (.slice A3 cs3.length c3);rw [World.size_alloc] at ho3;have ho32:=World.ownsRow_setCell_lt (World.ownsRow_setCell_lt ho3 (a:=⟨wr,0,none⟩) (Nat.lt_succ_self _) (.string s)) (a:=⟨wr,1,none⟩) (Nat.lt_succ_self _) (.slice A3 cs3.length c3);have HZ:=κ (ι hz2 (ι hk2 ho32));have HC3:=κ (ι h8 (ι hc3 hok3));clear hb1 hz1 hk1 hz2 hk2 ho3 ho32 h8 hc3 hok3 q0 q1 HF;go_upto_region 8 with fail;obtain ⟨W2,hW2⟩:∃ W2,(w1.setCell ⟨wr,0,none⟩ (.string s)).setCell ⟨wr,1,none⟩ (.slice A3 cs3.length c3)=W2:=da;rw [hW2] at HZ |-;have c2x:=β HZ.o.1;have HR:=κ (Gd A3 c3 cs3 W2 (Rds.own HZ.o.2.2) HC3.o.2.1 (by have:=HC3.o.1;omega) (λu hu=>(HC3.o.2.2 u hu).1));clear hW2 c1x f1x;go_wp2_with fail;refine μ HR ?_;rintro e w3 ⟨⟨r,rfl,hds⟩,hb3⟩;have hz3:=aA HZ.o.1 hb3
    have hk3:=HZ.o.2.1.trans (hb3.mono HZ.o.2.1.size);have hO1:=aN HB.o.1 hk3;have hO2:=aN HB.o.2.1 hk3;have hb5:=HB.o.2.2.2.trans (hk3.mono HB.o.2.2.2.size);have hTN:r=true->(1<=nm.length/\nm.length<=20)->aBE w3 w ((⟨nm,cs3⟩,A3,c3):dW):=λhr hnl=>⟨(aN HZ.o.2.2 hb3).mono (Nat.le_trans HB.o.2.2.2.size (Nat.le_succ _)),HK.o.1,HC3.o.1,HC3.o.2.1,hds hr,HC3.o.2.2,hnl⟩;have hTT:=λhr hnl=>TabsIn.snoc (TabsIn.below HB.o.2.2.1 hk3) (hTN hr hnl);have cx:=β hz3;have hsz:s.size<=9223372036854775807:=by
     have:=HK.o.1;rw [HS.o];show nm.toArray.size<=_;rw [List.size_toArray];exact ah
    have HS3:=κ (ι hz3 (ι hk3 (ι hTN (ι hb5 hb5.size))));clear hz3 hk3 hb3 hTN c2x HR hb5;cases r
    ·go_wp2;go_ret3;exact ScPost.no HS3.o.2.2.2.1
    ·replace hTT:=hTT rfl;go_wp2_with fail;refine (xV s _ hsz).mono ?_;rintro e w' ⟨⟨r2,rfl,hnm⟩,rfl⟩;cases r2
     ·go_wp2;go_ret3;exact ScPost.no HS3.o.2.2.2.1
     ·replace hTT:=hTT (by have:=hnm rfl;rw [HS.o] at this;rwa [show (nm:ByteArray).size=nm.length from List.size_toArray] at this);clear hnm;go_wp2_with fail
      go_region_held3 (λw'=>w'.cell? ⟨wr,0,none⟩=some (.string s)/\w'.cell? ⟨wr,1,none⟩=some (.slice A3 cs3.length c3))
       (first|go_keep|exact hd2|exact hd3)
       (first
        | (refine bL _ rfl (.tmp 37) (.tmp 39) _ rfl w.heap.size 52 iM _ 2 40 underlying22 hiM hM0 hM1 hM2 rfl (by omega) _ _ _ (tbv l) rfl ?_ _ 1 1 [.string s,.slice A3 cs3.length c3] rfl rfl ?_ ?_ ?_ ?_ ?_ ?_
           ·exact (aN hm4 (by repeat (first|exact θ|apply Below.drew|refine Below.alloc ?_ aa _)))
           ·(first|exact dL _ _ _|exact pJ (dL _ _ _)|exact aS [.string s,.slice A3 cs3.length c3] (aB (heap_alloc_new _ _) _)|exact aS [.string s,.slice A3 cs3.length c3] (bG _ _ _)|exact aS [.string s,.slice A3 cs3.length c3] (hk4 _ _ (bG _ _ _) (fW hO1 (Nat.le_succ _))).1|exact aS [.string s,.slice A3 cs3.length c3] (hk4 _ _ (heap_alloc_new _ _) (fW hO1 (ν _))).1|exact aS [.string s,.slice A3 cs3.length c3] (hk4 _ _ (aB (heap_alloc_new _ _) _) (fW hO1 (ν _))).1)
           ·simp [Value.oneCell']
           ·simp only [maxLen];omega
           ·omega
           ·(have:=HS3.o.2.2.2.2;have:=hb4.size;simp at *;omega)
           intro A5 c5 w5 hFm hb5 hg5 hk5;have hFo:=pN (aN ho4 (by repeat (first|exact θ|apply Below.drew|refine Below.alloc ?_ aa _))) (aN hm4 (by repeat (first|exact θ|apply Below.drew|refine Below.alloc ?_ aa _))) am hg5;have hFT:=TabsIn.two (TabsIn.below hT4 (by repeat (first|exact θ|apply Below.drew|refine Below.alloc ?_ aa _))) (aN hm4 (by repeat (first|exact θ|apply Below.drew|refine Below.alloc ?_ aa _))) am hg5;have hd3:=qI (hk5 _ _ (aA hbx (by repeat (first|exact θ|apply Below.drew|refine Below.alloc ?_ aa _))) (fW HB.o.2.1 (ν _))).1;have hFb:=(hbA.trans ((by repeat (first|exact θ|apply Below.drew|refine Below.alloc ?_ aa _):Below w4 w4 _).mono hbA.size)).trans hb5)
        | (refine bL _ rfl (.tmp 33) (.tmp 35) _ rfl w.heap.size 50 iB _ 2 40 underlying24 hiB hB0 hB1 hB2 rfl (by omega) _ _ _ (tbv l) rfl ?_ _ 1 1 [.string s,.slice A3 cs3.length c3] rfl rfl ?_ ?_ ?_ ?_ ?_ ?_
           ·exact (aN ho5 (by repeat (first|exact θ|apply Below.drew|refine Below.alloc ?_ aa _)))
           ·(first|exact dL _ _ _|exact pJ (dL _ _ _)|exact aS [.string s,.slice A3 cs3.length c3] (aB (heap_alloc_new _ _) _)|exact aS [.string s,.slice A3 cs3.length c3] (bG _ _ _)|exact aS [.string s,.slice A3 cs3.length c3] (hk5 _ _ (bG _ _ _) (fW hO2 (Nat.le_succ _))).1|exact aS [.string s,.slice A3 cs3.length c3] (hk5 _ _ (heap_alloc_new _ _) (fW hO2 (ν _))).1|exact aS [.string s,.slice A3 cs3.length c3] (hk5 _ _ (aB (heap_alloc_new _ _) _) (fW hO2 (ν _))).1)
           ·simp [Value.oneCell']
           ·simp only [maxLen];omega
           ·omega
           ·(have:=HS3.o.2.2.2.2;have:=hb5.size;simp at *;omega)
           intro A4 c4 w4 hFo hb4 hg4 hk4;have hFm:=pN (aN hm5 (by repeat (first|exact θ|apply Below.drew|refine Below.alloc ?_ aa _))) (aN ho5 (by repeat (first|exact θ|apply Below.drew|refine Below.alloc ?_ aa _))) am hg4;have hFT:=TabsIn.two (TabsIn.below hT5 (by repeat (first|exact θ|apply Below.drew|refine Below.alloc ?_ aa _))) (aN ho5 (by repeat (first|exact θ|apply Below.drew|refine Below.alloc ?_ aa _))) am hg4;have hd3:=qI (hk4 _ _ (aA hbx (by repeat (first|exact θ|apply Below.drew|refine Below.alloc ?_ aa _))) (fW HB.o.1 (ν _))).1;have hFb:=(hbA.trans ((by repeat (first|exact θ|apply Below.drew|refine Below.alloc ?_ aa _):Below w5 w5 _).mono hbA.size)).trans hb4)
        | (refine bL _ rfl (.tmp 33) (.tmp 35) _ rfl w.heap.size 50 iB _ 2 40 underlying24 hiB hB0 hB1 hB2 rfl (by omega) _ _ _ (tbv l) rfl ?_ _ 1 1 [.string s,.slice A3 cs3.length c3] rfl rfl ?_ ?_ ?_ ?_ ?_ ?_
           ·exact (aN hO1 (by repeat (first|exact θ|apply Below.drew|refine Below.alloc ?_ aa _)))
           ·(first|exact dL _ _ _|exact pJ (dL _ _ _)|exact aS [.string s,.slice A3 cs3.length c3] (aB (heap_alloc_new _ _) _)|exact aS [.string s,.slice A3 cs3.length c3] (bG _ _ _))
           ·simp [Value.oneCell']
           ·simp only [maxLen];omega
           ·omega
           ·(have:=HS3.o.2.2.2.2;simp at this |-;omega)
           intro A4 c4 w4 ho4 hb4 hg4 hk4;have hm4:=pN (aN hO2 (by repeat (first|exact θ|apply Below.drew|refine Below.alloc ?_ aa _))) (aN hO1 (by repeat (first|exact θ|apply Below.drew|refine Below.alloc ?_ aa _))) am hg4;have hT4:=TabsIn.two (TabsIn.below hTT (by repeat (first|exact θ|apply Below.drew|refine Below.alloc ?_ aa _))) (aN hO1 (by repeat (first|exact θ|apply Below.drew|refine Below.alloc ?_ aa _))) am hg4;have hbx:=(hk4 _ _ (aA HS3.o.1 (by repeat (first|exact θ|apply Below.drew|refine Below.alloc ?_ aa _))) (fW HB.o.1 (ν _))).1;have hd2:=qI hbx;have hbA:=(HS3.o.2.2.2.1.trans ((by repeat (first|exact θ|apply Below.drew|refine Below.alloc ?_ aa _):Below w3 w3 _).mono HS3.o.2.2.2.2)).trans hb4;have hs4:=hb4.size)
        | (refine bL _ rfl (.tmp 37) (.tmp 39) _ rfl w.heap.size 52 iM _ 2 40 underlying22 hiM hM0 hM1 hM2 rfl (by omega) _ _ _ (tbv l) rfl ?_ _ 1 1 [.string s,.slice A3 cs3.length c3] rfl rfl ?_ ?_ ?_ ?_ ?_ ?_
           ·exact (aN hO2 (by repeat (first|exact θ|apply Below.drew|refine Below.alloc ?_ aa _)))
           ·(first|exact dL _ _ _|exact pJ (dL _ _ _)|exact aS [.string s,.slice A3 cs3.length c3] (aB (heap_alloc_new _ _) _)|exact aS [.string s,.slice A3 cs3.length c3] (bG _ _ _))
           ·simp [Value.oneCell']
           ·simp only [maxLen];omega
           ·omega
           ·(have:=HS3.o.2.2.2.2;simp at this |-;omega)
           intro A5 c5 w5 hm5 hb5 hg5 hk5;have ho5:=pN (aN hO1 (by repeat (first|exact θ|apply Below.drew|refine Below.alloc ?_ aa _))) (aN hO2 (by repeat (first|exact θ|apply Below.drew|refine Below.alloc ?_ aa _))) am hg5;have hT5:=TabsIn.two (TabsIn.below hTT (by repeat (first|exact θ|apply Below.drew|refine Below.alloc ?_ aa _))) (aN hO2 (by repeat (first|exact θ|apply Below.drew|refine Below.alloc ?_ aa _))) am hg5;have hbx:=(hk5 _ _ (aA HS3.o.1 (by repeat (first|exact θ|apply Below.drew|refine Below.alloc ?_ aa _))) (fW HB.o.2.1 (ν _))).1;have hd2:=qI hbx;have hbA:=(HS3.o.2.2.2.1.trans ((by repeat (first|exact θ|apply Below.drew|refine Below.alloc ?_ aa _):Below w3 w3 _).mono HS3.o.2.2.2.2)).trans hb5;have hs5:=hb5.size))
      all_goals
       rw [HS.o] at hFo hFm;rw [<-Tw l ((⟨nm,cs3⟩,A3,c3):dW)] at hFo hFm;have HN:=κ (ι hFo (ι hFm (ι hFT hFb)));clear hFo hFm hFT hFb;go_wp2
       go_roundw
       case rel=>exact ⟨i+1,l++[(⟨nm,cs3⟩,A3,c3)],A4,c4,A5,c5,ac,ac,by rw [List.length_append, <-HIL.o];rfl,dg,rfl,rfl,HN.o.1,HN.o.2.1,HN.o.2.2.1,HN.o.2.2.2⟩
       case measure=>simp [intOf];omega
   ·go_wp2;go_ret3;exact ScPost.yes HIL.o (by have:=HIL.o;omega) (HB.o.2.2.2.trans (HT.o.1.mono HB.o.2.2.2.size)) (aN HB.o.1 HT.o.1) (aN HB.o.2.1 HT.o.1) (TabsIn.below HB.o.2.2.1 HT.o.1)
  ·go_wp2;go_ret3;exact ScPost.yes HIL.o (by have:=HIL.o;omega) hb ho1 ho2 hTT
def nmD (k:Int) (op nm:ZS):ZS:=if nm==[] then (if k==2 then op else if k==6 then (if op==[67,79,85,78,84] then [99,111,117,110,116] else if op==[83,85,77] then [115,117,109] else if op==[77,73,78] then [109,105,110] else [109,97,120]) else Mm) else nm
theorem Qw (k vk vi:Int) (vs:ByteArray) (vb:Bool) (t:ByteArray) (op nm:ZS) (A:ZT) (n c:Nat) (d:Bool) (w:World) :
 Calls prog 21 #[.agg #[.int .u8 k,.int .u8 vk,vi,vs,vb,t,op,.slice A n c,nm,d]] w λe w'=>e=.returned (.string ⟨(nmD k op nm).toArray⟩)/\Below w w w':=by
 have hb0:Below w w (w.alloc (.cells #[.int .u8 k,.int .u8 vk,vi,vs,vb,t,op,.slice A n c,nm,d] 72)):=ρ;have hc:=β (heap_alloc_new w (.cells #[.int .u8 k,.int .u8 vk,vi,vs,vb,t,op,.slice A n c,nm,d] 72));have HB:=se;clear hb0;obtain ⟨b1,e1⟩:∃ b,(nm==[])=b:=da;obtain ⟨b2,e2⟩:∃ b,(k==2)=b:=da;obtain ⟨b3,e3⟩:∃ b,(k==6)=b:=da;obtain ⟨b4,e4⟩:∃ b,(op==[67,79,85,78,84])=b:=da;obtain ⟨b5,e5⟩:∃ b,(op==[83,85,77])=b:=da;obtain ⟨b6,e6⟩:∃ b,(op==[77,73,78])=b:=da;have HN:=κ (show nmD k op nm=if b1 then (if b2 then op else if b3 then (if b4 then [99,111,117,110,116] else if b5 then [115,117,109] else if b6 then [109,105,110] else [109,97,120]) else Mm) else nm by unfold nmD;rw [e1,e2,e3,e4,e5,e6]);go_enter func21,ntmps21;cases b1
 ·go_wp2;go_ret;exact PP
 ·cases b2
  ·cases b3
   ·go_wp2;go_ret;exact PP
   ·cases b4
    ·cases b5
     ·cases b6
      ·go_wp2;go_ret;exact PP
      ·go_wp2;go_ret;exact PP
     ·go_wp2;go_ret;exact PP
    ·go_wp2;go_ret;exact PP
  ·go_wp2;go_ret;exact PP
theorem Le {S:Nat->Prop} {x:Lp.X} {r:RC} (hx:x.wf) (hr:RX S w x r) (nm:ZS) (d:Bool) :
 Calls prog 21 #[.agg #[.int .u8 r.k,.int .u8 r.vk,.int .i64 r.vi,r.vs,r.vb,r.t,r.s,.slice r.A r.n r.c,nm,d]] w λe w'=>e=.returned (.string ⟨(Bv (x,nm)).toArray⟩)/\Below w w w':=by
 have ha:∀ o∈kG,nmD 6 o []=aEE o:=am
 have hne:∀ (k:Int) (op:ZS),nm≠[]->nmD k op nm=nm:=λk op h=>by unfold nmD;rw [η h];rfl
 have key:∃ op,r.s=⟨op.toArray⟩/\nmD r.k op nm=Bv (x,nm):=by
  by_cases hn:nm=[]
  ·subst hn;cases x with
   | lit k i s b=>obtain rfl:r=rcL k i s b:=hr;exact ⟨[],rfl,rfl⟩
   | col t s=>obtain rfl:r=rcC t s:=hr;exact ⟨s,rfl,rfl⟩
   | cnt=>obtain rfl:r=rc0 6 aJ:=hr;exact ⟨aJ,rfl,am⟩
   | un op x=>obtain ⟨g,r1,rfl, -⟩:=hr;exact ⟨op,rfl,rfl⟩
   | bin op a b=>obtain ⟨g,r1,r2,rfl, -⟩:=hr;exact ⟨op,rfl,rfl⟩
   | isn n x=>obtain ⟨g,r1,rfl, -⟩:=hr;exact ⟨_,rfl,rfl⟩
   | agg op x=>obtain ⟨g,r1,rfl, -⟩:=hr;exact ⟨op,rfl,ha op hx.1⟩
  ·have e:Bv (x,nm)=nm:=if_neg hn;cases x with
   | lit k i s b=>obtain rfl:r=rcL k i s b:=hr;exact ⟨[],rfl,PQ⟩
   | col t s=>obtain rfl:r=rcC t s:=hr;exact ⟨s,rfl,PQ⟩
   | cnt=>obtain rfl:r=rc0 6 aJ:=hr;exact ⟨aJ,rfl,PQ⟩
   | un op x=>obtain ⟨g,r1,rfl, -⟩:=hr;exact PT
   | bin op a b=>obtain ⟨g,r1,r2,rfl, -⟩:=hr;exact PT
   | isn n x=>obtain ⟨g,r1,rfl, -⟩:=hr;exact ⟨_,rfl,PQ⟩
   | agg op x=>obtain ⟨g,r1,rfl, -⟩:=hr;exact PT
 obtain ⟨op,h1,h2⟩:=key;rw [h1, <-h2];exact Qw _ _ _ _ _ _ op nm _ _ _ d w
