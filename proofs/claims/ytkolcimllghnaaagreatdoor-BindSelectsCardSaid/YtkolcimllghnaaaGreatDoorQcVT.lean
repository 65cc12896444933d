/-
 Contracts. Conditions: those of each.
-/
import Derived.Test.YtkolcimllghnaaaGreatDoorQcVS
import Derived.Deep.RegionLaw
set_option maxRecDepth 100000
set_option maxHeartbeats 16000000
namespace Go.Proofs.YtkolcimllghnaaaGreatDoor
open Lp Go.Proofs.Tryz
open Go.RowKit
variable{xs:List Lp.X}{sc:List Tb}{x:Lp.X}{g i:Nat}{w:World}
theorem Zc:(prog.info? 60).map (λi=>(i.zero,i.size,i.bytes))=some (some (.agg #[.int .u8 0,.int .u8 0,.int .i64 0,(),false,(),(),.slice none 0 0]),8,104):=aj
theorem aHZ {B n size:Nat} {e:TypeId} {v:Value} {xs:ZU} (h:w.ownsRow B e size v n xs) (hg:g<B):some g≠v.ownBlock:=by
 intro e;have:=(h.lt g e.symm).1;omega
def qD (A:ZT) (c:Nat) (l:List dW) (x:Lp.X):Prop:=∀ (S:Nat->Prop) (w:World) (r:RC),ScA w A l->RX S w x r->Calls prog 13 #[.slice A l.length c,r.val] w λe w'=>e=.returned (.string (shB (aE l) x))/\Below w w w'
theorem Yl (T:ZS):(⟨#[35]⟩:ByteArray)++(T:ByteArray)=⟨(35::T).toArray⟩:=zC [35] T
theorem Su (hw:bY sc<=10000) (t s:ZS):inR (atX sc t s):=by
 unfold atX;cases h:dX sc t s with
 | none=>exact ⟨am,am⟩
 | some p =>
   have h1:=(List.getElem?_eq_some_iff.1 (tC h)).1;have h2:(kU sc).length=bY sc:=by
    unfold bY kU;rw [List.length_flatMap];simp
   constructor
   ·show (-9223372036854775808:Int)<=(p.1:Int);omega
   ·show (p.1:Int)<=9223372036854775807;omega
theorem Kg (A:ZT) (c:Nat) (l:List dW) (t s:ZS) (hn:l.length<=100) (hw:bY (aE l)<=10000):qD A c l (.col t s):=by
 intro S w r hA hr;obtain rfl:r=rcC t s:=hr;have hb0:=IP;have HF:=κ (Bf A c l t s _ (hA.below hb0) hn hw);have HI:=κ (Su hw t s);have HB:=se;have HE:=κ (show (⟨#[35]⟩:ByteArray)++(⟨(Lib.itoa (atX (aE l) t s)).toArray⟩:ByteArray)=shB (aE l) (.col t s) from Yl _);have hsz:(⟨(Lib.itoa (atX (aE l) t s)).toArray⟩:ByteArray).size<=21:=by
  have:=Lib.itoa_length_le (atX (aE l) t s) HI.o.1 HI.o.2;show (Lib.itoa (atX (aE l) t s)).toArray.size<=_;rw [List.size_toArray];exact ah
 have HD:=κ (λW=>Gj (atX (aE l) t s) W HI.o);obtain ⟨D,hD⟩:∃ D:ByteArray,(⟨(Lib.itoa (atX (aE l) t s)).toArray⟩:ByteArray)=D:=da;rw [hD] at HE HD hsz;obtain ⟨Y,y1,z1,A1⟩:=dG ⟨#[35]⟩ D (ν _) hsz am;rw [y1] at HE;have HX:=κ (λW=>wT Y W);simp only [RC.val,rcT] at HX;simp only [RC.val,rcC];generalize atX (aE l) t s=n at *;clear hb0 hA hD y1 z1 hsz;go_enter func13,ntmps13;go_wp2_with fail;refine μ HF ?_;rintro e w1 ⟨rfl,hb1⟩;have HB1:=κ (HB.o.trans (hb1.mono HB.o.size));clear hb1;go_wp2_with fail;refine (HD.o _).mono ?_;rintro e w2 ⟨rfl,rfl⟩;go_wp2_with fail;refine (HX.o _).mono ?_;rintro e w3 ⟨rfl,hb3⟩;have HB3:=κ (HB1.o.trans (hb3.mono HB1.o.size));clear hb3;go_wp2;go_ret;exact ⟨congrArg (λx=>Ending.returned (.string x)) HE.o,HB3.o⟩
def Fa (sc:List Tb) (xs:List Lp.X):List RC:=(xs.map (shB sc)).map rcT
theorem aBQ (sc:List Tb) (h:i<xs.length):rcs (Fa sc (xs.take i))++(rcT (shB sc xs[i])).cells=rcs (Fa sc (xs.take (i+1))):=by
 rw [List.take_succ_eq_append_getElem h];simp only [rcs,Fa,List.map_append,List.map_cons,List.map_nil,List.flatMap_append,List.flatMap_cons,List.flatMap_nil,List.append_nil]
theorem aHW (r:RC):∀ u∈r.cells,u.oneCell'=true:=by
 intro u hu;simp only [RC.cells,List.mem_cons,List.not_mem_nil,or_false] at hu;rcases hu with rfl|rfl|rfl|rfl|rfl|rfl|rfl|rfl<;>rfl
theorem pF (A:ZT) (c:Nat) (l:List dW) (k vk vi:Int) (vs:ByteArray) (vb:Bool) (op:ZS) (c0:Nat) (xs:List Lp.X) (R:ByteArray) (h2:(k==2)=false) (hn:xs.length<=2) (S:Nat->Prop) (w:World) (Ar:ZT) (rs:List RC) (hA:ScA w A l) (hp:Pts S w Ar xs rs) (ho:∀ y∈xs,qD A c l y)
 (hT:∀ (W:World) (A8:ZT) (c8:Nat),(xs.length=0->A8=none/\c8=0)->Rds W A8 (rcs (Fa (aE l) xs))->Calls prog 41 #[.agg #[.int .u8 k,.int .u8 vk,vi,vs,vb,(),op,.slice A8 xs.length c8]] W λe w'=>e=.returned (.string R)/\Below W W w') :
 Calls prog 13 #[.slice A l.length c,.agg #[.int .u8 k,.int .u8 vk,vi,vs,vb,(),op,.slice Ar xs.length c0]] w λe w'=>e=.returned (.string R)/\Below w w w':=by
 obtain ⟨iE,hiE,hz0,hz1,hz2⟩:=info_parts Zc;have hnI:=IV
 have HT:=κ hT;have HO:=κ ho;generalize (op:ByteArray)=O at *;have hc:=β (heap_alloc_new w (.cells #[.int .u8 k,.int .u8 vk,vi,vs,vb,(),O,.slice Ar xs.length c0] 60));have hb0:Below w w ((w.alloc (.cells #[.int .u8 k,.int .u8 vk,vi,vs,vb,(),O,.slice Ar xs.length c0] 60)).alloc (.cells #[.int .u8 k,.int .u8 vk,vi,vs,vb,(),O,.slice none 0 0] 60)):=(ρ).alloc aa _;have hy0:=bG w (.cells #[.int .u8 k,.int .u8 vk,vi,vs,vb,(),O,.slice Ar xs.length c0] 60) (.cells #[.int .u8 k,.int .u8 vk,vi,vs,vb,(),O,.slice none 0 0] 60);have hs0:w.heap.size+1+1<=((w.alloc (.cells #[.int .u8 k,.int .u8 vk,vi,vs,vb,(),O,.slice Ar xs.length c0] 60)).alloc (.cells #[.int .u8 k,.int .u8 vk,vi,vs,vb,(),O,.slice none 0 0] 60)).heap.size:=aa
 have HB:=κ (ι hb0 (ι hy0 hs0));have HA:=κ hA;have HP:=eh;clear hT ho hA hp hb0 hy0 hs0;go_enter func13,ntmps13;go_wp2_with fail;generalize ((w.alloc (.cells #[.int .u8 k,.int .u8 vk,vi,vs,vb,(),O,.slice Ar xs.length c0] 60)).alloc (.cells #[.int .u8 k,.int .u8 vk,vi,vs,vb,(),O,.slice none 0 0] 60))=W0 at *;clear hc
 go_loopw [7,26] (λ_ s26 wr=>∃ (i:Nat) (A8:ZT) (c8:Nat),i<=xs.length/\s26=.int .i64 i/\(i=0->A8=none/\c8=0)/\wr.heap[w.heap.size+1]? = some (.cells #[.int .u8 k,.int .u8 vk,vi,vs,vb,(),O,.slice A8 i c8] 60 (0,0))/\wr.ownsRow (w+1+1) 60 8 (.slice A8 i c8) i (rcs (Fa (aE l) (xs.take i)))/\Below w w wr/\w.heap.size+1+1<=wr.heap.size) (λ_ s26 _=>xs.length-(intOf s26).toNat)
 case atStart=>exact ⟨0,none,0,Nat.zero_le _,rfl,λ_=>⟨rfl,rfl⟩,HB.o.2.1,World.ownsRow_nil _ _ _ _,HB.o.1,HB.o.2.2⟩
 case round =>
  obtain ⟨i,A8,c8,hi,rfl,h08,hy,hown,hb,hsz⟩:=de;have H08:=κ h08;clear h08
  by_cases hlt:i<xs.length
  ·have hpw:=HP.o.below hb;have hri:=IX
   obtain ⟨bR,oR,hAR,q0,q1,q2,q3,q4,q5,q6,q7⟩:=JC;have hrx:=JB;have hok:=JA;have HTS:=κ (aBQ (aE l) hlt);subst hAR;generalize rs[i]=r at *;generalize xs[i]=y at *;obtain ⟨rk,rvk,rvi,rvs,rvb,rt,rs0,rA,rn,rc⟩:=r;generalize rcs (Fa (aE l) (xs.take i))=old at *;obtain ⟨nw,hnw⟩:∃ nw,rcs (Fa (aE l) (xs.take (i+1)))=nw:=da;rw [hnw] at HTS;have HNW:=κ hnw;clear hnw;have hbz:=IZ;have hzz:=KL;have hyz:=aA hy hbz;have hoz:=aN hown hbz;have hbw:=hb.trans (hbz.mono hb.size);have hsw:w.heap.size+1+1<=(wr.alloc (.cells #[.int .u8 rk,.int .u8 rvk,rvi,rvs,rvb,rt,rs0,.slice rA rn rc] 60)).heap.size:=GO
   have hrz:=RX.below hbz hrx;have hAz:=HA.o.below hbw;obtain ⟨T,hT⟩:∃ T,shB (aE l) y=T:=da;rw [hT] at HTS;have HXX:=κ (ι hyz (ι hoz (ι hbw (ι hsw (ι hrz (ι hAz (ι hok (ι hT hzz))))))));clear hb hpw hri hrx hok hbz hzz hyz hoz hbw hsw hrz hAz hT hy hown hsz;go_upto_region 8 with fail;generalize (wr.alloc (.cells #[.int .u8 rk,.int .u8 rvk,rvi,rvs,rvb,rt,rs0,.slice rA rn rc] 60))=wz at *;have HX:Hd0 (∀ W':World,Below wz wz W'->Calls prog 13 #[.slice A l.length c,.agg #[.int .u8 rk,.int .u8 rvk,rvi,rvs,rvb,rt,rs0,.slice rA rn rc]] W' λe w'=>e=.returned (.string T)/\Below wz wz w'):=by
    intro W' hb';have:=HXX.o.2.2.2.2.2.2.1 S W' _ (HXX.o.2.2.2.2.2.1.below hb') (RX.below hb' HXX.o.2.2.2.2.1);rw [HXX.o.2.2.2.2.2.2.2.1] at this;exact this.mono λ_ _ ⟨h1,h2⟩=>⟨h1,hb'.trans (h2.mono hb'.size)⟩
   have cy:=β HXX.o.1;have cz:=β HXX.o.2.2.2.2.2.2.2.2;have HXY:=κ (ι HXX.o.1 (ι HXX.o.2.1 (ι HXX.o.2.2.1 HXX.o.2.2.2.1)));clear q0 q1 q2 q3 q4 q5 q6 q7 HXX;go_wp2_with fail
   go_region_law (first
    | (go_simp;go_at_call 13;refine (HX.o _ (by first|exact θ|exact (θ).drew)).mono ?_;rintro e w2 ⟨rfl,hb2⟩;have hy2:=aA HXY.o.1 hb2;have ho2:=aN HXY.o.2.1 hb2;have hbw2:=HXY.o.2.2.1.trans (hb2.mono HXY.o.2.2.1.size);have hs2:=Nat.le_trans HXY.o.2.2.2 hb2.size;have cy2:=β hy2;have cy3:=λ(o:Obj) (j:Nat)=>β (aB hy2 o) j)
    | (refine bL _ rfl (.tmp 31) (.tmp 36) _ rfl (w.heap.size+1+1) 60 iE _ 8 104 underlying36 hiE hz0 hz1 hz2 rfl (by omega) _ _ _ old rfl ?_ _ 1 1 ((rcT T).cells) rfl rfl ?_ ?_ ?_ ?_ ?_ ?_
       ·exact ho2.alloc _
       ·exact aS (rcT T).cells (heap_alloc_new _ _)
       ·exact aHW _
       ·simp only [maxLen];omega
       ·omega
       ·rw [World.size_alloc];omega
       intro A5 c5 w5 ho5 hb5 hg5 hk5;have hy5:=(hk5 _ _ (aB hy2 _) (aHZ ho2 (Nat.lt_succ_self _))).1;have hb5w:=(hbw2.alloc hbw2.size _).trans (hb5.mono (Nat.le_trans (Nat.le_succ _) (Nat.le_succ _)));have hs5:w.heap.size+1+1<=w5.heap.size:=by have:=hb5.size;rw [World.size_alloc] at this;omega
       have cy5:=β hy5;have fy5:=λj=>frozen_of_row _ _ j _ _ hy5))
   all_goals
    have hy6:=heap_setCell_same w5 (w+1) 7 _ _ (.slice A5 (i+1) c5) hy5;rw [show (#[Value.int .u8 k,.int .u8 vk,vi,vs,vb,(),O,.slice A8 i c8]:ZV).setIfInBounds 7 (.slice A5 (i+1) c5)=#[.int .u8 k,.int .u8 vk,.int .i64 vi,.string vs,.bool vb,.string ⟨#[]⟩,.string O,.slice A5 (i+1) c5] by simp] at hy6;have ho6:=World.ownsRow_setCell_lt ho5 (a:=⟨w+1,7,none⟩) (Nat.lt_succ_self _) (.slice A5 (i+1) c5);have hb6:=hb5w.setCell (p:=⟨w+1,7,none⟩) (Nat.le_succ _) (.slice A5 (i+1) c5);rw [HTS.o, <-HNW.o] at ho6;have hs6:w.heap.size+1+1<=(w5.setCell ⟨w+1,7,none⟩ (.slice A5 (i+1) c5)).heap.size:=by rw [World.size_setCell];exact hs5
    have HZ:=κ (ι hy6 (ι ho6 (ι hb6 hs6)));clear hy6 ho6 hb6 hs6 hy5 ho5 hb5 hg5 hk5 hb5w hs5 cy5 fy5 hy2 ho2 hbw2 hs2 cy2 cy3 cy cz HXY HX hb2;go_wp2
    go_roundw
    case rel=>exact ⟨i+1,A5,c5,ac,dg,λh=>absurd h (Nat.succ_ne_zero _),HZ.o.1,HZ.o.2.1,HZ.o.2.2.1,HZ.o.2.2.2⟩
    case measure=>simp [intOf];omega
  ·have hi2:=rl
   subst hi2;rw [List.take_length] at hown;have cy:=β hy;have HC:=κ (HT.o wr A8 c8 H08.o (Rds.own hown));have HQ:=dn;clear hy hown hb hsz;go_wp2_with fail;refine μ HC ?_;rintro e w2 ⟨rfl,hb2⟩;have HQ2:=κ (HQ.o.trans (hb2.mono HQ.o.size));clear hb2;go_wp2;go_ret;exact ⟨rfl,HQ2.o⟩
theorem qL {A:ZT} {c:Nat} {l:List dW} (hk:dR x≠[]) (h2:(iO x==2)=false) (hn:(dR x).length<=2) (ho:∀ y∈dR x,qD A c l y)
 (hT:∀ (W:World) (A8:ZT) (c8:Nat),Rds W A8 (rcs (Fa (aE l) (dR x)))->Calls prog 41 #[.agg #[.int .u8 (iO x),.int .u8 0,.int .i64 0,(),false,(),.string ⟨(rU x).toArray⟩,.slice A8 (dR x).length c8]] W λe w'=>e=.returned (.string (shB (aE l) x))/\Below W W w'):qD A c l x:=by
 intro S w r hA hr;obtain ⟨Ar,rs,rfl,hp⟩:=Cz hr hk;exact pF A c l (iO x) 0 0 ⟨#[]⟩ false (rU x) (dR x).length (dR x) (shB (aE l) x) h2 hn S w Ar rs hA hp ho λW A8 c8 _ h=>hT W A8 c8 h
theorem aFP:∀ o∈nH,o.length<=10:=am
theorem aFZ:∀ o∈kG,o.length<=10:=am
theorem jT (A:ZT) (c:Nat) (l:List dW) (hn:l.length<=100) (hw:bY (aE l)<=10000):∀ x:Lp.X,x.wf->x.size<=10000->qD A c l x:=by
 have nil_ne:=KA
 intro x
 induction x with
 | lit k i s b =>
   intro hx _ S w r hA hr;obtain rfl:r=rcL k i s b:=hr;have hi:inR i/\s.length<=2000:=by
    rcases hx with ⟨-,h1,h2,h3, -⟩|⟨-,h1,h2, -⟩|⟨-,h1,h2, -⟩|⟨-,h1,h2⟩
    ·exact ⟨⟨ac,h2⟩,by rw [h3];simp⟩
    ·exact ⟨⟨ac,ac⟩,h2⟩
    ·exact KM
    ·exact KM
   have:=pF A c l 1 k i s b [] 0 [] (shB (aE l) (.lit k i s b)) rfl aa S w none [] hA ⟨rfl,.inl rfl,λ_ h=>absurd h (Nat.not_lt_zero _)⟩ (λy hy=>by cases hy) λW A8 c8 h0 _=>by
    obtain ⟨rfl,rfl⟩:=h0 rfl;exact Ju k i s b W hi.1 ac
   exact ah
 | col t s=>intro _ _;exact Kg A c l t s hn hw
 | cnt =>
   intro _ _ S w r hA hr;obtain rfl:r=rc0 6 aJ:=hr;have:=pF A c l 6 0 0 ⟨#[]⟩ false aJ 0 [] (shB (aE l) .cnt) rfl aa S w none [] hA ⟨rfl,.inl rfl,λ_ h=>absurd h (Nat.not_lt_zero _)⟩ (λy hy=>by cases hy) λW A8 c8 h0 _=>by
    obtain ⟨rfl,rfl⟩:=h0 rfl;exact Tq W
   exact ah
 | un op x ih =>
   intro hx hs;have hs2:=KN
   refine qL KD (by show ((3:Int)==2)=false;decide) KP (λy hy=>KO) λW A8 c8 h => ?_;have:=aBT op (by rcases hx.1 with rfl|rfl<;>decide) (shB (aE l) x) (gW hw hx.2 hs2) A8 c8 W h;rw [show (⟨#[40]⟩:ByteArray)++⟨op.toArray⟩++⟨#[32]⟩++shB (aE l) x++⟨#[41]⟩=shB (aE l) (.un op x) by
    apply kF;rw [cQ,cQ,cQ,cQ];simp [shB,aO]] at this
   exact ah
 | isn n x ih =>
   intro hx hs;have hs2:=KN
   refine qL KD (by show ((5:Int)==2)=false;decide) KP (λy hy=>by rw [List.mem_singleton.1 hy];exact ih hx hs2) λW A8 c8 h => ?_;have:=Tp n (shB (aE l) x) (gW hw hx hs2) A8 c8 W h;rw [show (⟨#[40]⟩:ByteArray)++shB (aE l) x++⟨(32::(isN n++[41])).toArray⟩=shB (aE l) (.isn n x) by
    apply kF;rw [cQ,cQ];simp [shB,aO,isN]] at this
   exact ah
 | agg op x ih =>
   intro hx hs;have hs2:=KN
   refine qL KD (by show ((6:Int)==2)=false;decide) KP (λy hy=>KO) λW A8 c8 h => ?_;have:=Tt op (aFZ op hx.1) (shB (aE l) x) (gW hw hx.2 hs2) A8 c8 W h;rw [show (op:ByteArray)++⟨#[40]⟩++shB (aE l) x++⟨#[41]⟩=shB (aE l) (.agg op x) by
    apply kF;rw [cQ,cQ,cQ];simp [shB,aO]] at this
   exact ah
 | bin op a b iha ihb =>
   intro hx hs;have hs2:a.size<=10000/\b.size<=10000:=KQ
   refine qL KD (by show ((4:Int)==2)=false;decide) KP (λy hy => ?_) λW A8 c8 h => ?_
   ·rcases List.mem_cons.1 hy with rfl|hy
    ·exact iha hx.2.1 hs2.1
    ·rw [List.mem_singleton.1 hy];exact ihb hx.2.2 hs2.2
   ·have:=Tr op (aFP op hx.1) (shB (aE l) a) (shB (aE l) b) (gW hw hx.2.1 hs2.1) (gW hw hx.2.2 hs2.2) A8 c8 W h;rw [show (⟨#[40]⟩:ByteArray)++shB (aE l) a++⟨#[32]⟩++⟨op.toArray⟩++⟨#[32]⟩++shB (aE l) b++⟨#[41]⟩=shB (aE l) (.bin op a b) by
     apply kF;rw [cQ,cQ,cQ,cQ,cQ,cQ];simp [shB,aO]] at this
    exact ah
theorem Ve {gs:List Lp.X} (hx:x.wf) (kx:eW sc x) (hg:∀ g∈gs,g.wf/\eW sc g) :
 setX sc gs x=(iO x==6||(gs.any λg=>aO sc g==aO sc x)||(!(iO x==2)&&(dR x).all (setX sc gs))):=by
 have e:(gs.any λg=>bU sc g x)=gs.any λg=>aO sc g==aO sc x:=by
  rw [Bool.eq_iff_iff];simp only [List.any_eq_true]
  constructor
  ·rintro ⟨g,h1,h2⟩;exact ⟨g,h1,by rw [<-sL (hg g h1).1 hx (hg g h1).2 kx];exact h2⟩
  ·rintro ⟨g,h1,h2⟩;exact ⟨g,h1,by rw [sL (hg g h1).1 hx (hg g h1).2 kx];exact h2⟩
 rw [<-e];cases x<;>simp [setX,dR,iO]
theorem aEJ (hx:x.wf) (kx:eW sc x):∀ y∈dR x,y.wf/\eW sc y/\y.size<=x.size:=by
 intro y hy;cases x with
 | lit=>cases hy
 | col=>cases hy
 | cnt=>cases hy
 | un op x=>rw [List.mem_singleton.1 hy];exact ⟨hx.2,kx,KR⟩
 | isn n x=>rw [List.mem_singleton.1 hy];exact ⟨hx,kx,KR⟩
 | agg op x=>rw [List.mem_singleton.1 hy];exact ⟨hx.2,kx,KR⟩
 | bin op a b =>
   rcases List.mem_cons.1 hy with rfl|hy
   ·exact ⟨hx.2.1,kx.1,by simp [Lp.X.size];omega⟩
   ·rw [List.mem_singleton.1 hy];exact ⟨hx.2.2,kx.2,by simp [Lp.X.size];omega⟩
theorem fE {w':World} {a:Addr} {u:Value} (h:w.cell? a=some u) (hb:Below w w w'):w'.cell? a=some u:=(hb.cell (p:=a) (World.block_lt_of_cell? w a h)).trans h
theorem Nw {W:World} {gz:Nat} {u0 u1 u2 u3 u4 u5 u6 u7 v0 v1 v2 v3 v4 v5 v6 v7:Value} (hb:Below w w W) (h0:w.cell? ⟨g,0,none⟩=some u0) (h1:w.cell? ⟨g,1,none⟩=some u1) (h2:w.cell? ⟨g,2,none⟩=some u2) (h3:w.cell? ⟨g,3,none⟩=some u3) (h4:w.cell? ⟨g,4,none⟩=some u4) (h5:w.cell? ⟨g,5,none⟩=some u5) (h6:w.cell? ⟨g,6,none⟩=some u6) (h7:w.cell? ⟨g,7,none⟩=some u7) (j0:w.cell? ⟨gz,0,none⟩=some v0) (j1:w.cell? ⟨gz,1,none⟩=some v1) (j2:w.cell? ⟨gz,2,none⟩=some v2) (j3:w.cell? ⟨gz,3,none⟩=some v3) (j4:w.cell? ⟨gz,4,none⟩=some v4) (j5:w.cell? ⟨gz,5,none⟩=some v5) (j6:w.cell? ⟨gz,6,none⟩=some v6) (j7:w.cell? ⟨gz,7,none⟩=some v7) :
 W.cell? ⟨g,0,none⟩=some u0/\W.cell? ⟨g,1,none⟩=some u1/\W.cell? ⟨g,2,none⟩=some u2/\W.cell? ⟨g,3,none⟩=some u3/\W.cell? ⟨g,4,none⟩=some u4/\W.cell? ⟨g,5,none⟩=some u5/\W.cell? ⟨g,6,none⟩=some u6/\W.cell? ⟨g,7,none⟩=some u7/\W.cell? ⟨gz,0,none⟩=some v0/\W.cell? ⟨gz,1,none⟩=some v1/\W.cell? ⟨gz,2,none⟩=some v2/\W.cell? ⟨gz,3,none⟩=some v3/\W.cell? ⟨gz,4,none⟩=some v4/\W.cell? ⟨gz,5,none⟩=some v5/\W.cell? ⟨gz,6,none⟩=some v6/\W.cell? ⟨gz,7,none⟩=some v7 :=
 ⟨fE h0 hb,fE h1 hb,fE h2 hb,fE h3 hb,fE h4 hb,fE h5 hb,fE h6 hb,fE h7 hb,fE j0 hb,fE j1 hb,fE j2 hb,fE j3 hb,fE j4 hb,fE j5 hb,fE j6 hb,fE j7 hb⟩
theorem aAX {f:Lp.X->Bool} (h:i<xs.length) (ha:(xs.take i).all f=true) (hr:f xs[i]=true):(xs.take (i+1)).all f=true:=by
 rw [List.take_succ_eq_append_getElem h,List.all_append,ha];simp [hr]
theorem aJK {f:Lp.X->Bool} (h:i<xs.length) (hr:f xs[i]=false):xs.all f=false:=by
 rw [List.all_eq_false];exact ⟨xs[i],List.getElem_mem h,by rw [hr];decide⟩
def aBF (A:ZT) (c:Nat) (l:List dW) (gs:List Lp.X) (x:Lp.X):Prop:=∀ (S:Nat->Prop) (w:World) (r:RC) (Ag:ZT) (cg:Nat) (rg:List RC),ScA w A l->RX S w x r->Pts S w Ag gs rg->Calls prog 58 #[.slice A l.length c,r.val,.slice Ag gs.length cg] w λe w'=>e=.returned (.bool (setX (aE l) gs x))/\Below w w w'
theorem Vd (A:ZT) (c:Nat) (l:List dW) (hn:l.length<=100) (hw:bY (aE l)<=10000) (gs:List Lp.X) (hgs:∀ g∈gs,(g.wf/\eW (aE l) g)/\g.size<=10000) (hgl:gs.length<=100) (x:Lp.X) (hx:x.wf) (kx:eW (aE l) x) (hz:x.size<=10000) (ho:∀ y∈dR x,aBF A c l gs y):aBF A c l gs x:=by
 intro S w r Ag cg rg hA hr hG;have hf:=Ve hx kx λg hg=>(hgs g hg).1;have hkl:=sY x;obtain ⟨h1,h2,rs,hp⟩:=Nf hr;have M6:=λ(W:World) (hA:ScA W A l) (hr:RX S W x r)=>jT A c l hn hw x hx hz S W r hA hr;obtain ⟨k,vk,vi,vs,vb,t,op,Ar,n,c8⟩:=r;simp only at h1 h2 hp;subst h1 h2;unfold shB at M6;have HF:=ez;have HM:=κ M6;clear hf M6;obtain ⟨L2,hL2⟩:∃ L,aO (aE l) x=L:=da;rw [hL2] at HF HM;have hb0:Below w w (w.alloc (.cells #[.int .u8 (iO x),.int .u8 vk,vi,vs,vb,t,op,.slice Ar (dR x).length c8] 60)):=ρ;have hz0:=heap_alloc_new w (.cells #[.int .u8 (iO x),.int .u8 vk,vi,vs,vb,t,op,.slice Ar (dR x).length c8] 60);have HB:=κ (ι hb0 (ι hz0 (ι (hp.below hb0) (ι (hA.below hb0) (ι (RX.below hb0 hr) (hG.below hb0))))));have HO:=κ ho;have hc:=ud;simp only [RC.val];generalize iO x=k at *;generalize dR x=xs at *;have hnI:=IV
 have hgI:(gs.length:Int)<=100:=ac
 clear hb0 hz0 hp ho hr hA hG hL2 kx hx;go_enter func58,ntmps58;obtain ⟨b6,h6⟩:∃ b,(k==6)=b:=da;rw [h6] at HF;cases b6
 ·go_wp2_with fail;generalize (w.alloc (.cells #[.int .u8 k,.int .u8 vk,vi,vs,vb,t,op,.slice Ar xs.length c8] 60))=W at *;clear hc h6
  go_loopw [8,16] (λ_ s16 wr=>∃ i:Nat,i<=gs.length/\s16=.int .i64 i/\(gs.take i).any (λg=>aO (aE l) g==L2)=false/\Below W W wr) (λ_ s16 _=>gs.length-(intOf s16).toNat)
  case atStart=>exact ⟨0,Nat.zero_le _,rfl,rfl,θ⟩
  case round =>
   obtain ⟨i,hi,rfl,ha,hb⟩:=de;have hkw:=IW
   by_cases hlt:i<gs.length
   ·have hpw:=HB.o.2.2.2.2.2.below hb;have hri:i<rg.length:=KS
    obtain ⟨bR,oR,hAR,q0,q1,q2,q3,q4,q5,q6,q7⟩:=JC;have hrx:=JB;have hg1:=hgs _ (List.getElem_mem hlt);have M5:=λ(W:World) (hA:ScA W A l) (hr:RX S W gs[i] rg[i])=>jT A c l hn hw gs[i] hg1.1.1 hg1.2 S W rg[i] hA hr;have HNO:=κ (Je (f:=λg=>aO (aE l) g==L2) hlt ha);have HYE:=κ (Om (f:=λg=>aO (aE l) g==L2) hlt);subst hAR;unfold shB at M5;generalize rg[i]=r at *;generalize gs[i]=y at *;obtain ⟨L1,hL1⟩:∃ L,aO (aE l) y=L:=da;simp only [hL1] at HNO HYE M5;obtain ⟨rk,rvk,rvi,rvs,rvb,rt,rs0,rA,rn,rc⟩:=r;have hbx:=IZ;have hy0:=KL;have hx0:=aA (aA HB.o.2.1 hb) hbx;have HX:=IY;obtain ⟨WR,hWR⟩:∃ WR,wr.alloc (.cells #[.int .u8 rk,.int .u8 rvk,rvi,rvs,rvb,rt,rs0,.slice rA rn rc] 60)=WR:=da;have HWR:=κ hWR;rw [hWR] at hbx hy0 hx0 HX;have K5:=κ (λ(Wq:World) (hq:Below WR.heap.size WR Wq)=>(M5 Wq ((HB.o.2.2.2.1.below HX.o).below hq) (RX.below hq (RX.below hbx hrx))).mono λ_ _ h=>ι h.1 (hq.trans (h.2.mono hq.size)))
    have K6:=κ (λ(Wq:World) (hq:Below WR WR Wq)=>(HM.o Wq ((HB.o.2.2.2.1.below HX.o).below hq) (RX.below hq (RX.below HX.o HB.o.2.2.2.2.1))).mono λ_ _ h=>ι h.1 (hq.trans (h.2.mono hq.size)));simp only [RC.val] at K5 K6;have a0:=ij;have b0:=β hy0 0;have a1:=β hx0 1;have b1:=β hy0 1;have a2:=β hx0 2;have b2:=β hy0 2;have a3:=β hx0 3;have b3:=β hy0 3;have a4:=β hx0 4;have b4:=β hy0 4;have a5:=β hx0 5;have b5:=β hy0 5;have a6:=β hx0 6;have b6:=β hy0 6;have a7:=β hx0 7;have b7:=β hy0 7;simp only [γ,δ,ε] at a0 a1 a2 a3 a4 a5 a6 a7 b0 b1 b2 b3 b4 b5 b6 b7;obtain ⟨bs,hbs⟩:∃ bs,(L1==L2)=bs:=da;clear ha hb hpw hri hrx hbx hkw M5 hx0 hy0 hL1 hg1 hWR;go_wp2_with fail;go_upto_region 6 with fail;rw [HWR.o];clear HWR q0 q1 q2 q3 q4 q5 q6 q7
    go_cut [26] (λs26 wx=>s26=.bool bs/\Below WR WR wx)
    case first =>
     first|go_region_held_law (λw'=>w'.cell? ⟨w,0,none⟩=some (.int .u8 k)/\w'.cell? ⟨w,1,none⟩=some (.int .u8 vk)/\w'.cell? ⟨w,2,none⟩=some (.int .i64 vi)/\w'.cell? ⟨w,3,none⟩=some (.string vs)/\w'.cell? ⟨w,4,none⟩=some (.bool vb)/\w'.cell? ⟨w,5,none⟩=some (.string t)/\w'.cell? ⟨w,6,none⟩=some (.string op)/\w'.cell? ⟨w,7,none⟩=some (.slice Ar xs.length c8)/\w'.cell? ⟨wr,0,none⟩=some (.int .u8 rk)/\w'.cell? ⟨wr,1,none⟩=some (.int .u8 rvk)/\w'.cell? ⟨wr,2,none⟩=some (.int .i64 rvi)/\w'.cell? ⟨wr,3,none⟩=some (.string rvs)/\w'.cell? ⟨wr,4,none⟩=some (.bool rvb)/\w'.cell? ⟨wr,5,none⟩=some (.string rt)/\w'.cell? ⟨wr,6,none⟩=some (.string rs0)/\w'.cell? ⟨wr,7,none⟩=some (.slice rA rn rc))
      (first|go_keep|exact hd2)
      ((go_simp;first
        | (go_at_call 13;with_reducible refine (K5.o _ sk).mono ?_;rintro e w2 ⟨rfl,hb⟩;have hd2:=Nw hb a0 a1 a2 a3 a4 a5 a6 a7 b0 b1 b2 b3 b4 b5 b6 b7)
        | (go_at_call 13;with_reducible refine (K6.o _ sk).mono ?_;rintro e w2 ⟨rfl,hb⟩;have hd2:=Nw hb a0 a1 a2 a3 a4 a5 a6 a7 b0 b1 b2 b3 b4 b5 b6 b7)))|fail
     all_goals
      go_wp2
      go_meet
      exact ⟨aa,by assumption⟩
    case rest =>
     obtain ⟨rfl,hbc⟩:=pj;have HQ:=κ (HX.o.trans (hbc.mono HX.o.size));rw [hbs] at HNO HYE;clear hbc a0 a1 a2 a3 a4 a5 a6 a7 b0 b1 b2 b3 b4 b5 b6 b7 hbs K5 K6;cases bs
     ·have HN:=κ (HNO.o rfl);go_wp2
      go_roundw
      case rel=>exact ⟨i+1,ac,dg,HN.o,HQ.o⟩
      case measure=>simp [intOf];omega
     ·have HN:=κ (HYE.o rfl);have HQ2:=κ (HB.o.1.trans (HQ.o.mono HB.o.1.size));go_wp2;go_ret;exact JD
   ·have hi2:i=gs.length:=ac
    rw [hi2,List.take_length] at ha;rw [ha] at HF;have hc:=β (aA HB.o.2.1 hb);have HBW:=dn;have HQ:=κ hkw;clear hb hkw hi2 ha;obtain ⟨b2,h2⟩:∃ b,(k==2)=b:=da;rw [h2] at HF;cases b2
    ·generalize wr=wo at *;go_wp2_with fail;clear hc h2
     go_loopw [10,34] (λ_ s34 wr=>∃ i:Nat,i<=xs.length/\s34=.int .i64 i/\(xs.take i).all (setX (aE l) gs)=true/\Below wo wo wr) (λ_ s34 _=>xs.length-(intOf s34).toNat)
     case atStart=>exact ⟨0,Nat.zero_le _,rfl,rfl,θ⟩
     case round =>
      obtain ⟨i,hi,rfl,ha,hb1⟩:=de;have hb:=HBW.o.trans (hb1.mono HBW.o.size);have hkw:=IW
      by_cases hlt:i<xs.length
      ·have hpw:=HB.o.2.2.1.below hb;have hri:=IX
       obtain ⟨bR,oR,hAR,q0,q1,q2,q3,q4,q5,q6,q7⟩:=JC;have hrx:=JB;have hok:=JA;have HYE:=κ (aAX (f:=setX (aE l) gs) hlt ha);have HNO:=κ (aJK (f:=setX (aE l) gs) hlt);subst hAR;generalize rs[i]=r at *;generalize xs[i]=y at *;obtain ⟨rk,rvk,rvi,rvs,rvb,rt,rs0,rA,rn,rc⟩:=r;have hbx:=IZ;have HX:=IY;have HX1:=κ (hb1.trans (hbx.mono hb1.size));have HC:=κ (hok S _ _ Ag cg rg (HB.o.2.2.2.1.below HX.o) (RX.below hbx hrx) (HB.o.2.2.2.2.2.below HX.o));simp only [RC.val] at HC;generalize setX (aE l) gs y=b at *;clear ha hb hb1 hpw hri hrx hok hbx hkw;go_wp2_with fail;refine μ HC ?_;rintro e w9 ⟨rfl,hb9⟩;have HQ:=κ (HX1.o.trans (hb9.mono HX1.o.size));have HQ2:=κ (HB.o.1.trans ((HX.o.trans (hb9.mono HX.o.size)).mono HB.o.1.size));cases b
       ·have HN:=κ (HNO.o rfl);clear hb9 q0 q1 q2 q3 q4 q5 q6 q7;go_wp2;go_ret;exact JD
       ·have HN:=κ (HYE.o rfl);clear hb9 q0 q1 q2 q3 q4 q5 q6 q7;go_wp2
        go_roundw
        case rel=>exact ⟨i+1,ac,dg,HN.o,HQ.o⟩
        case measure=>simp [intOf];omega
      ·have hi2:=rl
       rw [hi2,List.take_length] at ha;rw [ha] at HF;have HQ:=κ hkw;clear hb hb1 hkw hi2 ha;go_wp2;go_ret;exact ⟨ub,HQ.o⟩
    ·go_wp2;go_ret;exact ⟨ub,HQ.o⟩
 ·go_wp2;go_ret;exact ⟨ub,HB.o.1⟩
theorem Pm (A:ZT) (c:Nat) (l:List dW) (hn:l.length<=100) (hw:bY (aE l)<=10000) (gs:List Lp.X) (hgs:∀ g∈gs,(g.wf/\eW (aE l) g)/\g.size<=10000) (hgl:gs.length<=100):∀ x:Lp.X,x.wf->eW (aE l) x->x.size<=10000->aBF A c l gs x :=
 Hp λx ih hx kx hz=>Vd A c l hn hw gs hgs hgl x hx kx hz λy hy=>by
  obtain ⟨h1,h2,h3⟩:=aEJ hx kx y hy;exact ih y hy h1 h2 (Nat.le_trans h3 hz)
