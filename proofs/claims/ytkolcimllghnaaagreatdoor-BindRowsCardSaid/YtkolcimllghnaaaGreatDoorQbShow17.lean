/-
 Contracts. Conditions: those of each.
-/
import Derived.Test.YtkolcimllghnaaaGreatDoorQbText17
import Derived.Deep.RegionLaw
set_option maxRecDepth 100000
set_option maxHeartbeats 16000000
namespace Go.Proofs.YtkolcimllghnaaaGreatDoor
open Lp Go.Proofs.Tryz
open Go.RowKit
theorem Qo:(prog.info? 60).map (fun i=>(i.zero,i.size,i.bytes))=some (some (.agg #[.int .u8 0,.int .u8 0,.int .i64 0,.string ⟨#[]⟩,.bool false,.string ⟨#[]⟩,.string ⟨#[]⟩,.slice none 0 0]),8,104):=by kernel_rfl
theorem Yl {w:World} {B n size g:Nat} {e:TypeId} {v:Value} {xs:List Value} (h:w.ownsRow B e size v n xs) (hg:g<B):some g≠v.ownBlock:=by
 intro e
 have:=(h.lt g e.symm).1
 omega
def nL (A:Option Addr) (c:Nat) (l:List dL) (x:Lp.X):Prop:=∀ (S:Nat→Prop) (w:World) (r:RC),ScA w A l→RX S w x r→Calls prog 13 #[.slice A l.length c,r.val] w fun e w'=>e=.returned (.string (shB (aX l) x))∧Below w.heap.size w w'
theorem Qd (T:List UInt8):(⟨#[35]⟩:ByteArray)++(⟨T.toArray⟩:ByteArray)=⟨(35::T).toArray⟩:=vD [35] T
theorem Kw {sc:List Tb} (hw:bW sc≤10000) (t s:List UInt8):inR (atX sc t s):=by
 unfold atX
 cases h:gA sc t s with
 | none=>exact ⟨by decide,by decide⟩
 | some p =>
   have h1:=(List.getElem?_eq_some_iff.1 (Cj h)).1
   have h2:(jF sc).length=bW sc:=by
    unfold bW jF
    rw [List.length_flatMap]
    simp
   constructor
   ·show (-9223372036854775808:Int)≤(p.1:Int);omega
   ·show (p.1:Int)≤9223372036854775807;omega
theorem Ea (A:Option Addr) (c:Nat) (l:List dL) (t s:List UInt8) (hn:l.length≤100) (hw:bW (aX l)≤10000):nL A c l (.col t s):=by
 intro S w r hA hr
 obtain rfl:r=rcC t s:=hr
 have hb0:Below w.heap.size w (w.alloc (.cells #[.int .u8 2,.int .u8 0,.int .i64 0,.string ⟨#[]⟩,.bool false,.string ⟨t.toArray⟩,.string ⟨s.toArray⟩,.slice none 0 0] 60)):=ρ
 have HF:=κ (nU A c l t s _ (hA.below hb0) hn hw)
 have HI:=κ (Kw hw t s)
 have HB:=κ hb0
 have HE:=κ (show (⟨#[35]⟩:ByteArray)++(⟨(Lib.itoa (atX (aX l) t s)).toArray⟩:ByteArray)=shB (aX l) (.col t s) from Qd _)
 have hsz:(⟨(Lib.itoa (atX (aX l) t s)).toArray⟩:ByteArray).size≤21:=by
  have:=Lib.itoa_length_le (atX (aX l) t s) HI.out.1 HI.out.2
  show (Lib.itoa (atX (aX l) t s)).toArray.size≤_
  rw [List.size_toArray];exact this
 have HD:=κ (fun W=>Bb (atX (aX l) t s) W HI.out)
 obtain ⟨D,hD⟩:∃ D:ByteArray,(⟨(Lib.itoa (atX (aX l) t s)).toArray⟩:ByteArray)=D:=⟨_,rfl⟩
 rw [hD] at HE HD hsz
 obtain ⟨Y,y1,z1,A1⟩:=dA ⟨#[35]⟩ D (ν _) hsz (by decide)
 rw [y1] at HE
 have HX:=κ (fun W=>sS Y W)
 simp only [RC.val,rcT] at HX
 simp only [RC.val,rcC]
 generalize atX (aX l) t s=n at *
 clear hb0 hA hD y1 z1 hsz
 go_enter func13,ntmps13
 go_wp2_with fail
 refine μ HF ?_
 rintro e w1 ⟨rfl,hb1⟩
 have HB1:=κ (HB.out.trans (hb1.mono HB.out.size))
 clear hb1
 go_wp2_with fail
 refine (HD.out _).mono ?_
 rintro e w2 ⟨rfl,rfl⟩
 go_wp2_with fail
 refine (HX.out _).mono ?_
 rintro e w3 ⟨rfl,hb3⟩
 have HB3:=κ (HB1.out.trans (hb3.mono HB1.out.size))
 clear hb3
 go_wp2
 go_ret
 exact ⟨congrArg (fun x=>Ending.returned (.string x)) HE.out,HB3.out⟩
def zW (sc:List Tb) (xs:List Lp.X):List RC:=(xs.map (shB sc)).map rcT
theorem Su (sc:List Tb) {xs:List Lp.X} {i:Nat} (h:i<xs.length):rcs (zW sc (xs.take i))++(rcT (shB sc xs[i])).cells=rcs (zW sc (xs.take (i+1))):=by
 rw [List.take_succ_eq_append_getElem h]
 simp only [rcs,zW,List.map_append,List.map_cons,List.map_nil,List.flatMap_append,List.flatMap_cons,List.flatMap_nil,List.append_nil]
theorem Yi (r:RC):∀ u∈r.cells,u.oneCell'=true:=by
 intro u hu
 simp only [RC.cells,List.mem_cons,List.not_mem_nil,or_false] at hu
 rcases hu with rfl|rfl|rfl|rfl|rfl|rfl|rfl|rfl<;>rfl
theorem mV (A:Option Addr) (c:Nat) (l:List dL) (k vk vi:Int) (vs:ByteArray) (vb:Bool) (op:List UInt8) (c0:Nat) (xs:List Lp.X) (R:ByteArray) (h2:(k==2)=false) (hn:xs.length≤2) (S:Nat→Prop) (w:World) (Ar:Option Addr) (rs:List RC) (hA:ScA w A l) (hp:Pts S w Ar xs rs) (ho:∀ y∈xs,nL A c l y)
 (hT:∀ (W:World) (A8:Option Addr) (c8:Nat),(xs.length=0→A8=none∧c8=0)→Rds W A8 (rcs (zW (aX l) xs))→Calls prog 41 #[.agg #[.int .u8 k,.int .u8 vk,.int .i64 vi,.string vs,.bool vb,.string ⟨#[]⟩,.string ⟨op.toArray⟩,.slice A8 xs.length c8]] W fun e w'=>e=.returned (.string R)∧Below W.heap.size W w') :
 Calls prog 13 #[.slice A l.length c,.agg #[.int .u8 k,.int .u8 vk,.int .i64 vi,.string vs,.bool vb,.string ⟨#[]⟩,.string ⟨op.toArray⟩,.slice Ar xs.length c0]] w fun e w'=>e=.returned (.string R)∧Below w.heap.size w w':=by
 obtain ⟨iE,hiE,hz0,hz1,hz2⟩:=info_parts Qo
 have hnI:(xs.length:Int)≤2:=by omega
 have HT:=κ hT
 have HO:=κ ho
 generalize (⟨op.toArray⟩:ByteArray)=O at *
 have hc:=β (heap_alloc_new w (.cells #[.int .u8 k,.int .u8 vk,.int .i64 vi,.string vs,.bool vb,.string ⟨#[]⟩,.string O,.slice Ar xs.length c0] 60))
 have hb0:Below w.heap.size w ((w.alloc (.cells #[.int .u8 k,.int .u8 vk,.int .i64 vi,.string vs,.bool vb,.string ⟨#[]⟩,.string O,.slice Ar xs.length c0] 60)).alloc (.cells #[.int .u8 k,.int .u8 vk,.int .i64 vi,.string vs,.bool vb,.string ⟨#[]⟩,.string O,.slice none 0 0] 60)):=(ρ).alloc (by simp) _
 have hy0:=bN w (.cells #[.int .u8 k,.int .u8 vk,.int .i64 vi,.string vs,.bool vb,.string ⟨#[]⟩,.string O,.slice Ar xs.length c0] 60) (.cells #[.int .u8 k,.int .u8 vk,.int .i64 vi,.string vs,.bool vb,.string ⟨#[]⟩,.string O,.slice none 0 0] 60)
 have hs0:w.heap.size+1+1≤((w.alloc (.cells #[.int .u8 k,.int .u8 vk,.int .i64 vi,.string vs,.bool vb,.string ⟨#[]⟩,.string O,.slice Ar xs.length c0] 60)).alloc (.cells #[.int .u8 k,.int .u8 vk,.int .i64 vi,.string vs,.bool vb,.string ⟨#[]⟩,.string O,.slice none 0 0] 60)).heap.size:=by simp
 have HB:=κ (ι hb0 (ι hy0 hs0))
 have HA:=κ hA
 have HP:=κ hp
 clear hT ho hA hp hb0 hy0 hs0
 go_enter func13,ntmps13
 go_wp2_with fail
 generalize ((w.alloc (.cells #[.int .u8 k,.int .u8 vk,.int .i64 vi,.string vs,.bool vb,.string ⟨#[]⟩,.string O,.slice Ar xs.length c0] 60)).alloc (.cells #[.int .u8 k,.int .u8 vk,.int .i64 vi,.string vs,.bool vb,.string ⟨#[]⟩,.string O,.slice none 0 0] 60))=W0 at *
 clear hc
 go_loopw [7,26] (fun _ s26 wr=>∃ (i:Nat) (A8:Option Addr) (c8:Nat),i≤xs.length∧s26=.int .i64 i∧(i=0→A8=none∧c8=0)∧wr.heap[w.heap.size+1]? = some (.cells #[.int .u8 k,.int .u8 vk,.int .i64 vi,.string vs,.bool vb,.string ⟨#[]⟩,.string O,.slice A8 i c8] 60 (0,0))∧wr.ownsRow (w.heap.size+1+1) 60 8 (.slice A8 i c8) i (rcs (zW (aX l) (xs.take i)))∧Below w.heap.size w wr∧w.heap.size+1+1≤wr.heap.size) (fun _ s26 _=>xs.length-(intOf s26).toNat)
 case atStart=>exact ⟨0,none,0,Nat.zero_le _,rfl,fun _=>⟨rfl,rfl⟩,HB.out.2.1,World.ownsRow_nil _ _ _ _,HB.out.1,HB.out.2.2⟩
 case round =>
  obtain ⟨i,A8,c8,hi,rfl,h08,hy,hown,hb,hsz⟩:=hrel
  have H08:=κ h08
  clear h08
  by_cases hlt:i<xs.length
  ·have hpw:=HP.out.below hb
   have hri:i<rs.length:=by rw [hpw.1];exact hlt
   obtain ⟨bR,oR,hAR,q0,q1,q2,q3,q4,q5,q6,q7⟩:=lL hpw.2.1 hri
   have hrx:=hpw.2.2 i hlt hri
   have hok:=HO.out _ (List.getElem_mem hlt)
   have HTS:=κ (Su (aX l) hlt)
   subst hAR
   generalize rs[i]=r at *
   generalize xs[i]=y at *
   obtain ⟨rk,rvk,rvi,rvs,rvb,rt,rs0,rA,rn,rc⟩:=r
   generalize rcs (zW (aX l) (xs.take i))=old at *
   obtain ⟨nw,hnw⟩:∃ nw,rcs (zW (aX l) (xs.take (i+1)))=nw:=⟨_,rfl⟩
   rw [hnw] at HTS
   have HNW:=κ hnw
   clear hnw
   have hbz:Below wr.heap.size wr (wr.alloc (.cells #[.int .u8 rk,.int .u8 rvk,.int .i64 rvi,.string rvs,.bool rvb,.string rt,.string rs0,.slice rA rn rc] 60)):=ρ
   have hzz:=heap_alloc_new wr (.cells #[.int .u8 rk,.int .u8 rvk,.int .i64 rvi,.string rvs,.bool rvb,.string rt,.string rs0,.slice rA rn rc] 60)
   have hyz:=aA hy hbz
   have hoz:=aQ hown hbz
   have hbw:=hb.trans (hbz.mono hb.size)
   have hsw:w.heap.size+1+1≤(wr.alloc (.cells #[.int .u8 rk,.int .u8 rvk,.int .i64 rvi,.string rvs,.bool rvb,.string rt,.string rs0,.slice rA rn rc] 60)).heap.size:=by rw [World.size_alloc];omega
   have hrz:=RX.below hbz hrx
   have hAz:=HA.out.below hbw
   obtain ⟨T,hT⟩:∃ T,shB (aX l) y=T:=⟨_,rfl⟩
   rw [hT] at HTS
   have HXX:=κ (ι hyz (ι hoz (ι hbw (ι hsw (ι hrz (ι hAz (ι hok (ι hT hzz))))))))
   clear hb hpw hri hrx hok hbz hzz hyz hoz hbw hsw hrz hAz hT hy hown hsz
   go_upto_region 8 with fail
   generalize (wr.alloc (.cells #[.int .u8 rk,.int .u8 rvk,.int .i64 rvi,.string rvs,.bool rvb,.string rt,.string rs0,.slice rA rn rc] 60))=wz at *
   have HX:Hid (∀ W':World,Below wz.heap.size wz W'→Calls prog 13 #[.slice A l.length c,.agg #[.int .u8 rk,.int .u8 rvk,.int .i64 rvi,.string rvs,.bool rvb,.string rt,.string rs0,.slice rA rn rc]] W' fun e w'=>e=.returned (.string T)∧Below wz.heap.size wz w'):=by
    intro W' hb'
    have:=HXX.out.2.2.2.2.2.2.1 S W' _ (HXX.out.2.2.2.2.2.1.below hb') (RX.below hb' HXX.out.2.2.2.2.1)
    rw [HXX.out.2.2.2.2.2.2.2.1] at this
    exact this.mono fun _ _ ⟨h1,h2⟩=>⟨h1,hb'.trans (h2.mono hb'.size)⟩
   have cy:=β HXX.out.1
   have cz:=β HXX.out.2.2.2.2.2.2.2.2
   have HXY:=κ (ι HXX.out.1 (ι HXX.out.2.1 (ι HXX.out.2.2.1 HXX.out.2.2.2.1)))
   clear q0 q1 q2 q3 q4 q5 q6 q7 HXX
   go_wp2_with fail
   go_region_law (first
    | (go_simp;go_at_call 13;refine (HX.out _ (by first|exact θ|exact (θ).drew)).mono ?_;rintro e w2 ⟨rfl,hb2⟩;have hy2:=aA HXY.out.1 hb2;have ho2:=aQ HXY.out.2.1 hb2;have hbw2:=HXY.out.2.2.1.trans (hb2.mono HXY.out.2.2.1.size);have hs2:=Nat.le_trans HXY.out.2.2.2 hb2.size;have cy2:=β hy2;have cy3:=fun (o:Obj) (j:Nat)=>β (aC hy2 o) j)
    | (refine eC _ rfl (.tmp 31) (.tmp 36) _ rfl (w.heap.size+1+1) 60 iE _ 8 104 underlying36 hiE hz0 hz1 hz2 rfl (by omega) _ _ _ old rfl ?_ _ 1 1 ((rcT T).cells) rfl rfl ?_ ?_ ?_ ?_ ?_ ?_
       ·exact ho2.alloc _
       ·exact bD (rcT T).cells (heap_alloc_new _ _)
       ·exact Yi _
       ·simp only [maxLen];omega
       ·omega
       ·rw [World.size_alloc];omega
       intro A5 c5 w5 ho5 hb5 hg5 hk5
       have hy5:=(hk5 _ _ (aC hy2 _) (Yl ho2 (Nat.lt_succ_self _))).1
       have hb5w:=(hbw2.alloc hbw2.size _).trans (hb5.mono (Nat.le_trans (Nat.le_succ _) (Nat.le_succ _)))
       have hs5:w.heap.size+1+1≤w5.heap.size:=by have:=hb5.size;rw [World.size_alloc] at this;omega
       have cy5:=β hy5
       have fy5:=fun j=>frozen_of_row _ _ j _ _ hy5))
   all_goals
    have hy6:=heap_setCell_same w5 (w.heap.size+1) 7 _ _ (.slice A5 (i+1) c5) hy5
    rw [show (#[Value.int .u8 k,.int .u8 vk,.int .i64 vi,.string vs,.bool vb,.string ⟨#[]⟩,.string O,.slice A8 i c8]:Array Value).setIfInBounds 7 (.slice A5 (i+1) c5)=#[.int .u8 k,.int .u8 vk,.int .i64 vi,.string vs,.bool vb,.string ⟨#[]⟩,.string O,.slice A5 (i+1) c5] by simp] at hy6
    have ho6:=World.ownsRow_setCell_lt ho5 (a:=⟨w.heap.size+1,7,none⟩) (Nat.lt_succ_self _) (.slice A5 (i+1) c5)
    have hb6:=hb5w.setCell (p:=⟨w.heap.size+1,7,none⟩) (Nat.le_succ _) (.slice A5 (i+1) c5)
    rw [HTS.out, ←HNW.out] at ho6
    have hs6:w.heap.size+1+1≤(w5.setCell ⟨w.heap.size+1,7,none⟩ (.slice A5 (i+1) c5)).heap.size:=by rw [World.size_setCell];exact hs5
    have HZ:=κ (ι hy6 (ι ho6 (ι hb6 hs6)))
    clear hy6 ho6 hb6 hs6 hy5 ho5 hb5 hg5 hk5 hb5w hs5 cy5 fy5 hy2 ho2 hbw2 hs2 cy2 cy3 cy cz HXY HX hb2
    go_wp2
    go_roundw
    case rel=>exact ⟨i+1,A5,c5,by omega,by go_num,fun h=>absurd h (Nat.succ_ne_zero _),HZ.out.1,HZ.out.2.1,HZ.out.2.2.1,HZ.out.2.2.2⟩
    case measure=>simp [intOf];omega
  ·have hi2:i=xs.length:=by omega
   subst hi2
   rw [List.take_length] at hown
   have cy:=β hy
   have HC:=κ (HT.out wr A8 c8 H08.out (Rds.own hown))
   have HQ:=κ hb
   clear hy hown hb hsz
   go_wp2_with fail
   refine μ HC ?_
   rintro e w2 ⟨rfl,hb2⟩
   have HQ2:=κ (HQ.out.trans (hb2.mono HQ.out.size))
   clear hb2
   go_wp2
   go_ret
   exact ⟨rfl,HQ2.out⟩
theorem nS {A:Option Addr} {c:Nat} {l:List dL} {x:Lp.X} (hk:eV x≠[]) (h2:(lC x==2)=false) (hn:(eV x).length≤2) (ho:∀ y∈eV x,nL A c l y)
 (hT:∀ (W:World) (A8:Option Addr) (c8:Nat),Rds W A8 (rcs (zW (aX l) (eV x)))→Calls prog 41 #[.agg #[.int .u8 (lC x),.int .u8 0,.int .i64 0,.string ⟨#[]⟩,.bool false,.string ⟨#[]⟩,.string ⟨(oQ x).toArray⟩,.slice A8 (eV x).length c8]] W fun e w'=>e=.returned (.string (shB (aX l) x))∧Below W.heap.size W w'):nL A c l x:=by
 intro S w r hA hr
 obtain ⟨Ar,rs,rfl,hp⟩:=Eb hr hk
 exact mV A c l (lC x) 0 0 ⟨#[]⟩ false (oQ x) (eV x).length (eV x) (shB (aX l) x) h2 hn S w Ar rs hA hp ho fun W A8 c8 _ h=>hT W A8 c8 h
theorem Wj:∀ o∈oV,o.length≤10:=by decide
theorem Ws:∀ o∈qY,o.length≤10:=by decide
theorem tA (A:Option Addr) (c:Nat) (l:List dL) (hn:l.length≤100) (hw:bW (aX l)≤10000):∀ x:Lp.X,x.wf→x.size≤10000→nL A c l x:=by
 have nil_ne:∀ {y:Lp.X} {ys:List Lp.X},y::ys≠[]:=fun h=>by cases h
 intro x
 induction x with
 | lit k i s b =>
   intro hx _ S w r hA hr
   obtain rfl:r=rcL k i s b:=hr
   have hi:inR i∧s.length≤2000:=by
    rcases hx with ⟨-,h1,h2,h3, -⟩|⟨-,h1,h2, -⟩|⟨-,h1,h2, -⟩|⟨-,h1,h2⟩
    ·exact ⟨⟨by omega,h2⟩,by rw [h3];simp⟩
    ·exact ⟨⟨by omega,by omega⟩,h2⟩
    ·exact ⟨⟨by omega,by omega⟩,by rw [h2];simp⟩
    ·exact ⟨⟨by omega,by omega⟩,by rw [h2];simp⟩
   have:=mV A c l 1 k i ⟨s.toArray⟩ b [] 0 [] (shB (aX l) (.lit k i s b)) rfl (by simp) S w none [] hA ⟨rfl,.inl rfl,fun _ h=>absurd h (Nat.not_lt_zero _)⟩ (fun y hy=>by cases hy) fun W A8 c8 h0 _=>by
    obtain ⟨rfl,rfl⟩:=h0 rfl
    exact Dp k i s b W hi.1 (by omega)
   exact this
 | col t s=>intro _ _;exact Ea A c l t s hn hw
 | cnt =>
   intro _ _ S w r hA hr
   obtain rfl:r=rc0 6 aU:=hr
   have:=mV A c l 6 0 0 ⟨#[]⟩ false aU 0 [] (shB (aX l) .cnt) rfl (by simp) S w none [] hA ⟨rfl,.inl rfl,fun _ h=>absurd h (Nat.not_lt_zero _)⟩ (fun y hy=>by cases hy) fun W A8 c8 h0 _=>by
    obtain ⟨rfl,rfl⟩:=h0 rfl
    exact Lo W
   exact this
 | un op x ih =>
   intro hx hs
   have hs2:x.size≤10000:=by simp only [Lp.X.size] at hs;omega
   refine nS (by exact nil_ne) (by show ((3:Int)==2)=false;decide) (by simp [eV]) (fun y hy=>by rw [List.mem_singleton.1 hy];exact ih hx.2 hs2) fun W A8 c8 h => ?_
   have:=Sw op (by rcases hx.1 with rfl|rfl<;>decide) (shB (aX l) x) (fX hw hx.2 hs2) A8 c8 W h
   rw [show (⟨#[40]⟩:ByteArray)++⟨op.toArray⟩++⟨#[32]⟩++shB (aX l) x++⟨#[41]⟩=shB (aX l) (.un op x) by
    apply iS
    rw [cF,cF,cF,cF]
    simp [shB,eR]] at this
   exact this
 | isn n x ih =>
   intro hx hs
   have hs2:x.size≤10000:=by simp only [Lp.X.size] at hs;omega
   refine nS (by exact nil_ne) (by show ((5:Int)==2)=false;decide) (by simp [eV]) (fun y hy=>by rw [List.mem_singleton.1 hy];exact ih hx hs2) fun W A8 c8 h => ?_
   have:=Ln n (shB (aX l) x) (fX hw hx hs2) A8 c8 W h
   rw [show (⟨#[40]⟩:ByteArray)++shB (aX l) x++⟨(32::(isN n++[41])).toArray⟩=shB (aX l) (.isn n x) by
    apply iS
    rw [cF,cF]
    simp [shB,eR,isN]] at this
   exact this
 | agg op x ih =>
   intro hx hs
   have hs2:x.size≤10000:=by simp only [Lp.X.size] at hs;omega
   refine nS (by exact nil_ne) (by show ((6:Int)==2)=false;decide) (by simp [eV]) (fun y hy=>by rw [List.mem_singleton.1 hy];exact ih hx.2 hs2) fun W A8 c8 h => ?_
   have:=Lr op (Ws op hx.1) (shB (aX l) x) (fX hw hx.2 hs2) A8 c8 W h
   rw [show (⟨op.toArray⟩:ByteArray)++⟨#[40]⟩++shB (aX l) x++⟨#[41]⟩=shB (aX l) (.agg op x) by
    apply iS
    rw [cF,cF,cF]
    simp [shB,eR]] at this
   exact this
 | bin op a b iha ihb =>
   intro hx hs
   have hs2:a.size≤10000∧b.size≤10000:=by simp only [Lp.X.size] at hs;omega
   refine nS (by exact nil_ne) (by show ((4:Int)==2)=false;decide) (by simp [eV]) (fun y hy => ?_) fun W A8 c8 h => ?_
   ·rcases List.mem_cons.1 hy with rfl|hy
    ·exact iha hx.2.1 hs2.1
    ·rw [List.mem_singleton.1 hy];exact ihb hx.2.2 hs2.2
   ·have:=Lq op (Wj op hx.1) (shB (aX l) a) (shB (aX l) b) (fX hw hx.2.1 hs2.1) (fX hw hx.2.2 hs2.2) A8 c8 W h
    rw [show (⟨#[40]⟩:ByteArray)++shB (aX l) a++⟨#[32]⟩++⟨op.toArray⟩++⟨#[32]⟩++shB (aX l) b++⟨#[41]⟩=shB (aX l) (.bin op a b) by
     apply iS
     rw [cF,cF,cF,cF,cF,cF]
     simp [shB,eR]] at this
    exact this
