/-
 Contracts. Conditions: those of each.
-/
import Derived.Test.YtkolcimllghnaaaGreatDoorQbGN
set_option maxRecDepth 100000
set_option maxHeartbeats 8000000
namespace Go.Proofs.YtkolcimllghnaaaGreatDoor
open Lp Go.Proofs.Tryz
open Go.RowKit
theorem yH (P d:Nat) (t:Tok) (r:List Tok) (w:World) (h:RS w P (t::r) d 0) (hk2:t.k≠2) (hk3:t.k≠3) (f0:isF bS (t::r)=false) (f1:isF dJ (t::r)=false) (f2:isF cH (t::r)=false) (f3:isF [40] (t::r)=false) (f4:isF bF (t::r)=false) (f5:isF fI (t::r)=false) (f6:isF gM (t::r)=false) (fy:isF iX (t::r)=true) (h40:40<d+1) (hd:d≤100) :
 Calls prog 134 #[.pointer (some ⟨P,0,none⟩)] w (RPost P w d (pX 8 d (t::r))):=by
 have hts:t.s=iX:=by simp only [isF,Bool.and_eq_true,beq_iff_eq] at fy;exact fy.1
 have hq:pX 8 d (t::r)=if d+1≤40 then (match aE [40] r with
  | none=>none
  | some r2=>if t.s=bF∧isF [42] r2=true then (aE [41] r2.tail).map fun r3=>(.cnt,r3) else (match pX 1 (d+1) r2 with
    | none=>none
    | some (x,r3)=>(aE [41] r3).map fun r4=>(.agg (upW t.s) x,r4))) else none:=by rw [cU,dP,if_neg hk2,if_neg hk3,if_neg (by rw [f0];decide),if_neg (by rw [f1];decide),if_neg (by rw [f2];decide),if_neg (by rw [f3];decide),if_pos (by rw [fy];simp)];rfl
 have e1:(t.k==2)=false:=η hk2
 have e2:(t.k==3)=false:=η hk3
 have g0:(t.s==[99,111,117,110,116])=false:=by rw [hts];rfl
 have g1:(t.s==[115,117,109])=false:=by rw [hts];rfl
 have g2:(t.s==[109,105,110])=false:=by rw [hts];rfl
 rw [if_neg (by omega)] at hq
 have HQ:=κ hq
 clear hk2 hk3 hq hts
 have hP:=h.lt
 have hb0:Below w.heap.size w (w.alloc (.cells rcZ.cells.toArray 60)):=ρ
 have hz0:=heap_alloc_new w (.cells rcZ.cells.toArray 60)
 have H0:=κ (ι (h.below hb0) (ι hb0 hz0))
 obtain ⟨A,c,i,h1,h2,h3⟩:=h.below hb0
 have hc0:=β h1 0
 have hc1:=β h1 1
 obtain ⟨b,off,rfl,hlt,k0,k1,k2⟩:=h2.front
 obtain ⟨n,hn⟩:∃ n,i+(t::r).length=n:=⟨_,rfl⟩
 rw [hn] at hc0
 have hin:(i:Int)<(n:Int):=by simp at hn;omega
 have hinN:i<n:=by simp at hn;omega
 have hin0:(0:Int)≤(i:Int):=by omega
 have hlt2:¬(n:Int)≤(i:Int):=by omega
 have hltN:¬n≤i:=by omega
 simp only [RC.cells,rcZ] at hc0 hc1 k0 k1 k2
 clear h hb0 hz0 h1 h2 h3 hn
 go_enter func134,ntmps134
 go_wp2_with fail
 go_quiet (fail)
 go_wp2_with fail
 obtain ⟨k0a,k1a,k2a,h0a,h1a⟩:=eJ (nq+1) (.cells #[.int .u8 0,.string ⟨#[]⟩,.int .i64 0] 173) k0 k1 k2 hc0 hc1
 go_region
 have hA0:=fV (P:=P) t H0.out.2.1 H0.out.2.2 (World.size_alloc _ _) (nq+1)
 have hp0:=(H0.out.1.drawn (w':=(w.alloc (.cells rcZ.cells.toArray 60)).drewN (nq+1)) ⟨nq+1,rfl⟩).below ((θ).alloc (ν _) (.cells #[.int .u8 t.k,.string ⟨t.s.toArray⟩,.int .i64 t.n] 173))
 simp only [RC.cells,rcZ] at hA0 hp0
 have HA:=κ hA0
 have HP:=κ hp0
 clear hA0 hp0 k0a k1a k2a h0a h1a hc0 hc1 k0 k1 k2 H0 hin hinN hin0 hlt2 hltN
 generalize ((w.alloc (.cells #[.int .u8 0,.int .u8 0,.int .i64 0,.string ⟨#[]⟩,.bool false,.string ⟨#[]⟩,.string ⟨#[]⟩,.slice none 0 0] 60)).drewN (nq+1)).alloc (.cells #[.int .u8 t.k,.string ⟨t.s.toArray⟩,.int .i64 t.n] 173)=v0 at *
 have tk:=HA.out.cells.2.2.1
 have HI:=κ (aJ P d 0 (t::r) ⟨#[110,117,108,108]⟩ v0 HP.out false (by rw [show (⟨#[110,117,108,108]⟩:ByteArray).data.toList=bS from rfl,f0];rfl))
 go_wp2_with fail
 refine μ HI ?_
 rintro e v1 ⟨rfl,hb,hp⟩
 simp only [φ,if_false] at hp
 replace HA:=κ (HA.out.but hb hP)
 replace HP:=κ hp
 clear hb hp HI
 clear tk
 have HI:=κ (aJ P d 0 (t::r) ⟨#[116,114,117,101]⟩ v1 HP.out false (by rw [show (⟨#[116,114,117,101]⟩:ByteArray).data.toList=dJ from rfl,f1];rfl))
 go_wp2_with fail
 refine μ HI ?_
 rintro e v2 ⟨rfl,hb,hp⟩
 simp only [φ,if_false] at hp
 replace HA:=κ (HA.out.but hb hP)
 replace HP:=κ hp
 clear hb hp HI
 have HI:=κ (aJ P d 0 (t::r) ⟨#[102,97,108,115,101]⟩ v2 HP.out false (by rw [show (⟨#[102,97,108,115,101]⟩:ByteArray).data.toList=cH from rfl,f2];rfl))
 go_wp2_with fail
 refine μ HI ?_
 rintro e v3 ⟨rfl,hb,hp⟩
 simp only [φ,if_false] at hp
 replace HA:=κ (HA.out.but hb hP)
 replace HP:=κ hp
 clear hb hp HI
 have HI:=κ (bI P d 0 (t::r) ⟨#[40]⟩ v3 HP.out false (by rw [show (⟨#[40]⟩:ByteArray).data.toList=[40] from rfl,f3];rfl))
 go_wp2_with fail
 refine μ HI ?_
 rintro e v4 ⟨rfl,hd1⟩
 replace HA:=κ (HA.out.but hd1.but hP)
 replace HP:=κ (HP.out.drawn hd1)
 clear hd1 HI
 have HI:=κ (bI P d 0 (t::r) ⟨#[99,111,117,110,116]⟩ v4 HP.out false (by rw [show (⟨#[99,111,117,110,116]⟩:ByteArray).data.toList=bF from rfl,f4];rfl))
 go_wp2_with fail
 refine μ HI ?_
 rintro e v5 ⟨rfl,hd1⟩
 replace HA:=κ (HA.out.but hd1.but hP)
 replace HP:=κ (HP.out.drawn hd1)
 clear hd1 HI
 have HI:=κ (bI P d 0 (t::r) ⟨#[115,117,109]⟩ v5 HP.out false (by rw [show (⟨#[115,117,109]⟩:ByteArray).data.toList=fI from rfl,f5];rfl))
 go_wp2_with fail
 refine μ HI ?_
 rintro e v6 ⟨rfl,hd1⟩
 replace HA:=κ (HA.out.but hd1.but hP)
 replace HP:=κ (HP.out.drawn hd1)
 clear hd1 HI
 have HI:=κ (bI P d 0 (t::r) ⟨#[109,105,110]⟩ v6 HP.out false (by rw [show (⟨#[109,105,110]⟩:ByteArray).data.toList=gM from rfl,f6];rfl))
 go_wp2_with fail
 refine μ HI ?_
 rintro e v7 ⟨rfl,hd1⟩
 replace HA:=κ (HA.out.but hd1.but hP)
 replace HP:=κ (HP.out.drawn hd1)
 clear hd1 HI
 have HI:=κ (bI P d 0 (t::r) ⟨#[109,97,120]⟩ v7 HP.out true (by rw [show (⟨#[109,97,120]⟩:ByteArray).data.toList=iX from rfl,fy];rfl))
 go_wp2_with fail
 refine μ HI ?_
 rintro e u0 ⟨rfl,hd1⟩
 replace HA:=κ (HA.out.but hd1.but hP)
 replace HP:=κ (HP.out.drawn hd1)
 clear hd1 HI
 have ts1:=(HA.out.but (But.alloc P u0 (.cells #[.int .u8 6,.int .u8 0,.int .i64 0,.string ⟨#[]⟩,.bool false,.string ⟨#[]⟩,.string ⟨#[]⟩,.slice none 0 0] 60)) hP).cells.2.2.2.1
 have hb2:Below u0.heap.size u0 (u0.alloc (.cells #[.int .u8 6,.int .u8 0,.int .i64 0,.string ⟨#[]⟩,.bool false,.string ⟨#[]⟩,.string ⟨#[77,65,88]⟩,.slice none 0 0] 60)):=ρ
 have hG:w.heap.size<u0.heap.size:=by have:=HA.out.lt;omega
 have hL2:Lev w.heap.size u0.heap.size P w (u0.alloc (.cells #[.int .u8 6,.int .u8 0,.int .i64 0,.string ⟨#[]⟩,.bool false,.string ⟨#[]⟩,.string ⟨#[77,65,88]⟩,.slice none 0 0] 60)) (rc0 6 eZ):=HA.out.lev (rc0 6 eZ)
 have hp2:=HP.out.below hb2
 have HL:=κ hL2
 have hGz:u0.heap.size<(u0.alloc (.cells #[.int .u8 6,.int .u8 0,.int .i64 0,.string ⟨#[]⟩,.bool false,.string ⟨#[]⟩,.string ⟨#[77,65,88]⟩,.slice none 0 0] 60)).heap.size:=aL hL2.x
 have HD:=κ (jY P d (t::r) _ hp2 h40 (by omega))
 clear hL2 hp2 hb2
 go_wp2_with fail
 refine μ HD ?_
 rintro e v5 ⟨rfl,hb,b',hb',hp⟩
 have hL5:=HL.out.but hb hP hG
 obtain ⟨⟨⟨a0,a1,a2,a3,a4,a5,a6,a7,a8,a9⟩,c0⟩, -,z0, -⟩:=hL5.cells
 obtain ⟨rz,hz⟩:=hL5.z
 have hcE:=β (aM rcZ hz)
 have HE:=κ (cT rcZ hL5.b rfl hP (show RBad P v5 d from ⟨t::r,d+1,b',hb',hp,by omega,by omega⟩) HQ.out)
 simp only [RC.cells] at c0
 clear hL5 hz hp hb HD HA HP HQ HL ts1
 go_wp2
 change bodyPost _ _ _ _ _ (put8 _ w.heap.size rcZ)
 generalize put8 _ w.heap.size rcZ=WE at *
 simp only [RC.cells,rcZ] at hcE
 exact bodyPost_ret (v:=RC.val rcZ) (by simp [results,results134,go_sem,hcE,RC.val,rcZ]) rfl HE.out
theorem vU (P d:Nat) (t:Tok) (r:List Tok) (w:World) (h:RS w P (t::r) d 0) (hk2:t.k≠2) (hk3:t.k≠3) (f0:isF bS (t::r)=false) (f1:isF dJ (t::r)=false) (f2:isF cH (t::r)=false) (f3:isF [40] (t::r)=false) (f4:isF bF (t::r)=false) (f5:isF fI (t::r)=false) (f6:isF gM (t::r)=false) (fy:isF iX (t::r)=true) (h40:d+1≤40) (HE1:RvOk 1 P (d+1) r.length) :
 Calls prog 134 #[.pointer (some ⟨P,0,none⟩)] w (RPost P w d (pX 8 d (t::r))):=by
 have hts:t.s=iX:=by simp only [isF,Bool.and_eq_true,beq_iff_eq] at fy;exact fy.1
 have hq:pX 8 d (t::r)=if d+1≤40 then (match aE [40] r with
  | none=>none
  | some r2=>if t.s=bF∧isF [42] r2=true then (aE [41] r2.tail).map fun r3=>(.cnt,r3) else (match pX 1 (d+1) r2 with
    | none=>none
    | some (x,r3)=>(aE [41] r3).map fun r4=>(.agg (upW t.s) x,r4))) else none:=by rw [cU,dP,if_neg hk2,if_neg hk3,if_neg (by rw [f0];decide),if_neg (by rw [f1];decide),if_neg (by rw [f2];decide),if_neg (by rw [f3];decide),if_pos (by rw [fy];simp)];rfl
 have e1:(t.k==2)=false:=η hk2
 have e2:(t.k==3)=false:=η hk3
 have g0:(t.s==[99,111,117,110,116])=false:=by rw [hts];rfl
 have g1:(t.s==[115,117,109])=false:=by rw [hts];rfl
 have g2:(t.s==[109,105,110])=false:=by rw [hts];rfl
 rw [if_pos h40] at hq
 have HQ0:=κ hq
 have HF:=κ HE1
 have HTS:=κ hts
 clear hk2 hk3 hq HE1 hts
 have hP:=h.lt
 have hb0:Below w.heap.size w (w.alloc (.cells rcZ.cells.toArray 60)):=ρ
 have hz0:=heap_alloc_new w (.cells rcZ.cells.toArray 60)
 have H0:=κ (ι (h.below hb0) (ι hb0 hz0))
 obtain ⟨A,c,i,h1,h2,h3⟩:=h.below hb0
 have hc0:=β h1 0
 have hc1:=β h1 1
 obtain ⟨b,off,rfl,hlt,k0,k1,k2⟩:=h2.front
 obtain ⟨n,hn⟩:∃ n,i+(t::r).length=n:=⟨_,rfl⟩
 rw [hn] at hc0
 have hin:(i:Int)<(n:Int):=by simp at hn;omega
 have hinN:i<n:=by simp at hn;omega
 have hin0:(0:Int)≤(i:Int):=by omega
 have hlt2:¬(n:Int)≤(i:Int):=by omega
 have hltN:¬n≤i:=by omega
 simp only [RC.cells,rcZ] at hc0 hc1 k0 k1 k2
 clear h hb0 hz0 h1 h2 h3 hn
 go_enter func134,ntmps134
 go_wp2_with fail
 go_quiet (fail)
 go_wp2_with fail
 obtain ⟨k0a,k1a,k2a,h0a,h1a⟩:=eJ (nq+1) (.cells #[.int .u8 0,.string ⟨#[]⟩,.int .i64 0] 173) k0 k1 k2 hc0 hc1
 go_region
 have hA0:=fV (P:=P) t H0.out.2.1 H0.out.2.2 (World.size_alloc _ _) (nq+1)
 have hp0:=(H0.out.1.drawn (w':=(w.alloc (.cells rcZ.cells.toArray 60)).drewN (nq+1)) ⟨nq+1,rfl⟩).below ((θ).alloc (ν _) (.cells #[.int .u8 t.k,.string ⟨t.s.toArray⟩,.int .i64 t.n] 173))
 simp only [RC.cells,rcZ] at hA0 hp0
 have HA:=κ hA0
 have HP:=κ hp0
 clear hA0 hp0 k0a k1a k2a h0a h1a hc0 hc1 k0 k1 k2 H0 hin hinN hin0 hlt2 hltN
 generalize ((w.alloc (.cells #[.int .u8 0,.int .u8 0,.int .i64 0,.string ⟨#[]⟩,.bool false,.string ⟨#[]⟩,.string ⟨#[]⟩,.slice none 0 0] 60)).drewN (nq+1)).alloc (.cells #[.int .u8 t.k,.string ⟨t.s.toArray⟩,.int .i64 t.n] 173)=v0 at *
 have tk:=HA.out.cells.2.2.1
 have HI:=κ (aJ P d 0 (t::r) ⟨#[110,117,108,108]⟩ v0 HP.out false (by rw [show (⟨#[110,117,108,108]⟩:ByteArray).data.toList=bS from rfl,f0];rfl))
 go_wp2_with fail
 refine μ HI ?_
 rintro e v1 ⟨rfl,hb,hp⟩
 simp only [φ,if_false] at hp
 replace HA:=κ (HA.out.but hb hP)
 replace HP:=κ hp
 clear hb hp HI
 clear tk
 have HI:=κ (aJ P d 0 (t::r) ⟨#[116,114,117,101]⟩ v1 HP.out false (by rw [show (⟨#[116,114,117,101]⟩:ByteArray).data.toList=dJ from rfl,f1];rfl))
 go_wp2_with fail
 refine μ HI ?_
 rintro e v2 ⟨rfl,hb,hp⟩
 simp only [φ,if_false] at hp
 replace HA:=κ (HA.out.but hb hP)
 replace HP:=κ hp
 clear hb hp HI
 have HI:=κ (aJ P d 0 (t::r) ⟨#[102,97,108,115,101]⟩ v2 HP.out false (by rw [show (⟨#[102,97,108,115,101]⟩:ByteArray).data.toList=cH from rfl,f2];rfl))
 go_wp2_with fail
 refine μ HI ?_
 rintro e v3 ⟨rfl,hb,hp⟩
 simp only [φ,if_false] at hp
 replace HA:=κ (HA.out.but hb hP)
 replace HP:=κ hp
 clear hb hp HI
 have HI:=κ (bI P d 0 (t::r) ⟨#[40]⟩ v3 HP.out false (by rw [show (⟨#[40]⟩:ByteArray).data.toList=[40] from rfl,f3];rfl))
 go_wp2_with fail
 refine μ HI ?_
 rintro e v4 ⟨rfl,hd1⟩
 replace HA:=κ (HA.out.but hd1.but hP)
 replace HP:=κ (HP.out.drawn hd1)
 clear hd1 HI
 have HI:=κ (bI P d 0 (t::r) ⟨#[99,111,117,110,116]⟩ v4 HP.out false (by rw [show (⟨#[99,111,117,110,116]⟩:ByteArray).data.toList=bF from rfl,f4];rfl))
 go_wp2_with fail
 refine μ HI ?_
 rintro e v5 ⟨rfl,hd1⟩
 replace HA:=κ (HA.out.but hd1.but hP)
 replace HP:=κ (HP.out.drawn hd1)
 clear hd1 HI
 have HI:=κ (bI P d 0 (t::r) ⟨#[115,117,109]⟩ v5 HP.out false (by rw [show (⟨#[115,117,109]⟩:ByteArray).data.toList=fI from rfl,f5];rfl))
 go_wp2_with fail
 refine μ HI ?_
 rintro e v6 ⟨rfl,hd1⟩
 replace HA:=κ (HA.out.but hd1.but hP)
 replace HP:=κ (HP.out.drawn hd1)
 clear hd1 HI
 have HI:=κ (bI P d 0 (t::r) ⟨#[109,105,110]⟩ v6 HP.out false (by rw [show (⟨#[109,105,110]⟩:ByteArray).data.toList=gM from rfl,f6];rfl))
 go_wp2_with fail
 refine μ HI ?_
 rintro e v7 ⟨rfl,hd1⟩
 replace HA:=κ (HA.out.but hd1.but hP)
 replace HP:=κ (HP.out.drawn hd1)
 clear hd1 HI
 have HI:=κ (bI P d 0 (t::r) ⟨#[109,97,120]⟩ v7 HP.out true (by rw [show (⟨#[109,97,120]⟩:ByteArray).data.toList=iX from rfl,fy];rfl))
 go_wp2_with fail
 refine μ HI ?_
 rintro e u0 ⟨rfl,hd1⟩
 replace HA:=κ (HA.out.but hd1.but hP)
 replace HP:=κ (HP.out.drawn hd1)
 clear hd1 HI
 have ts1:=(HA.out.but (But.alloc P u0 (.cells #[.int .u8 6,.int .u8 0,.int .i64 0,.string ⟨#[]⟩,.bool false,.string ⟨#[]⟩,.string ⟨#[]⟩,.slice none 0 0] 60)) hP).cells.2.2.2.1
 have hb2:Below u0.heap.size u0 (u0.alloc (.cells #[.int .u8 6,.int .u8 0,.int .i64 0,.string ⟨#[]⟩,.bool false,.string ⟨#[]⟩,.string ⟨#[77,65,88]⟩,.slice none 0 0] 60)):=ρ
 have hG:w.heap.size<u0.heap.size:=by have:=HA.out.lt;omega
 have hL2:Lev w.heap.size u0.heap.size P w (u0.alloc (.cells #[.int .u8 6,.int .u8 0,.int .i64 0,.string ⟨#[]⟩,.bool false,.string ⟨#[]⟩,.string ⟨#[77,65,88]⟩,.slice none 0 0] 60)) (rc0 6 eZ):=HA.out.lev (rc0 6 eZ)
 have hp2:=HP.out.below hb2
 have HL:=κ hL2
 have hGz:u0.heap.size<(u0.alloc (.cells #[.int .u8 6,.int .u8 0,.int .i64 0,.string ⟨#[]⟩,.bool false,.string ⟨#[]⟩,.string ⟨#[77,65,88]⟩,.slice none 0 0] 60)).heap.size:=aL hL2.x
 have HD:=κ (iP P d (t::r) _ hp2 h40)
 clear hL2 hp2 hb2
 go_wp2_with fail
 refine μ HD ?_
 rintro e v5 ⟨rfl,hb,hp⟩
 obtain ⟨j,n1,n2,n3,n4⟩:=hp.next
 have hL6:=(HL.out.but hb hP hG).but (But.set P 1 v5 (.int .i64 ((j:Int)+1))) hP hG
 have HP6:=κ n4
 have HL6:=κ hL6
 clear hb hp n4 HD hL6 HA HP HL ts1
 cases hw0:isF [40] r
 ·have HQ:=κ (show pX 8 d (t::r)=none by rw [HQ0.out,aE,hw0];try rfl)
  have HNe:=κ (dK P (d+1) 0 r ⟨#[40]⟩ _ HP6.out (by rw [show (⟨#[40]⟩:ByteArray).data.toList=[40] from rfl,hw0];rfl))
  clear hw0 HQ0 HTS HP6
  go_wp2_with fail
  refine μ HNe ?_
  rintro e v7 ⟨rfl,hb,b',hb',hp⟩
  have hL7:=HL6.out.but hb hP hG
  have hb7:=dO hp hb' (show d+1≤100000 by omega)
  clear hb hp hb' HNe HL6 n1 n2
  have cS:=(hL7.cells).2.1 6
  simp only [RC.cells,rc0,eZ,γ,δ,ε] at cS
  have HC:=κ (lP 1 P (d+1) _ hb7)
  have HL7:=κ hL7
  clear hb7 hL7
  go_wp2_with fail
  refine μ HC ?_
  rintro e v9 ⟨rfl,hb9,hbad9⟩
  simp only [RC.val,rcZ]
  have hL9:=HL7.out.but hb9 hP hG
  obtain ⟨y1,y2,hL10⟩:=jI rcZ hL9 rfl hG
  have hbad10:=kZ (G:=u0.heap.size) (.cells rcZ.cells.toArray 60) (.slice (some ⟨v9.heap.size,0,none⟩) 1 1) hbad9 (by omega)
  have HNe:=κ (fL ⟨#[41]⟩ P (d+1) _ hbad10)
  simp only [RC.cells,rcZ,rc0] at y1 y2 HNe hL10
  have HL10:=κ hL10
  clear hb9 hbad9 hL9 hL10 hbad10 HC HL7
  go_wp2_with fail
  refine μ HNe ?_
  rintro e v11 ⟨rfl,hb11,hbad11⟩
  have hL11:=HL10.out.but hb11 hP hG
  clear hb11 HNe HL10 y1 y2
  obtain ⟨e6,q1,q2,q3,q4,q5⟩:=RBad.up hbad11
  have hLF:=hL11.but (But.set P 2 v11 (.int .i64 ((e6:Int)-1))) hP hG
  have HE:=κ (cT (rcP 6 eZ v9.heap.size 1) hLF.b rfl hP q5 HQ.out)
  clear q5 hL11 hbad11
  obtain ⟨⟨⟨a0,a1,a2,a3,a4,a5,a6,a7,a8,a9⟩,c0⟩,c1,z0,z1⟩:=hLF.cells
  obtain ⟨rz,hz⟩:=hLF.z
  have hcE:=β (aM (rcP 6 eZ v9.heap.size 1) hz)
  simp only [RC.cells,rcP] at c0 c1
  clear hLF hz 
  go_wp2
  change bodyPost _ _ _ _ _ (put8 _ w.heap.size (rcP 6 eZ v9.heap.size 1))
  generalize put8 _ w.heap.size (rcP 6 eZ v9.heap.size 1)=WE at *
  simp only [RC.cells,rcP] at hcE
  exact bodyPost_ret (v:=RC.val (rcP 6 eZ v9.heap.size 1)) (by simp [results,results134,go_sem,hcE,RC.val,rcP]) rfl HE.out
 ·have HNe:=κ (dB P (d+1) r ⟨#[40]⟩ _ HP6.out hw0)
  have hlt0:=bB hw0
  have HQ1:=κ (show pX 8 d (t::r)=match pX 1 (d+1) r.tail with|none=>none|some (x,r3)=>(aE [41] r3).map (fun r4=>(.agg eZ x,r4)) by
  rw [HQ0.out,aE,hw0,HTS.out]
  exact if_neg (fun h=>absurd h.1 (by decide)))
  clear hw0 HQ0 HTS HP6
  go_wp2_with fail
  refine μ HNe ?_
  rintro e v7 ⟨rfl,hb,hp7⟩
  have hL7:=HL6.out.but hb hP hG
  clear hb HNe HL6 n1 n2
  have cS:=(hL7.cells).2.1 6
  simp only [RC.cells,rc0,eZ,γ,δ,ε] at cS
  have HC:=κ (show Calls prog 85 #[.pointer (some ⟨P,0,none⟩),.int .i64 1] _ _ from HF.out _ r.tail (by rw [List.length_tail];omega) hp7)
  have hGz7:=aL hL7.x
  have HL7:=κ hL7
  clear hp7 hL7
  go_wp2_with fail
  refine μ HC ?_
  rintro e v9 hq9
  obtain ⟨⟨k,vk,vi,vs,vb,tt,ss,A,nn,c⟩,rfl,hb9,hq10⟩:=hq9.open_
  simp only [RC.val]
  have hL9:=HL7.out.but hb9 hP hG
  obtain ⟨y1,y2,hL10⟩:=jI ⟨k,vk,vi,vs,vb,tt,ss,A,nn,c⟩ hL9 rfl hG
  simp only [RC.cells,rc0] at y1 y2 hL10
  have HL10:=κ hL10
  have hz9:=hb9.size
  clear hq9 hb9 hL9 hL10 HC HL7
  rcases hpx:pX 1 (d+1) r.tail with _|⟨x,r3⟩
  ·have HQ:=κ (show pX 8 d (t::r)=none by rw [HQ1.out,hpx])
   rw [hpx] at hq10
   have hbad9:RBad P v9 (d+1):=hq10
   have hbad10:=kZ (G:=u0.heap.size) (.cells #[.int .u8 k,.int .u8 vk,.int .i64 vi,.string vs,.bool vb,.string tt,.string ss,.slice A nn c] 60) (.slice (some ⟨v9.heap.size,0,none⟩) 1 1) hbad9 (by omega)
   have HNe:=κ (fL ⟨#[41]⟩ P (d+1) _ hbad10)
   clear hpx hq10 hbad9 hbad10 HQ1
   go_wp2_with fail
   refine μ HNe ?_
   rintro e v11 ⟨rfl,hb11,hbad11⟩
   have hL11:=HL10.out.but hb11 hP hG
   clear hb11 HNe HL10 y1 y2
   obtain ⟨e6,q1,q2,q3,q4,q5⟩:=RBad.up hbad11
   have hLF:=hL11.but (But.set P 2 v11 (.int .i64 ((e6:Int)-1))) hP hG
   have HE:=κ (cT (rcP 6 eZ v9.heap.size 1) hLF.b rfl hP q5 HQ.out)
   clear q5 hL11 hbad11
   obtain ⟨⟨⟨a0,a1,a2,a3,a4,a5,a6,a7,a8,a9⟩,c0⟩,c1,z0,z1⟩:=hLF.cells
   obtain ⟨rz,hz⟩:=hLF.z
   have hcE:=β (aM (rcP 6 eZ v9.heap.size 1) hz)
   simp only [RC.cells,rcP] at c0 c1
   clear hLF hz 
   go_wp2
   change bodyPost _ _ _ _ _ (put8 _ w.heap.size (rcP 6 eZ v9.heap.size 1))
   generalize put8 _ w.heap.size (rcP 6 eZ v9.heap.size 1)=WE at *
   simp only [RC.cells,rcP] at hcE
   exact bodyPost_ret (v:=RC.val (rcP 6 eZ v9.heap.size 1)) (by simp [results,results134,go_sem,hcE,RC.val,rcP]) rfl HE.out
  ·rw [hpx] at hq10
   obtain ⟨hx9,hp9⟩:=hq10
   obtain ⟨hx10,hp10⟩:=zJ (op:=eZ) (B:=w.heap.size) (G:=u0.heap.size) ⟨k,vk,vi,vs,vb,tt,ss,A,nn,c⟩ hx9 hp9 hGz7 hz9 hG (by omega)
   simp only [RC.cells] at hx10 hp10
   have HX:=κ (ι hx10 hp10)
   cases hw:isF [41] r3
   ·have HQ:=κ (show pX 8 d (t::r)=none by rw [HQ1.out,hpx];show (aE [41] r3).map _=none;rw [aE,hw];rfl)
    have HNe:=κ (dK P (d+1) 0 r3 ⟨#[41]⟩ _ hp10 (by rw [show (⟨#[41]⟩:ByteArray).data.toList=[41] from rfl,hw];rfl))
    clear hpx hx9 hp9 hx10 hp10 hw HQ1
    go_wp2_with fail
    refine μ HNe ?_
    rintro e v11 ⟨rfl,hb11,b',hb',hp11⟩
    have hbad11:=dO hp11 hb' (by omega)
    have hL11:=HL10.out.but hb11 hP hG
    clear hb11 HNe HL10 hp11 hb' y1 y2
    obtain ⟨e6,q1,q2,q3,q4,q5⟩:=RBad.up hbad11
    have hLF:=hL11.but (But.set P 2 v11 (.int .i64 ((e6:Int)-1))) hP hG
    have HE:=κ (cT (rcP 6 eZ v9.heap.size 1) hLF.b rfl hP q5 HQ.out)
    clear q5 hL11 hbad11
    obtain ⟨⟨⟨a0,a1,a2,a3,a4,a5,a6,a7,a8,a9⟩,c0⟩,c1,z0,z1⟩:=hLF.cells
    obtain ⟨rz,hz⟩:=hLF.z
    have hcE:=β (aM (rcP 6 eZ v9.heap.size 1) hz)
    simp only [RC.cells,rcP] at c0 c1
    clear hLF hz 
    go_wp2
    change bodyPost _ _ _ _ _ (put8 _ w.heap.size (rcP 6 eZ v9.heap.size 1))
    generalize put8 _ w.heap.size (rcP 6 eZ v9.heap.size 1)=WE at *
    simp only [RC.cells,rcP] at hcE
    exact bodyPost_ret (v:=RC.val (rcP 6 eZ v9.heap.size 1)) (by simp [results,results134,go_sem,hcE,RC.val,rcP]) rfl HE.out
   ·have HQ:=κ (show pX 8 d (t::r)=some (.agg eZ x,r3.tail) by rw [HQ1.out,hpx];show (aE [41] r3).map _=_;rw [aE,hw];rfl)
    have HNe:=κ (dB P (d+1) r3 ⟨#[41]⟩ _ hp10 hw)
    clear hpx hx9 hp9 hx10 hp10 hw HQ1
    go_wp2_with fail
    refine μ HNe ?_
    rintro e v11 ⟨rfl,hb11,hp11⟩
    have hL11:=HL10.out.but hb11 hP hG
    have hx11:=RX.but hb11 HX.out.2 HX.out.1
    clear hb11 HNe HL10 HX y1 y2
    obtain ⟨e6,q1,q2,q3,q4,q5⟩:=RS.up2 hp11 (by omega)
    have hLF:=hL11.but (But.set P 2 v11 (.int .i64 ((e6:Int)-1))) hP hG
    have hxF:=hx11.far (g:=P) (o:=2) (v:=.int .i64 ((e6:Int)-1)) (fun k hk _=>by have:w.heap.size<k:=hk;omega)
    have HE:=κ (eM (rcP 6 eZ v9.heap.size 1) hLF.b rfl hP (S:=fun g=>w.heap.size<g) (fun _ h=>h) hxF q5 HQ.out)
    clear q5 hxF hx11 hL11 hp11
    obtain ⟨⟨⟨a0,a1,a2,a3,a4,a5,a6,a7,a8,a9⟩,c0⟩,c1,z0,z1⟩:=hLF.cells
    obtain ⟨rz,hz⟩:=hLF.z
    have hcE:=β (aM (rcP 6 eZ v9.heap.size 1) hz)
    simp only [RC.cells,rcP] at c0 c1
    clear hLF hz 
    go_wp2
    change bodyPost _ _ _ _ _ (put8 _ w.heap.size (rcP 6 eZ v9.heap.size 1))
    generalize put8 _ w.heap.size (rcP 6 eZ v9.heap.size 1)=WE at *
    simp only [RC.cells,rcP] at hcE
    exact bodyPost_ret (v:=RC.val (rcP 6 eZ v9.heap.size 1)) (by simp [results,results134,go_sem,hcE,RC.val,rcP]) rfl HE.out
theorem tI (P d:Nat) (t:Tok) (r:List Tok) (w:World) (h:RS w P (t::r) d 0) (hk2:t.k≠2) (hk3:t.k≠3) (f0:isF bS (t::r)=false) (f1:isF dJ (t::r)=false) (f2:isF cH (t::r)=false) (f3:isF [40] (t::r)=false) (fy:isF bF (t::r)=true) (h40:40<d+1) (hd:d≤100) :
 Calls prog 134 #[.pointer (some ⟨P,0,none⟩)] w (RPost P w d (pX 8 d (t::r))):=by
 have hts:t.s=bF:=by simp only [isF,Bool.and_eq_true,beq_iff_eq] at fy;exact fy.1
 have hq:pX 8 d (t::r)=if d+1≤40 then (match aE [40] r with
  | none=>none
  | some r2=>if t.s=bF∧isF [42] r2=true then (aE [41] r2.tail).map fun r3=>(.cnt,r3) else (match pX 1 (d+1) r2 with
    | none=>none
    | some (x,r3)=>(aE [41] r3).map fun r4=>(.agg (upW t.s) x,r4))) else none:=by rw [cU,dP,if_neg hk2,if_neg hk3,if_neg (by rw [f0];decide),if_neg (by rw [f1];decide),if_neg (by rw [f2];decide),if_neg (by rw [f3];decide),if_pos (by rw [fy];simp)];rfl
 have e1:(t.k==2)=false:=η hk2
 have e2:(t.k==3)=false:=η hk3
 have g0:(t.s==[99,111,117,110,116])=true:=by rw [hts];rfl
 rw [if_neg (by omega)] at hq
 have HQ:=κ hq
 clear hk2 hk3 hq hts
 have hP:=h.lt
 have hb0:Below w.heap.size w (w.alloc (.cells rcZ.cells.toArray 60)):=ρ
 have hz0:=heap_alloc_new w (.cells rcZ.cells.toArray 60)
 have H0:=κ (ι (h.below hb0) (ι hb0 hz0))
 obtain ⟨A,c,i,h1,h2,h3⟩:=h.below hb0
 have hc0:=β h1 0
 have hc1:=β h1 1
 obtain ⟨b,off,rfl,hlt,k0,k1,k2⟩:=h2.front
 obtain ⟨n,hn⟩:∃ n,i+(t::r).length=n:=⟨_,rfl⟩
 rw [hn] at hc0
 have hin:(i:Int)<(n:Int):=by simp at hn;omega
 have hinN:i<n:=by simp at hn;omega
 have hin0:(0:Int)≤(i:Int):=by omega
 have hlt2:¬(n:Int)≤(i:Int):=by omega
 have hltN:¬n≤i:=by omega
 simp only [RC.cells,rcZ] at hc0 hc1 k0 k1 k2
 clear h hb0 hz0 h1 h2 h3 hn
 go_enter func134,ntmps134
 go_wp2_with fail
 go_quiet (fail)
 go_wp2_with fail
 obtain ⟨k0a,k1a,k2a,h0a,h1a⟩:=eJ (nq+1) (.cells #[.int .u8 0,.string ⟨#[]⟩,.int .i64 0] 173) k0 k1 k2 hc0 hc1
 go_region
 have hA0:=fV (P:=P) t H0.out.2.1 H0.out.2.2 (World.size_alloc _ _) (nq+1)
 have hp0:=(H0.out.1.drawn (w':=(w.alloc (.cells rcZ.cells.toArray 60)).drewN (nq+1)) ⟨nq+1,rfl⟩).below ((θ).alloc (ν _) (.cells #[.int .u8 t.k,.string ⟨t.s.toArray⟩,.int .i64 t.n] 173))
 simp only [RC.cells,rcZ] at hA0 hp0
 have HA:=κ hA0
 have HP:=κ hp0
 clear hA0 hp0 k0a k1a k2a h0a h1a hc0 hc1 k0 k1 k2 H0 hin hinN hin0 hlt2 hltN
 generalize ((w.alloc (.cells #[.int .u8 0,.int .u8 0,.int .i64 0,.string ⟨#[]⟩,.bool false,.string ⟨#[]⟩,.string ⟨#[]⟩,.slice none 0 0] 60)).drewN (nq+1)).alloc (.cells #[.int .u8 t.k,.string ⟨t.s.toArray⟩,.int .i64 t.n] 173)=v0 at *
 have tk:=HA.out.cells.2.2.1
 have HI:=κ (aJ P d 0 (t::r) ⟨#[110,117,108,108]⟩ v0 HP.out false (by rw [show (⟨#[110,117,108,108]⟩:ByteArray).data.toList=bS from rfl,f0];rfl))
 go_wp2_with fail
 refine μ HI ?_
 rintro e v1 ⟨rfl,hb,hp⟩
 simp only [φ,if_false] at hp
 replace HA:=κ (HA.out.but hb hP)
 replace HP:=κ hp
 clear hb hp HI
 clear tk
 have HI:=κ (aJ P d 0 (t::r) ⟨#[116,114,117,101]⟩ v1 HP.out false (by rw [show (⟨#[116,114,117,101]⟩:ByteArray).data.toList=dJ from rfl,f1];rfl))
 go_wp2_with fail
 refine μ HI ?_
 rintro e v2 ⟨rfl,hb,hp⟩
 simp only [φ,if_false] at hp
 replace HA:=κ (HA.out.but hb hP)
 replace HP:=κ hp
 clear hb hp HI
 have HI:=κ (aJ P d 0 (t::r) ⟨#[102,97,108,115,101]⟩ v2 HP.out false (by rw [show (⟨#[102,97,108,115,101]⟩:ByteArray).data.toList=cH from rfl,f2];rfl))
 go_wp2_with fail
 refine μ HI ?_
 rintro e v3 ⟨rfl,hb,hp⟩
 simp only [φ,if_false] at hp
 replace HA:=κ (HA.out.but hb hP)
 replace HP:=κ hp
 clear hb hp HI
 have HI:=κ (bI P d 0 (t::r) ⟨#[40]⟩ v3 HP.out false (by rw [show (⟨#[40]⟩:ByteArray).data.toList=[40] from rfl,f3];rfl))
 go_wp2_with fail
 refine μ HI ?_
 rintro e v4 ⟨rfl,hd1⟩
 replace HA:=κ (HA.out.but hd1.but hP)
 replace HP:=κ (HP.out.drawn hd1)
 clear hd1 HI
 have HI:=κ (bI P d 0 (t::r) ⟨#[99,111,117,110,116]⟩ v4 HP.out true (by rw [show (⟨#[99,111,117,110,116]⟩:ByteArray).data.toList=bF from rfl,fy];rfl))
 go_wp2_with fail
 refine μ HI ?_
 rintro e u0 ⟨rfl,hd1⟩
 replace HA:=κ (HA.out.but hd1.but hP)
 replace HP:=κ (HP.out.drawn hd1)
 clear hd1 HI
 have ts1:=(HA.out.but (But.alloc P u0 (.cells #[.int .u8 6,.int .u8 0,.int .i64 0,.string ⟨#[]⟩,.bool false,.string ⟨#[]⟩,.string ⟨#[]⟩,.slice none 0 0] 60)) hP).cells.2.2.2.1
 have hb2:Below u0.heap.size u0 (u0.alloc (.cells #[.int .u8 6,.int .u8 0,.int .i64 0,.string ⟨#[]⟩,.bool false,.string ⟨#[]⟩,.string ⟨#[67,79,85,78,84]⟩,.slice none 0 0] 60)):=ρ
 have hG:w.heap.size<u0.heap.size:=by have:=HA.out.lt;omega
 have hL2:Lev w.heap.size u0.heap.size P w (u0.alloc (.cells #[.int .u8 6,.int .u8 0,.int .i64 0,.string ⟨#[]⟩,.bool false,.string ⟨#[]⟩,.string ⟨#[67,79,85,78,84]⟩,.slice none 0 0] 60)) (rc0 6 aU):=HA.out.lev (rc0 6 aU)
 have hp2:=HP.out.below hb2
 have HL:=κ hL2
 have hGz:u0.heap.size<(u0.alloc (.cells #[.int .u8 6,.int .u8 0,.int .i64 0,.string ⟨#[]⟩,.bool false,.string ⟨#[]⟩,.string ⟨#[67,79,85,78,84]⟩,.slice none 0 0] 60)).heap.size:=aL hL2.x
 have HD:=κ (jY P d (t::r) _ hp2 h40 (by omega))
 clear hL2 hp2 hb2
 go_wp2_with fail
 refine μ HD ?_
 rintro e v5 ⟨rfl,hb,b',hb',hp⟩
 have hL5:=HL.out.but hb hP hG
 obtain ⟨⟨⟨a0,a1,a2,a3,a4,a5,a6,a7,a8,a9⟩,c0⟩, -,z0, -⟩:=hL5.cells
 obtain ⟨rz,hz⟩:=hL5.z
 have hcE:=β (aM rcZ hz)
 have HE:=κ (cT rcZ hL5.b rfl hP (show RBad P v5 d from ⟨t::r,d+1,b',hb',hp,by omega,by omega⟩) HQ.out)
 simp only [RC.cells] at c0
 clear hL5 hz hp hb HD HA HP HQ HL ts1
 go_wp2
 change bodyPost _ _ _ _ _ (put8 _ w.heap.size rcZ)
 generalize put8 _ w.heap.size rcZ=WE at *
 simp only [RC.cells,rcZ] at hcE
 exact bodyPost_ret (v:=RC.val rcZ) (by simp [results,results134,go_sem,hcE,RC.val,rcZ]) rfl HE.out
theorem rS (P d:Nat) (t:Tok) (r:List Tok) (w:World) (h:RS w P (t::r) d 0) (hk2:t.k≠2) (hk3:t.k≠3) (f0:isF bS (t::r)=false) (f1:isF dJ (t::r)=false) (f2:isF cH (t::r)=false) (f3:isF [40] (t::r)=false) (fy:isF bF (t::r)=true) (h40:d+1≤40) (HE1:RvOk 1 P (d+1) r.length) :
 Calls prog 134 #[.pointer (some ⟨P,0,none⟩)] w (RPost P w d (pX 8 d (t::r))):=by
 have hts:t.s=bF:=by simp only [isF,Bool.and_eq_true,beq_iff_eq] at fy;exact fy.1
 have hq:pX 8 d (t::r)=if d+1≤40 then (match aE [40] r with
  | none=>none
  | some r2=>if t.s=bF∧isF [42] r2=true then (aE [41] r2.tail).map fun r3=>(.cnt,r3) else (match pX 1 (d+1) r2 with
    | none=>none
    | some (x,r3)=>(aE [41] r3).map fun r4=>(.agg (upW t.s) x,r4))) else none:=by rw [cU,dP,if_neg hk2,if_neg hk3,if_neg (by rw [f0];decide),if_neg (by rw [f1];decide),if_neg (by rw [f2];decide),if_neg (by rw [f3];decide),if_pos (by rw [fy];simp)];rfl
 have e1:(t.k==2)=false:=η hk2
 have e2:(t.k==3)=false:=η hk3
 have g0:(t.s==[99,111,117,110,116])=true:=by rw [hts];rfl
 rw [if_pos h40] at hq
 have HQ0:=κ hq
 have HF:=κ HE1
 have HTS:=κ hts
 clear hk2 hk3 hq HE1 hts
 have hP:=h.lt
 have hb0:Below w.heap.size w (w.alloc (.cells rcZ.cells.toArray 60)):=ρ
 have hz0:=heap_alloc_new w (.cells rcZ.cells.toArray 60)
 have H0:=κ (ι (h.below hb0) (ι hb0 hz0))
 obtain ⟨A,c,i,h1,h2,h3⟩:=h.below hb0
 have hc0:=β h1 0
 have hc1:=β h1 1
 obtain ⟨b,off,rfl,hlt,k0,k1,k2⟩:=h2.front
 obtain ⟨n,hn⟩:∃ n,i+(t::r).length=n:=⟨_,rfl⟩
 rw [hn] at hc0
 have hin:(i:Int)<(n:Int):=by simp at hn;omega
 have hinN:i<n:=by simp at hn;omega
 have hin0:(0:Int)≤(i:Int):=by omega
 have hlt2:¬(n:Int)≤(i:Int):=by omega
 have hltN:¬n≤i:=by omega
 simp only [RC.cells,rcZ] at hc0 hc1 k0 k1 k2
 clear h hb0 hz0 h1 h2 h3 hn
 go_enter func134,ntmps134
 go_wp2_with fail
 go_quiet (fail)
 go_wp2_with fail
 obtain ⟨k0a,k1a,k2a,h0a,h1a⟩:=eJ (nq+1) (.cells #[.int .u8 0,.string ⟨#[]⟩,.int .i64 0] 173) k0 k1 k2 hc0 hc1
 go_region
 have hA0:=fV (P:=P) t H0.out.2.1 H0.out.2.2 (World.size_alloc _ _) (nq+1)
 have hp0:=(H0.out.1.drawn (w':=(w.alloc (.cells rcZ.cells.toArray 60)).drewN (nq+1)) ⟨nq+1,rfl⟩).below ((θ).alloc (ν _) (.cells #[.int .u8 t.k,.string ⟨t.s.toArray⟩,.int .i64 t.n] 173))
 simp only [RC.cells,rcZ] at hA0 hp0
 have HA:=κ hA0
 have HP:=κ hp0
 clear hA0 hp0 k0a k1a k2a h0a h1a hc0 hc1 k0 k1 k2 H0 hin hinN hin0 hlt2 hltN
 generalize ((w.alloc (.cells #[.int .u8 0,.int .u8 0,.int .i64 0,.string ⟨#[]⟩,.bool false,.string ⟨#[]⟩,.string ⟨#[]⟩,.slice none 0 0] 60)).drewN (nq+1)).alloc (.cells #[.int .u8 t.k,.string ⟨t.s.toArray⟩,.int .i64 t.n] 173)=v0 at *
 have tk:=HA.out.cells.2.2.1
 have HI:=κ (aJ P d 0 (t::r) ⟨#[110,117,108,108]⟩ v0 HP.out false (by rw [show (⟨#[110,117,108,108]⟩:ByteArray).data.toList=bS from rfl,f0];rfl))
 go_wp2_with fail
 refine μ HI ?_
 rintro e v1 ⟨rfl,hb,hp⟩
 simp only [φ,if_false] at hp
 replace HA:=κ (HA.out.but hb hP)
 replace HP:=κ hp
 clear hb hp HI
 clear tk
 have HI:=κ (aJ P d 0 (t::r) ⟨#[116,114,117,101]⟩ v1 HP.out false (by rw [show (⟨#[116,114,117,101]⟩:ByteArray).data.toList=dJ from rfl,f1];rfl))
 go_wp2_with fail
 refine μ HI ?_
 rintro e v2 ⟨rfl,hb,hp⟩
 simp only [φ,if_false] at hp
 replace HA:=κ (HA.out.but hb hP)
 replace HP:=κ hp
 clear hb hp HI
 have HI:=κ (aJ P d 0 (t::r) ⟨#[102,97,108,115,101]⟩ v2 HP.out false (by rw [show (⟨#[102,97,108,115,101]⟩:ByteArray).data.toList=cH from rfl,f2];rfl))
 go_wp2_with fail
 refine μ HI ?_
 rintro e v3 ⟨rfl,hb,hp⟩
 simp only [φ,if_false] at hp
 replace HA:=κ (HA.out.but hb hP)
 replace HP:=κ hp
 clear hb hp HI
 have HI:=κ (bI P d 0 (t::r) ⟨#[40]⟩ v3 HP.out false (by rw [show (⟨#[40]⟩:ByteArray).data.toList=[40] from rfl,f3];rfl))
 go_wp2_with fail
 refine μ HI ?_
 rintro e v4 ⟨rfl,hd1⟩
 replace HA:=κ (HA.out.but hd1.but hP)
 replace HP:=κ (HP.out.drawn hd1)
 clear hd1 HI
 have HI:=κ (bI P d 0 (t::r) ⟨#[99,111,117,110,116]⟩ v4 HP.out true (by rw [show (⟨#[99,111,117,110,116]⟩:ByteArray).data.toList=bF from rfl,fy];rfl))
 go_wp2_with fail
 refine μ HI ?_
 rintro e u0 ⟨rfl,hd1⟩
 replace HA:=κ (HA.out.but hd1.but hP)
 replace HP:=κ (HP.out.drawn hd1)
 clear hd1 HI
 have ts1:=(HA.out.but (But.alloc P u0 (.cells #[.int .u8 6,.int .u8 0,.int .i64 0,.string ⟨#[]⟩,.bool false,.string ⟨#[]⟩,.string ⟨#[]⟩,.slice none 0 0] 60)) hP).cells.2.2.2.1
 have hb2:Below u0.heap.size u0 (u0.alloc (.cells #[.int .u8 6,.int .u8 0,.int .i64 0,.string ⟨#[]⟩,.bool false,.string ⟨#[]⟩,.string ⟨#[67,79,85,78,84]⟩,.slice none 0 0] 60)):=ρ
 have hG:w.heap.size<u0.heap.size:=by have:=HA.out.lt;omega
 have hL2:Lev w.heap.size u0.heap.size P w (u0.alloc (.cells #[.int .u8 6,.int .u8 0,.int .i64 0,.string ⟨#[]⟩,.bool false,.string ⟨#[]⟩,.string ⟨#[67,79,85,78,84]⟩,.slice none 0 0] 60)) (rc0 6 aU):=HA.out.lev (rc0 6 aU)
 have hp2:=HP.out.below hb2
 have HL:=κ hL2
 have hGz:u0.heap.size<(u0.alloc (.cells #[.int .u8 6,.int .u8 0,.int .i64 0,.string ⟨#[]⟩,.bool false,.string ⟨#[]⟩,.string ⟨#[67,79,85,78,84]⟩,.slice none 0 0] 60)).heap.size:=aL hL2.x
 have HD:=κ (iP P d (t::r) _ hp2 h40)
 clear hL2 hp2 hb2
 go_wp2_with fail
 refine μ HD ?_
 rintro e v5 ⟨rfl,hb,hp⟩
 obtain ⟨j,n1,n2,n3,n4⟩:=hp.next
 have hL6:=(HL.out.but hb hP hG).but (But.set P 1 v5 (.int .i64 ((j:Int)+1))) hP hG
 have HP6:=κ n4
 have HL6:=κ hL6
 clear hb hp n4 HD hL6 HA HP HL ts1
 cases hw0:isF [40] r
 ·have HQ:=κ (show pX 8 d (t::r)=none by rw [HQ0.out,aE,hw0];try rfl)
  have HNe:=κ (dK P (d+1) 0 r ⟨#[40]⟩ _ HP6.out (by rw [show (⟨#[40]⟩:ByteArray).data.toList=[40] from rfl,hw0];rfl))
  clear hw0 HQ0 HTS HP6
  go_wp2_with fail
  refine μ HNe ?_
  rintro e v7 ⟨rfl,hb,b',hb',hp⟩
  have hL7:=HL6.out.but hb hP hG
  have hb7:=dO hp hb' (show d+1≤100000 by omega)
  clear hb hp hb' HNe HL6 n1 n2
  have cS:=(hL7.cells).2.1 6
  simp only [RC.cells,rc0,aU,γ,δ,ε] at cS
  have HPb:=κ (tN ⟨#[42]⟩ P (d+1) _ hb7)
  have HL7:=κ hL7
  clear hb7 hL7
  go_wp2_with fail
  refine μ HPb ?_
  rintro e v8 ⟨rfl,hb8,hb7⟩
  have hL7:=HL7.out.but hb8 hP hG
  clear hb8 HPb HL7 cS
  have HC:=κ (lP 1 P (d+1) _ hb7)
  have HL7:=κ hL7
  clear hb7 hL7
  go_wp2_with fail
  refine μ HC ?_
  rintro e v9 ⟨rfl,hb9,hbad9⟩
  simp only [RC.val,rcZ]
  have hL9:=HL7.out.but hb9 hP hG
  obtain ⟨y1,y2,hL10⟩:=jI rcZ hL9 rfl hG
  have hbad10:=kZ (G:=u0.heap.size) (.cells rcZ.cells.toArray 60) (.slice (some ⟨v9.heap.size,0,none⟩) 1 1) hbad9 (by omega)
  have HNe:=κ (fL ⟨#[41]⟩ P (d+1) _ hbad10)
  simp only [RC.cells,rcZ,rc0] at y1 y2 HNe hL10
  have HL10:=κ hL10
  clear hb9 hbad9 hL9 hL10 hbad10 HC HL7
  go_wp2_with fail
  refine μ HNe ?_
  rintro e v11 ⟨rfl,hb11,hbad11⟩
  have hL11:=HL10.out.but hb11 hP hG
  clear hb11 HNe HL10 y1 y2
  obtain ⟨e6,q1,q2,q3,q4,q5⟩:=RBad.up hbad11
  have hLF:=hL11.but (But.set P 2 v11 (.int .i64 ((e6:Int)-1))) hP hG
  have HE:=κ (cT (rcP 6 aU v9.heap.size 1) hLF.b rfl hP q5 HQ.out)
  clear q5 hL11 hbad11
  obtain ⟨⟨⟨a0,a1,a2,a3,a4,a5,a6,a7,a8,a9⟩,c0⟩,c1,z0,z1⟩:=hLF.cells
  obtain ⟨rz,hz⟩:=hLF.z
  have hcE:=β (aM (rcP 6 aU v9.heap.size 1) hz)
  simp only [RC.cells,rcP] at c0 c1
  clear hLF hz 
  go_wp2
  change bodyPost _ _ _ _ _ (put8 _ w.heap.size (rcP 6 aU v9.heap.size 1))
  generalize put8 _ w.heap.size (rcP 6 aU v9.heap.size 1)=WE at *
  simp only [RC.cells,rcP] at hcE
  exact bodyPost_ret (v:=RC.val (rcP 6 aU v9.heap.size 1)) (by simp [results,results134,go_sem,hcE,RC.val,rcP]) rfl HE.out
 ·have HNe:=κ (dB P (d+1) r ⟨#[40]⟩ _ HP6.out hw0)
  have hlt0:=bB hw0
  cases hs:isF [42] r.tail
  ·have HQ1:=κ (show pX 8 d (t::r)=match pX 1 (d+1) r.tail with|none=>none|some (x,r3)=>(aE [41] r3).map (fun r4=>(.agg aU x,r4)) by
  rw [HQ0.out,aE,hw0,HTS.out]
  exact if_neg (fun h=>by rw [hs] at h;cases h.2))
   clear hw0 HQ0 HTS HP6
   go_wp2_with fail
   refine μ HNe ?_
   rintro e v7 ⟨rfl,hb,hp7⟩
   have hL7:=HL6.out.but hb hP hG
   clear hb HNe HL6 n1 n2
   have cS:=(hL7.cells).2.1 6
   simp only [RC.cells,rc0,aU,γ,δ,ε] at cS
   have HL7:=κ hL7
   have HPs:=κ (aJ P (d+1) 0 r.tail ⟨#[42]⟩ _ hp7 false (by rw [show (⟨#[42]⟩:ByteArray).data.toList=[42] from rfl,hs];rfl))
   clear hs hp7 hL7
   go_wp2_with fail
   refine μ HPs ?_
   rintro e v8 ⟨rfl,hb8,hp7⟩
   simp only [φ,if_false] at hp7
   have hL7:=HL7.out.but hb8 hP hG
   clear hb8 HPs HL7 cS
   have HC:=κ (show Calls prog 85 #[.pointer (some ⟨P,0,none⟩),.int .i64 1] _ _ from HF.out _ r.tail (by rw [List.length_tail];omega) hp7)
   have hGz7:=aL hL7.x
   have HL7:=κ hL7
   clear hp7 hL7
   go_wp2_with fail
   refine μ HC ?_
   rintro e v9 hq9
   obtain ⟨⟨k,vk,vi,vs,vb,tt,ss,A,nn,c⟩,rfl,hb9,hq10⟩:=hq9.open_
   simp only [RC.val]
   have hL9:=HL7.out.but hb9 hP hG
   obtain ⟨y1,y2,hL10⟩:=jI ⟨k,vk,vi,vs,vb,tt,ss,A,nn,c⟩ hL9 rfl hG
   simp only [RC.cells,rc0] at y1 y2 hL10
   have HL10:=κ hL10
   have hz9:=hb9.size
   clear hq9 hb9 hL9 hL10 HC HL7
   rcases hpx:pX 1 (d+1) r.tail with _|⟨x,r3⟩
   ·have HQ:=κ (show pX 8 d (t::r)=none by rw [HQ1.out,hpx])
    rw [hpx] at hq10
    have hbad9:RBad P v9 (d+1):=hq10
    have hbad10:=kZ (G:=u0.heap.size) (.cells #[.int .u8 k,.int .u8 vk,.int .i64 vi,.string vs,.bool vb,.string tt,.string ss,.slice A nn c] 60) (.slice (some ⟨v9.heap.size,0,none⟩) 1 1) hbad9 (by omega)
    have HNe:=κ (fL ⟨#[41]⟩ P (d+1) _ hbad10)
    clear hpx hq10 hbad9 hbad10 HQ1
    go_wp2_with fail
    refine μ HNe ?_
    rintro e v11 ⟨rfl,hb11,hbad11⟩
    have hL11:=HL10.out.but hb11 hP hG
    clear hb11 HNe HL10 y1 y2
    obtain ⟨e6,q1,q2,q3,q4,q5⟩:=RBad.up hbad11
    have hLF:=hL11.but (But.set P 2 v11 (.int .i64 ((e6:Int)-1))) hP hG
    have HE:=κ (cT (rcP 6 aU v9.heap.size 1) hLF.b rfl hP q5 HQ.out)
    clear q5 hL11 hbad11
    obtain ⟨⟨⟨a0,a1,a2,a3,a4,a5,a6,a7,a8,a9⟩,c0⟩,c1,z0,z1⟩:=hLF.cells
    obtain ⟨rz,hz⟩:=hLF.z
    have hcE:=β (aM (rcP 6 aU v9.heap.size 1) hz)
    simp only [RC.cells,rcP] at c0 c1
    clear hLF hz 
    go_wp2
    change bodyPost _ _ _ _ _ (put8 _ w.heap.size (rcP 6 aU v9.heap.size 1))
    generalize put8 _ w.heap.size (rcP 6 aU v9.heap.size 1)=WE at *
    simp only [RC.cells,rcP] at hcE
    exact bodyPost_ret (v:=RC.val (rcP 6 aU v9.heap.size 1)) (by simp [results,results134,go_sem,hcE,RC.val,rcP]) rfl HE.out
   ·rw [hpx] at hq10
    obtain ⟨hx9,hp9⟩:=hq10
    obtain ⟨hx10,hp10⟩:=zJ (op:=aU) (B:=w.heap.size) (G:=u0.heap.size) ⟨k,vk,vi,vs,vb,tt,ss,A,nn,c⟩ hx9 hp9 hGz7 hz9 hG (by omega)
    simp only [RC.cells] at hx10 hp10
    have HX:=κ (ι hx10 hp10)
    cases hw:isF [41] r3
    ·have HQ:=κ (show pX 8 d (t::r)=none by rw [HQ1.out,hpx];show (aE [41] r3).map _=none;rw [aE,hw];rfl)
     have HNe:=κ (dK P (d+1) 0 r3 ⟨#[41]⟩ _ hp10 (by rw [show (⟨#[41]⟩:ByteArray).data.toList=[41] from rfl,hw];rfl))
     clear hpx hx9 hp9 hx10 hp10 hw HQ1
     go_wp2_with fail
     refine μ HNe ?_
     rintro e v11 ⟨rfl,hb11,b',hb',hp11⟩
     have hbad11:=dO hp11 hb' (by omega)
     have hL11:=HL10.out.but hb11 hP hG
     clear hb11 HNe HL10 hp11 hb' y1 y2
     obtain ⟨e6,q1,q2,q3,q4,q5⟩:=RBad.up hbad11
     have hLF:=hL11.but (But.set P 2 v11 (.int .i64 ((e6:Int)-1))) hP hG
     have HE:=κ (cT (rcP 6 aU v9.heap.size 1) hLF.b rfl hP q5 HQ.out)
     clear q5 hL11 hbad11
     obtain ⟨⟨⟨a0,a1,a2,a3,a4,a5,a6,a7,a8,a9⟩,c0⟩,c1,z0,z1⟩:=hLF.cells
     obtain ⟨rz,hz⟩:=hLF.z
     have hcE:=β (aM (rcP 6 aU v9.heap.size 1) hz)
     simp only [RC.cells,rcP] at c0 c1
     clear hLF hz 
     go_wp2
     change bodyPost _ _ _ _ _ (put8 _ w.heap.size (rcP 6 aU v9.heap.size 1))
     generalize put8 _ w.heap.size (rcP 6 aU v9.heap.size 1)=WE at *
     simp only [RC.cells,rcP] at hcE
     exact bodyPost_ret (v:=RC.val (rcP 6 aU v9.heap.size 1)) (by simp [results,results134,go_sem,hcE,RC.val,rcP]) rfl HE.out
    ·have HQ:=κ (show pX 8 d (t::r)=some (.agg aU x,r3.tail) by rw [HQ1.out,hpx];show (aE [41] r3).map _=_;rw [aE,hw];rfl)
     have HNe:=κ (dB P (d+1) r3 ⟨#[41]⟩ _ hp10 hw)
     clear hpx hx9 hp9 hx10 hp10 hw HQ1
     go_wp2_with fail
     refine μ HNe ?_
     rintro e v11 ⟨rfl,hb11,hp11⟩
     have hL11:=HL10.out.but hb11 hP hG
     have hx11:=RX.but hb11 HX.out.2 HX.out.1
     clear hb11 HNe HL10 HX y1 y2
     obtain ⟨e6,q1,q2,q3,q4,q5⟩:=RS.up2 hp11 (by omega)
     have hLF:=hL11.but (But.set P 2 v11 (.int .i64 ((e6:Int)-1))) hP hG
     have hxF:=hx11.far (g:=P) (o:=2) (v:=.int .i64 ((e6:Int)-1)) (fun k hk _=>by have:w.heap.size<k:=hk;omega)
     have HE:=κ (eM (rcP 6 aU v9.heap.size 1) hLF.b rfl hP (S:=fun g=>w.heap.size<g) (fun _ h=>h) hxF q5 HQ.out)
     clear q5 hxF hx11 hL11 hp11
     obtain ⟨⟨⟨a0,a1,a2,a3,a4,a5,a6,a7,a8,a9⟩,c0⟩,c1,z0,z1⟩:=hLF.cells
     obtain ⟨rz,hz⟩:=hLF.z
     have hcE:=β (aM (rcP 6 aU v9.heap.size 1) hz)
     simp only [RC.cells,rcP] at c0 c1
     clear hLF hz 
     go_wp2
     change bodyPost _ _ _ _ _ (put8 _ w.heap.size (rcP 6 aU v9.heap.size 1))
     generalize put8 _ w.heap.size (rcP 6 aU v9.heap.size 1)=WE at *
     simp only [RC.cells,rcP] at hcE
     exact bodyPost_ret (v:=RC.val (rcP 6 aU v9.heap.size 1)) (by simp [results,results134,go_sem,hcE,RC.val,rcP]) rfl HE.out
  ·have HQ1:=κ (show pX 8 d (t::r)=(aE [41] r.tail.tail).map (fun r3=>(.cnt,r3)) by
    rw [HQ0.out,aE,hw0,HTS.out]
    exact if_pos ⟨rfl,hs⟩)
   clear hw0 HQ0 HTS HP6
   go_wp2_with fail
   refine μ HNe ?_
   rintro e v7 ⟨rfl,hb,hp7⟩
   have hL7:=HL6.out.but hb hP hG
   clear hb HNe HL6 n1 n2
   have cS:=(hL7.cells).2.1 6
   simp only [RC.cells,rc0,aU,γ,δ,ε] at cS
   have HL7:=κ hL7
   have HPs:=κ (aJ P (d+1) 0 r.tail ⟨#[42]⟩ _ hp7 true (by rw [show (⟨#[42]⟩:ByteArray).data.toList=[42] from rfl,hs];rfl))
   clear hs hp7 hL7
   go_wp2_with fail
   refine μ HPs ?_
   rintro e v8 ⟨rfl,hb8,hp7⟩
   simp only [if_true] at hp7
   have hL7:=HL7.out.but hb8 hP hG
   clear hb8 HPs HL7 cS
   have HL7:=κ hL7
   cases hw:isF [41] r.tail.tail
   ·have HQ:=κ (show pX 8 d (t::r)=none by rw [HQ1.out,aE,hw];rfl)
    have HNe:=κ (dK P (d+1) 0 r.tail.tail ⟨#[41]⟩ _ hp7 (by rw [show (⟨#[41]⟩:ByteArray).data.toList=[41] from rfl,hw];rfl))
    clear hw HQ1 hp7 hL7
    go_wp2_with fail
    refine μ HNe ?_
    rintro e v11 ⟨rfl,hb11,b',hb',hp11⟩
    have hbad11:=dO hp11 hb' (by omega)
    have hL11:=HL7.out.but hb11 hP hG
    clear hb11 HNe HL7 hp11 hb'
    obtain ⟨e6,q1,q2,q3,q4,q5⟩:=RBad.up hbad11
    have hLF:=hL11.but (But.set P 2 v11 (.int .i64 ((e6:Int)-1))) hP hG
    have HE:=κ (cT (rc0 6 aU) hLF.b rfl hP q5 HQ.out)
    clear q5 hL11 hbad11
    obtain ⟨⟨⟨a0,a1,a2,a3,a4,a5,a6,a7,a8,a9⟩,c0⟩,c1,z0,z1⟩:=hLF.cells
    obtain ⟨rz,hz⟩:=hLF.z
    have hcE:=β (aM (rc0 6 aU) hz)
    simp only [RC.cells,rc0] at c0 c1
    clear hLF hz 
    go_wp2
    change bodyPost _ _ _ _ _ (put8 _ w.heap.size (rc0 6 aU))
    generalize put8 _ w.heap.size (rc0 6 aU)=WE at *
    simp only [RC.cells,rc0] at hcE
    exact bodyPost_ret (v:=RC.val (rc0 6 aU)) (by simp [results,results134,go_sem,hcE,RC.val,rc0]) rfl HE.out
   ·have HQ:=κ (show pX 8 d (t::r)=some (.cnt,r.tail.tail.tail) by rw [HQ1.out,aE,hw];rfl)
    have HNe:=κ (dB P (d+1) r.tail.tail ⟨#[41]⟩ _ hp7 hw)
    clear hw HQ1 hp7 hL7
    go_wp2_with fail
    refine μ HNe ?_
    rintro e v11 ⟨rfl,hb11,hp11⟩
    have hL11:=HL7.out.but hb11 hP hG
    have hx11:RX (fun g=>w.heap.size<g) v11 .cnt (rc0 6 aU):=rfl
    clear hb11 HNe HL7
    obtain ⟨e6,q1,q2,q3,q4,q5⟩:=RS.up2 hp11 (by omega)
    have hLF:=hL11.but (But.set P 2 v11 (.int .i64 ((e6:Int)-1))) hP hG
    have hxF:=hx11.far (g:=P) (o:=2) (v:=.int .i64 ((e6:Int)-1)) (fun k hk _=>by have:w.heap.size<k:=hk;omega)
    have HE:=κ (eM (rc0 6 aU) hLF.b rfl hP (S:=fun g=>w.heap.size<g) (fun _ h=>h) hxF q5 HQ.out)
    clear q5 hxF hx11 hL11 hp11
    obtain ⟨⟨⟨a0,a1,a2,a3,a4,a5,a6,a7,a8,a9⟩,c0⟩,c1,z0,z1⟩:=hLF.cells
    obtain ⟨rz,hz⟩:=hLF.z
    have hcE:=β (aM (rc0 6 aU) hz)
    simp only [RC.cells,rc0] at c0 c1
    clear hLF hz 
    go_wp2
    change bodyPost _ _ _ _ _ (put8 _ w.heap.size (rc0 6 aU))
    generalize put8 _ w.heap.size (rc0 6 aU)=WE at *
    simp only [RC.cells,rc0] at hcE
    exact bodyPost_ret (v:=RC.val (rc0 6 aU)) (by simp [results,results134,go_sem,hcE,RC.val,rc0]) rfl HE.out
