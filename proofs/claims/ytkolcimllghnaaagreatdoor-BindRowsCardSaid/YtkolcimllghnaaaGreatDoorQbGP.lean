/-
 Contracts. Conditions: those of each.
-/
import Derived.Test.YtkolcimllghnaaaGreatDoorQbGO
set_option maxRecDepth 100000
set_option maxHeartbeats 8000000
namespace Go.Proofs.YtkolcimllghnaaaGreatDoor
open Lp Go.Proofs.Tryz
open Go.RowKit
theorem Lev.setT {B G P:Nat} {w0 w:World} {a b:List UInt8} (h:Lev B G P w0 w (rcC a b)) (hB:w0.heap.size=B) (hG:B<G) (m:List UInt8):Lev B G P w0 (w.setCell ⟨G,5,none⟩ (.string ⟨m.toArray⟩)) (rcC m b):=by
 obtain ⟨h1,⟨r0,h2⟩,h3⟩:=h
 refine ⟨bK h1 (by omega) _ _,⟨r0,(Below.heap_setCell w ⟨G,5,none⟩ _ B (by show B≠G;omega)).trans h2⟩, ?_⟩
 have:=heap_setCell_same w G 5 _ _ (.string ⟨m.toArray⟩) h3
 rw [this]
 simp [rcC,RC.cells]
theorem Lev.setS {B G P:Nat} {w0 w:World} {a b:List UInt8} (h:Lev B G P w0 w (rcC a b)) (hB:w0.heap.size=B) (hG:B<G) (m:List UInt8):Lev B G P w0 (w.setCell ⟨G,6,none⟩ (.string ⟨m.toArray⟩)) (rcC a m):=by
 obtain ⟨h1,⟨r0,h2⟩,h3⟩:=h
 refine ⟨bK h1 (by omega) _ _,⟨r0,(Below.heap_setCell w ⟨G,6,none⟩ _ B (by show B≠G;omega)).trans h2⟩, ?_⟩
 have:=heap_setCell_same w G 6 _ _ (.string ⟨m.toArray⟩) h3
 rw [this]
 simp [rcC,RC.cells]
theorem RNPost.open_ {P d:Nat} {w w':World} {q:Option (List UInt8×List Tok)} {e:Ending} (h:RNPost P w d q e w') :
 ∃ n:List UInt8,e=.returned (.string ⟨n.toArray⟩)∧But P w w'∧((q=none∧n=[]∧RBad P w' d)∨∃ r,q=some (n,r)∧RS w' P r d 0):=by
 obtain ⟨h1,h2⟩:=h
 cases q with
 | none=>exact ⟨[],h2.1,h1,.inl ⟨rfl,rfl,h2.2⟩⟩
 | some p=>exact ⟨p.1,h2.1,h1,.inr ⟨p.2,rfl,h2.2⟩⟩
theorem tH (P d:Nat) (t:Tok) (r:List Tok) (w:World) (h:RS w P (t::r) d 0) (hk2:t.k≠2) (hk3:t.k≠3) (f0:isF bS (t::r)=false) (f1:isF dJ (t::r)=false) (f2:isF cH (t::r)=false) (f3:isF [40] (t::r)=false) (f4:isF bF (t::r)=false) (f5:isF fI (t::r)=false) (f6:isF gM (t::r)=false) (f7:isF iX (t::r)=false) (hd:d≤40) :
 Calls prog 134 #[.pointer (some ⟨P,0,none⟩)] w (RPost P w d (pX 8 d (t::r))):=by
 have hq:pX 8 d (t::r)=kQ (t::r):=by rw [cU,dP,if_neg hk2,if_neg hk3,if_neg (by rw [f0];decide),if_neg (by rw [f1];decide),if_neg (by rw [f2];decide),if_neg (by rw [f3];decide),if_neg (by rw [f4,f5,f6,f7];decide)]
 have HQ0:=κ hq
 have e1:(t.k==2)=false:=η hk2
 have e2:(t.k==3)=false:=η hk3
 clear hk2 hk3 hq
 have hP:=h.lt
 have hb0:Below w.heap.size w (w.alloc (.cells rcZ.cells.toArray 60)):=ρ
 have hz0:=heap_alloc_new w (.cells rcZ.cells.toArray 60)
 have H0:=κ (ι (h.below hb0) (ι hb0 hz0))
 obtain ⟨A,c,i,h1,h2,h3⟩:=h.below hb0
 have hc0:=β h1 0
 have hc1:=β h1 1
 obtain ⟨b,off,rfl,hlt,k0,k1,k2⟩:=h2.front
 obtain ⟨n,hn⟩:∃ n,i+(t::r).length=n:=⟨_,rfl⟩
 rw [hn] at hc0
 have hin:(i:Int)<(n:Int):=by simp at hn;omega
 have hinN:i<n:=by simp at hn;omega
 have hin0:(0:Int)≤(i:Int):=by omega
 have hlt2:¬(n:Int)≤(i:Int):=by omega
 have hltN:¬n≤i:=by omega
 simp only [RC.cells,rcZ] at hc0 hc1 k0 k1 k2
 clear h hb0 hz0 h1 h2 h3 hn
 go_enter func134,ntmps134
 go_wp2_with fail
 go_quiet (fail)
 go_wp2_with fail
 obtain ⟨k0a,k1a,k2a,h0a,h1a⟩:=eJ (nq+1) (.cells #[.int .u8 0,.string ⟨#[]⟩,.int .i64 0] 173) k0 k1 k2 hc0 hc1
 go_region
 have hA0:=fV (P:=P) t H0.out.2.1 H0.out.2.2 (World.size_alloc _ _) (nq+1)
 have hp0:=(H0.out.1.drawn (w':=(w.alloc (.cells rcZ.cells.toArray 60)).drewN (nq+1)) ⟨nq+1,rfl⟩).below ((θ).alloc (ν _) (.cells #[.int .u8 t.k,.string ⟨t.s.toArray⟩,.int .i64 t.n] 173))
 simp only [RC.cells,rcZ] at hA0 hp0
 have HA:=κ hA0
 have HP:=κ hp0
 clear hA0 hp0 k0a k1a k2a h0a h1a hc0 hc1 k0 k1 k2 H0 hin hinN hin0 hlt2 hltN
 generalize ((w.alloc (.cells #[.int .u8 0,.int .u8 0,.int .i64 0,.string ⟨#[]⟩,.bool false,.string ⟨#[]⟩,.string ⟨#[]⟩,.slice none 0 0] 60)).drewN (nq+1)).alloc (.cells #[.int .u8 t.k,.string ⟨t.s.toArray⟩,.int .i64 t.n] 173)=v0 at *
 have tk:=HA.out.cells.2.2.1
 have HI:=κ (aJ P d 0 (t::r) ⟨#[110,117,108,108]⟩ v0 HP.out false (by rw [show (⟨#[110,117,108,108]⟩:ByteArray).data.toList=bS from rfl,f0];rfl))
 go_wp2_with fail
 refine μ HI ?_
 rintro e v1 ⟨rfl,hb,hp⟩
 simp only [φ,if_false] at hp
 replace HA:=κ (HA.out.but hb hP)
 replace HP:=κ hp
 clear hb hp HI
 clear tk
 have HI:=κ (aJ P d 0 (t::r) ⟨#[116,114,117,101]⟩ v1 HP.out false (by rw [show (⟨#[116,114,117,101]⟩:ByteArray).data.toList=dJ from rfl,f1];rfl))
 go_wp2_with fail
 refine μ HI ?_
 rintro e v2 ⟨rfl,hb,hp⟩
 simp only [φ,if_false] at hp
 replace HA:=κ (HA.out.but hb hP)
 replace HP:=κ hp
 clear hb hp HI
 have HI:=κ (aJ P d 0 (t::r) ⟨#[102,97,108,115,101]⟩ v2 HP.out false (by rw [show (⟨#[102,97,108,115,101]⟩:ByteArray).data.toList=cH from rfl,f2];rfl))
 go_wp2_with fail
 refine μ HI ?_
 rintro e v3 ⟨rfl,hb,hp⟩
 simp only [φ,if_false] at hp
 replace HA:=κ (HA.out.but hb hP)
 replace HP:=κ hp
 clear hb hp HI
 have HI:=κ (bI P d 0 (t::r) ⟨#[40]⟩ v3 HP.out false (by rw [show (⟨#[40]⟩:ByteArray).data.toList=[40] from rfl,f3];rfl))
 go_wp2_with fail
 refine μ HI ?_
 rintro e v4 ⟨rfl,hd1⟩
 replace HA:=κ (HA.out.but hd1.but hP)
 replace HP:=κ (HP.out.drawn hd1)
 clear hd1 HI
 have HI:=κ (bI P d 0 (t::r) ⟨#[99,111,117,110,116]⟩ v4 HP.out false (by rw [show (⟨#[99,111,117,110,116]⟩:ByteArray).data.toList=bF from rfl,f4];rfl))
 go_wp2_with fail
 refine μ HI ?_
 rintro e v5 ⟨rfl,hd1⟩
 replace HA:=κ (HA.out.but hd1.but hP)
 replace HP:=κ (HP.out.drawn hd1)
 clear hd1 HI
 have HI:=κ (bI P d 0 (t::r) ⟨#[115,117,109]⟩ v5 HP.out false (by rw [show (⟨#[115,117,109]⟩:ByteArray).data.toList=fI from rfl,f5];rfl))
 go_wp2_with fail
 refine μ HI ?_
 rintro e v6 ⟨rfl,hd1⟩
 replace HA:=κ (HA.out.but hd1.but hP)
 replace HP:=κ (HP.out.drawn hd1)
 clear hd1 HI
 have HI:=κ (bI P d 0 (t::r) ⟨#[109,105,110]⟩ v6 HP.out false (by rw [show (⟨#[109,105,110]⟩:ByteArray).data.toList=gM from rfl,f6];rfl))
 go_wp2_with fail
 refine μ HI ?_
 rintro e v7 ⟨rfl,hd1⟩
 replace HA:=κ (HA.out.but hd1.but hP)
 replace HP:=κ (HP.out.drawn hd1)
 clear hd1 HI
 have HI:=κ (bI P d 0 (t::r) ⟨#[109,97,120]⟩ v7 HP.out false (by rw [show (⟨#[109,97,120]⟩:ByteArray).data.toList=iX from rfl,f7];rfl))
 go_wp2_with fail
 refine μ HI ?_
 rintro e v8 ⟨rfl,hd1⟩
 replace HA:=κ (HA.out.but hd1.but hP)
 replace HP:=κ (HP.out.drawn hd1)
 clear hd1 HI
 have HNm:=κ (nT P d (t::r) v8 HP.out (by omega))
 go_wp2_with fail
 refine μ HNm ?_
 rintro e u1 hn1
 obtain ⟨n1,rfl,hb1,hcase⟩:=hn1.open_
 have hA1:=HA.out.but hb1 hP
 have hG:w.heap.size<u1.heap.size:=by have:=hA1.lt;omega
 have hbG:Below u1.heap.size u1 (u1.alloc (.cells #[.int .u8 2,.int .u8 0,.int .i64 0,.string ⟨#[]⟩,.bool false,.string ⟨#[]⟩,.string ⟨n1.toArray⟩,.slice none 0 0] 60)):=ρ
 have hL2:Lev w.heap.size u1.heap.size P w (u1.alloc (.cells #[.int .u8 2,.int .u8 0,.int .i64 0,.string ⟨#[]⟩,.bool false,.string ⟨#[]⟩,.string ⟨n1.toArray⟩,.slice none 0 0] 60)) (rcC [] n1):=hA1.lev (rcC [] n1)
 have HL:=κ hL2
 clear hn1 hb1 hA1 hL2 HNm HA HP
 rcases hcase with ⟨hq1,rfl,hbad⟩|⟨r1,hq1,hp1⟩
 ·have HQ:=κ (show pX 8 d (t::r)=none by rw [HQ0.out,kQ,hq1])
  have HPs:=κ (tN ⟨#[46]⟩ P d _ (hbad.below hbG))
  clear hq1 hbad hbG HQ0
  go_wp2_with fail
  refine μ HPs ?_
  rintro e u2 ⟨rfl,hb2,hbad2⟩
  have hLF:=HL.out.but hb2 hP hG
  have HE:=κ (cT (rcC [] []) hLF.b rfl hP hbad2 HQ.out)
  clear hb2 hbad2 HPs HL
  obtain ⟨⟨⟨a0,a1,a2,a3,a4,a5,a6,a7,a8,a9⟩,c0⟩,c1,z0,z1⟩:=hLF.cells
  obtain ⟨rz,hz⟩:=hLF.z
  have hcE:=β (aM (rcC [] []) hz)
  simp only [RC.cells,rcC] at c0 c1
  clear hLF hz 
  go_wp2
  change bodyPost _ _ _ _ _ (put8 _ w.heap.size (rcC [] []))
  generalize put8 _ w.heap.size (rcC [] [])=WE at *
  simp only [RC.cells,rcC] at hcE
  exact bodyPost_ret (v:=RC.val (rcC [] [])) (by simp [results,results134,go_sem,hcE,RC.val,rcC]) rfl HE.out
 ·cases hw:isF [46] r1
  ·have HQ:=κ (show pX 8 d (t::r)=some (.col [] n1,r1) by rw [HQ0.out,kQ,hq1];show (if isF [46] r1=true then _ else _)=_;rw [hw];rfl)
   have HPs:=κ (aJ P d 0 r1 ⟨#[46]⟩ _ (hp1.below hbG) false (by rw [show (⟨#[46]⟩:ByteArray).data.toList=[46] from rfl,hw];rfl))
   clear hq1 hp1 hbG HQ0 hw
   go_wp2_with fail
   refine μ HPs ?_
   rintro e u2 ⟨rfl,hb2,hp2⟩
   simp only [φ,if_false] at hp2
   have hLF:=HL.out.but hb2 hP hG
   have HE:=κ (eM (rcC [] n1) hLF.b rfl hP (S:=fun g=>w.heap.size<g) (fun _ h=>h) (show RX _ _ (.col [] n1) (rcC [] n1) from rfl) hp2 HQ.out)
   clear hb2 hp2 HPs HL
   obtain ⟨⟨⟨a0,a1,a2,a3,a4,a5,a6,a7,a8,a9⟩,c0⟩,c1,z0,z1⟩:=hLF.cells
   obtain ⟨rz,hz⟩:=hLF.z
   have hcE:=β (aM (rcC [] n1) hz)
   simp only [RC.cells,rcC] at c0 c1
   clear hLF hz 
   go_wp2
   change bodyPost _ _ _ _ _ (put8 _ w.heap.size (rcC [] n1))
   generalize put8 _ w.heap.size (rcC [] n1)=WE at *
   simp only [RC.cells,rcC] at hcE
   exact bodyPost_ret (v:=RC.val (rcC [] n1)) (by simp [results,results134,go_sem,hcE,RC.val,rcC]) rfl HE.out
  ·have HQ1:=κ (show pX 8 d (t::r)=(match aZ r1.tail with|none=>none|some (m,r2)=>some (.col n1 m,r2)) by rw [HQ0.out,kQ,hq1];show (if isF [46] r1=true then _ else _)=_;rw [if_pos hw];cases aZ r1.tail<;>rfl)
   have HPs:=κ (aJ P d 0 r1 ⟨#[46]⟩ _ (hp1.below hbG) true (by rw [show (⟨#[46]⟩:ByteArray).data.toList=[46] from rfl,hw];rfl))
   clear hq1 hp1 hbG HQ0 hw
   go_wp2_with fail
   refine μ HPs ?_
   rintro e u2 ⟨rfl,hb2,hp2⟩
   simp only [if_true] at hp2
   have hL3:=HL.out.but hb2 hP hG
   have hL4:=hL3.setT rfl hG n1
   have HNm:=κ (nT P d r1.tail _ (hp2.far (g:=u1.heap.size) (o:=5) (v:=.string ⟨n1.toArray⟩) (by omega)) (by omega))
   obtain ⟨-,d1, -,y1⟩:=hL3.cells
   simp only [RC.cells,rcC] at d1
   have HL4:=κ hL4
   clear hb2 hp2 HPs HL hL3 hL4
   go_wp2_with fail
   refine μ HNm ?_
   rintro e u3 hn3
   obtain ⟨n3,rfl,hb3,hcase⟩:=hn3.open_
   have hL5:=HL4.out.but hb3 hP hG
   have hLF:=hL5.setS rfl hG n3
   obtain ⟨-,d3, -,y3⟩:=hL5.cells
   simp only [RC.cells,rcC] at d3
   clear hn3 hb3 HL4 HNm d1 y1 hL5
   rcases hcase with ⟨hq3,rfl,hbad⟩|⟨r2,hq3,hp3⟩
   ·have HQ:=κ (show pX 8 d (t::r)=none by rw [HQ1.out,hq3])
    have HE:=κ (cT (rcC n1 []) hLF.b rfl hP (hbad.far (g:=u1.heap.size) (o:=6) (v:=.string ⟨([]:List UInt8).toArray⟩) (by omega)) HQ.out)
    clear hq3 hbad HQ1
    obtain ⟨⟨⟨a0,a1,a2,a3,a4,a5,a6,a7,a8,a9⟩,c0⟩,c1,z0,z1⟩:=hLF.cells
    obtain ⟨rz,hz⟩:=hLF.z
    have hcE:=β (aM (rcC n1 []) hz)
    simp only [RC.cells,rcC] at c0 c1
    clear hLF hz 
    go_wp2
    change bodyPost _ _ _ _ _ (put8 _ w.heap.size (rcC n1 []))
    generalize put8 _ w.heap.size (rcC n1 [])=WE at *
    simp only [RC.cells,rcC] at hcE
    exact bodyPost_ret (v:=RC.val (rcC n1 [])) (by simp [results,results134,go_sem,hcE,RC.val,rcC]) rfl HE.out
   ·have HQ:=κ (show pX 8 d (t::r)=some (.col n1 n3,r2) by rw [HQ1.out,hq3])
    have HE:=κ (eM (rcC n1 n3) hLF.b rfl hP (S:=fun g=>w.heap.size<g) (fun _ h=>h) (show RX _ _ (.col n1 n3) (rcC n1 n3) from rfl) (hp3.far (g:=u1.heap.size) (o:=6) (v:=.string ⟨n3.toArray⟩) (by omega)) HQ.out)
    clear hq3 hp3 HQ1
    obtain ⟨⟨⟨a0,a1,a2,a3,a4,a5,a6,a7,a8,a9⟩,c0⟩,c1,z0,z1⟩:=hLF.cells
    obtain ⟨rz,hz⟩:=hLF.z
    have hcE:=β (aM (rcC n1 n3) hz)
    simp only [RC.cells,rcC] at c0 c1
    clear hLF hz 
    go_wp2
    change bodyPost _ _ _ _ _ (put8 _ w.heap.size (rcC n1 n3))
    generalize put8 _ w.heap.size (rcC n1 n3)=WE at *
    simp only [RC.cells,rcC] at hcE
    exact bodyPost_ret (v:=RC.val (rcC n1 n3)) (by simp [results,results134,go_sem,hcE,RC.val,rcC]) rfl HE.out
theorem Is (P d n:Nat) (hd:d≤40) (HE:d+1≤40→∀ m,m<n→RvOk 1 P (d+1) m) (W:World) (l:List Tok) (hl:l.length≤n) (h:RS W P l d 0) :
 Calls prog 134 #[.pointer (some ⟨P,0,none⟩)] W (RPost P W d (pX 8 d l)):=by
 cases l with
 | nil =>
   rw [cU,Ok]
   exact Ir P d W h (by omega)
 | cons t r =>
   have hE:d+1≤40→RvOk 1 P (d+1) r.length:=fun h40=>HE h40 r.length (by simp at hl;omega)
   by_cases h2:t.k=2
   ·exact Iq P d t r W h h2
   by_cases h3:t.k=3
   ·exact Ip P d t r W h h3
   cases f0:isF bS (t::r) with
   | true=>exact Em P d t r W h h2 h3 f0
   | false =>
   cases f1:isF dJ (t::r) with
   | true=>exact El P d t r W h h2 h3 f0 f1
   | false =>
   cases f2:isF cH (t::r) with
   | true=>exact Bc P d t r W h h2 h3 f0 f1 f2
   | false =>
   by_cases h40:d+1≤40
   ·cases f3:isF [40] (t::r) with
    | true=>exact rR P d t r W h h2 h3 f0 f1 f2 f3 h40 (hE h40)
    | false =>
    cases f4:isF bF (t::r) with
    | true=>exact rS P d t r W h h2 h3 f0 f1 f2 f3 f4 h40 (hE h40)
    | false =>
    cases f5:isF fI (t::r) with
    | true=>exact vS P d t r W h h2 h3 f0 f1 f2 f3 f4 f5 h40 (hE h40)
    | false =>
    cases f6:isF gM (t::r) with
    | true=>exact vT P d t r W h h2 h3 f0 f1 f2 f3 f4 f5 f6 h40 (hE h40)
    | false =>
    cases f7:isF iX (t::r) with
    | true=>exact vU P d t r W h h2 h3 f0 f1 f2 f3 f4 f5 f6 f7 h40 (hE h40)
    | false=>exact tH P d t r W h h2 h3 f0 f1 f2 f3 f4 f5 f6 f7 hd
   ·have hn:40<d+1:=by omega
    cases f3:isF [40] (t::r) with
    | true=>exact tG P d t r W h h2 h3 f0 f1 f2 f3 hn (by omega)
    | false =>
    cases f4:isF bF (t::r) with
    | true=>exact tI P d t r W h h2 h3 f0 f1 f2 f3 f4 hn (by omega)
    | false =>
    cases f5:isF fI (t::r) with
    | true=>exact yF P d t r W h h2 h3 f0 f1 f2 f3 f4 f5 hn (by omega)
    | false =>
    cases f6:isF gM (t::r) with
    | true=>exact yG P d t r W h h2 h3 f0 f1 f2 f3 f4 f5 f6 hn (by omega)
    | false =>
    cases f7:isF iX (t::r) with
    | true=>exact yH P d t r W h h2 h3 f0 f1 f2 f3 f4 f5 f6 f7 hn (by omega)
    | false=>exact tH P d t r W h h2 h3 f0 f1 f2 f3 f4 f5 f6 f7 hd
structure AllR (P d n:Nat):Prop where
 e1:RvOk 1 P d n
 e3:RvOk 3 P d n
 e7:RvOk 7 P d n
theorem yA (P:Nat):∀ (n d:Nat),d≤40→AllR P d n:=by
 intro n
 induction n using Nat.strongRecOn with
 | _ n ih =>
   intro d hd
   have h8:=Ze P d n (Is P d n hd (fun h40 m hm=>(ih m hm (d+1) h40).e1))
   have h7:=Zf P d n hd h8 (fun h40 m hm=>(ih m hm (d+1) h40).e7)
   have h4:=Zi P d n (by omega) (Zh P d n (Zg P d n h7))
   have h3:=Zj P d n hd h4 (fun h40 m hm=>(ih m hm (d+1) h40).e3)
   exact ⟨Zl P d n (Zk P d n h3),h3,h7⟩
def vG (P:Nat) (w:World) (q:Option (Lp.X×List Tok)) (g:Nat) (rr:RC) (w':World):Prop :=
 But P w w'∧w.heap.size≤g∧w'.heap[g]? = some (.cells rr.cells.toArray 60 (0,0))∧match q with
 | none=>RBad P w' 0
 | some (x,r)=>RX (fun k=>w.heap.size≤k) w' x rr∧RS w' P r 0 0
theorem Hl {P:Nat} {w w1 v:World} {q:Option (Lp.X×List Tok)} {rr:RC} (hb:But P w w1) (h:RPostR P w1 0 q rr v):vG P w q v.heap.size rr (v.alloc (.cells rr.cells.toArray 60)):=by
 have hb2:Below v.heap.size v (v.alloc (.cells rr.cells.toArray 60)):=ρ
 obtain ⟨h1,h2⟩:=h
 refine ⟨(hb.trans h1).trans (But.of hb2),(hb.trans h1).size,heap_alloc_new v _, ?_⟩
 cases q with
 | none=>exact RBad.below h2 hb2
 | some p=>exact ⟨RX.mono (fun g hg _=>Nat.le_trans hb.size hg) (RX.below hb2 h2.1),h2.2.below hb2⟩
theorem tD (P:Nat) (l:List Tok) (w:World) (h:RS w P l 0 0) (hf:isF [119,104,101,114,101] l=true) :
 Calls prog 86 #[.pointer (some ⟨P,0,none⟩)] w fun e w'=>∃ g rr,e=.returned (.slice (some ⟨g,0,none⟩) 1 1)∧vG P w (pX 1 0 l.tail) g rr w':=by
 have HI:=κ (aJ P 0 0 l ⟨#[119,104,101,114,101]⟩ w h true (by rw [show (⟨#[119,104,101,114,101]⟩:ByteArray).data.toList=[119,104,101,114,101] from rfl,hf];rfl))
 clear h hf
 go_enter func86,ntmps86
 go_wp2_with fail
 refine μ HI ?_
 rintro e w1 ⟨rfl,hb1,hp1⟩
 simp only [if_true] at hp1
 have HC:=κ (show Calls prog 85 #[.pointer (some ⟨P,0,none⟩),.int .i64 1] _ _ from (yA P l.tail.length 0 (by omega)).e1 w1 l.tail (ν _) hp1)
 clear hp1
 go_wp2_with fail
 refine μ HC ?_
 rintro e w2 hq
 obtain ⟨⟨k,vk,vi,vs,vb,tt,ss,A,nn,c⟩,rfl,hq2⟩:=hq.open_
 simp only [RC.val]
 have HZ:=κ (Hl hb1 hq2)
 clear hq hq2 hb1 HC
 go_wp2
 go_ret
 exact ⟨_,_,rfl,HZ.out⟩
def stC (k:Int) (tb:List UInt8) (A:Option Addr) (n:Nat):List Value:=[.int .u8 k,.string ⟨#[]⟩,.string ⟨tb.toArray⟩,.string ⟨#[]⟩,.slice none 0 0,.slice none 0 0,.slice none 0 0,.slice none 0 0,.slice none 0 0,.slice A n n,.slice none 0 0,.slice none 0 0,.int .i64 0]
def stZ:List Value:=stC 0 [] none 0
def dW (w:World) (g:Nat) (k:Int) (tb:List UInt8) (A:Option Addr) (n:Nat):World :=
 ((((((((((((w.setCell ⟨g,0,none⟩ (.int .u8 k)).setCell ⟨g,1,none⟩ (.string ⟨#[]⟩)).setCell ⟨g,2,none⟩ (.string ⟨tb.toArray⟩)).setCell ⟨g,3,none⟩ (.string ⟨#[]⟩)).setCell ⟨g,4,none⟩ (.slice none 0 0)).setCell ⟨g,5,none⟩ (.slice none 0 0)).setCell ⟨g,6,none⟩ (.slice none 0 0)).setCell ⟨g,7,none⟩ (.slice none 0 0)).setCell ⟨g,8,none⟩ (.slice none 0 0)).setCell ⟨g,9,none⟩ (.slice A n n)).setCell ⟨g,10,none⟩ (.slice none 0 0)).setCell ⟨g,11,none⟩ (.slice none 0 0)).setCell ⟨g,12,none⟩ (.int .i64 0)
theorem aAG (a0 a1 a2 a3 a4 a5 a6 a7 a8 a9 a10 a11 a12 b0 b1 b2 b3 b4 b5 b6 b7 b8 b9 b10 b11 b12:Value):(((((((((((((#[a0,a1,a2,a3,a4,a5,a6,a7,a8,a9,a10,a11,a12].setIfInBounds 0 b0).setIfInBounds 1 b1).setIfInBounds 2 b2).setIfInBounds 3 b3).setIfInBounds 4 b4).setIfInBounds 5 b5).setIfInBounds 6 b6).setIfInBounds 7 b7).setIfInBounds 8 b8).setIfInBounds 9 b9).setIfInBounds 10 b10).setIfInBounds 11 b11).setIfInBounds 12 b12)=#[b0,b1,b2,b3,b4,b5,b6,b7,b8,b9,b10,b11,b12]:=by simp
theorem iH {w:World} {g:Nat} {k0:Int} {tb0:List UInt8} {A0:Option Addr} {n0:Nat} {t:TypeId} (k:Int) (tb:List UInt8) (A:Option Addr) (n:Nat) (h:w.heap[g]? = some (.cells (stC k0 tb0 A0 n0).toArray t (0,0))):(dW w g k tb A n).heap[g]? = some (.cells (stC k tb A n).toArray t (0,0)):=by
 change w.heap[g]? = some (.cells #[.int .u8 k0,.string ⟨#[]⟩,.string ⟨tb0.toArray⟩,.string ⟨#[]⟩,.slice none 0 0,.slice none 0 0,.slice none 0 0,.slice none 0 0,.slice none 0 0,.slice A0 n0 n0,.slice none 0 0,.slice none 0 0,.int .i64 0] t (0,0)) at h
 have h1:=heap_setCell_same _ g 0 _ _ (.int .u8 k) h
 have h2:=heap_setCell_same _ g 1 _ _ (.string ⟨#[]⟩) h1
 have h3:=heap_setCell_same _ g 2 _ _ (.string ⟨tb.toArray⟩) h2
 have h4:=heap_setCell_same _ g 3 _ _ (.string ⟨#[]⟩) h3
 have h5:=heap_setCell_same _ g 4 _ _ (.slice none 0 0) h4
 have h6:=heap_setCell_same _ g 5 _ _ (.slice none 0 0) h5
 have h7:=heap_setCell_same _ g 6 _ _ (.slice none 0 0) h6
 have h8:=heap_setCell_same _ g 7 _ _ (.slice none 0 0) h7
 have h9:=heap_setCell_same _ g 8 _ _ (.slice none 0 0) h8
 have h10:=heap_setCell_same _ g 9 _ _ (.slice A n n) h9
 have h11:=heap_setCell_same _ g 10 _ _ (.slice none 0 0) h10
 have h12:=heap_setCell_same _ g 11 _ _ (.slice none 0 0) h11
 have h13:=heap_setCell_same _ g 12 _ _ (.int .i64 0) h12
 rw [aAG] at h13
 unfold dW
 rw [h13]
 rfl
theorem iG {w:World} {g j:Nat} {k:Int} {tb:List UInt8} {A:Option Addr} {n:Nat} (h:j≠g):(dW w g k tb A n).heap[j]? = w.heap[j]? := by
 unfold dW
 simp only [fun (w:World) (o:Nat) (v:Value)=>Below.heap_setCell w ⟨g,o,none⟩ v j h]
theorem wP {P:Nat} {a w:World} {g:Nat} {k:Int} {tb:List UInt8} {A:Option Addr} {n:Nat} (h:But P a w) (hg:a.heap.size≤g):But P a (dW w g k tb A n):=by
 unfold dW
 exact bK (bK (bK (bK (bK (bK (bK (bK (bK (bK (bK (bK (bK h hg _ _) hg _ _) hg _ _) hg _ _) hg _ _) hg _ _) hg _ _) hg _ _) hg _ _) hg _ _) hg _ _) hg _ _) hg _ _
theorem tL {w:World} {P d g:Nat} {bad:Int} {l:List Tok} {k:Int} {tb:List UInt8} {A:Option Addr} {n:Nat} (h:RS w P l d bad) (hP:P<g):RS (dW w g k tb A n) P l d bad:=by
 obtain ⟨A0,c,i,h1,h2,h3⟩:=h
 refine ⟨A0,c,i,(iG (by omega)).trans h1, ?_,h3⟩
 rcases h2 with rfl|⟨b,off,hA,hlt,hc⟩
 ·exact .inl rfl
 ·exact .inr ⟨b,off,hA,hlt,fun j u hu=>(World.cell?_of_block (w:=w) (iG (by show b≠g;omega))).trans (hc j u hu)⟩
structure StS (B P:Nat) (w0 w:World) (k:Int) (tb:List UInt8) (A:Option Addr) (n:Nat):Prop where
 b:But P w0 w
 z:w.heap[B]? = some (.cells stZ.toArray 38 (0,0))
 x:w.heap[B+1]? = some (.cells (stC k tb A n).toArray 38 (0,0))
theorem Tg (P:Nat) (w:World):StS w.heap.size P w ((w.alloc (.cells stZ.toArray 38)).alloc (.cells stZ.toArray 38)) 0 [] none 0:=by
 refine ⟨But.of ((ρ).alloc (by simp) _),aC (heap_alloc_new w _) _, ?_⟩
 have:=heap_alloc_new (w.alloc (.cells stZ.toArray 38)) (.cells stZ.toArray 38)
 rwa [World.size_alloc] at this
theorem StS.but {B P:Nat} {w0 w w':World} {k:Int} {tb:List UInt8} {A:Option Addr} {n:Nat} (h:StS B P w0 w k tb A n) (hb:But P w w') (hP:P<B):StS B P w0 w' k tb A n :=
 ⟨h.b.trans hb,aO hb h.z (by omega),aO hb h.x (by omega)⟩
theorem StS.cells {B P:Nat} {w0 w:World} {k:Int} {tb:List UInt8} {A:Option Addr} {n:Nat} (h:StS B P w0 w k tb A n):(∀ j,w.cell? ⟨B,j,none⟩=stZ.toArray[j]?)∧(∀ j,w.cell? ⟨B+1,j,none⟩=(stC k tb A n).toArray[j]?)∧(∀ j,w.frozen? ⟨B,j,none⟩=false)∧(∀ j,w.frozen? ⟨B+1,j,none⟩=false) :=
 ⟨β h.z,β h.x,fun j=>frozen_of_row w _ j _ _ h.z,fun j=>frozen_of_row w _ j _ _ h.x⟩
theorem StS.put {B P:Nat} {w0 w:World} {k:Int} {tb:List UInt8} {A:Option Addr} {n:Nat} (h:StS B P w0 w k tb A n) (hB:w0.heap.size≤B) (k2:Int) (tb2:List UInt8) (A2:Option Addr) (n2:Nat):StS B P w0 (dW w (B+1) k2 tb2 A2 n2) k2 tb2 A2 n2 :=
 ⟨wP h.b (by omega),(iG (by omega)).trans h.z,iH k2 tb2 A2 n2 h.x⟩
theorem StS.wh {B P:Nat} {w0 w:World} {k:Int} {tb:List UInt8} (h:StS B P w0 w k tb none 0) (hB:w0.heap.size≤B) (g n:Nat):StS B P w0 (w.setCell ⟨B+1,9,none⟩ (.slice (some ⟨g,0,none⟩) n n)) k tb (some ⟨g,0,none⟩) n:=by
 refine ⟨bK h.b (by omega) _ _,(Below.heap_setCell w ⟨B+1,9,none⟩ _ B (by show B≠B+1;omega)).trans h.z, ?_⟩
 have:=heap_setCell_same w (B+1) 9 _ _ (.slice (some ⟨g,0,none⟩) n n) h.x
 rw [this]
 simp [stC]
def stV (k:Int) (tb:List UInt8) (A:Option Addr) (n:Nat):Value:=.agg #[.int .u8 k,.string ⟨#[]⟩,.string ⟨tb.toArray⟩,.string ⟨#[]⟩,.slice none 0 0,.slice none 0 0,.slice none 0 0,.slice none 0 0,.slice none 0 0,.slice A n n,.slice none 0 0,.slice none 0 0,.int .i64 0]
def Zu (P:Nat) (w:World) (q:Option (Lp.X×List Tok)) (e:Ending) (w':World):Prop :=
 ∃ g rr,e=.returned (stV 7 [116] (some ⟨g,0,none⟩) 1)∧vG P w q g rr w'
theorem Ye {B P:Nat} {w0 v v2:World} {q:Option (Lp.X×List Tok)} {g:Nat} {rr:RC} (hB:w0.heap.size=B) (hP:P<B) (hb0:But P w0 v) (hv:B+2≤v.heap.size) (h:vG P v q g rr v2) :
 vG P w0 q g rr (dW (v2.setCell ⟨B+1,9,none⟩ (.slice (some ⟨g,0,none⟩) 1 1)) B 7 [116] (some ⟨g,0,none⟩) 1):=by
 obtain ⟨h1,h2,h3,h4⟩:=h
 refine ⟨wP (bK (hb0.trans h1) (by omega) _ _) (by omega),by omega, ?_, ?_⟩
 ·rw [iG (by omega),Below.heap_setCell _ _ _ _ (by show g≠B+1;omega)]
  exact h3
 ·cases q with
  | none =>
    obtain ⟨l',d',b',g0,g1,g2,g3⟩:=RBad.far (g:=B+1) (o:=9) (v:=.slice (some ⟨g,0,none⟩) 1 1) h4 (show P<B+1 by omega)
    exact ⟨l',d',b',g0,tL g1 hP,g2,g3⟩
  | some p =>
    obtain ⟨x,r⟩:=p
    refine ⟨RX.turn (fun k cs hk hc=>⟨?_, ?_⟩) h4.1,tL (h4.2.far (by omega)) hP⟩
    ·have:v.heap.size≤k:=hk
     show w0.heap.size≤k
     omega
    ·have:v.heap.size≤k:=hk
     rw [iG (by omega),Below.heap_setCell _ _ _ _ (by show k≠B+1;omega)]
     exact hc
theorem Ic (P:Nat) (L:List Tok) (w:World) (h:RS w P (oA++L) 0 0) :
 Calls prog 33 #[.pointer (some ⟨P,0,none⟩)] w (Zu P w (pX 1 0 L)):=by
 have hP:=h.lt
 have hS:=Tg P w
 have hp:=h.below (((Below.refl w.heap.size w).alloc (ν _) (.cells stZ.toArray 38)).alloc (by simp) (.cells stZ.toArray 38))
 have HS:=κ hS
 have HP:=κ hp
 have HI:=κ (aJ P 0 0 (oA++L) ⟨#[99,114,101,97,116,101]⟩ _ HP.out false rfl)
 clear h hS hp
 go_enter func33,ntmps33
 go_wp2_with fail
 refine μ HI ?_
 rintro e v0 ⟨rfl,hb,hp⟩
 simp only [φ,if_false] at hp
 replace HS:=κ (HS.out.but hb hP)
 replace HP:=κ hp
 clear hb hp HI
 have HI:=κ (aJ P 0 0 (oA++L) ⟨#[100,114,111,112]⟩ _ HP.out false rfl)
 go_wp2_with fail
 refine μ HI ?_
 rintro e v1 ⟨rfl,hb,hp⟩
 simp only [φ,if_false] at hp
 replace HS:=κ (HS.out.but hb hP)
 replace HP:=κ hp
 clear hb hp HI
 have HI:=κ (aJ P 0 0 (oA++L) ⟨#[105,110,115,101,114,116]⟩ _ HP.out false rfl)
 go_wp2_with fail
 refine μ HI ?_
 rintro e v2 ⟨rfl,hb,hp⟩
 simp only [φ,if_false] at hp
 replace HS:=κ (HS.out.but hb hP)
 replace HP:=κ hp
 clear hb hp HI
 have HI:=κ (aJ P 0 0 (oA++L) ⟨#[117,112,100,97,116,101]⟩ _ HP.out false rfl)
 go_wp2_with fail
 refine μ HI ?_
 rintro e v3 ⟨rfl,hb,hp⟩
 simp only [φ,if_false] at hp
 replace HS:=κ (HS.out.but hb hP)
 replace HP:=κ hp
 clear hb hp HI
 have HI:=κ (aJ P 0 0 (oA++L) ⟨#[100,101,108,101,116,101]⟩ _ HP.out true rfl)
 go_wp2_with fail
 refine μ HI ?_
 rintro e v4 ⟨rfl,hb,hp⟩
 simp only [if_true] at hp
 replace HS:=κ (HS.out.but hb hP)
 replace HP:=κ hp
 clear hb hp HI
 have HI:=κ (dB P 0 (oA++L).tail ⟨#[102,114,111,109]⟩ _ HP.out rfl)
 go_wp2_with fail
 refine μ HI ?_
 rintro e v5 ⟨rfl,hb,hp⟩
 replace HS:=κ (HS.out.but hb hP)
 replace HP:=κ hp
 clear hb hp HI
 have HI:=κ (nT P 0 (oA++L).tail.tail _ HP.out (by omega))
 go_wp2_with fail
 refine μ HI ?_
 rintro e v6 hn
 have hn2:But P v5 v6∧e=.returned (.string ⟨#[116]⟩)∧RS v6 P (⟨1,[119,104,101,114,101],0⟩::L) 0 0:=hn
 obtain ⟨hb,rfl,hp⟩:=hn2
 replace HS:=κ (HS.out.but hb hP)
 obtain ⟨-,c1, -,z1⟩:=HS.out.cells
 simp only [stC] at c1
 have hSp:=HS.out.put (ν _) 7 [116] none 0
 have hpp:=tL (k:=7) (tb:=[116]) (A:=none) (n:=0) hp (show P<w.heap.size+1 by omega)
 have hvs:w.heap.size+2≤(dW v6 (w.heap.size+1) 7 [116] none 0).heap.size:=by have:=aL hSp.x;omega
 obtain ⟨V,hV⟩:∃ V,dW v6 (w.heap.size+1) 7 [116] none 0=V:=⟨_,rfl⟩
 rw [hV] at hSp hpp hvs
 simp only [dW] at hV
 have HV:=κ hV
 replace HS:=κ hSp
 have HW:=κ (tD P (⟨1,[119,104,101,114,101],0⟩::L) V hpp rfl)
 clear hn hb hp hSp hpp hV HI HP
 go_wp2_with fail
 rw [HV.out]
 refine μ HW ?_
 rintro e v7 ⟨g,rr,rfl,hw⟩
 have hS7:=HS.out.but hw.1 hP
 have hS8:=hS7.wh (ν _) g 1
 have HE:=κ (Ye (q:=pX 1 0 L) rfl hP HS.out.b hvs hw)
 obtain ⟨c0,d1,z0,y1⟩:=hS8.cells
 obtain ⟨-,d7, -,y7⟩:=hS7.cells
 have hcE:=β (iH 7 [116] (some ⟨g,0,none⟩) 1 hS8.z)
 simp only [stC,stZ] at c0 d1 d7
 clear hw hS7 hS8 HS HV HW c1 z1
 go_wp2
 change bodyPost _ _ _ _ _ (dW _ w.heap.size 7 [116] (some ⟨g,0,none⟩) 1)
 generalize dW _ w.heap.size 7 [116] (some ⟨g,0,none⟩) 1=WE at *
 simp only [stC] at hcE
 exact bodyPost_ret (v:=stV 7 [116] (some ⟨g,0,none⟩) 1) (by simp [results,results33,go_sem,hcE,stV]) rfl ⟨g,rr,rfl,HE.out⟩
