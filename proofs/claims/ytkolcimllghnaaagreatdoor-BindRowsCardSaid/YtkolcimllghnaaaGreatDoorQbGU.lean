/-
 Contracts. Conditions: those of each.
-/
import Derived.Test.YtkolcimllghnaaaGreatDoorQbGF
import Derived.Test.YtkolcimllghnaaaGreatDoorQbGV
import Derived.Test.YtkolcimllghnaaaGreatDoorQbGS
set_option maxRecDepth 100000
set_option maxHeartbeats 8000000
namespace Go.Proofs.YtkolcimllghnaaaGreatDoor
open Lp Go.Proofs.Tryz
open Go.RowKit
def tT:List Tb:=[⟨[116],[⟨[97],1⟩,⟨[98],2⟩]⟩]
theorem Td (w:World):Calls prog 61 #[] w fun e w'=>∃ g,e=.returned (.slice (some ⟨g,0,none⟩) 1 1)∧ScM w' (some ⟨g,0,none⟩) tT∧Below w.heap.size w w':=by
 have hb0:Below w.heap.size w (w.alloc (.cells #[.string ⟨#[97]⟩,.int .u8 1,.string ⟨#[98]⟩,.int .u8 2] 116)):=ρ
 have hb1:Below w.heap.size w ((w.alloc (.cells #[.string ⟨#[97]⟩,.int .u8 1,.string ⟨#[98]⟩,.int .u8 2] 116)).alloc (.cells #[.string ⟨#[116]⟩,.slice (some ⟨w.heap.size,0,none⟩) 2 2] 50)):=hb0.alloc (by simp) _
 have hx0:=aC (heap_alloc_new w (.cells #[.string ⟨#[97]⟩,.int .u8 1,.string ⟨#[98]⟩,.int .u8 2] 116)) (.cells #[.string ⟨#[116]⟩,.slice (some ⟨w.heap.size,0,none⟩) 2 2] 50)
 have hx1:=bN w (.cells #[.string ⟨#[97]⟩,.int .u8 1,.string ⟨#[98]⟩,.int .u8 2] 116) (.cells #[.string ⟨#[116]⟩,.slice (some ⟨w.heap.size,0,none⟩) 2 2] 50)
 have hS:ScM ((w.alloc (.cells #[.string ⟨#[97]⟩,.int .u8 1,.string ⟨#[98]⟩,.int .u8 2] 116)).alloc (.cells #[.string ⟨#[116]⟩,.slice (some ⟨w.heap.size,0,none⟩) 2 2] 50)) (some ⟨w.heap.size+1,0,none⟩) tT:=by
  refine ⟨[(⟨[116],[⟨[97],1⟩,⟨[98],2⟩]⟩,some ⟨w.heap.size,0,none⟩,2)],rfl,bD _ hx1, ?_⟩
  intro p hp
  rw [List.mem_singleton] at hp
  subst hp
  exact bD _ hx0
 have HR:=κ (ι hS hb1)
 clear hb0 hb1 hx0 hx1 hS
 go_enter func61,ntmps61
 go_wp2
 go_ret
 exact ⟨_,rfl,HR.out.1,HR.out.2⟩
def wB (q:Option Lp.X):ByteArray:=match q with
 | none=>⟨#[]⟩
 | some x=>if (aD tT x false).2=0 then shB tT x else ⟨#[]⟩
def wC (q:Option Lp.X):Int:=match q with
 | none=>4
 | some x=>(aD tT x false).2
theorem Db:bW tT≤10000:=by decide
theorem Sc {q:Option Lp.X} (h:q=none):wB q=⟨#[]⟩∧wC q=4:=by subst h;exact ⟨rfl,rfl⟩
theorem Wp {q:Option Lp.X} {x:Lp.X} (h:q=some x) (hk:¬(aD tT x false).2=0):wB q=⟨#[]⟩∧wC q=(aD tT x false).2:=by
 subst h;exact ⟨if_neg hk,rfl⟩
theorem Wo {q:Option Lp.X} {x:Lp.X} (h:q=some x) (hk:(aD tT x false).2=0):wB q=shB tT x∧wC q=0:=by
 subst h;exact ⟨if_pos hk,hk⟩
theorem Wn (s:ByteArray) (w:World) (hT:dZ w) (hR:Resv w) (hL:LitT w) :
 Calls prog 23 #[.string s] w fun e w'=>e=.returned (.tuple #[.string (wB (dX (s.data.toList.take 600))),.int .i64 (wC (dX (s.data.toList.take 600)))])∧Below w.heap.size w w':=by
 have HC:=κ (vZ s w hT hR)
 have HL:=κ hL
 have hok:∀ x,dX (s.data.toList.take 600)=some x→x.wf∧x.size≤2000:=fun x h=>Rf (by rw [List.length_take];omega) h
 have HO:=κ hok
 generalize hq:dX (s.data.toList.take 600)=q at *
 clear hT hR hL hok hq
 go_enter func23,ntmps23
 go_wp2_with fail
 refine μ HC ?_
 rintro e w1 ⟨hb1,hc⟩
 cases q with
 | none =>
   obtain ⟨⟨k,vk,vi,vs,vb,tt,ss,A,nn,c⟩,rfl⟩:=hc
   have HB:=κ hb1
   obtain ⟨q1,q2⟩:=Sc (q:=none) rfl
   have Q1:=κ q1
   have Q2:=κ q2
   simp only [RC.val]
   clear hb1 HC q1 q2
   go_wp2
   go_ret2
   exact ⟨by rw [Q1.out,Q2.out];rfl,HB.out.alloc HB.out.size _⟩
 | some x =>
   obtain ⟨T,g,⟨k,vk,vi,vs,vb,tt,ss,A,nn,c⟩,rfl,hp, -⟩:=hc
   have hw:=HO.out x rfl
   simp only [RC.val]
   have hba:Below w1.heap.size w1 (w1.alloc (.cells #[.int .u8 k,.int .u8 vk,.int .i64 vi,.string vs,.bool vb,.string tt,.string ss,.slice A nn c] 60)):=ρ
   have HP:=κ (PX.mono (Nat.zero_le _) (PX.keep (aK hba) hp))
   have HB:=κ (hb1.trans (hba.mono hb1.size))
   have HW:=κ hw
   clear hp hba hb1 HC hw
   go_wp2_with fail
   refine (Td _).mono ?_
   rintro e w2 ⟨g2,rfl,hS,hb2⟩
   have HB2:=κ (HB.out.trans (hb2.mono HB.out.size))
   have HE:=κ (mB (some ⟨g2,0,none⟩) 1 tT false x (.iface T (.pointer (some ⟨g,0,none⟩))) w2 (by decide) Db HW.out.1 (PX.keep (aK hb2) HP.out) hS)
   clear hS hb2 HP HB
   go_wp2_with fail
   refine μ HE ?_
   rintro e w3 ⟨hb3,hr⟩
   have HB3:=κ (HB2.out.trans (hb3.mono HB2.out.size))
   by_cases hk:(aD tT x false).2=0
   ·rw [if_pos hk] at hr
    obtain ⟨g3,rfl,hnt⟩:=hr
    have HSh:=κ (sZ tT Db x HW.out.1 (by have:=HW.out.2;omega) _ w3 w3 g3 hnt (HL.out.below HB3.out) (θ))
    obtain ⟨q1,q2⟩:=Wo rfl hk
    have Q1:=κ q1
    have Q2:=κ q2
    clear hnt hb3 HB2 HE hk q1 q2
    go_wp2_with fail
    refine μ HSh ?_
    rintro e w4 ⟨rfl,hb4⟩
    have HB4:=κ (HB3.out.trans (hb4.mono HB3.out.size))
    clear hb4
    go_wp2
    go_ret2
    exact ⟨by rw [Q1.out,Q2.out];rfl,HB4.out⟩
   ·rw [if_neg hk] at hr
    subst hr
    obtain ⟨q1,q2⟩:=Wp rfl hk
    have Q1:=κ q1
    have Q2:=κ q2
    clear hb3 HB2 HE hk q1 q2
    generalize (aD tT x false).2=E at *
    go_wp2_with fail
    refine (Mn _).mono ?_
    rintro e w4 ⟨rfl,rfl⟩
    go_wp2
    go_ret2
    exact ⟨by rw [Q1.out,Q2.out];rfl,HB3.out⟩
theorem Vw:dX [97,32,43,32,49]=some (.bin [43] (.col [] [97]) (.lit 1 1 [] false)):=by kernel_rfl
theorem Vu:dX [98,32,43,32,49]=some (.bin [43] (.col [] [98]) (.lit 1 1 [] false)):=by kernel_rfl
theorem Zm:dX [120]=some (.col [] [120]):=by kernel_rfl
theorem Rc:dX [83,85,77,40,97,41]=some (.agg dN (.col [] [97])):=by kernel_rfl
theorem aAS:wB (dX [97,32,43,32,49])=⟨#[40,35,48,32,43,32,49,41]⟩∧wC (dX [97,32,43,32,49])=0:=by
 rw [Vw]
 have h0:Lib.itoa 0=[48]:=by
  have:=Lib.decDigits_one (i:=0) (by decide)
  show (if (0:Int)<0 then _ else Lib.decDigits (0:Int).toNat)=_
  rw [if_neg (by decide)];exact this
 have h1:Lib.itoa 1=[49]:=by
  have:=Lib.decDigits_one (i:=1) (by decide)
  show (if (1:Int)<0 then _ else Lib.decDigits (1:Int).toNat)=_
  rw [if_neg (by decide)];exact this
 have hf:gA tT [] [97]=some (0,1):=by decide
 have hk:aD tT (.bin [43] (.col [] [97]) (.lit 1 1 [] false)) false=(1,0):=by decide
 refine ⟨?_, ?_⟩
 ·unfold wB
  simp only [hk,if_true]
  apply iS
  simp [shB,eR,atX,hf,h0,vW,Lp.lit,h1]
 ·unfold wC
  simp only [hk]
theorem aBF:wC (dX [98,32,43,32,49])=8:=by rw [Vu];decide
theorem aBE:wC (dX [120])=6:=by rw [Zm];decide
theorem aBD:wC (dX [83,85,77,40,97,41])=3:=by rw [Rc];decide
theorem qC (s:ByteArray) (l:List UInt8) (T:ByteArray) (E:Int) (hl:s.data.toList.take 600=l) (h1:wB (dX l)=T) (h2:wC (dX l)=E) {w W:World} (hT:dZ w) (hR:Resv w) (hL:LitT w) (hb:Below w.heap.size w W) :
 Calls prog 23 #[.string s] W fun e w'=>e=.returned (.tuple #[.string T,.int .i64 E])∧Below w.heap.size w w':=by
 subst h1 h2 hl
 exact (Wn s W (aP hT hb) (bP hR hb) (hL.below hb)).mono fun e w' h=>⟨h.1,hb.trans (h.2.mono hb.size)⟩
theorem Wm (w:World) (hT:dZ w) (hR:Resv w) (hL:LitT w) :
 Calls prog 5 #[] w fun e w'=>e=.returned (.bool true)∧Below w.heap.size w w':=by
 have H1:=κ (fun (W:World) (hb:Below w.heap.size w W)=>qC ⟨#[97,32,43,32,49]⟩ _ _ _ rfl aAS.1 aAS.2 hT hR hL hb)
 have H2:=κ (fun (W:World) (hb:Below w.heap.size w W)=>qC ⟨#[98,32,43,32,49]⟩ _ _ _ rfl rfl aBF hT hR hL hb)
 have H3:=κ (fun (W:World) (hb:Below w.heap.size w W)=>qC ⟨#[120]⟩ _ _ _ rfl rfl aBE hT hR hL hb)
 have H4:=κ (fun (W:World) (hb:Below w.heap.size w W)=>qC ⟨#[83,85,77,40,97,41]⟩ _ _ _ rfl rfl aBD hT hR hL hb)
 generalize wB (dX [98,32,43,32,49])=T2 at *
 generalize wB (dX [120])=T3 at *
 generalize wB (dX [83,85,77,40,97,41])=T4 at *
 clear hT hR hL
 go_enter func5,ntmps5
 go_wp2_with fail
 refine (H1.out _ (θ)).mono ?_
 rintro e w1 ⟨rfl,hb1⟩
 go_wp2_with fail
 refine (H2.out _ hb1).mono ?_
 rintro e w2 ⟨rfl,hb2⟩
 go_wp2_with fail
 refine (H3.out _ hb2).mono ?_
 rintro e w3 ⟨rfl,hb3⟩
 go_wp2_with fail
 refine (H4.out _ hb3).mono ?_
 rintro e w4 ⟨rfl,hb4⟩
 go_wp2
 go_ret
 exact ⟨rfl,hb4⟩
