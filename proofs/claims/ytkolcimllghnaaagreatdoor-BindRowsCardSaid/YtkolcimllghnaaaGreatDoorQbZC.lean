/-
 Contracts. Conditions: those of each.
-/
import Derived.Test.YtkolcimllghnaaaGreatDoorQbZV
set_option maxRecDepth 100000
set_option maxHeartbeats 20000000
namespace Go.Proofs.YtkolcimllghnaaaGreatDoor
open Lp Go.Proofs.Tryz
open Go.RowKit
def WkP (P:Nat) (w:World) (V:Value→Prop) (e:Ending) (w':World):Prop:=But P w w'∧((∃ c,e=aV c∧c≠0)∨∃ v r,e=.returned v∧V v∧PS w' P r 0∧Lsane r)
theorem Ow (P:Nat) (l:List Tok) (w:World) (h:PS w P l 0) (hs:Lsane l) (hR:Resv w):Calls prog 119 #[.pointer (some ⟨P,0,none⟩)] w (WkP P w fun v=>∃ s,v=.string s):=by
 refine (dU P 0 l w h hR).mono ?_
 rintro e w' ⟨hb,hq⟩
 rcases hn:aZ l with _|⟨n,r⟩
 ·rw [hn] at hq;exact ⟨hb,.inl hq⟩
 ·rw [hn] at hq;exact ⟨hb,.inr ⟨_,r,hq.1,⟨_,rfl⟩,hq.2,hs.sfx (bU hn)⟩⟩
theorem Zd (P:Nat) (l:List Tok) (w:World) (h:PS w P l 0) (hs:Lsane l) (hR:Resv w):Calls prog 124 #[.pointer (some ⟨P,0,none⟩)] w (WkP P w fun v=>∃ T g,v=.iface T (.pointer (some ⟨g,0,none⟩))):=by
 refine ((gG P l.length 0 (by have:=hs.1;omega)).e w l (ν _) h hs hR).mono ?_
 rintro e w' ⟨hb,hq⟩
 rcases hn:pX 1 0 l with _|⟨n,r⟩
 ·rw [hn] at hq;exact ⟨hb,.inl hq⟩
 ·rw [hn] at hq
  obtain ⟨T,g,k1, -,k2⟩:=hq
  exact ⟨hb,.inr ⟨_,r,k1,⟨T,g,rfl⟩,k2,hs.sfx (fS hn)⟩⟩
theorem Lg {l r:List Tok} {x:Option Lp.X} (h:fR l=some (x,r)):r <:+ l:=by
 unfold fR at h
 split at h
 ·obtain ⟨⟨y,r1⟩,h1,h2⟩:=Option.map_eq_some_iff.1 h
  simp only [Prod.mk.injEq] at h2
  rw [←h2.2];exact (fS h1).trans (bL l)
 ·simp only [Option.some.injEq,Prod.mk.injEq] at h
  rw [←h.2];exact List.suffix_refl l
theorem So (P:Nat) (l:List Tok) (w:World) (h:PS w P l 0) (hs:Lsane l) (hR:Resv w):Calls prog 126 #[.pointer (some ⟨P,0,none⟩)] w (WkP P w fun v=>v=.nilIface∨∃ T g,v=.iface T (.pointer (some ⟨g,0,none⟩))):=by
 refine (qF P l w h hs hR).mono ?_
 rintro e w' ⟨hb,hq⟩
 rcases hn:fR l with _|⟨n,r⟩
 ·rw [hn] at hq;exact ⟨hb,.inl hq⟩
 ·rw [hn] at hq
  obtain ⟨v,k1,k3,k2⟩:=hq
  exact ⟨hb,.inr ⟨v,r,k1,k3.form,k2,hs.sfx (Lg hn)⟩⟩
theorem yP (P:Nat) (s:List UInt8) (l:List Tok) (w:World) (h:PS w P l 0) (hs:Lsane l):Calls prog 70 #[.pointer (some ⟨P,0,none⟩),.slice (some ⟨w.heap.size,0,none⟩) 1 1] (w.alloc (.cells #[.string ⟨s.toArray⟩] 9)) (WkP P w fun v=>v=.tuple #[]):=by
 refine (bQ P 0 s l w h).mono ?_
 rintro e w' hn
 rcases hq:aE s l with _|r
 ·obtain ⟨h1,h2⟩:=hn.no hq
  exact ⟨h2,.inl ⟨4,h1,by decide⟩⟩
 ·obtain ⟨h1,h2,h3⟩:=hn.yes hq
  exact ⟨h2,.inr ⟨_,r,h1,rfl,h3,hs.sfx (aR hq)⟩⟩
theorem Sz (P d:Nat) (l:List Tok) (k:Int) (w:World) (h:PS w P l d) (hk:∀ t r,l=t::r→t.k≠k):Calls prog 130 #[.pointer (some ⟨P,0,none⟩),.int .u8 k] w fun e w'=>e=aV 4∧But P w w':=by
 obtain ⟨A,c,h1,h2,h3⟩:=h
 have hc0:=β h1 0
 have hPs:=aL h1
 cases l with
 | nil =>
   clear h1 h2 h3 hk
   go_enter func130,ntmps130
   go_wp2_with fail
   refine (jR _).mono ?_
   rintro e w1 ⟨rfl,rfl⟩
   unfold aV
   go_wp2
   exact ⟨rfl,rfl,But.alloc _ _ _⟩
 | cons t r =>
   obtain ⟨b,off,rfl,hlt,k0,k1,k2⟩:=h3.front
   have hbs:=World.block_lt_of_cell? w _ k0
   have ek:(t.k==k)=false:=η (hk t r rfl)
   have hlen:0<(((t::r).length:Nat):Int):=by simp
   have hlen2:0<(t::r).length:=by simp
   obtain ⟨n,hn⟩:∃ n,(t::r).length=n:=⟨_,rfl⟩
   rw [hn] at hc0 hlen hlen2
   clear h1 h2 h3 hn hk
   go_enter func130,ntmps130
   go_wp2_with fail
   refine (jR _).mono ?_
   rintro e w1 ⟨rfl,rfl⟩
   unfold aV
   go_wp2
   exact ⟨rfl,rfl,But.alloc _ _ _⟩
theorem Xz (P:Nat) (l:List Tok) (w:World) (h:PS w P l 0) (hs:Lsane l):Calls prog 130 #[.pointer (some ⟨P,0,none⟩),.int .u8 2] w (WkP P w fun v=>∃ k s n,v=.agg #[.int .u8 k,.string s,.int .i64 n]):=by
 by_cases hk:∃ t r,l=t::r∧t.k=2
 ·obtain ⟨t,r,rfl,hk⟩:=hk
  exact (pH P 0 t r 2 w h hk).mono fun e w' h=>⟨h.2.1,.inr ⟨_,r,h.1,⟨_,_,_,rfl⟩,h.2.2,hs.tail⟩⟩
 ·refine (Sz P 0 l 2 w h fun t r e h2=>hk ⟨t,r,e,h2⟩).mono ?_
  rintro e w' ⟨rfl,hb⟩
  exact ⟨hb,.inl ⟨4,rfl,by decide⟩⟩
structure SB (P bp bx gi:Nat) (K:List Nat) (w0 w:World):Prop where
 but:But P w0 w
 hbp:w.heap[bp]? = some (.cells #[.pointer (some ⟨P,0,none⟩)] 98 (0,0))
 hbx:w.heap[bx]? = some (.cells #[.pointer (some ⟨gi,0,none⟩)] 74 (0,0))
 sel:∃ cs:Array Value,w.heap[gi]? = some (.cells cs 136 (0,0))∧cs.size=8∧∀ k∈K,cs[k]? = some (.slice none 0 0)
theorem SB.next {P bp bx gi d:Nat} {K:List Nat} {w0 w w':World} {l:List Tok} (h:SB P bp bx gi K w0 w) (hp:PS w P l d) (hb:But P w w'):SB P bp bx gi K w0 w':=by
 obtain ⟨cs,h1,h2,h3⟩:=h.sel
 exact ⟨h.but.trans hb,aI h.hbp hb hp (by decide),aI h.hbx hb hp (by decide),cs,aI h1 hb hp (by decide),h2,h3⟩
theorem SB.drew {P bp bx gi:Nat} {K:List Nat} {w0 w:World} (h:SB P bp bx gi K w0 w):SB P bp bx gi K w0 w.drew:=⟨h.but.drew,h.hbp,h.hbx,h.sel⟩
theorem SB.fz {P bp bx gi:Nat} {K:List Nat} {w0 w:World} (h:SB P bp bx gi K w0 w) (j:Nat):w.frozen? ⟨gi,j,none⟩=false:=by
 obtain ⟨cs,h1, -, -⟩:=h.sel
 exact frozen_of_row w gi j _ _ h1
theorem SB.at_ {P bp bx gi:Nat} {K:List Nat} {w0 w:World} (h:SB P bp bx gi K w0 w) (j:Nat) (hj:j<8):∃ u,w.cell? ⟨gi,j,none⟩=some u:=by
 obtain ⟨cs,h1,h2, -⟩:=h.sel
 exact ⟨cs[j],(β h1 j).trans (Array.getElem?_eq_getElem (by omega))⟩
theorem nC {l:List Tok} {b:Bool} (h:Lsane l):Lsane (if b then l.tail else l):=by
 cases b
 ·exact h
 ·exact h.tl
theorem SB.set {P bp bx gi:Nat} {K:List Nat} {w0 w:World} (h:SB P bp bx gi K w0 w) (hgi:w0.heap.size≤gi) (j:Nat) (hj:j ∉ K) (v:Value):SB P bp bx gi K w0 (w.setCell ⟨gi,j,none⟩ v):=by
 obtain ⟨cs,h1,h2,h3⟩:=h.sel
 have ne:∀ (g:Nat) (cs':Array Value) (ty:TypeId),w.heap[g]? = some (.cells cs' ty (0,0))→ty≠136→g≠gi:=by
  rintro g cs' ty k1 k2 rfl
  rw [h1] at k1
  injection k1 with k1
  injection k1 with _ k1
  exact k2 k1.symm
 refine ⟨h.but.setNew hgi v,gX h.hbp (ne _ _ _ h.hbp (by decide)) v,gX h.hbx (ne _ _ _ h.hbx (by decide)) v,_,heap_setCell_same w gi j _ _ v h1,by simpa using h2,fun k hk => ?_⟩
 rw [Array.getElem?_setIfInBounds_ne (by rintro rfl;exact hj hk)]
 exact h3 k hk
theorem SB.ki {P bp bx gi:Nat} {K:List Nat} {w0 w:World} (h:SB P bp bx gi K w0 w) (k:Nat) (hk:k∈K) (e:TypeId) (size:Nat):∃ cs:Array Value,KI P bp bx gi k cs 74 136 e size w0 0 w∧cs.size=8∧∀ j∈K,cs[j]? = some (.slice none 0 0):=by
 obtain ⟨cs,h1,h2,h3⟩:=h.sel
 exact ⟨cs,⟨h.but,h.hbp,h.hbx,none,0,[],⟨cs,h1,h3 k hk,rfl,fun _ _=>rfl⟩,World.ownsRow_nil _ _ _ _⟩,h2,h3⟩
theorem aAH {P bp bx gi k n size:Nat} {e:TypeId} {K:List Nat} {cs:Array Value} {w0 w:World} (h:KI P bp bx gi k cs 74 136 e size w0 n w) (hz:cs.size=8) (hK:∀ j∈K,cs[j]? = some (.slice none 0 0)) (K2:List Nat) (h2:∀ j∈K2,j∈K∧j≠k):SB P bp bx gi K2 w0 w:=by
 obtain ⟨A,c,vs,⟨cs2,h3,h4⟩, -⟩:=h.row
 exact ⟨h.but,h.hbp,h.hbx,cs2,h3,h4.2.1.trans hz,fun j hj=>(h4.2.2 j (h2 j hj).2).trans (hK j (h2 j hj).1)⟩
theorem SB.less {P bp bx gi:Nat} {K K2:List Nat} {w0 w:World} (h:SB P bp bx gi K w0 w) (h2:∀ j∈K2,j∈K):SB P bp bx gi K2 w0 w:=by
 obtain ⟨cs,k1,k2,k3⟩:=h.sel
 exact ⟨h.but,h.hbp,h.hbx,cs,k1,k2,fun j hj=>k3 j (h2 j hj)⟩
def CSt (P bp bx gi:Nat) (K:List Nat) (w0 w:World):Prop:=∃ l,SB P bp bx gi K w0 w∧PS w P l 0∧Lsane l
theorem CSt.cells {P bp bx gi:Nat} {K:List Nat} {w0 w:World} (h:SB P bp bx gi K w0 w):w.cell? ⟨bp,0,none⟩=some (.pointer (some ⟨P,0,none⟩))∧w.cell? ⟨bx,0,none⟩=some (.pointer (some ⟨gi,0,none⟩)):=⟨β h.hbp 0,β h.hbx 0⟩
theorem Zb:∀ args w,Sem.run prog (callFunc 127 args) w=.ok (.enter 127 args) w:=fun _ _=>rfl
theorem Za:∀ args w,Sem.run prog (callFunc 128 args) w=.ok (.enter 128 args) w:=fun _ _=>rfl
theorem Yz:∀ args w,Sem.run prog (callFunc 129 args) w=.ok (.enter 129 args) w:=fun _ _=>rfl
def EaP (P bp bx gi:Nat) (K:List Nat) (w0:World) (e:Ending) (w':World):Prop:=(∃ c,e=aV c∧c≠0∧But P w0 w')∨e=.returned (.tuple #[])∧CSt P bp bx gi K w0 w'
theorem Qw {P bp bx gi k size:Nat} {e:TypeId} {K K2:List Nat} {cs:Array Value} {w0 w':World} {en:Ending} {F:List Tok→Option (Unit×List Tok)} {most:Nat} {l:List Tok} (hF:wD F) (hs:Lsane l) (hz:cs.size=8) (hK:∀ j∈K,cs[j]? = some (.slice none 0 0)) (h2:∀ j∈K2,j∈K∧j≠k)
 (h:EachPost P (fun acc w=>KI P bp bx gi k cs 74 136 e size w0 acc.length w) (RJ P w0) (cN F most l) en w'):EaP P bp bx gi K2 w0 en w':=by
 rcases hq:cN F most l with _|⟨xs,r⟩
 ·rw [hq] at h
  exact .inl h
 ·rw [hq] at h
  exact .inr ⟨h.1,r,aAH h.2.2 hz hK K2 h2,h.2.1,hs.sfx (jX hF most _ _ _ _ _ hq).2⟩
theorem Qv (P bp bx gi:Nat) (l0 l:List Tok) (w0 w:World) (hR0:Resv w0) (hp0:PS w0 P l0 0) (hgi:w0.heap.size≤gi) (hne:gi≠bp) (hnx:gi≠bx) (h:SB P bp bx gi [0,5,6] w0 w) (hp:PS w P l 0) (hs:Lsane l) :
 Calls prog 120 #[.pointer (some ⟨P,0,none⟩),.int .i64 16,.func (.func 127) #[] #[.pointer (some ⟨bp,0,none⟩),.pointer (some ⟨bx,0,none⟩)]] w (EaP P bp bx gi [5,6] w0):=by
 obtain ⟨cs,hi,hz,hK⟩:=h.ki 0 (by decide) 142 2
 exact (kK kX xD Qb 16 (by omega) (by omega) _ Zb #[.pointer (some ⟨bp,0,none⟩),.pointer (some ⟨bx,0,none⟩)] P (KIt P bp bx gi cs w0) (RJ P w0) (fun _ _ h=>h.but) (fun _ _ h k=>But.trans h k) (fun _ _ _ _ h hp hb=>h.next hp hb (by decide) (by decide) (by decide))
  (fun acc l' w' ha hi hp' hs'=>Cw P bp bx gi 0 cs l0 w0 hR0 hp0 hgi hne hnx acc l' w' (by omega) hi hp' hs') l w hi hp hs).mono fun _ _ h=>Qw xD hs hz hK (by decide) h
theorem Qu (P bp bx gi:Nat) (l0 l:List Tok) (w0 w:World) (hR0:Resv w0) (hp0:PS w0 P l0 0) (hgi:w0.heap.size≤gi) (hne:gi≠bp) (hnx:gi≠bx) (h:SB P bp bx gi [5,6] w0 w) (hp:PS w P l 0) (hs:Lsane l) :
 Calls prog 120 #[.pointer (some ⟨P,0,none⟩),.int .i64 8,.func (.func 128) #[] #[.pointer (some ⟨bx,0,none⟩),.pointer (some ⟨bp,0,none⟩)]] w (EaP P bp bx gi [6] w0):=by
 obtain ⟨cs,hi,hz,hK⟩:=h.ki 5 (by decide) 66 1
 exact (kK lD uW Jn 8 (by omega) (by omega) _ Za #[.pointer (some ⟨bx,0,none⟩),.pointer (some ⟨bp,0,none⟩)] P (KGr P bp bx gi cs w0) (RJ P w0) (fun _ _ h=>h.but) (fun _ _ h k=>But.trans h k) (fun _ _ _ _ h hp hb=>h.next hp hb (by decide) (by decide) (by decide))
  (fun acc l' w' ha hi hp' hs'=>Cv P bp bx gi 0 cs l0 w0 hR0 hp0 hgi hne hnx acc l' w' (by omega) hi hp' hs') l w hi hp hs).mono fun _ _ h=>Qw uW hs hz hK (by decide) h
theorem Qt (P bp bx gi:Nat) (l0 l:List Tok) (w0 w:World) (hR0:Resv w0) (hp0:PS w0 P l0 0) (hgi:w0.heap.size≤gi) (hne:gi≠bp) (hnx:gi≠bx) (h:SB P bp bx gi [6] w0 w) (hp:PS w P l 0) (hs:Lsane l) :
 Calls prog 120 #[.pointer (some ⟨P,0,none⟩),.int .i64 8,.func (.func 129) #[] #[.pointer (some ⟨bp,0,none⟩),.pointer (some ⟨bx,0,none⟩)]] w (EaP P bp bx gi [] w0):=by
 obtain ⟨cs,hi,hz,hK⟩:=h.ki 6 (by decide) 147 2
 exact (kK gP uV Iz 8 (by omega) (by omega) _ Yz #[.pointer (some ⟨bp,0,none⟩),.pointer (some ⟨bx,0,none⟩)] P (KOr P bp bx gi cs w0) (RJ P w0) (fun _ _ h=>h.but) (fun _ _ h k=>But.trans h k) (fun _ _ _ _ h hp hb=>h.next hp hb (by decide) (by decide) (by decide))
  (fun acc l' w' ha hi hp' hs'=>Cu P bp bx gi 0 cs l0 w0 hR0 hp0 hgi hne hnx acc l' w' (by omega) hi hp' hs') l w hi hp hs).mono fun _ _ h=>Qw uV hs hz hK (by decide) h
def Lb:Array Value:=#[.slice none 0 0,.string ⟨#[]⟩,.string ⟨#[]⟩,.nilIface,.nilIface,.slice none 0 0,.slice none 0 0,.int .i64 (-1)]
theorem Yg {P:Nat} {w:World} {l:List Tok} (h:PS w P l 0):SB P w.heap.size (w.heap.size+1+1) (w.heap.size+1) [0,5,6] w (((w.alloc (.cells #[.pointer (some ⟨P,0,none⟩)] 98)).alloc (.cells Lb 136)).alloc (.cells #[.pointer (some ⟨w.heap.size+1,0,none⟩)] 74))∧PS (((w.alloc (.cells #[.pointer (some ⟨P,0,none⟩)] 98)).alloc (.cells Lb 136)).alloc (.cells #[.pointer (some ⟨w.heap.size+1,0,none⟩)] 74)) P l 0:=by
 have hb:Below w.heap.size w (((w.alloc (.cells #[.pointer (some ⟨P,0,none⟩)] 98)).alloc (.cells Lb 136)).alloc (.cells #[.pointer (some ⟨w.heap.size+1,0,none⟩)] 74)):=((ρ).alloc (by simp) _).alloc (by simp;omega) _
 refine ⟨⟨But.of hb,aC (aC (heap_alloc_new w _) _) _, ?_,Lb,aC (bN w _ _) _,rfl,fun k hk=>by simp at hk;rcases hk with rfl|rfl|rfl<;>rfl⟩,h.below hb⟩
 have:=heap_alloc_new ((w.alloc (.cells #[.pointer (some ⟨P,0,none⟩)] 98)).alloc (.cells Lb 136)) (.cells #[.pointer (some ⟨w.heap.size+1,0,none⟩)] 74)
 rwa [World.size_alloc,World.size_alloc] at this
attribute [local go_sem] Gg
theorem Fm (P:Nat) (l:List Tok) (w:World) (h:PS w P l 0) (hs:Lsane l) (hR:Resv w) :
 Calls prog 69 #[.pointer (some ⟨P,0,none⟩)] w (WkPost P w):=by
 have hS:=Yg h
 have hHas:=fun b (hb:isF [42] l=b)=>bM P 0 l ⟨#[42]⟩ _ hS.2 b hb
 have H0:=κ (ι h (ι hs hR))
 have c0:=CSt.cells hS.1
 have HS:=κ hS
 have HHas:=κ hHas
 clear h hs hR hS hHas
 obtain ⟨c1,c2⟩:=c0
 go_enter func69,ntmps69
 go_wp2_with fail
 refine (HHas.out _ rfl).mono ?_
 rintro e w1 ⟨rfl,hb1,hp1⟩
 have HS1:=κ (ι (HS.out.1.next HS.out.2 hb1) (ι hp1 (nC (b:=isF [42] l) H0.out.2.1)))
 clear hb1 hp1 c1 c2 HS HHas
 have HS:=HS1
 clear HS1
 obtain ⟨c1,c2⟩:=CSt.cells HS.out.1
 generalize isF [42] l=b at *
 go_upto_if 8 with fail
 go_cut [] (fun wx=>CSt P w.heap.size (w.heap.size+1+1) (w.heap.size+1) [5,6] w wx)
 case first =>
  cases b
  ·clear c1 c2
   have HC:=κ (Qv P _ _ _ l _ w w1 H0.out.2.2 H0.out.1 (Nat.le_succ _) (by omega) (by omega) HS.out.1 HS.out.2.1 HS.out.2.2)
   obtain ⟨c1,c2⟩:=CSt.cells HS.out.1
   go_wp2_with fail
   refine μ HC ?_
   rintro e w2 (⟨c,rfl,hc,hb⟩|⟨rfl,hq⟩)
   ·have HB:=κ (WkPost.stop hb hc)
    clear hb hc
    unfold aV
    go_wp2
    exact ⟨rfl,HB.out⟩
   ·have HB:=κ hq
    clear hq
    go_wp2
    go_meet
    exact HB.out
  ·go_wp2
   go_meet
   exact ⟨_,HS.out.1.less (by decide),HS.out.2⟩
 case rest =>
  clear c1 c2 HS
  obtain ⟨l2,hS⟩:=hcut
  have HS:=κ hS
  clear hS
  have HC:=κ (yP P [102,114,111,109] _ wc HS.out.2.1 HS.out.2.2)
  obtain ⟨c1,c2⟩:=CSt.cells HS.out.1
  go_wp2_with fail
  refine μ HC ?_
  rintro e w3 ⟨hb,(⟨c,rfl,hc⟩|⟨v,r3,rfl,rfl,hp,hs⟩)⟩
  ·have HB:=κ (WkPost.stop (HS.out.1.but.trans hb) hc)
   clear hb hc
   unfold aV
   go_wp2
   exact ⟨rfl,HB.out⟩
  replace HS:=κ (ι (HS.out.1.next HS.out.2.1 hb) (ι hp hs))
  clear hb hp hs c1 c2 HC
  have HC:=κ (Ow P _ w3.drew HS.out.2.1 HS.out.2.2 (show Resv w3.drew from H0.out.2.2.but H0.out.1 HS.out.1.but.drew))
  obtain ⟨c1,c2⟩:=CSt.cells HS.out.1
  go_wp2_with fail
  refine wp_region_held_drew (S:=fun w'=>w'.cell? ⟨w.heap.size+1+1,0,none⟩=some (.pointer (some ⟨w.heap.size+1,0,none⟩))∧w'.cell? ⟨w.heap.size,0,none⟩=some (.pointer (some ⟨P,0,none⟩))) (by kernel_rfl) ⟨c2,c1⟩ (fun hHeld => ?_)
  refine wpAnyH_take (i:=0) (v:=.pointer (some ⟨w.heap.size+1,0,none⟩)) rfl (by kernel_rfl) (by kernel_rfl) (by kernel_rfl) (fun _ _ _ h=>h) (Or.inl ⟨by rfl,fun w hSw=>by obtain ⟨s1,s2⟩:=hSw;go_simp⟩) hHeld ?_
  refine wpAnyH_take (i:=1) (v:=.pointer (some ⟨P,0,none⟩)) rfl (by kernel_rfl) (by kernel_rfl) (by kernel_rfl) (fun _ _ _ h=>h) (Or.inl ⟨by rfl,fun w hSw=>by obtain ⟨s1,s2⟩:=hSw;go_simp⟩) hHeld ?_
  refine wpAnyH_ready (rs:=[2]) (by kernel_rfl) (by simp) ?_
  refine AllReadyH.cons rfl (fun K hK1 => ?_) AllReadyH.nil
  go_simp
  refine μ HC ?_
  rintro e w4 ⟨hb,(⟨c,rfl,hc⟩|⟨v,r4,rfl,⟨s,rfl⟩,hp,hs⟩)⟩
  ·have HB:=κ (WkPost.stop (HS.out.1.but.drew.trans hb) hc)
   clear hb hc
   unfold aV
   go_wp2
   exact ⟨rfl,HB.out⟩
  have hS:=HS.out.1.drew.next (d:=0) (show PS w3.drew P _ 0 from HS.out.2.1) hb
  have cz:=(CSt.cells hS)
  obtain ⟨d1,d2⟩:=cz
  have HF:=κ (hS.fz)
  have f1:=HF.out 1
  obtain ⟨u,f2⟩:=hS.at_ 1 (by omega)
  have hS2:=hS.set (Nat.le_succ _) 1 (by decide) (.string s)
  have hp2:=hp.setNew (g:=w.heap.size+1) (o:=1) (Nat.lt_succ_of_lt H0.out.1.lt) (.string s)
  replace HS:=κ (ι hS2 (ι hp2 hs))
  obtain ⟨e1,e2⟩:=CSt.cells hS2
  clear hb hp hs hS hS2 hp2 c1 c2
  refine hK1.out _ _ ⟨d2,d1⟩ (fun hH2 => ?_)
  clear hK1 hHeld
  refine wpAnyH_take (i:=3) (v:=.pointer (some ⟨w.heap.size+1,0,none⟩)) rfl (by kernel_rfl) (by kernel_rfl) (by kernel_rfl) (fun _ _ _ h=>h) (Or.inl ⟨by rfl,fun w hSw=>by go_simp⟩) hH2 ?_
  refine wpAnyH_take (i:=4) (v:=.pointer (some ⟨w.heap.size+1,1,none⟩)) rfl (by kernel_rfl) (by kernel_rfl) (by kernel_rfl) (fun _ _ _ h=>h) (Or.inl ⟨by rfl,fun w hSw=>by go_simp⟩) hH2 ?_
  refine wpAnyH_ready (rs:=[5]) (by kernel_rfl) (by simp) ?_
  refine AllReadyH.cons rfl (fun K hK => ?_) AllReadyH.nil
  go_simp
  refine hK.out _ _ ⟨e2,e1⟩ (fun hX=>wpAnyH_done (by kernel_rfl) ?_ _)
  clear hK hH2 hX d1 d2 e1 e2 f1 f2 HF HC
  generalize w4.setCell ⟨w.heap.size+1,1,none⟩ (.string s)=w4' at *
  obtain ⟨c1,c2⟩:=CSt.cells HS.out.1
  have HC:=κ (fun b hb=>bM P 0 r4 ⟨#[106,111,105,110]⟩ w4' HS.out.2.1 b hb)
  go_wp2_with fail
  refine (HC.out _ rfl).mono ?_
  rintro e w5 ⟨rfl,hb,hp⟩
  have hs:=nC (b:=isF [106,111,105,110] r4) HS.out.2.2
  replace HS:=κ (ι (HS.out.1.next HS.out.2.1 hb) (ι hp hs))
  clear hb hp hs c1 c2 HC
  obtain ⟨c1,c2⟩:=CSt.cells HS.out.1
  generalize (if isF [106,111,105,110] r4 then r4.tail else r4)=r5 at *
  generalize isF [106,111,105,110] r4=b at *
  go_upto_if 21 with fail
  go_cut [] (fun wx=>CSt P w.heap.size (w.heap.size+1+1) (w.heap.size+1) [5,6] w wx)
  case first =>
   cases b
   ·go_wp2
    go_meet
    exact ⟨_,HS.out⟩
   ·clear c1 c2
    have HC:=κ (Ow P _ w5.drew HS.out.2.1 HS.out.2.2 (show Resv w5.drew from H0.out.2.2.but H0.out.1 HS.out.1.but.drew))
    obtain ⟨c1,c2⟩:=CSt.cells HS.out.1
    go_wp2_with fail
    refine wp_region_held_drew (S:=fun w'=>w'.cell? ⟨w.heap.size+1+1,0,none⟩=some (.pointer (some ⟨w.heap.size+1,0,none⟩))∧w'.cell? ⟨w.heap.size,0,none⟩=some (.pointer (some ⟨P,0,none⟩))) (by kernel_rfl) ⟨c2,c1⟩ (fun hHeld => ?_)
    refine wpAnyH_take (i:=0) (v:=.pointer (some ⟨w.heap.size+1,0,none⟩)) rfl (by kernel_rfl) (by kernel_rfl) (by kernel_rfl) (fun _ _ _ h=>h) (Or.inl ⟨by rfl,fun w hSw=>by obtain ⟨s1,s2⟩:=hSw;go_simp⟩) hHeld ?_
    refine wpAnyH_take (i:=1) (v:=.pointer (some ⟨P,0,none⟩)) rfl (by kernel_rfl) (by kernel_rfl) (by kernel_rfl) (fun _ _ _ h=>h) (Or.inl ⟨by rfl,fun w hSw=>by obtain ⟨s1,s2⟩:=hSw;go_simp⟩) hHeld ?_
    refine wpAnyH_ready (rs:=[2]) (by kernel_rfl) (by simp) ?_
    refine AllReadyH.cons rfl (fun K hK1 => ?_) AllReadyH.nil
    go_simp
    refine μ HC ?_
    rintro e w6 ⟨hb,(⟨c,rfl,hc⟩|⟨v,r6,rfl,⟨s,rfl⟩,hp,hs⟩)⟩
    ·have HB:=κ (WkPost.stop (HS.out.1.but.drew.trans hb) hc)
     clear hb hc
     unfold aV
     go_wp2
     exact ⟨rfl,HB.out⟩
    have hS:=HS.out.1.drew.next (d:=0) (show PS w5.drew P _ 0 from HS.out.2.1) hb
    have cz:=(CSt.cells hS)
    obtain ⟨d1,d2⟩:=cz
    have HF:=κ (hS.fz)
    have f1:=HF.out 2
    obtain ⟨u,f2⟩:=hS.at_ 2 (by omega)
    have hS2:=hS.set (Nat.le_succ _) 2 (by decide) (.string s)
    have hp2:=hp.setNew (g:=w.heap.size+1) (o:=2) (Nat.lt_succ_of_lt H0.out.1.lt) (.string s)
    replace HS:=κ (ι hS2 (ι hp2 hs))
    obtain ⟨e1,e2⟩:=CSt.cells hS2
    clear hb hp hs hS hS2 hp2 c1 c2
    refine hK1.out _ _ ⟨d2,d1⟩ (fun hH2 => ?_)
    clear hK1 hHeld
    refine wpAnyH_take (i:=3) (v:=.pointer (some ⟨w.heap.size+1,0,none⟩)) rfl (by kernel_rfl) (by kernel_rfl) (by kernel_rfl) (fun _ _ _ h=>h) (Or.inl ⟨by rfl,fun w hSw=>by go_simp⟩) hH2 ?_
    refine wpAnyH_take (i:=4) (v:=.pointer (some ⟨w.heap.size+1,2,none⟩)) rfl (by kernel_rfl) (by kernel_rfl) (by kernel_rfl) (fun _ _ _ h=>h) (Or.inl ⟨by rfl,fun w hSw=>by go_simp⟩) hH2 ?_
    refine wpAnyH_ready (rs:=[5]) (by kernel_rfl) (by simp) ?_
    refine AllReadyH.cons rfl (fun K hK => ?_) AllReadyH.nil
    go_simp
    refine hK.out _ _ ⟨e2,e1⟩ (fun hX=>wpAnyH_done (by kernel_rfl) ?_ _)
    clear hK hH2 hX d1 d2 e1 e2 f1 f2 HF HC
    generalize w6.setCell ⟨w.heap.size+1,2,none⟩ (.string s)=w6' at *
    have HC:=κ (yP P [111,110] _ w6' HS.out.2.1 HS.out.2.2)
    obtain ⟨c1,c2⟩:=CSt.cells HS.out.1
    go_wp2_with fail
    refine μ HC ?_
    rintro e w7 ⟨hb,(⟨c,rfl,hc⟩|⟨v,r7,rfl,rfl,hp,hs⟩)⟩
    ·have HB:=κ (WkPost.stop (HS.out.1.but.trans hb) hc)
     clear hb hc
     unfold aV
     go_wp2
     exact ⟨rfl,HB.out⟩
    replace HS:=κ (ι (HS.out.1.next HS.out.2.1 hb) (ι hp hs))
    clear hb hp hs c1 c2 HC
    have HC:=κ (Zd P _ w7.drew HS.out.2.1 HS.out.2.2 (show Resv w7.drew from H0.out.2.2.but H0.out.1 HS.out.1.but.drew))
    obtain ⟨c1,c2⟩:=CSt.cells HS.out.1
    go_wp2_with fail
    refine wp_region_held_drew (S:=fun w'=>w'.cell? ⟨w.heap.size+1+1,0,none⟩=some (.pointer (some ⟨w.heap.size+1,0,none⟩))∧w'.cell? ⟨w.heap.size,0,none⟩=some (.pointer (some ⟨P,0,none⟩))) (by kernel_rfl) ⟨c2,c1⟩ (fun hHeld => ?_)
    refine wpAnyH_take (i:=0) (v:=.pointer (some ⟨w.heap.size+1,0,none⟩)) rfl (by kernel_rfl) (by kernel_rfl) (by kernel_rfl) (fun _ _ _ h=>h) (Or.inl ⟨by rfl,fun w hSw=>by obtain ⟨s1,s2⟩:=hSw;go_simp⟩) hHeld ?_
    refine wpAnyH_take (i:=1) (v:=.pointer (some ⟨P,0,none⟩)) rfl (by kernel_rfl) (by kernel_rfl) (by kernel_rfl) (fun _ _ _ h=>h) (Or.inl ⟨by rfl,fun w hSw=>by obtain ⟨s1,s2⟩:=hSw;go_simp⟩) hHeld ?_
    refine wpAnyH_ready (rs:=[2]) (by kernel_rfl) (by simp) ?_
    refine AllReadyH.cons rfl (fun K hK1 => ?_) AllReadyH.nil
    go_simp
    refine μ HC ?_
    rintro e w8 ⟨hb,(⟨c,rfl,hc⟩|⟨v,r8,rfl,⟨T,g,rfl⟩,hp,hs⟩)⟩
    ·have HB:=κ (WkPost.stop (HS.out.1.but.drew.trans hb) hc)
     clear hb hc
     unfold aV
     go_wp2
     exact ⟨rfl,HB.out⟩
    have hS:=HS.out.1.drew.next (d:=0) (show PS w7.drew P _ 0 from HS.out.2.1) hb
    have cz:=(CSt.cells hS)
    obtain ⟨d1,d2⟩:=cz
    have HF:=κ (hS.fz)
    have f1:=HF.out 3
    obtain ⟨u,f2⟩:=hS.at_ 3 (by omega)
    have hS2:=hS.set (Nat.le_succ _) 3 (by decide) (.iface T (.pointer (some ⟨g,0,none⟩)))
    have hp2:=hp.setNew (g:=w.heap.size+1) (o:=3) (Nat.lt_succ_of_lt H0.out.1.lt) (.iface T (.pointer (some ⟨g,0,none⟩)))
    replace HS:=κ (ι hS2 (ι hp2 hs))
    obtain ⟨e1,e2⟩:=CSt.cells hS2
    clear hb hp hs hS hS2 hp2 c1 c2
    refine hK1.out _ _ ⟨d2,d1⟩ (fun hH2 => ?_)
    clear hK1 hHeld
    refine wpAnyH_take (i:=3) (v:=.pointer (some ⟨w.heap.size+1,0,none⟩)) rfl (by kernel_rfl) (by kernel_rfl) (by kernel_rfl) (fun _ _ _ h=>h) (Or.inl ⟨by rfl,fun w hSw=>by go_simp⟩) hH2 ?_
    refine wpAnyH_take (i:=4) (v:=.pointer (some ⟨w.heap.size+1,3,none⟩)) rfl (by kernel_rfl) (by kernel_rfl) (by kernel_rfl) (fun _ _ _ h=>h) (Or.inl ⟨by rfl,fun w hSw=>by go_simp⟩) hH2 ?_
    refine wpAnyH_ready (rs:=[5]) (by kernel_rfl) (by simp) ?_
    refine AllReadyH.cons rfl (fun K hK => ?_) AllReadyH.nil
    go_simp
    refine hK.out _ _ ⟨e2,e1⟩ (fun hX=>wpAnyH_done (by kernel_rfl) ?_ _)
    clear hK hH2 hX d1 d2 e1 e2 f1 f2 HF HC
    generalize w8.setCell ⟨w.heap.size+1,3,none⟩ (.iface T (.pointer (some ⟨g,0,none⟩)))=w8' at *
    go_wp2
    go_meet
    exact ⟨_,HS.out⟩
  case rest =>
   clear c1 c2 HS
   obtain ⟨l3,hS⟩:=hcut
   have HS:=κ hS
   clear hS
   go_upto_region 10 with fail
   go_cut [] (fun wx=>CSt P w.heap.size (w.heap.size+1+1) (w.heap.size+1) [5,6] w wx)
   case first =>
    have HC:=κ (So P _ wc.drew HS.out.2.1 HS.out.2.2 (show Resv wc.drew from H0.out.2.2.but H0.out.1 HS.out.1.but.drew))
    obtain ⟨c1,c2⟩:=CSt.cells HS.out.1
    go_wp2_with fail
    refine wp_region_held_drew (S:=fun w'=>w'.cell? ⟨w.heap.size+1+1,0,none⟩=some (.pointer (some ⟨w.heap.size+1,0,none⟩))∧w'.cell? ⟨w.heap.size,0,none⟩=some (.pointer (some ⟨P,0,none⟩))) (by kernel_rfl) ⟨c2,c1⟩ (fun hHeld => ?_)
    refine wpAnyH_take (i:=0) (v:=.pointer (some ⟨w.heap.size+1,0,none⟩)) rfl (by kernel_rfl) (by kernel_rfl) (by kernel_rfl) (fun _ _ _ h=>h) (Or.inl ⟨by rfl,fun w hSw=>by obtain ⟨s1,s2⟩:=hSw;go_simp⟩) hHeld ?_
    refine wpAnyH_take (i:=1) (v:=.pointer (some ⟨P,0,none⟩)) rfl (by kernel_rfl) (by kernel_rfl) (by kernel_rfl) (fun _ _ _ h=>h) (Or.inl ⟨by rfl,fun w hSw=>by obtain ⟨s1,s2⟩:=hSw;go_simp⟩) hHeld ?_
    refine wpAnyH_ready (rs:=[2]) (by kernel_rfl) (by simp) ?_
    refine AllReadyH.cons rfl (fun K hK1 => ?_) AllReadyH.nil
    go_simp
    refine μ HC ?_
    rintro e w8 ⟨hb,(⟨c,rfl,hc⟩|⟨v,r8,rfl,hv,hp,hs⟩)⟩
    ·have HB:=κ (WkPost.stop (HS.out.1.but.drew.trans hb) hc)
     clear hb hc
     unfold aV
     go_wp2
     exact ⟨rfl,HB.out⟩
    have hS:=HS.out.1.drew.next (d:=0) (show PS wc.drew P _ 0 from HS.out.2.1) hb
    have cz:=(CSt.cells hS)
    obtain ⟨d1,d2⟩:=cz
    rcases hv with rfl|⟨T,g,rfl⟩
    ·have HF:=κ (hS.fz)
     have f1:=HF.out 4
     obtain ⟨u,f2⟩:=hS.at_ 4 (by omega)
     have hS2:=hS.set (Nat.le_succ _) 4 (by decide) .nilIface
     have hp2:=hp.setNew (g:=w.heap.size+1) (o:=4) (Nat.lt_succ_of_lt H0.out.1.lt) .nilIface
     replace HS:=κ (ι hS2 (ι hp2 hs))
     obtain ⟨e1,e2⟩:=CSt.cells hS2
     clear hb hp hs hS hS2 hp2 c1 c2
     refine hK1.out _ _ ⟨d2,d1⟩ (fun hH2 => ?_)
     clear hK1 hHeld
     refine wpAnyH_take (i:=3) (v:=.pointer (some ⟨w.heap.size+1,0,none⟩)) rfl (by kernel_rfl) (by kernel_rfl) (by kernel_rfl) (fun _ _ _ h=>h) (Or.inl ⟨by rfl,fun w hSw=>by go_simp⟩) hH2 ?_
     refine wpAnyH_take (i:=4) (v:=.pointer (some ⟨w.heap.size+1,4,none⟩)) rfl (by kernel_rfl) (by kernel_rfl) (by kernel_rfl) (fun _ _ _ h=>h) (Or.inl ⟨by rfl,fun w hSw=>by go_simp⟩) hH2 ?_
     refine wpAnyH_ready (rs:=[5]) (by kernel_rfl) (by simp) ?_
     refine AllReadyH.cons rfl (fun K hK => ?_) AllReadyH.nil
     go_simp
     refine hK.out _ _ ⟨e2,e1⟩ (fun hX=>wpAnyH_done (by kernel_rfl) ?_ _)
     clear hK hH2 hX d1 d2 e1 e2 f1 f2 HF HC
     generalize w8.setCell ⟨w.heap.size+1,4,none⟩ .nilIface=w8' at *
     go_wp2
     go_meet
     exact ⟨_,HS.out⟩
    ·have HF:=κ (hS.fz)
     have f1:=HF.out 4
     obtain ⟨u,f2⟩:=hS.at_ 4 (by omega)
     have hS2:=hS.set (Nat.le_succ _) 4 (by decide) (.iface T (.pointer (some ⟨g,0,none⟩)))
     have hp2:=hp.setNew (g:=w.heap.size+1) (o:=4) (Nat.lt_succ_of_lt H0.out.1.lt) (.iface T (.pointer (some ⟨g,0,none⟩)))
     replace HS:=κ (ι hS2 (ι hp2 hs))
     obtain ⟨e1,e2⟩:=CSt.cells hS2
     clear hb hp hs hS hS2 hp2 c1 c2
     refine hK1.out _ _ ⟨d2,d1⟩ (fun hH2 => ?_)
     clear hK1 hHeld
     refine wpAnyH_take (i:=3) (v:=.pointer (some ⟨w.heap.size+1,0,none⟩)) rfl (by kernel_rfl) (by kernel_rfl) (by kernel_rfl) (fun _ _ _ h=>h) (Or.inl ⟨by rfl,fun w hSw=>by go_simp⟩) hH2 ?_
     refine wpAnyH_take (i:=4) (v:=.pointer (some ⟨w.heap.size+1,4,none⟩)) rfl (by kernel_rfl) (by kernel_rfl) (by kernel_rfl) (fun _ _ _ h=>h) (Or.inl ⟨by rfl,fun w hSw=>by go_simp⟩) hH2 ?_
     refine wpAnyH_ready (rs:=[5]) (by kernel_rfl) (by simp) ?_
     refine AllReadyH.cons rfl (fun K hK => ?_) AllReadyH.nil
     go_simp
     refine hK.out _ _ ⟨e2,e1⟩ (fun hX=>wpAnyH_done (by kernel_rfl) ?_ _)
     clear hK hH2 hX d1 d2 e1 e2 f1 f2 HF HC
     generalize w8.setCell ⟨w.heap.size+1,4,none⟩ (.iface T (.pointer (some ⟨g,0,none⟩)))=w8' at *
     go_wp2
     go_meet
     exact ⟨_,HS.out⟩
   case rest =>
    clear HS
    obtain ⟨l4,hS⟩:=hcut
    have HS:=κ hS
    clear hS
    obtain ⟨c1,c2⟩:=CSt.cells HS.out.1
    have HC:=κ (fun b hb=>bM P 0 l4 ⟨#[103,114,111,117,112]⟩ wc HS.out.2.1 b hb)
    go_wp2_with fail
    refine (HC.out _ rfl).mono ?_
    rintro e w9 ⟨rfl,hb,hp⟩
    have hs:=nC (b:=isF [103,114,111,117,112] l4) HS.out.2.2
    replace HS:=κ (ι (HS.out.1.next HS.out.2.1 hb) (ι hp hs))
    clear hb hp hs c1 c2 HC
    obtain ⟨c1,c2⟩:=CSt.cells HS.out.1
    generalize (if isF [103,114,111,117,112] l4 then l4.tail else l4)=r9 at *
    generalize isF [103,114,111,117,112] l4=b at *
    go_upto_if 41 with fail
    go_cut [] (fun wx=>CSt P w.heap.size (w.heap.size+1+1) (w.heap.size+1) [6] w wx)
    case first =>
     cases b
     ·go_wp2
      go_meet
      exact ⟨_,HS.out.1.less (by decide),HS.out.2⟩
     ·clear c1 c2
      have HC:=κ (yP P [98,121] _ w9 HS.out.2.1 HS.out.2.2)
      obtain ⟨c1,c2⟩:=CSt.cells HS.out.1
      go_wp2_with fail
      refine μ HC ?_
      rintro e w10 ⟨hb,(⟨c,rfl,hc⟩|⟨v,r10,rfl,rfl,hp,hs⟩)⟩
      ·have HB:=κ (WkPost.stop (HS.out.1.but.trans hb) hc)
       clear hb hc
       unfold aV
       go_wp2
       exact ⟨rfl,HB.out⟩
      replace HS:=κ (ι (HS.out.1.next HS.out.2.1 hb) (ι hp hs))
      clear hb hp hs c1 c2 HC
      have HC:=κ (Qu P _ _ _ l _ w w10 H0.out.2.2 H0.out.1 (Nat.le_succ _) (by omega) (by omega) HS.out.1 HS.out.2.1 HS.out.2.2)
      obtain ⟨c1,c2⟩:=CSt.cells HS.out.1
      go_wp2_with fail
      refine μ HC ?_
      rintro e w11 (⟨c,rfl,hc,hb⟩|⟨rfl,hq⟩)
      ·have HB:=κ (WkPost.stop hb hc)
       clear hb hc
       unfold aV
       go_wp2
       exact ⟨rfl,HB.out⟩
      ·have HB:=κ hq
       clear hq
       go_wp2
       go_meet
       exact HB.out
    case rest =>
     clear c1 c2 HS
     obtain ⟨l5,hS⟩:=hcut
     have HS:=κ hS
     clear hS
     obtain ⟨c1,c2⟩:=CSt.cells HS.out.1
     have HC:=κ (fun b hb=>bM P 0 l5 ⟨#[111,114,100,101,114]⟩ wc HS.out.2.1 b hb)
     go_wp2_with fail
     refine (HC.out _ rfl).mono ?_
     rintro e w12 ⟨rfl,hb,hp⟩
     have hs:=nC (b:=isF [111,114,100,101,114] l5) HS.out.2.2
     replace HS:=κ (ι (HS.out.1.next HS.out.2.1 hb) (ι hp hs))
     clear hb hp hs c1 c2 HC
     obtain ⟨c1,c2⟩:=CSt.cells HS.out.1
     generalize (if isF [111,114,100,101,114] l5 then l5.tail else l5)=r12 at *
     generalize isF [111,114,100,101,114] l5=b at *
     go_upto_if 49 with fail
     go_cut [] (fun wx=>CSt P w.heap.size (w.heap.size+1+1) (w.heap.size+1) [] w wx)
     case first =>
      cases b
      ·go_wp2
       go_meet
       exact ⟨_,HS.out.1.less (by decide),HS.out.2⟩
      ·clear c1 c2
       have HC:=κ (yP P [98,121] _ w12 HS.out.2.1 HS.out.2.2)
       obtain ⟨c1,c2⟩:=CSt.cells HS.out.1
       go_wp2_with fail
       refine μ HC ?_
       rintro e w13 ⟨hb,(⟨c,rfl,hc⟩|⟨v,r13,rfl,rfl,hp,hs⟩)⟩
       ·have HB:=κ (WkPost.stop (HS.out.1.but.trans hb) hc)
        clear hb hc
        unfold aV
        go_wp2
        exact ⟨rfl,HB.out⟩
       replace HS:=κ (ι (HS.out.1.next HS.out.2.1 hb) (ι hp hs))
       clear hb hp hs c1 c2 HC
       have HC:=κ (Qt P _ _ _ l _ w w13 H0.out.2.2 H0.out.1 (Nat.le_succ _) (by omega) (by omega) HS.out.1 HS.out.2.1 HS.out.2.2)
       obtain ⟨c1,c2⟩:=CSt.cells HS.out.1
       go_wp2_with fail
       refine μ HC ?_
       rintro e w14 (⟨c,rfl,hc,hb⟩|⟨rfl,hq⟩)
       ·have HB:=κ (WkPost.stop hb hc)
        clear hb hc
        unfold aV
        go_wp2
        exact ⟨rfl,HB.out⟩
       ·have HB:=κ hq
        clear hq
        go_wp2
        go_meet
        exact HB.out
     case rest =>
      clear c1 c2 HS
      obtain ⟨l6,hS⟩:=hcut
      have HS:=κ hS
      clear hS
      obtain ⟨c1,c2⟩:=CSt.cells HS.out.1
      have HC:=κ (fun b hb=>bM P 0 l6 ⟨#[108,105,109,105,116]⟩ wc HS.out.2.1 b hb)
      go_wp2_with fail
      refine (HC.out _ rfl).mono ?_
      rintro e w15 ⟨rfl,hb,hp⟩
      have hs:=nC (b:=isF [108,105,109,105,116] l6) HS.out.2.2
      replace HS:=κ (ι (HS.out.1.next HS.out.2.1 hb) (ι hp hs))
      clear hb hp hs c1 c2 HC
      obtain ⟨c1,c2⟩:=CSt.cells HS.out.1
      generalize (if isF [108,105,109,105,116] l6 then l6.tail else l6)=r15 at *
      generalize isF [108,105,109,105,116] l6=b at *
      go_upto_if 57 with fail
      go_cut [] (fun wx=>CSt P w.heap.size (w.heap.size+1+1) (w.heap.size+1) [] w wx)
      case first =>
       cases b
       ·go_wp2
        go_meet
        exact ⟨_,HS.out⟩
       ·clear c1 c2
        have HC:=κ (Xz P _ w15.drew HS.out.2.1 HS.out.2.2)
        obtain ⟨c1,c2⟩:=CSt.cells HS.out.1
        go_wp2_with fail
        refine wp_region_held_drew (S:=fun w'=>w'.cell? ⟨w.heap.size+1+1,0,none⟩=some (.pointer (some ⟨w.heap.size+1,0,none⟩))∧w'.cell? ⟨w.heap.size,0,none⟩=some (.pointer (some ⟨P,0,none⟩))) (by kernel_rfl) ⟨c2,c1⟩ (fun hHeld => ?_)
        refine wpAnyH_take (i:=0) (v:=.pointer (some ⟨w.heap.size+1,0,none⟩)) rfl (by kernel_rfl) (by kernel_rfl) (by kernel_rfl) (fun _ _ _ h=>h) (Or.inl ⟨by rfl,fun w hSw=>by obtain ⟨s1,s2⟩:=hSw;go_simp⟩) hHeld ?_
        refine wpAnyH_take (i:=1) (v:=.pointer (some ⟨P,0,none⟩)) rfl (by kernel_rfl) (by kernel_rfl) (by kernel_rfl) (fun _ _ _ h=>h) (Or.inl ⟨by rfl,fun w hSw=>by obtain ⟨s1,s2⟩:=hSw;go_simp⟩) hHeld ?_
        refine wpAnyH_ready (rs:=[2]) (by kernel_rfl) (by simp) ?_
        refine AllReadyH.cons rfl (fun K hK1 => ?_) AllReadyH.nil
        go_simp
        refine μ HC ?_
        rintro e w16 ⟨hb,(⟨c,rfl,hc⟩|⟨v,r16,rfl,⟨k,s,n,rfl⟩,hp,hs⟩)⟩
        ·have HB:=κ (WkPost.stop (HS.out.1.but.drew.trans hb) hc)
         clear hb hc
         unfold aV
         go_wp2
         exact ⟨rfl,HB.out⟩
        have hS:=HS.out.1.drew.next (d:=0) (show PS w15.drew P _ 0 from HS.out.2.1) hb
        have cz:=(CSt.cells hS)
        obtain ⟨d1,d2⟩:=cz
        have HF:=κ (hS.fz)
        have f1:=HF.out 7
        obtain ⟨u,f2⟩:=hS.at_ 7 (by omega)
        have hS2:=hS.set (Nat.le_succ _) 7 (by decide) (.int .i64 n)
        have hp2:=hp.setNew (g:=w.heap.size+1) (o:=7) (Nat.lt_succ_of_lt H0.out.1.lt) (.int .i64 n)
        replace HS:=κ (ι hS2 (ι hp2 hs))
        obtain ⟨e1,e2⟩:=CSt.cells hS2
        clear hb hp hs hS hS2 hp2 c1 c2
        refine hK1.out _ _ ⟨d2,d1⟩ (fun hH2 => ?_)
        clear hK1 hHeld
        refine wpAnyH_take (i:=3) (v:=.int .i64 n) rfl (by kernel_rfl) (by kernel_rfl) (by kernel_rfl) (fun _ _ _ h=>h) (Or.inl ⟨by rfl,fun w hSw=>by go_simp⟩) hH2 ?_
        refine wpAnyH_take (i:=4) (v:=.pointer (some ⟨w.heap.size+1,0,none⟩)) rfl (by kernel_rfl) (by kernel_rfl) (by kernel_rfl) (fun _ _ _ h=>h) (Or.inl ⟨by rfl,fun w hSw=>by go_simp⟩) hH2 ?_
        refine wpAnyH_take (i:=5) (v:=.pointer (some ⟨w.heap.size+1,7,none⟩)) rfl (by kernel_rfl) (by kernel_rfl) (by kernel_rfl) (fun _ _ _ h=>h) (Or.inl ⟨by rfl,fun w hSw=>by go_simp⟩) hH2 ?_
        refine wpAnyH_ready (rs:=[6]) (by kernel_rfl) (by simp) ?_
        refine AllReadyH.cons rfl (fun K hK => ?_) AllReadyH.nil
        go_simp
        refine hK.out _ _ ⟨e2,e1⟩ (fun hX=>wpAnyH_done (by kernel_rfl) ?_ _)
        clear hK hH2 hX d1 d2 e1 e2 f1 f2 HF HC
        generalize w16.setCell ⟨w.heap.size+1,7,none⟩ (.int .i64 n)=w16' at *
        go_wp2
        go_meet
        exact ⟨_,HS.out⟩
      case rest =>
       clear c1 c2 HS
       obtain ⟨l7,hS⟩:=hcut
       have HS:=κ hS
       clear hS
       obtain ⟨c1,c2⟩:=CSt.cells HS.out.1
       go_wp2
       go_ret
       exact WkPost.ok HS.out.1.but (by decide) HS.out.2.1 HS.out.2.2
