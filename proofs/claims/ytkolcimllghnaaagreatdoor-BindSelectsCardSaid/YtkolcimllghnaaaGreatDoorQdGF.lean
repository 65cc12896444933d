/-
 Contracts. Conditions: those of each.
-/
import Derived.Test.YtkolcimllghnaaaGreatDoorQdGE
import Derived.Deep.RegionWith
import Derived.BigRegion
set_option maxRecDepth 100000
set_option maxHeartbeats 8000000
namespace Go.Proofs.YtkolcimllghnaaaGreatDoor
open Lp Go.Proofs.Tryz
open Go.RowKit
variable{gr:Bool}{e:Ending}{k:Int}{sc:List Tb}{a b x:Lp.X}{c g:Nat}{w w' w1:World}{op:ZS}{A:ZT}
theorem Jv (g:Nat) (w:World):(Instr.typeAssert (.iface 121 g) 66 121 true).run prog w=.ok (.tuple #[g,true]) w:=aj
theorem Jw (g:Nat) (w:World):(Instr.typeAssert (.iface 192 g) 66 121 true).run prog w=.ok (.tuple #[.pointer none,false]) w:=aj
theorem Jx (g:Nat) (w:World):(Instr.typeAssert (.iface 192 g) 66 192 true).run prog w=.ok (.tuple #[g,true]) w:=aj
theorem sH (g:Nat) (w:World):(Instr.typeAssert (.iface 194 g) 66 121 true).run prog w=.ok (.tuple #[.pointer none,false]) w:=aj
theorem sI (g:Nat) (w:World):(Instr.typeAssert (.iface 194 g) 66 192 true).run prog w=.ok (.tuple #[.pointer none,false]) w:=aj
theorem oZ (g:Nat) (w:World):(Instr.typeAssert (.iface 194 g) 66 194 true).run prog w=.ok (.tuple #[g,true]) w:=aj
theorem As (g:Nat) (w:World):(Instr.typeAssert (.iface 198 g) 66 121 true).run prog w=.ok (.tuple #[.pointer none,false]) w:=aj
theorem Au (g:Nat) (w:World):(Instr.typeAssert (.iface 198 g) 66 192 true).run prog w=.ok (.tuple #[.pointer none,false]) w:=aj
theorem uV (g:Nat) (w:World):(Instr.typeAssert (.iface 198 g) 66 194 true).run prog w=.ok (.tuple #[.pointer none,false]) w:=aj
theorem Fj (g:Nat) (w:World):(Instr.typeAssert (.iface 198 g) 66 198 true).run prog w=.ok (.tuple #[g,true]) w:=aj
theorem zN (g:Nat) (w:World):(Instr.typeAssert (.iface 201 g) 66 121 true).run prog w=.ok (.tuple #[.pointer none,false]) w:=aj
theorem zO (g:Nat) (w:World):(Instr.typeAssert (.iface 201 g) 66 192 true).run prog w=.ok (.tuple #[.pointer none,false]) w:=aj
theorem vC (g:Nat) (w:World):(Instr.typeAssert (.iface 201 g) 66 194 true).run prog w=.ok (.tuple #[.pointer none,false]) w:=aj
theorem Cu (g:Nat) (w:World):(Instr.typeAssert (.iface 201 g) 66 198 true).run prog w=.ok (.tuple #[.pointer none,false]) w:=aj
theorem tV (g:Nat) (w:World):(Instr.typeAssert (.iface 201 g) 66 201 true).run prog w=.ok (.tuple #[g,true]) w:=aj
theorem Jy (g:Nat) (w:World):(Instr.typeAssert (.iface 204 g) 66 121 true).run prog w=.ok (.tuple #[.pointer none,false]) w:=aj
theorem Jz (g:Nat) (w:World):(Instr.typeAssert (.iface 204 g) 66 192 true).run prog w=.ok (.tuple #[.pointer none,false]) w:=aj
theorem Cv (g:Nat) (w:World):(Instr.typeAssert (.iface 204 g) 66 194 true).run prog w=.ok (.tuple #[.pointer none,false]) w:=aj
theorem Pd (g:Nat) (w:World):(Instr.typeAssert (.iface 204 g) 66 198 true).run prog w=.ok (.tuple #[.pointer none,false]) w:=aj
theorem zP (g:Nat) (w:World):(Instr.typeAssert (.iface 204 g) 66 201 true).run prog w=.ok (.tuple #[.pointer none,false]) w:=aj
theorem aHM (g:Nat) (w:World):(Instr.typeAssert (.iface 204 g) 66 204 false).run prog w=.ok (.pointer (some ⟨g,0,none⟩)) w:=aj
theorem aGX (hk:k=(hY op 0).1) (h:fJ sc gr (unN op) k k [x] w e w'):BPost sc gr (.un op x) w e w':=by
 obtain ⟨hb,h⟩:=h;refine ⟨hb, ?_⟩;have hk0:k=3∨k=1:=by rw [hk];unfold hY;split<;>simp [fitK]
 have hkx:aC sc (.un op x) gr=cY (aC sc x gr) (hY op):=rfl;have hfe:aF sc gr [x]=(aC sc x gr).2:=by
  show (if (aC sc x gr).2=0 then (0:Int) else _)=_
  split
  ·rename_i h;exact h.symm
  ·rfl
 rw [hfe] at h
 by_cases h0:(aC sc x gr).2=0
 ·rw [if_pos h0] at h;have hkx2:aC sc (.un op x) gr=hY op (aC sc x gr).1:=by rw [hkx,cY,if_pos h0]
  have hu:hY op (aC sc x gr).1=if fitK (aC sc x gr).1 k then (k,0) else (0,8):=by
   rw [hk];unfold hY
   split<;>simp [fitK]
  have hany:(mO sc gr k [x]).any id = !fitK (aC sc x gr).1 k:=by simp [mO]
  rw [hany] at h;rw [hkx2,hu];cases hf:fitK (aC sc x gr).1 k
  ·rw [hf] at h;rw [if_pos ⟨ac,rfl⟩] at h
   simpa using h
  ·rw [hf] at h;rw [if_neg (λh=>by cases h.2)] at h;simp only [if_true];obtain ⟨g,Ao,co,gs,rfl,hg,hc,hp,hn⟩:=h
   match gs,hn with
   | [g1],hn =>
     exact ⟨g,rfl,hg,Ao,co,g1,by rw [<-hk];exact hc,hp.turn (Turn.mono λ_ h _=>h.1) aa,hn.1.turn (Turn.mono λ_ h _=>h.1)⟩
 ·rw [if_neg h0] at h;rw [hkx,cY,if_neg h0];simp only [h0,if_false];exact h
theorem aAK {n:Bool} (h:fJ sc gr (isN n) 0 3 [x] w e w'):BPost sc gr (.isn n x) w e w':=by
 obtain ⟨hb,h⟩:=h;refine ⟨hb, ?_⟩;have hkx:aC sc (.isn n x) gr=cY (aC sc x gr) λ_=>(3,0):=rfl;have hfe:aF sc gr [x]=(aC sc x gr).2:=by
  show (if (aC sc x gr).2=0 then (0:Int) else _)=_
  split
  ·rename_i h;exact h.symm
  ·rfl
 rw [hfe] at h
 by_cases h0:(aC sc x gr).2=0
 ·rw [if_pos h0,if_neg (λh=>h.1 rfl)] at h;rw [hkx,cY,if_pos h0];simp only [if_true];obtain ⟨g,Ao,co,gs,rfl,hg,hc,hp,hn⟩:=h
  match gs,hn with
  | [g1],hn=>exact ⟨g,rfl,hg,Ao,co,g1,hc,hp.turn (Turn.mono λ_ h _=>h.1) aa,hn.1.turn (Turn.mono λ_ h _=>h.1)⟩
 ·rw [if_neg h0] at h;rw [hkx,cY,if_neg h0];simp only [h0,if_false];exact h
section
attribute [local go_sem] Jv
theorem Sn (A:ZT) (c:Nat) (sc:List Tb) (gr:Bool) (k i:Int) (s:ZS) (b:Bool):dB A c sc gr (.lit k i s b):=by
 intro w v hx hS;obtain ⟨g, -,rfl,hcell⟩:=hx;have hb0:=kp;have hx0:=sz;have hz0:=sy;have cx:=sx;have cz:=sw;unfold bdr;have HZ:=sv;clear hS hcell hx0 hz0 hb0;go_enter func48,ntmps48;go_wp2_with fail
 go_region
 have hbn:Below w w ((w.alloc (.cells #[.slice A sc.length c,gr] 139)).alloc (.cells (ndv vF k ⟨k,i,⟨s.toArray⟩,b⟩ 0 none 0 0) 120)):=HZ.o.alloc aa _;have hnn:=heap_alloc_new (w.alloc (.cells #[.slice A sc.length c,gr] 139)) (.cells (ndv vF k ⟨k,i,⟨s.toArray⟩,b⟩ 0 none 0 0) 120);rw [World.size_alloc] at hnn;have HR:=κ (show BPost sc gr (.lit k i s b) w (.returned (.tuple #[(w.heap.size+1:Nat),.int .i64 0])) ((w.alloc (.cells #[.slice A sc.length c,gr] 139)).alloc (.cells (ndv vF k ⟨k,i,⟨s.toArray⟩,b⟩ 0 none 0 0) 120)).drew from ⟨hbn.drew,by
  have e:(aC sc (.lit k i s b) gr).2=0:=rfl;rw [if_pos e];exact ⟨_,rfl,by show w≤w.heap.size+1;omega,hnn⟩⟩)
 clear hbn hnn cx cz;go_wp2;go_ret2;exact lc
end
section
attribute [local go_sem] Jw Jx
theorem So (A:ZT) (c:Nat) (sc:List Tb) (gr:Bool) (t s:ZS) (hn:sc.length≤100) (hw:bY sc≤10000):dB A c sc gr (.col t s):=by
 intro w v hx hS;obtain ⟨g, -,rfl,hcell⟩:=hx;have hb0:=kp;have hx0:=sz;have hz0:=sy;have cx:=sx;have cz:=sw;unfold bdr;have HF:=κ (Yw A c sc g t s _ (hS.below hb0) hx0 hn hw);have HZ:=sv;clear hS hcell hx0 hz0 hb0;go_enter func48,ntmps48;go_wp2_with fail;refine μ HF ?_;rintro e w1 ⟨hb1,hq⟩;have hbw:=HZ.o.trans (hb1.mono HZ.o.size);rcases hf:dX sc t s with _|p
 ·rw [hf] at hq;subst hq;have HR:=κ (show BPost sc gr (.col t s) w (.returned (.tuple #[.pointer none,.int .i64 6])) w1 from ⟨hbw,by simp [aC,hf]⟩);clear hf hb1 hbw;go_wp2;go_ret2;exact lc
 ·rw [hf] at hq;obtain ⟨g2,rfl,hg,hc⟩:=hq;have HR:=κ (show BPost sc gr (.col t s) w (.returned (.tuple #[g2,.int .i64 0])) w1 from ⟨hbw,by
   have e:(aC sc (.col t s) gr).2=0:=by simp [aC,hf]
   rw [if_pos e];exact ⟨g2,rfl,Nat.le_trans HZ.o.size hg,p,hf,hc⟩⟩)
  clear hf hb1 hbw hg hc;go_wp2;go_ret2;exact lc
end
theorem aJG (hop:op≠fG) (h:fJ sc gr Pu 1 1 [x] w e w'):BPost sc gr (.un op x) w e w' :=
 aGX (k:=1) (by unfold hY;rw [if_neg hop];rfl) (by rw [show unN op=Pu from if_neg hop];exact h)
theorem BPost.pre {a:World} (hb:Below a a w) (h:BPost sc gr x w e w'):BPost sc gr x a e w':=by
 obtain ⟨h1,h2⟩:=h;refine ⟨hb.trans (h1.mono hb.size), ?_⟩
 split
 ·rename_i h0
  rw [if_pos h0] at h2;obtain ⟨g,h3,h4⟩:=h2;exact ⟨g,h3,h4.turn (Turn.mono λk hk _=>Nat.le_trans hb.size hk)⟩
 ·rename_i h0
  rw [if_neg h0] at h2;exact h2
theorem BPost.form (h:BPost sc gr x w e w'):∃ u E,e=.returned (.tuple #[.pointer u,.int .i64 E]):=by
 obtain ⟨-,h⟩:=h
 split at h
 ·obtain ⟨g,h, -⟩:=h;exact ⟨_,_,h⟩
 ·exact ⟨_,_,h⟩
section
attribute [local go_sem] sH sI oZ
theorem Sl (A:ZT) (c:Nat) (sc:List Tb) (gr:Bool) (op:ZS) (x:Lp.X) (hop:op≠fG) (hB:dB A c sc gr x):dB A c sc gr (.un op x):=by
 intro w v hx hS;obtain ⟨g,u, -,rfl,hcell,hpx⟩:=hx;have hb0:=kp;have hx0:=sz;have hz0:=sy;have cx:=sx;have cz:=sw;have e1:(op==[78,79,84])=false:=η hop;obtain ⟨T,g2,rfl⟩:=hpx.form;have hb1:=tc;have hrd:Rds ((w.alloc (.cells #[.slice A sc.length c,gr] 139)).drew.alloc (.cells #[.iface T g2] 66)) (some ⟨w+1,0,none⟩) [.iface T g2]:=by
  have h:=td;rw [show (w.alloc (.cells #[.slice A sc.length c,gr] 139)).drew.heap.size=w.heap.size+1 from World.size_alloc _ _] at h;exact aS _ h
 have HJ:=κ ((kT A c sc gr Pu 1 1 [(x,.iface T g2)] (some ⟨w+1,0,none⟩) 1 _ (hS.below hb1) hrd aa aa (by
  intro p hq;rw [List.mem_singleton] at hq;subst hq;exact PX.keep (aP hb1) hpx) (by
  intro p hq;rw [List.mem_singleton] at hq;subst hq;exact hB)).mono λe w' h=>(show BPost sc gr (.un op x) w e w' from BPost.pre hb1 (aJG hop h)))
 have cz2:=tf;clear hS hcell hx0 hz0 hb0 hb1 hrd hpx hB;unfold bdr at *;go_enter func48,ntmps48;go_wp2_with fail
 go_region_with (go_at_call 96;refine μ HJ ?_;rintro e w2 hj;obtain ⟨u,E,rfl⟩:=hj.form;have HR:=κ hj;clear hj)
 all_goals
  go_wp2;go_ret2;exact lc
end
section
attribute [local go_sem] sH sI oZ
theorem Sk (A:ZT) (c:Nat) (sc:List Tb) (gr:Bool) (x:Lp.X) (hB:dB A c sc gr x):dB A c sc gr (.un fG x):=by
 intro w v hx hS;obtain ⟨g,u, -,rfl,hcell,hpx⟩:=hx;have hb0:=kp;have hx0:=sz;have hz0:=sy;have cx:=sx;have cz:=sw;obtain ⟨T,g2,rfl⟩:=hpx.form;have hb1:=tc;have hrd:Rds ((w.alloc (.cells #[.slice A sc.length c,gr] 139)).drew.alloc (.cells #[.iface T g2] 66)) (some ⟨w+1,0,none⟩) [.iface T g2]:=by
  have h:=td;rw [show (w.alloc (.cells #[.slice A sc.length c,gr] 139)).drew.heap.size=w.heap.size+1 from World.size_alloc _ _] at h;exact aS _ h
 have HJ:=κ ((kT A c sc gr fG 3 3 [(x,.iface T g2)] (some ⟨w+1,0,none⟩) 1 _ (hS.below hb1) hrd aa aa (by
  intro p hq;rw [List.mem_singleton] at hq;subst hq;exact PX.keep (aP hb1) hpx) (by
  intro p hq;rw [List.mem_singleton] at hq;subst hq;exact hB)).mono λe w' h=>(show BPost sc gr (.un fG x) w e w' from BPost.pre hb1 (aGX (k:=3) (op:=fG) rfl h)))
 have cz2:=tf;clear hS hcell hx0 hz0 hb0 hb1 hrd hpx hB;unfold bdr at *;go_enter func48,ntmps48;go_wp2_with fail
 go_region_with (go_at_call 96;refine μ HJ ?_;rintro e w2 hj;obtain ⟨u,E,rfl⟩:=hj.form;have HR:=κ hj;clear hj)
 all_goals
  go_wp2;go_ret2;exact lc
end
section
attribute [local go_sem] As Au uV Fj
theorem aAQ (A:ZT) (c:Nat) (sc:List Tb) (gr:Bool) (x:Lp.X) (hB:dB A c sc gr x):dB A c sc gr (.isn false x):=by
 intro w v hx hS;obtain ⟨g,u, -,rfl,hcell,hpx⟩:=hx;have hb0:=kp;have hx0:=sz;have hz0:=sy;have cx:=sx;have cz:=sw;obtain ⟨T,g2,rfl⟩:=hpx.form;have hb1:=tc;have hrd:Rds ((w.alloc (.cells #[.slice A sc.length c,gr] 139)).drew.alloc (.cells #[.iface T g2] 66)) (some ⟨w+1,0,none⟩) [.iface T g2]:=by
  have h:=td;rw [show (w.alloc (.cells #[.slice A sc.length c,gr] 139)).drew.heap.size=w.heap.size+1 from World.size_alloc _ _] at h;exact aS _ h
 have HJ:=κ ((kT A c sc gr sIs 0 3 [(x,.iface T g2)] (some ⟨w+1,0,none⟩) 1 _ (hS.below hb1) hrd aa aa (by
  intro p hq;rw [List.mem_singleton] at hq;subst hq;exact PX.keep (aP hb1) hpx) (by
  intro p hq;rw [List.mem_singleton] at hq;subst hq;exact hB)).mono λe w' h=>(show BPost sc gr (.isn false x) w e w' from BPost.pre hb1 (aAK (n:=false) h)))
 have cz2:=tf;clear hS hcell hx0 hz0 hb0 hb1 hrd hpx hB;unfold bdr at *;go_enter func48,ntmps48;go_wp2_with fail
 go_region_with (go_at_call 96;refine μ HJ ?_;rintro e w2 hj;obtain ⟨u,E,rfl⟩:=hj.form;have HR:=κ hj;clear hj)
 all_goals
  go_wp2;go_ret2;exact lc
end
section
attribute [local go_sem] As Au uV Fj
theorem Ja (A:ZT) (c:Nat) (sc:List Tb) (gr:Bool) (x:Lp.X) (hB:dB A c sc gr x):dB A c sc gr (.isn true x):=by
 intro w v hx hS;obtain ⟨g,u, -,rfl,hcell,hpx⟩:=hx;have hb0:=kp;have hx0:=sz;have hz0:=sy;have cx:=sx;have cz:=sw;obtain ⟨T,g2,rfl⟩:=hpx.form;have hb1:=tc;have hrd:Rds ((w.alloc (.cells #[.slice A sc.length c,gr] 139)).drew.alloc (.cells #[.iface T g2] 66)) (some ⟨w+1,0,none⟩) [.iface T g2]:=by
  have h:=td;rw [show (w.alloc (.cells #[.slice A sc.length c,gr] 139)).drew.heap.size=w.heap.size+1 from World.size_alloc _ _] at h;exact aS _ h
 have HJ:=κ ((kT A c sc gr lX 0 3 [(x,.iface T g2)] (some ⟨w+1,0,none⟩) 1 _ (hS.below hb1) hrd aa aa (by
  intro p hq;rw [List.mem_singleton] at hq;subst hq;exact PX.keep (aP hb1) hpx) (by
  intro p hq;rw [List.mem_singleton] at hq;subst hq;exact hB)).mono λe w' h=>(show BPost sc gr (.isn true x) w e w' from BPost.pre hb1 (aAK (n:=true) h)))
 have cz2:=tf;clear hS hcell hx0 hz0 hb0 hb1 hrd hpx hB;unfold bdr at *;go_enter func48,ntmps48;go_wp2_with fail
 go_region_with (go_at_call 96;refine μ HJ ?_;rintro e w2 hj;obtain ⟨u,E,rfl⟩:=hj.form;have HR:=κ hj;clear hj)
 all_goals
  go_wp2;go_ret2;exact lc
end
theorem yN (sc:List Tb) (gr:Bool) (a b:Lp.X):aF sc gr [a,b]=if (aC sc a gr).2=0 then (aC sc b gr).2 else (aC sc a gr).2:=by
 show (if (aC sc a gr).2=0 then (if (aC sc b gr).2=0 then (0:Int) else (aC sc b gr).2) else (aC sc a gr).2)=_
 split
 ·split
  ·rename_i h;exact h.symm
  ·rfl
 ·rfl
theorem yD (sc:List Tb) (gr:Bool) (op:ZS) (a b:Lp.X):(aF sc gr [a,b]=0->aC sc (.bin op a b) gr=iZ op (aC sc a gr).1 (aC sc b gr).1)∧(aF sc gr [a,b]≠0->aC sc (.bin op a b) gr=(0,aF sc gr [a,b])):=by
 have hkx:aC sc (.bin op a b) gr=cY (aC sc a gr) λk=>cY (aC sc b gr) (iZ op k):=rfl;rw [yN,hkx]
 by_cases h0:(aC sc a gr).2=0
 ·rw [if_pos h0,cY,if_pos h0]
  by_cases h1:(aC sc b gr).2=0
  ·exact ⟨λ_=>by rw [cY,if_pos h1],λh=>absurd h1 h⟩
  ·exact ⟨λh=>absurd h h1,λ_=>by rw [cY,if_neg h1]⟩
 ·rw [if_neg h0,cY,if_neg h0];exact ⟨λh=>absurd h h0,λ_=>rfl⟩
theorem Yd {a b:Int} (hop:((op=lE∨op=uOr)∧k=3)∨(op∈jQ∧k=1)):iZ op a b=(if fitK a k&&fitK b k then (k,0) else (0,8))∧Ej op=k∧k≠0:=by
 rcases hop with ⟨h,rfl⟩|⟨h,rfl⟩
 ·have h2:op ∉ jQ:=by rcases h with rfl|rfl<;>decide
  exact ⟨by unfold iZ;rw [if_pos h],if_neg h2,am⟩
 ·have h2:¬(op=lE∨op=uOr):=by rintro (rfl|rfl)<;>revert h<;>decide
  exact ⟨by unfold iZ;rw [if_neg h2,if_pos h],if_pos h,am⟩
theorem aAL (hop:((op=lE∨op=uOr)∧k=3)∨(op∈jQ∧k=1)) (h:fJ sc gr op k k [a,b] w e w'):BPost sc gr (.bin op a b) w e w':=by
 obtain ⟨hb,h⟩:=h;refine ⟨hb, ?_⟩;obtain ⟨q1,q2⟩:=yD sc gr op a b
 by_cases h0:aF sc gr [a,b]=0
 ·rw [if_pos h0] at h;obtain ⟨k1,k2,k3⟩:=Yd (a:=(aC sc a gr).1) (b:=(aC sc b gr).1) hop;rw [q1 h0,k1];have hany:(mO sc gr k [a,b]).any id = !(fitK (aC sc a gr).1 k&&fitK (aC sc b gr).1 k):=by simp [mO,Bool.not_and]
  rw [hany] at h;cases hf:(fitK (aC sc a gr).1 k&&fitK (aC sc b gr).1 k)
  ·rw [hf] at h;rw [if_pos ⟨k3,rfl⟩] at h
   simpa using h
  ·rw [hf] at h;rw [if_neg (λh=>by cases h.2)] at h;simp only [if_true];obtain ⟨g,Ao,co,gs,rfl,hg,hc,hp,hn⟩:=h
   match gs,hn with
   | [g1,g2],hn =>
     exact ⟨g,rfl,hg,Ao,co,g1,g2,by rw [k2];exact hc,hp.turn (Turn.mono λ_ h _=>h.1) aa,hn.1.turn (Turn.mono λ_ h _=>h.1),hn.2.1.turn (Turn.mono λ_ h _=>h.1)⟩
 ·rw [if_neg h0] at h;rw [q2 h0];simp only [h0,if_false];exact h
theorem Ya (h1:¬(op=lE∨op=uOr)) (h2:op ∉ jQ) (h0:aF sc gr [a,b]=0) :
 aC sc (.bin op a b) gr=if fitK (aC sc a gr).1 (aC sc b gr).1||fitK (aC sc b gr).1 (aC sc a gr).1 then (3,0) else (0,8):=by
 rw [(yD sc gr op a b).1 h0];unfold iZ;rw [if_neg h1,if_neg h2]
theorem Yj (h:fJ sc gr op 0 3 [a,b] w e w') :
 (∃ E,E≠0∧E=aF sc gr [a,b]∧e=.returned (.tuple #[.pointer none,.int .i64 E])) ∨
 (aF sc gr [a,b]=0∧∃ g bA offA co g1 g2,e=.returned (.tuple #[ptr g,.int .i64 0])∧w.heap.size≤g∧w'.heap[g]? = some (.cells (ndv op 3 nul 0 (some ⟨bA,offA,none⟩) 2 co) 120 (0,0)) ∧
  w'.cell? ⟨bA,offA,none⟩=some (ptr g1)∧w'.cell? ⟨bA,offA+1,none⟩=some (ptr g2)∧Prts (λk=>w.heap.size≤k) w' (some ⟨bA,offA,none⟩) [g1,g2]∧NT (λk=>w.heap.size≤k) w' sc a g1∧NT (λk=>w.heap.size≤k) w' sc b g2):=by
 obtain ⟨hb,h⟩:=h
 by_cases h0:aF sc gr [a,b]=0
 ·rw [if_pos h0,if_neg (λh=>h.1 rfl)] at h;obtain ⟨g,Ao,co,gs,rfl,hg,hc,hp,hn⟩:=h
  match gs,hn with
  | [g1,g2],hn =>
    obtain ⟨bA,offA,rfl,h1,h2⟩:=hp;exact .inr ⟨h0,g,bA,offA,co,g1,g2,rfl,hg,hc,h2 0 _ rfl,h2 1 _ rfl,⟨bA,offA,rfl,h1.1,h2⟩,hn.1.turn (Turn.mono λ_ h _=>h.1),hn.2.1.turn (Turn.mono λ_ h _=>h.1)⟩
 ·rw [if_neg h0] at h;exact .inl ⟨_,h0,rfl,h⟩
theorem aZ {a:Addr} {u:Value} (h:w.cell? a=some u) (hb:Below w w w'):w'.cell? a=some u:=(hb.cell (p:=a) (World.block_lt_of_cell? w a h)).trans h
def aGD (w:World) (a b:Lp.X) (op:ZS) (g:Nat):Prop:=∃ u1 u2,w.heap[g]? = some (.cells #[op,u1,u2] 247 (0,0))∧PX 0 w a u1∧PX 0 w b u2
theorem Mg (A:ZT) (c:Nat) (sc:List Tb) (gr:Bool) (a b:Lp.X) (op:ZS) (hop:op=lE∨op=uOr) (g:Nat) (w:World) (hT:aGD w a b op g) (hS:ScM w A sc) (hA:dB A c sc gr a) (hB:dB A c sc gr b) :
 Calls prog 97 #[bdr A sc c gr,g] w (BPost sc gr (.bin op a b) w):=by
 obtain ⟨u1,u2,hcell,hp1,hp2⟩:=hT;obtain ⟨T1,g1,rfl⟩:=hp1.form;obtain ⟨T2,g2,rfl⟩:=hp2.form;have hb0:=kp;have hx0:=sz;have hz0:=sy;have cx:=sx;have cz:=sw;have hb1:=tg;have hrd:Rds ((w.alloc (.cells #[.slice A sc.length c,gr] 139)).alloc (.cells #[.iface T1 g1,.iface T2 g2] 66)).drew (some ⟨w+1,0,none⟩) [.iface T1 g1,.iface T2 g2]:=by
  have h:=ti;rw [World.size_alloc] at h;exact th
 have HJ:=κ ((kT A c sc gr op 3 3 [(a,.iface T1 g1),(b,.iface T2 g2)] (some ⟨w+1,0,none⟩) 2 _ (hS.below hb1) hrd aa aa (by
  intro p hq;rcases List.mem_cons.1 hq with rfl|hq
  ·exact PX.keep (aP hb1) hp1
  ·rw [List.mem_singleton] at hq;subst hq;exact PX.keep (aP hb1) hp2) (by
  intro p hq;rcases List.mem_cons.1 hq with rfl|hq
  ·exact hA
  ·rw [List.mem_singleton] at hq;subst hq;exact hB)).mono λe w' h=>(show BPost sc gr (.bin op a b) w e w'∧Below ((w.alloc (.cells #[.slice A sc.length c,gr] 139)).alloc (.cells #[.iface T1 g1,.iface T2 g2] 66)).drew.heap.size _ w' from ⟨BPost.pre hb1 (aAL (.inl ⟨hop,rfl⟩) h),h.1⟩))
 have hbD:=tj;have cz2:=β (aA hz0 hbD);have cx2:=β (aA hx0 hbD);clear hS hcell hx0 hz0 hb0 hb1 hrd hp1 hp2 hA hB hbD;unfold bdr at *;have hO:∃ O,O=op:=⟨_,rfl⟩;obtain ⟨O,hO⟩:=hO;rw [<-hO] at cx cx2 HJ |-;have he:((O==[65,78,68])=true)∨((O==[65,78,68])=false∧(O==[79,82])=true):=by rcases hop with rfl|rfl<;>subst hO<;>first|exact .inl rfl|exact .inr ⟨rfl,rfl⟩
 clear hop hO;rcases he with e1|⟨e1,e2⟩
 all_goals
  go_enter func97,ntmps97;go_wp2_with fail
  go_region_held3 (λw'=>w'.cell? ⟨w,0,none⟩=some (.slice A sc.length c)∧w'.cell? ⟨w,1,none⟩=some (.bool gr)∧w'.cell? ⟨g,0,none⟩=some (.string O)∧w'.cell? ⟨g,1,none⟩=some (.iface T1 g1)∧w'.cell? ⟨g,2,none⟩=some (.iface T2 g2))
   (first|go_keep|exact hd2)
   ((go_at_call 96;refine μ HJ ?_;rintro e w2 hj;obtain ⟨u,E,rfl⟩:=hj.1.form;have HR:=κ hj.1;have hd2:w2.cell? ⟨w,0,none⟩=some (.slice A sc.length c)∧w2.cell? ⟨w,1,none⟩=some (.bool gr)∧w2.cell? ⟨g,0,none⟩=some (.string O)∧w2.cell? ⟨g,1,none⟩=some (.iface T1 g1)∧w2.cell? ⟨g,2,none⟩=some (.iface T2 g2):=⟨aZ (cz2 0) hj.2,aZ (cz2 1) hj.2,aZ (cx2 0) hj.2,aZ (cx2 1) hj.2,aZ (cx2 2) hj.2⟩;clear hj))
  all_goals
   go_wp2;go_ret2;exact lc
theorem Ei (A:ZT) (c:Nat) (sc:List Tb) (gr:Bool) (a b:Lp.X) (op:ZS) (hop:op∈jQ) (g:Nat) (w:World) (hT:aGD w a b op g) (hS:ScM w A sc) (hA:dB A c sc gr a) (hB:dB A c sc gr b) :
 Calls prog 97 #[bdr A sc c gr,g] w (BPost sc gr (.bin op a b) w):=by
 obtain ⟨u1,u2,hcell,hp1,hp2⟩:=hT;obtain ⟨T1,g1,rfl⟩:=hp1.form;obtain ⟨T2,g2,rfl⟩:=hp2.form;have hb0:=kp;have hx0:=sz;have hz0:=sy;have cx:=sx;have cz:=sw;have hb1:=tg;have hrd:Rds ((w.alloc (.cells #[.slice A sc.length c,gr] 139)).alloc (.cells #[.iface T1 g1,.iface T2 g2] 66)).drew (some ⟨w+1,0,none⟩) [.iface T1 g1,.iface T2 g2]:=by
  have h:=ti;rw [World.size_alloc] at h;exact th
 have HJ:=κ ((kT A c sc gr op 1 1 [(a,.iface T1 g1),(b,.iface T2 g2)] (some ⟨w+1,0,none⟩) 2 _ (hS.below hb1) hrd aa aa (by
  intro p hq;rcases List.mem_cons.1 hq with rfl|hq
  ·exact PX.keep (aP hb1) hp1
  ·rw [List.mem_singleton] at hq;subst hq;exact PX.keep (aP hb1) hp2) (by
  intro p hq;rcases List.mem_cons.1 hq with rfl|hq
  ·exact hA
  ·rw [List.mem_singleton] at hq;subst hq;exact hB)).mono λe w' h=>(show BPost sc gr (.bin op a b) w e w'∧Below ((w.alloc (.cells #[.slice A sc.length c,gr] 139)).alloc (.cells #[.iface T1 g1,.iface T2 g2] 66)).drew.heap.size _ w' from ⟨BPost.pre hb1 (aAL (.inr ⟨hop,rfl⟩) h),h.1⟩))
 have hbD:=tj;have cz2:=β (aA hz0 hbD);have cx2:=β (aA hx0 hbD);clear hS hcell hx0 hz0 hb0 hb1 hrd hp1 hp2 hA hB hbD;unfold bdr at *;have hO:∃ O,O=op:=⟨_,rfl⟩;obtain ⟨O,hO⟩:=hO;rw [<-hO] at cx cx2 HJ |-;have he:(O==[65,78,68])=false∧(O==[79,82])=false∧(((O==[43])=true)∨((O==[43])=false∧(O==[45])=true)∨((O==[43])=false∧(O==[45])=false∧(O==[42])=true)∨((O==[43])=false∧(O==[45])=false∧(O==[42])=false∧(O==[47])=true)∨((O==[43])=false∧(O==[45])=false∧(O==[42])=false∧(O==[47])=false∧(O==[37])=true)):=by
  simp only [jQ,List.mem_cons,List.not_mem_nil,or_false] at hop;subst hO;rcases hop with rfl|rfl|rfl|rfl|rfl<;>decide
 clear hop hO;obtain ⟨e1,e2,he⟩:=he;rcases he with q0|⟨q0,q1⟩|⟨q0,q1,q2⟩|⟨q0,q1,q2,q3⟩|⟨q0,q1,q2,q3,q4⟩
 all_goals
  go_enter func97,ntmps97;go_wp2_with fail
  go_region_held3 (λw'=>w'.cell? ⟨w,0,none⟩=some (.slice A sc.length c)∧w'.cell? ⟨w,1,none⟩=some (.bool gr)∧w'.cell? ⟨g,0,none⟩=some (.string O)∧w'.cell? ⟨g,1,none⟩=some (.iface T1 g1)∧w'.cell? ⟨g,2,none⟩=some (.iface T2 g2))
   (first|go_keep|exact hd2)
   ((go_at_call 96;refine μ HJ ?_;rintro e w2 hj;obtain ⟨u,E,rfl⟩:=hj.1.form;have HR:=κ hj.1;have hd2:w2.cell? ⟨w,0,none⟩=some (.slice A sc.length c)∧w2.cell? ⟨w,1,none⟩=some (.bool gr)∧w2.cell? ⟨g,0,none⟩=some (.string O)∧w2.cell? ⟨g,1,none⟩=some (.iface T1 g1)∧w2.cell? ⟨g,2,none⟩=some (.iface T2 g2):=⟨aZ (cz2 0) hj.2,aZ (cz2 1) hj.2,aZ (cx2 0) hj.2,aZ (cx2 1) hj.2,aZ (cx2 2) hj.2⟩;clear hj))
  all_goals
   go_wp2;go_ret2;exact lc
theorem BPost.drewN {sc:List Tb} {gr:Bool} {x:Lp.X} {w w':World} {e:Ending} {n:Nat} (h:BPost sc gr x w e w'):BPost sc gr x w e (w'.drewN n):=by
 obtain ⟨hb,h⟩:=h;refine ⟨dH n hb, ?_⟩
 by_cases h0:(aC sc x gr).2=0
 ·rw [if_pos h0] at h |-;obtain ⟨g,h1,h2⟩:=h;have ht:Turn (λk=>w.heap.size≤k) (λk=>w.heap.size≤k) w' (w'.drewN n):=λg hg _=>⟨hg,rfl⟩;exact ⟨g,h1,h2.turn ht⟩
 ·rw [if_neg h0] at h |-;exact h
theorem aGQ {n:Nat} {kd a:Int} {v:Lp.V} {m:Nat} (h:w.heap[g]? = some (.cells (ndv op kd v a A m c) 120 (0,0))) :
 Calls prog 37 #[g,.int .u8 k] (w.drewN n) λe w'=>e=.returned (.bool (fitK kd k))∧w'=w.drewN n :=
 (yL g op kd v a A m c k (w.drewN n) h).mono λ_ _ q=>⟨q.1,q.2.symm⟩
def CmpJ (sc:List Tb) (gr:Bool) (op:ZS) (a b:Lp.X) (w:World) (e:Ending) (w':World):Prop :=
 (∃ E,E≠0∧e=.returned (.tuple #[.pointer none,.int .i64 E])∧BPost sc gr (.bin op a b) w (.returned (.tuple #[.pointer none,.int .i64 E])) w') ∨
 ∃ g bA offA co g1 g2,e=.returned (.tuple #[ptr g,.int .i64 0])∧w'.cell? ⟨g,7,none⟩=some (.slice (some ⟨bA,offA,none⟩) 2 co) ∧
  w'.cell? ⟨bA,offA,none⟩=some (ptr g1)∧w'.cell? ⟨bA,offA+1,none⟩=some (ptr g2)∧w'.cell? ⟨g1,1,none⟩=some (.int .u8 (aC sc a gr).1)∧w'.cell? ⟨g2,1,none⟩=some (.int .u8 (aC sc b gr).1) ∧
  (∃ o1 v1 a1 A1 n1 c1,w'.heap[g1]? = some (.cells (ndv o1 (aC sc a gr).1 v1 a1 A1 n1 c1) 120 (0,0))) ∧
  (∃ o1 v1 a1 A1 n1 c1,w'.heap[g2]? = some (.cells (ndv o1 (aC sc b gr).1 v1 a1 A1 n1 c1) 120 (0,0))) ∧
  BPost sc gr (.bin op a b) w (if fitK (aC sc a gr).1 (aC sc b gr).1||fitK (aC sc b gr).1 (aC sc a gr).1 then .returned (.tuple #[ptr g,.int .i64 0]) else .returned (.tuple #[.pointer none,.int .i64 8])) w'
theorem aFK (hb:Below w w w1) (h:CmpJ sc gr op a b w1 e w'):CmpJ sc gr op a b w e w':=by
 rcases h with ⟨E,h0,h1,h2⟩|⟨g,bA,offA,co,g1,g2,h0,h1,h2,h3,h4,h5,h6,h7,h8⟩
 ·exact .inl ⟨E,h0,h1,BPost.pre hb h2⟩
 ·exact .inr ⟨g,bA,offA,co,g1,g2,h0,h1,h2,h3,h4,h5,h6,h7,BPost.pre hb h8⟩
theorem CmpJ.form (h:CmpJ sc gr op a b w e w'):∃ u E,e=.returned (.tuple #[.pointer u,.int .i64 E]):=by
 rcases h with ⟨E,h0,h1,h2⟩|⟨g,bA,offA,co,g1,g2,h0, -⟩
 ·exact ⟨_,_,h1⟩
 ·exact ⟨_,_,h0⟩
theorem Ib (h:aF sc gr [a,b]=0):(aC sc a gr).2=0∧(aC sc b gr).2=0:=by
 rw [yN] at h
 split at h
 ·rename_i h1;exact ⟨h1,h⟩
 ·rename_i h1;exact absurd h h1
theorem aFJ (h1:¬(op=lE∨op=uOr)) (h2:op ∉ jQ) (h:fJ sc gr op 0 3 [a,b] w e w'):CmpJ sc gr op a b w e w':=by
 have hb:=h.1;rcases Yj h with ⟨E,q0,q1,q2⟩|⟨q0,g,bA,offA,co,g1,g2,qe,qg,qc,c1,c2,qp,n1,n2⟩
 ·refine .inl ⟨E,q0,q2,hb, ?_⟩;rw [(yD sc gr op a b).2 (by rw [<-q1];exact q0), <-q1];rw [if_neg q0]
 ·obtain ⟨z1,z2⟩:=Ib q0;have hn1:=n1.kind z1;have hn2:=n2.kind z2;obtain ⟨o1,v1,a1,A1,m1,d1,f1⟩:=hn1;obtain ⟨o2,v2,a2,A2,m2,d2,f2⟩:=hn2;refine .inr ⟨g,bA,offA,co,g1,g2,qe,β qc 7,c1,c2,β f1 1,β f2 1,⟨_,_,_,_,_,_,f1⟩,⟨_,_,_,_,_,_,f2⟩,hb, ?_⟩;rw [Ya h1 h2 q0];have hbk:Ej op=3:=if_neg h2;cases hf:(fitK (aC sc a gr).1 (aC sc b gr).1||fitK (aC sc b gr).1 (aC sc a gr).1)
  ·simp
  ·simp only [if_true];exact ⟨g,rfl,qg,some ⟨bA,offA,none⟩,co,g1,g2,by rw [hbk];exact qc,qp,n1,n2⟩
theorem Me (A:ZT) (c:Nat) (sc:List Tb) (gr:Bool) (a b:Lp.X) (op:ZS) (hop1:¬(op=lE∨op=uOr)) (hop:op ∉ jQ) (g:Nat) (w:World) (hT:aGD w a b op g) (hS:ScM w A sc) (hA:dB A c sc gr a) (hB:dB A c sc gr b) :
 Calls prog 97 #[bdr A sc c gr,g] w (BPost sc gr (.bin op a b) w):=by
 obtain ⟨u1,u2,hcell,hp1,hp2⟩:=hT;obtain ⟨T1,g1,rfl⟩:=hp1.form;obtain ⟨T2,g2,rfl⟩:=hp2.form;have hb0:=kp;have hx0:=sz;have hz0:=sy;have cx:=sx;have cz:=sw;have hb1:=tg;have hrd:Rds ((w.alloc (.cells #[.slice A sc.length c,gr] 139)).alloc (.cells #[.iface T1 g1,.iface T2 g2] 66)).drew (some ⟨w+1,0,none⟩) [.iface T1 g1,.iface T2 g2]:=by
  have h:=ti;rw [World.size_alloc] at h;exact th
 have HJ:=κ ((kT A c sc gr op 0 3 [(a,.iface T1 g1),(b,.iface T2 g2)] (some ⟨w+1,0,none⟩) 2 _ (hS.below hb1) hrd aa aa (by
  intro p hq;rcases List.mem_cons.1 hq with rfl|hq
  ·exact PX.keep (aP hb1) hp1
  ·rw [List.mem_singleton] at hq;subst hq;exact PX.keep (aP hb1) hp2) (by
  intro p hq;rcases List.mem_cons.1 hq with rfl|hq
  ·exact hA
  ·rw [List.mem_singleton] at hq;subst hq;exact hB)).mono λe w' h=>(show CmpJ sc gr op a b w e w'∧Below ((w.alloc (.cells #[.slice A sc.length c,gr] 139)).alloc (.cells #[.iface T1 g1,.iface T2 g2] 66)).drew.heap.size _ w' from ⟨aFK hb1 (aFJ hop1 hop h),h.1⟩))
 have hbD:=tj;have cz2:=β (aA hz0 hbD);have cx2:=β (aA hx0 hbD);clear hS hcell hx0 hz0 hb0 hb1 hrd hp1 hp2 hA hB hbD;unfold bdr at *;have hO:∃ O,O=op:=⟨_,rfl⟩;obtain ⟨O,hO⟩:=hO;rw [<-hO] at cx cx2 HJ |-;have he:(O==[65,78,68])=false∧(O==[79,82])=false∧(O==[43])=false∧(O==[45])=false∧(O==[42])=false∧(O==[47])=false∧(O==[37])=false:=by
  subst hO;simp only [jQ,List.mem_cons,List.not_mem_nil,or_false,not_or] at hop;simp only [beq_eq_false_iff_ne,ne_eq];exact ⟨λh=>hop1 (.inl h),λh=>hop1 (.inr h),hop⟩
 clear hop hop1 hO;obtain ⟨e1,e2,e3,e4,e5,e6,e7⟩:=he;go_enter func97,ntmps97;go_wp2_with fail
 go_region_held3 (λw'=>w'.cell? ⟨w,0,none⟩=some (.slice A sc.length c)∧w'.cell? ⟨w,1,none⟩=some (.bool gr)∧w'.cell? ⟨g,0,none⟩=some (.string O)∧w'.cell? ⟨g,1,none⟩=some (.iface T1 g1)∧w'.cell? ⟨g,2,none⟩=some (.iface T2 g2))
  (first|go_keep|exact hd2)
  ((go_at_call 96;refine μ HJ ?_;rintro e w2 hj;have HR:=κ hj.1;obtain ⟨u,E,rfl⟩:=hj.1.form;have hd2:w2.cell? ⟨w,0,none⟩=some (.slice A sc.length c)∧w2.cell? ⟨w,1,none⟩=some (.bool gr)∧w2.cell? ⟨g,0,none⟩=some (.string O)∧w2.cell? ⟨g,1,none⟩=some (.iface T1 g1)∧w2.cell? ⟨g,2,none⟩=some (.iface T2 g2):=⟨aZ (cz2 0) hj.2,aZ (cz2 1) hj.2,aZ (cx2 0) hj.2,aZ (cx2 1) hj.2,aZ (cx2 2) hj.2⟩;clear hj))
 all_goals
  rcases HR.o with ⟨E',q0,hR,HP⟩|⟨g9,bA,offA,co,g8,g7,hR,k0,k1,k2,k3,k4,⟨o1,v1,a1,A1,n1,d1,f1⟩,⟨o2,v2,a2,A2,n2,d2,f2⟩,HP⟩
  ·cases hR;have HP:=κ HP;have q1:decide (E=0)=false:=by simp [q0]
   have q2:(E==0)=false:=by simp [q0]
   clear q0 HR HJ cz cz2 cx cx2;go_wp2_with fail;go_quiet (fail)
   all_goals
    go_wp2;go_ret2;exact HP.o.drewN
  ·cases hR;have HF1:=κ (λn=>aGQ (n:=n) (k:=(aC sc b gr).1) f1);have HF2:=κ (λn=>aGQ (n:=n) (k:=(aC sc a gr).1) f2);clear HR HJ f1 f2 cz cz2 cx cx2;unfold ptr at *;have HP:=κ HP;cases q1:fitK (aC sc a gr).1 (aC sc b gr).1
   ·cases q2:fitK (aC sc b gr).1 (aC sc a gr).1
    ·rw [q1,q2] at HP;rw [q1] at HF1;rw [q2] at HF2;clear q1 q2;simp only [Bool.or_self,φ,if_false] at HP;go_wp2_with fail;go_quiet (first
      | (with_reducible (go_at_call 37;exact Calls.quiet_of_same (HF1.o _)))
      | (with_reducible (go_at_call 37;exact Calls.quiet_of_same (HF2.o _))))
     go_wp2;go_ret2;exact HP.o.drewN
    ·rw [q1,q2] at HP;rw [q1] at HF1;rw [q2] at HF2;clear q1 q2;simp only [Bool.or_true,if_true] at HP;go_wp2_with fail;go_quiet (first
      | (with_reducible (go_at_call 37;exact Calls.quiet_of_same (HF1.o _)))
      | (with_reducible (go_at_call 37;exact Calls.quiet_of_same (HF2.o _))))
     go_wp2;go_ret2;exact HP.o.drewN
   ·rw [q1] at HF1 HP;clear HF2 q1;simp only [Bool.true_or,if_true] at HP;go_wp2_with fail;go_quiet (with_reducible (go_at_call 37;exact Calls.quiet_of_same (HF1.o _)));go_wp2;go_ret2;exact HP.o.drewN
theorem yO (sc:List Tb) (gr:Bool) (x:Lp.X):aF sc gr [x]=(aC sc x gr).2:=by
 show (if (aC sc x gr).2=0 then (0:Int) else _)=_
 split
 ·rename_i h;exact h.symm
 ·rfl
theorem aAM {of:Int} (hop:(op=dZ∧of=1)∨(op=aJ∧of=0)) (h:fJ sc false op of 1 [x] w e w'):BPost sc true (.agg op x) w e w':=by
 obtain ⟨hb,h⟩:=h;refine ⟨hb, ?_⟩;have hkx:aC sc (.agg op x) true=cY (aC sc x false) (kS op):=rfl;rw [yO] at h
 by_cases h0:(aC sc x false).2=0
 ·rw [if_pos h0] at h;have hkx2:aC sc (.agg op x) true=kS op (aC sc x false).1:=by rw [hkx,cY,if_pos h0]
  rw [hkx2];have hany:(mO sc false of [x]).any id = !fitK (aC sc x false).1 of:=by simp [mO]
  rw [hany] at h;rcases hop with ⟨rfl,rfl⟩|⟨rfl,rfl⟩
  ·have hu:kS dZ (aC sc x false).1=if fitK (aC sc x false).1 1 then (1,0) else (0,8):=if_pos rfl;rw [hu];cases hf:fitK (aC sc x false).1 1
   ·rw [hf] at h;rw [if_pos ⟨am,rfl⟩] at h
    simpa using h
   ·rw [hf] at h;rw [if_neg (λh=>by cases h.2)] at h;simp only [if_true];obtain ⟨g,Ao,co,gs,rfl,hg,hc,hp,hn⟩:=h
    match gs,hn with
    | [g1],hn =>
      exact ⟨g,rfl,hg,Ao,co,g1,by rw [hu,hf];exact hc,hp.turn (Turn.mono λ_ h _=>h.1) aa,hn.1.turn (Turn.mono λ_ h _=>h.1)⟩
  ·have hu:kS aJ (aC sc x false).1=(1,0):=rfl;rw [hu];rw [if_neg (λh=>h.1 rfl)] at h;simp only [if_true];obtain ⟨g,Ao,co,gs,rfl,hg,hc,hp,hn⟩:=h
   match gs,hn with
   | [g1],hn =>
     exact ⟨g,rfl,hg,Ao,co,g1,by rw [hu];exact hc,hp.turn (Turn.mono λ_ h _=>h.1) aa,hn.1.turn (Turn.mono λ_ h _=>h.1)⟩
 ·rw [if_neg h0] at h;rw [hkx,cY,if_neg h0];simp only [h0,if_false];exact h
theorem aDS (op:ZS) (k k':Int) (v:Lp.V) (a:Int) (A:ZT) (n c:Nat):(ndv op k v a A n c).setIfInBounds 1 (.int .u8 k')=ndv op k' v a A n c:=by simp [ndv]
def MinJ (sc:List Tb) (op:ZS) (x:Lp.X) (w:World) (e:Ending) (w':World):Prop :=
 (∃ E,E≠0∧e=.returned (.tuple #[.pointer none,.int .i64 E])∧BPost sc true (.agg op x) w (.returned (.tuple #[.pointer none,.int .i64 E])) w') ∨
 ∃ g bA offA co g1,e=.returned (.tuple #[ptr g,.int .i64 0])∧w'.cell? ⟨g,7,none⟩=some (.slice (some ⟨bA,offA,none⟩) 1 co) ∧
  w'.cell? ⟨bA,offA,none⟩=some (ptr g1)∧w'.cell? ⟨g1,1,none⟩=some (.int .u8 (aC sc x false).1) ∧
  w'.heap[g]? = some (.cells (ndv op 0 nul 0 (some ⟨bA,offA,none⟩) 1 co) 120 (0,0))∧g1≠g∧bA≠g ∧
  BPost sc true (.agg op x) w (.returned (.tuple #[ptr g,.int .i64 0])) (w'.setCell ⟨g,1,none⟩ (.int .u8 (aC sc x false).1))
theorem NT.at_ {S:Nat->Prop} (h:NT S w sc x g):S g:=by
 cases x<;>exact h.1
theorem aDX (h1:op≠dZ) (h2:op≠aJ) (h:fJ sc false op 0 0 [x] w e w'):MinJ sc op x w e w':=by
 obtain ⟨hb,h⟩:=h;have hkx:aC sc (.agg op x) true=cY (aC sc x false) (kS op):=rfl;rw [yO] at h
 by_cases h0:(aC sc x false).2=0
 ·rw [if_pos h0,if_neg (λh=>h.1 rfl)] at h;have hu:kS op (aC sc x false).1=((aC sc x false).1,0):=by unfold kS;rw [if_neg h1,if_neg h2]
  have hkx2:aC sc (.agg op x) true=((aC sc x false).1,0):=by rw [hkx,cY,if_pos h0,hu]
  obtain ⟨g,Ao,co,gs,rfl,hg,hc,hp,hn⟩:=h
  match gs,hn with
  | [g1],hn =>
    obtain ⟨bA,offA,rfl,hs1,hs2⟩:=hp;obtain ⟨o1,v1,a1,A1,n1,c1,f1⟩:=hn.1.kind h0;have hne1:g1≠g:=hn.1.at_.2;refine .inr ⟨g,bA,offA,co,g1,rfl,β hc 7,hs2 0 _ rfl,β f1 1,hc,hne1,hs1.2, ?_⟩;refine ⟨hb.setCell (p:=⟨g,1,none⟩) hg _, ?_⟩;rw [hkx2,if_pos rfl];have ht:Turn (λk=>w.heap.size≤k∧k≠g) (λk=>w.heap.size≤k) w' (w'.setCell ⟨g,1,none⟩ (.int .u8 (aC sc x false).1)):=λk hk _=>⟨hk.1,Below.heap_setCell w' ⟨g,1,none⟩ _ k hk.2⟩;have hs:=heap_setCell_same w' g 1 _ _ (.int .u8 (aC sc x false).1) hc;rw [aDS] at hs;exact ⟨g,rfl,hg,some ⟨bA,offA,none⟩,co,g1,by rw [hu];exact hs,Prts.turn ht aa ⟨bA,offA,rfl,hs1,hs2⟩,hn.1.turn ht⟩
 ·rw [if_neg h0] at h;refine .inl ⟨_,h0,h,hb, ?_⟩;rw [hkx,cY,if_neg h0];simp only [h0,if_false]
theorem aDW (hb:Below w w w1) (h:MinJ sc op x w1 e w'):MinJ sc op x w e w':=by
 rcases h with ⟨E,h0,h1,h2⟩|⟨g,bA,offA,co,g1,h0,h1,h2,h3,h4,h5,h6,h7⟩
 ·exact .inl ⟨E,h0,h1,BPost.pre hb h2⟩
 ·exact .inr ⟨g,bA,offA,co,g1,h0,h1,h2,h3,h4,h5,h6,BPost.pre hb h7⟩
theorem MinJ.form (h:MinJ sc op x w e w'):∃ u E,e=.returned (.tuple #[.pointer u,.int .i64 E]):=by
 rcases h with ⟨E,h0,h1,h2⟩|⟨g,bA,offA,co,g1,h0, -⟩
 ·exact ⟨_,_,h1⟩
 ·exact ⟨_,_,h0⟩
theorem Hx (A:ZT) (c:Nat) (sc:List Tb) (x:Lp.X) (hx:(aC sc x false)=(0,3)) (g:Nat) (w:World) :
 Calls prog 98 #[bdr A sc c false,g] w (BPost sc false x w):=by
 have hb0:=tm;have HR:=κ (show BPost sc false x w (.returned (.tuple #[.pointer none,.int .i64 3])) _ from ⟨hb0,by rw [hx];rfl⟩);clear hx hb0;unfold bdr;go_enter func98,ntmps98;go_wp2;go_ret2;exact lc
theorem Ro (A:ZT) (c:Nat) (sc:List Tb) (g:Nat) (w:World) (hcell:w.heap[g]? = some (.cells #[aJ,.nilIface] 208 (0,0))) :
 Calls prog 98 #[bdr A sc c true,g] w (BPost sc true .cnt w):=by
 have hb0:=tm;have hx0:=sz;have cx:=sx;have hb1:Below w w ((w.alloc (.cells #[.slice A sc.length c,false] 139)).alloc (.cells (ndv rP 1 nul 0 none 0 0) 120)):=hb0.alloc aa _;have hn:=bG w (.cells #[.slice A sc.length c,false] 139) (.cells (ndv rP 1 nul 0 none 0 0) 120);have HR:=κ (show BPost sc true .cnt w (.returned (.tuple #[(w.heap.size+1:Nat),.int .i64 0])) _ from ⟨hb1,by
  have e:(aC sc .cnt true).2=0:=rfl;rw [if_pos e];exact ⟨_,rfl,by show w≤w.heap.size+1;omega,hn⟩⟩)
 clear hcell hx0 hb0 hb1 hn;unfold bdr;go_enter func98,ntmps98;go_wp2;go_ret2;exact lc
theorem rY {T1:TypeId} {g1:Nat} (op:ZS) (of kind:Int) (hS:ScM w A sc) (hp1:PX 0 w a (.iface T1 g1)) (hA:dB A c sc false a) :
 Calls prog 96 #[bdr A sc c false,op,.int .u8 of,.int .u8 kind,.slice (some ⟨w+1,0,none⟩) 1 1] ((w.alloc (.cells #[.slice A sc.length c,false] 139)).alloc (.cells #[.iface T1 g1] 66)).drew
  λe w'=>∃ w1,Below w w w1∧fJ sc false op of kind [a] w1 e w'∧Below (w.alloc (.cells #[.slice A sc.length c,false] 139)) (w.alloc (.cells #[.slice A sc.length c,false] 139)) w':=by
 have hb0:=tm;have hb1:Below w w ((w.alloc (.cells #[.slice A sc.length c,false] 139)).alloc (.cells #[.iface T1 g1] 66)).drew:=(hb0.alloc aa _).drew;have hbD:Below (w.alloc (.cells #[.slice A sc.length c,false] 139)) (w.alloc (.cells #[.slice A sc.length c,false] 139)) ((w.alloc (.cells #[.slice A sc.length c,false] 139)).alloc (.cells #[.iface T1 g1] 66)).drew:=(ρ).drew;have hrd:Rds ((w.alloc (.cells #[.slice A sc.length c,false] 139)).alloc (.cells #[.iface T1 g1] 66)).drew (some ⟨w+1,0,none⟩) [.iface T1 g1]:=by
  have h:=heap_alloc_new (w.alloc (.cells #[.slice A sc.length c,false] 139)) (.cells #[.iface T1 g1] 66);rw [World.size_alloc] at h;exact aS (w:=((w.alloc (.cells #[.slice A sc.length c,false] 139)).alloc (.cells #[.iface T1 g1] 66)).drew) _ h
 exact (kT A c sc false op of kind [(a,.iface T1 g1)] (some ⟨w+1,0,none⟩) 1 _ (hS.below hb1) hrd aa aa (by
  intro p hq;rw [List.mem_singleton] at hq;subst hq;exact PX.keep (aP hb1) hp1) (by
  intro p hq;rw [List.mem_singleton] at hq;subst hq;exact hA)).mono λe w' h=>⟨_,hb1,h,hbD.trans (h.1.mono hbD.size)⟩
theorem Ce (A:ZT) (c:Nat) (sc:List Tb) (a:Lp.X) (op:ZS) (hop:op=dZ∨op=aJ) (g:Nat) (w:World) (T1:TypeId) (g1:Nat) (hcell:w.heap[g]? = some (.cells #[op,.iface T1 g1] 208 (0,0))) (hS:ScM w A sc) (hp1:PX 0 w a (.iface T1 g1)) (hA:dB A c sc false a) :
 Calls prog 98 #[bdr A sc c true,g] w (BPost sc true (.agg op a) w):=by
 have hb0:=tm;have hx0:=sz;have hz0:=tp;have cx:=sx;have cz:=sw;have HJS:=κ (λh:op=dZ=>(rY (c:=c) op 1 1 hS hp1 hA).mono λe w' ⟨w1,h1,h2,h3⟩=>(show BPost sc true (.agg op a) w e w'∧Below (w.alloc (.cells #[.slice A sc.length c,false] 139)) (w.alloc (.cells #[.slice A sc.length c,false] 139)) w' from ⟨BPost.pre h1 (aAM (.inl ⟨h,rfl⟩) h2),h3⟩));have HJC:=κ (λh:op=aJ=>(rY (c:=c) op 0 1 hS hp1 hA).mono λe w' ⟨w1,h1,h2,h3⟩=>(show BPost sc true (.agg op a) w e w'∧Below (w.alloc (.cells #[.slice A sc.length c,false] 139)) (w.alloc (.cells #[.slice A sc.length c,false] 139)) w' from ⟨BPost.pre h1 (aAM (.inr ⟨h,rfl⟩) h2),h3⟩));clear hS hcell hx0 hz0 hb0 hp1 hA;unfold bdr at *;obtain ⟨O,hO⟩:∃ O,O=op:=cw;rw [<-hO] at cx HJS HJC |-;have he:((O==[83,85,77])=true∧O=dZ)∨((O==[83,85,77])=false∧(O==[67,79,85,78,84])=true∧O=aJ):=by rcases hop with rfl|rfl<;>subst hO<;>first|exact .inl ⟨rfl,rfl⟩|exact .inr ⟨rfl,rfl,rfl⟩
 clear hop hO;rcases he with ⟨e1,e3⟩|⟨e1,e2,e3⟩
 ·have HJ:=κ (HJS.o e3);clear HJS HJC e3;go_enter func98,ntmps98;go_wp2_with fail
  go_region_held3 (λw'=>w'.cell? ⟨w,0,none⟩=some (.slice A sc.length c)∧w'.cell? ⟨w,1,none⟩=some (.bool false)∧w'.cell? ⟨g,0,none⟩=some (.string O)∧w'.cell? ⟨g,1,none⟩=some (.iface T1 g1))
   (first|go_keep|exact hd2)
   ((go_at_call 96;refine μ HJ ?_;rintro e w2 hj;obtain ⟨u,E,rfl⟩:=hj.1.form;have HR:=κ hj.1;have hd2:w2.cell? ⟨w,0,none⟩=some (.slice A sc.length c)∧w2.cell? ⟨w,1,none⟩=some (.bool false)∧w2.cell? ⟨g,0,none⟩=some (.string O)∧w2.cell? ⟨g,1,none⟩=some (.iface T1 g1):=⟨aZ (cz 0) hj.2,aZ (cz 1) hj.2,aZ (cx 0) hj.2,aZ (cx 1) hj.2⟩;clear hj))
  all_goals
   go_wp2;go_ret2;exact lc
 ·have HJ:=κ (HJC.o e3);clear HJS HJC e3;go_enter func98,ntmps98;go_wp2_with fail
  go_region_held3 (λw'=>w'.cell? ⟨w,0,none⟩=some (.slice A sc.length c)∧w'.cell? ⟨w,1,none⟩=some (.bool false)∧w'.cell? ⟨g,0,none⟩=some (.string O)∧w'.cell? ⟨g,1,none⟩=some (.iface T1 g1))
   (first|go_keep|exact hd2)
   ((go_at_call 96;refine μ HJ ?_;rintro e w2 hj;obtain ⟨u,E,rfl⟩:=hj.1.form;have HR:=κ hj.1;have hd2:w2.cell? ⟨w,0,none⟩=some (.slice A sc.length c)∧w2.cell? ⟨w,1,none⟩=some (.bool false)∧w2.cell? ⟨g,0,none⟩=some (.string O)∧w2.cell? ⟨g,1,none⟩=some (.iface T1 g1):=⟨aZ (cz 0) hj.2,aZ (cz 1) hj.2,aZ (cx 0) hj.2,aZ (cx 1) hj.2⟩;clear hj))
  all_goals
   go_wp2;go_ret2;exact lc
theorem Rn (A:ZT) (c:Nat) (sc:List Tb) (a:Lp.X) (op:ZS) (hop1:op≠dZ) (hop2:op≠aJ) (g:Nat) (w:World) (T1:TypeId) (g1:Nat) (hcell:w.heap[g]? = some (.cells #[op,.iface T1 g1] 208 (0,0))) (hS:ScM w A sc) (hp1:PX 0 w a (.iface T1 g1)) (hA:dB A c sc false a) :
 Calls prog 98 #[bdr A sc c true,g] w (BPost sc true (.agg op a) w):=by
 have hb0:=tm;have hx0:=sz;have hz0:=tp;have cx:=sx;have cz:=sw;have HJ:=κ ((rY (c:=c) op 0 0 hS hp1 hA).mono λe w' ⟨w1,h1,h2,h3⟩=>(show MinJ sc op a w e w'∧Below (w.alloc (.cells #[.slice A sc.length c,false] 139)) (w.alloc (.cells #[.slice A sc.length c,false] 139)) w' from ⟨aDW h1 (aDX hop1 hop2 h2),h3⟩));clear hS hcell hx0 hz0 hb0 hp1 hA;unfold bdr at *;have e1:(op==[83,85,77])=false:=η hop1;have e2:(op==[67,79,85,78,84])=false:=η hop2;clear hop1 hop2;go_enter func98,ntmps98;go_wp2_with fail
 go_region_held3 (λw'=>w'.cell? ⟨w,0,none⟩=some (.slice A sc.length c)∧w'.cell? ⟨w,1,none⟩=some (.bool false)∧w'.cell? ⟨g,0,none⟩=some (.string op)∧w'.cell? ⟨g,1,none⟩=some (.iface T1 g1))
  (first|go_keep|exact hd2)
  ((go_at_call 96;refine μ HJ ?_;rintro e w2 hj;obtain ⟨u,E,rfl⟩:=hj.1.form;have HR:=κ hj.1;have hd2:w2.cell? ⟨w,0,none⟩=some (.slice A sc.length c)∧w2.cell? ⟨w,1,none⟩=some (.bool false)∧w2.cell? ⟨g,0,none⟩=some (.string op)∧w2.cell? ⟨g,1,none⟩=some (.iface T1 g1):=⟨aZ (cz 0) hj.2,aZ (cz 1) hj.2,aZ (cx 0) hj.2,aZ (cx 1) hj.2⟩;clear hj))
 all_goals
  clear hd2;rcases HR.o with ⟨E',q0,hR,HP⟩|⟨g9,bA,offA,co,g8,hR,k0,k1,k2,k3,k4,k5,HP⟩
  ·cases hR;have HP:=κ HP;have q1:(E==0)=false:=by simp [q0]
   clear q0 HR HJ cz cx;go_wp2;go_ret2;exact HP.o
  ·cases hR;have HP:=κ HP;have cn:=β k3 1;have fn:=frozen_of_row _ _ 1 _ _ k3;simp only [ndv] at cn;clear HR HJ cz cx k3;unfold ptr at *;go_wp2;go_ret2;exact HP.o
theorem Mf (A:ZT) (c:Nat) (sc:List Tb) (gr:Bool) (a b:Lp.X) (op:ZS) (g:Nat) (w:World) (hT:aGD w a b op g) (hS:ScM w A sc) (hA:dB A c sc gr a) (hB:dB A c sc gr b) :
 Calls prog 97 #[bdr A sc c gr,g] w (BPost sc gr (.bin op a b) w):=by
 by_cases h1:op=lE∨op=uOr
 ·exact Mg A c sc gr a b op h1 g w hT hS hA hB
 ·by_cases h2:op∈jQ
  ·exact Ei A c sc gr a b op h2 g w hT hS hA hB
  ·exact Me A c sc gr a b op h1 h2 g w hT hS hA hB
section
attribute [local go_sem] zN zO vC Cu tV
theorem Sq (A:ZT) (c:Nat) (sc:List Tb) (gr:Bool) (op:ZS) (a b:Lp.X) (hA:dB A c sc gr a) (hB:dB A c sc gr b):dB A c sc gr (.bin op a b):=by
 intro w v hx hS;obtain ⟨g,u1,u2, -,rfl,hcell,hp1,hp2⟩:=hx;have hb0:=kp;have hx0:=sz;have hz0:=sy;have cz:=sw;have HF:=κ ((Mf A c sc gr a b op g _ ⟨u1,u2,hx0,PX.keep (aP hb0) hp1,PX.keep (aP hb0) hp2⟩ (hS.below hb0) hA hB).mono λe w' h=>(show BPost sc gr (.bin op a b) w e w' from BPost.pre hb0 h));clear hS hcell hx0 hz0 hb0 hp1 hp2 hA hB;unfold bdr at *;go_enter func48,ntmps48;go_wp2_with fail;refine μ HF ?_;rintro e w1 hj;obtain ⟨u,E,rfl⟩:=hj.form;have HR:=κ hj;clear hj;go_wp2;go_ret2;exact lc
end
section
attribute [local go_sem] Jy Jz Cv Pd zP aHM
theorem Ci (A:ZT) (c:Nat) (sc:List Tb) (gr:Bool) (x:Lp.X) (g:Nat) (w:World) (hS:ScM w A sc)
 (hG:∀ w1,Below w w w1->ScM w1 A sc->Calls prog 98 #[bdr A sc c gr,g] w1 (BPost sc gr x w1)) :
 Calls prog 48 #[bdr A sc c gr,.iface 204 g] w (BPost sc gr x w):=by
 have hb0:=kp;have hz0:=sy;have cz:=sw;have HF:=κ ((hG _ hb0.drew (hS.below hb0.drew)).mono λe w' h=>(show BPost sc gr x w e w' from BPost.pre hb0.drew h));clear hS hz0 hb0 hG;unfold bdr at *;go_enter func48,ntmps48;go_wp2_with fail
 go_region_with (go_at_call 98;refine μ HF ?_;rintro e w2 hj;obtain ⟨u,E,rfl⟩:=hj.form;have HR:=κ hj;clear hj)
 all_goals
  go_wp2;go_ret2;exact lc
end
theorem Sr (A:ZT) (c:Nat) (sc:List Tb) (gr:Bool) (op:ZS) (a:Lp.X) (hA:dB A c sc false a):dB A c sc gr (.agg op a):=by
 intro w v hx hS;obtain ⟨g,u, -,rfl,hcell,hp⟩:=hx;obtain ⟨T1,g1,rfl⟩:=hp.form;refine Ci A c sc gr _ g w hS λw1 hb1 hS1 => ?_;cases gr with
 | false=>exact Hx A c sc _ rfl g w1
 | true =>
   by_cases h1:op=dZ
   ·exact Ce A c sc a op (.inl h1) g w1 T1 g1 (aA hcell hb1) hS1 (PX.keep (aP hb1) hp) hA
   ·by_cases h2:op=aJ
    ·exact Ce A c sc a op (.inr h2) g w1 T1 g1 (aA hcell hb1) hS1 (PX.keep (aP hb1) hp) hA
    ·exact Rn A c sc a op h1 h2 g w1 T1 g1 (aA hcell hb1) hS1 (PX.keep (aP hb1) hp) hA
theorem Sp (A:ZT) (c:Nat) (sc:List Tb) (gr:Bool):dB A c sc gr .cnt:=by
 intro w v hx hS;obtain ⟨g, -,rfl,hcell⟩:=hx;refine Ci A c sc gr _ g w hS λw1 hb1 hS1 => ?_;cases gr with
 | false=>exact Hx A c sc _ rfl g w1
 | true=>exact Ro A c sc g w1 (aA hcell hb1)
theorem qX (A:ZT) (c:Nat) (sc:List Tb) (hn:sc.length≤100) (hw:bY sc≤10000):∀ (x:Lp.X) (gr:Bool),x.wf->dB A c sc gr x:=by
 intro x
 induction x with
 | lit k i s b=>intro gr _;exact Sn A c sc gr k i s b
 | col t s=>intro gr _;exact So A c sc gr t s hn hw
 | un op x ih =>
   intro gr h
   by_cases h1:op=fG
   ·subst h1;exact Sk A c sc gr x (ih gr h.2)
   ·exact Sl A c sc gr op x h1 (ih gr h.2)
 | bin op a b iha ihb=>intro gr h;exact Sq A c sc gr op a b (iha gr h.2.1) (ihb gr h.2.2)
 | isn n x ih =>
   intro gr h;cases n with
   | false=>exact aAQ A c sc gr x (ih gr h)
   | true=>exact Ja A c sc gr x (ih gr h)
 | agg op x ih=>intro gr h;exact Sr A c sc gr op x (ih false h.2)
 | cnt=>intro gr _;exact Sp A c sc gr
theorem tJ (A:ZT) (c:Nat) (sc:List Tb) (gr:Bool) (x:Lp.X) (v:Value) (w:World) (hn:sc.length≤100) (hw:bY sc≤10000) (hx:x.wf) (hp:PX 0 w x v) (hS:ScM w A sc) :
 Calls prog 36 #[.slice A sc.length c,v,gr] w (BPost sc gr x w):=by
 have HB:=κ (qX A c sc hn hw x gr hx w v hp hS);obtain ⟨T,g,rfl⟩:=hp.form;clear hn hw hx hp hS;unfold bdr at *;go_enter func36,ntmps36;go_wp2_with fail;refine μ HB ?_;rintro e w1 hj;obtain ⟨u,E,rfl⟩:=hj.form;have HR:=κ hj;clear hj;go_wp2;go_ret2;exact lc
