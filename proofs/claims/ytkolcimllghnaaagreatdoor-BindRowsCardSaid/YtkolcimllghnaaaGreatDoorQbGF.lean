/-
 Contracts. Conditions: those of each.
-/
import Derived.Test.YtkolcimllghnaaaGreatDoorQbGE
import Derived.Deep.RegionWith
import Derived.BigRegion
set_option maxRecDepth 100000
set_option maxHeartbeats 8000000
namespace Go.Proofs.YtkolcimllghnaaaGreatDoor
open Lp Go.Proofs.Tryz
open Go.RowKit
theorem Dr (g:Nat) (w:World):(Instr.typeAssert (.iface 121 (.pointer (some ⟨g,0,none⟩))) 66 121 true).run prog w=.ok (.tuple #[.pointer (some ⟨g,0,none⟩),.bool true]) w:=by kernel_rfl
theorem Ds (g:Nat) (w:World):(Instr.typeAssert (.iface 192 (.pointer (some ⟨g,0,none⟩))) 66 121 true).run prog w=.ok (.tuple #[.pointer none,.bool false]) w:=by kernel_rfl
theorem Dt (g:Nat) (w:World):(Instr.typeAssert (.iface 192 (.pointer (some ⟨g,0,none⟩))) 66 192 true).run prog w=.ok (.tuple #[.pointer (some ⟨g,0,none⟩),.bool true]) w:=by kernel_rfl
theorem pF (g:Nat) (w:World):(Instr.typeAssert (.iface 194 (.pointer (some ⟨g,0,none⟩))) 66 121 true).run prog w=.ok (.tuple #[.pointer none,.bool false]) w:=by kernel_rfl
theorem pG (g:Nat) (w:World):(Instr.typeAssert (.iface 194 (.pointer (some ⟨g,0,none⟩))) 66 192 true).run prog w=.ok (.tuple #[.pointer none,.bool false]) w:=by kernel_rfl
theorem mQ (g:Nat) (w:World):(Instr.typeAssert (.iface 194 (.pointer (some ⟨g,0,none⟩))) 66 194 true).run prog w=.ok (.tuple #[.pointer (some ⟨g,0,none⟩),.bool true]) w:=by kernel_rfl
theorem wF (g:Nat) (w:World):(Instr.typeAssert (.iface 198 (.pointer (some ⟨g,0,none⟩))) 66 121 true).run prog w=.ok (.tuple #[.pointer none,.bool false]) w:=by kernel_rfl
theorem wG (g:Nat) (w:World):(Instr.typeAssert (.iface 198 (.pointer (some ⟨g,0,none⟩))) 66 192 true).run prog w=.ok (.tuple #[.pointer none,.bool false]) w:=by kernel_rfl
theorem rJ (g:Nat) (w:World):(Instr.typeAssert (.iface 198 (.pointer (some ⟨g,0,none⟩))) 66 194 true).run prog w=.ok (.tuple #[.pointer none,.bool false]) w:=by kernel_rfl
theorem zZ (g:Nat) (w:World):(Instr.typeAssert (.iface 198 (.pointer (some ⟨g,0,none⟩))) 66 198 true).run prog w=.ok (.tuple #[.pointer (some ⟨g,0,none⟩),.bool true]) w:=by kernel_rfl
theorem vL (g:Nat) (w:World):(Instr.typeAssert (.iface 201 (.pointer (some ⟨g,0,none⟩))) 66 121 true).run prog w=.ok (.tuple #[.pointer none,.bool false]) w:=by kernel_rfl
theorem vM (g:Nat) (w:World):(Instr.typeAssert (.iface 201 (.pointer (some ⟨g,0,none⟩))) 66 192 true).run prog w=.ok (.tuple #[.pointer none,.bool false]) w:=by kernel_rfl
theorem rP (g:Nat) (w:World):(Instr.typeAssert (.iface 201 (.pointer (some ⟨g,0,none⟩))) 66 194 true).run prog w=.ok (.tuple #[.pointer none,.bool false]) w:=by kernel_rfl
theorem xP (g:Nat) (w:World):(Instr.typeAssert (.iface 201 (.pointer (some ⟨g,0,none⟩))) 66 198 true).run prog w=.ok (.tuple #[.pointer none,.bool false]) w:=by kernel_rfl
theorem qI (g:Nat) (w:World):(Instr.typeAssert (.iface 201 (.pointer (some ⟨g,0,none⟩))) 66 201 true).run prog w=.ok (.tuple #[.pointer (some ⟨g,0,none⟩),.bool true]) w:=by kernel_rfl
theorem Du (g:Nat) (w:World):(Instr.typeAssert (.iface 204 (.pointer (some ⟨g,0,none⟩))) 66 121 true).run prog w=.ok (.tuple #[.pointer none,.bool false]) w:=by kernel_rfl
theorem Dv (g:Nat) (w:World):(Instr.typeAssert (.iface 204 (.pointer (some ⟨g,0,none⟩))) 66 192 true).run prog w=.ok (.tuple #[.pointer none,.bool false]) w:=by kernel_rfl
theorem xQ (g:Nat) (w:World):(Instr.typeAssert (.iface 204 (.pointer (some ⟨g,0,none⟩))) 66 194 true).run prog w=.ok (.tuple #[.pointer none,.bool false]) w:=by kernel_rfl
theorem Hp (g:Nat) (w:World):(Instr.typeAssert (.iface 204 (.pointer (some ⟨g,0,none⟩))) 66 198 true).run prog w=.ok (.tuple #[.pointer none,.bool false]) w:=by kernel_rfl
theorem vN (g:Nat) (w:World):(Instr.typeAssert (.iface 204 (.pointer (some ⟨g,0,none⟩))) 66 201 true).run prog w=.ok (.tuple #[.pointer none,.bool false]) w:=by kernel_rfl
theorem Xy (g:Nat) (w:World):(Instr.typeAssert (.iface 204 (.pointer (some ⟨g,0,none⟩))) 66 204 false).run prog w=.ok (.pointer (some ⟨g,0,none⟩)) w:=by kernel_rfl
theorem Xq {sc:List Tb} {gr:Bool} {op:List UInt8} {x:Lp.X} {k:Int} {w w':World} {e:Ending} (hk:k=(jD op 0).1) (h:eN sc gr (unN op) k k [x] w e w'):BPost sc gr (.un op x) w e w':=by
 obtain ⟨hb,h⟩:=h
 refine ⟨hb, ?_⟩
 have hk0:k=3∨k=1:=by rw [hk];unfold jD;split<;>simp [fitK]
 have hkx:aD sc (.un op x) gr=dD (aD sc x gr) (jD op):=rfl
 have hfe:bG sc gr [x]=(aD sc x gr).2:=by
  show (if (aD sc x gr).2=0 then (0:Int) else _)=_
  split
  ·rename_i h;exact h.symm
  ·rfl
 rw [hfe] at h
 by_cases h0:(aD sc x gr).2=0
 ·rw [if_pos h0] at h
  have hkx2:aD sc (.un op x) gr=jD op (aD sc x gr).1:=by rw [hkx,dD,if_pos h0]
  have hu:jD op (aD sc x gr).1=if fitK (aD sc x gr).1 k then (k,0) else (0,8):=by
   rw [hk]
   unfold jD
   split<;>simp [fitK]
  have hany:(kS sc gr k [x]).any id = !fitK (aD sc x gr).1 k:=by simp [kS]
  rw [hany] at h
  rw [hkx2,hu]
  cases hf:fitK (aD sc x gr).1 k
  ·rw [hf] at h
   rw [if_pos ⟨by omega,rfl⟩] at h
   simpa using h
  ·rw [hf] at h
   rw [if_neg (fun h=>by cases h.2)] at h
   simp only [if_true]
   obtain ⟨g,Ao,co,gs,rfl,hg,hc,hp,hn⟩:=h
   match gs,hn with
   | [g1],hn =>
     exact ⟨g,rfl,hg,Ao,co,g1,by rw [←hk];exact hc,hp.turn (Turn.mono fun _ h _=>h.1) (by simp),hn.1.turn (Turn.mono fun _ h _=>h.1)⟩
 ·rw [if_neg h0] at h
  rw [hkx,dD,if_neg h0]
  simp only [h0,if_false]
  exact h
theorem Rs {sc:List Tb} {gr n:Bool} {x:Lp.X} {w w':World} {e:Ending} (h:eN sc gr (isN n) 0 3 [x] w e w'):BPost sc gr (.isn n x) w e w':=by
 obtain ⟨hb,h⟩:=h
 refine ⟨hb, ?_⟩
 have hkx:aD sc (.isn n x) gr=dD (aD sc x gr) fun _=>(3,0):=rfl
 have hfe:bG sc gr [x]=(aD sc x gr).2:=by
  show (if (aD sc x gr).2=0 then (0:Int) else _)=_
  split
  ·rename_i h;exact h.symm
  ·rfl
 rw [hfe] at h
 by_cases h0:(aD sc x gr).2=0
 ·rw [if_pos h0,if_neg (fun h=>h.1 rfl)] at h
  rw [hkx,dD,if_pos h0]
  simp only [if_true]
  obtain ⟨g,Ao,co,gs,rfl,hg,hc,hp,hn⟩:=h
  match gs,hn with
  | [g1],hn=>exact ⟨g,rfl,hg,Ao,co,g1,hc,hp.turn (Turn.mono fun _ h _=>h.1) (by simp),hn.1.turn (Turn.mono fun _ h _=>h.1)⟩
 ·rw [if_neg h0] at h
  rw [hkx,dD,if_neg h0]
  simp only [h0,if_false]
  exact h
section
attribute [local go_sem] Dr
theorem Kn (A:Option Addr) (c:Nat) (sc:List Tb) (gr:Bool) (k i:Int) (s:List UInt8) (b:Bool):cQ A c sc gr (.lit k i s b):=by
 intro w v hx hS
 obtain ⟨g, -,rfl,hcell⟩:=hx
 have hb0:Below w.heap.size w (w.alloc (.cells #[.slice A sc.length c,.bool gr] 139)):=ρ
 have hx0:=aA hcell hb0
 have hz0:=heap_alloc_new w (.cells #[.slice A sc.length c,.bool gr] 139)
 have cx:=β hx0
 have cz:=β hz0
 unfold bdr
 have HZ:=κ hb0
 clear hS hcell hx0 hz0 hb0
 go_enter func48,ntmps48
 go_wp2_with fail
 go_region
 have hbn:Below w.heap.size w ((w.alloc (.cells #[.slice A sc.length c,.bool gr] 139)).alloc (.cells (ndv Na k ⟨k,i,⟨s.toArray⟩,b⟩ 0 none 0 0) 120)):=HZ.out.alloc (by simp) _
 have hnn:=heap_alloc_new (w.alloc (.cells #[.slice A sc.length c,.bool gr] 139)) (.cells (ndv Na k ⟨k,i,⟨s.toArray⟩,b⟩ 0 none 0 0) 120)
 rw [World.size_alloc] at hnn
 have HR:=κ (show BPost sc gr (.lit k i s b) w (.returned (.tuple #[.pointer (some ⟨w.heap.size+1,0,none⟩),.int .i64 0])) ((w.alloc (.cells #[.slice A sc.length c,.bool gr] 139)).alloc (.cells (ndv Na k ⟨k,i,⟨s.toArray⟩,b⟩ 0 none 0 0) 120)).drew from ⟨hbn.drew,by
  have e:(aD sc (.lit k i s b) gr).2=0:=rfl
  rw [if_pos e]
  exact ⟨_,rfl,by show w.heap.size≤w.heap.size+1;omega,hnn⟩⟩)
 clear hbn hnn cx cz
 go_wp2
 go_ret2
 exact HR.out
end
section
attribute [local go_sem] Ds Dt
theorem Ko (A:Option Addr) (c:Nat) (sc:List Tb) (gr:Bool) (t s:List UInt8) (hn:sc.length≤100) (hw:bW sc≤10000):cQ A c sc gr (.col t s):=by
 intro w v hx hS
 obtain ⟨g, -,rfl,hcell⟩:=hx
 have hb0:Below w.heap.size w (w.alloc (.cells #[.slice A sc.length c,.bool gr] 139)):=ρ
 have hx0:=aA hcell hb0
 have hz0:=heap_alloc_new w (.cells #[.slice A sc.length c,.bool gr] 139)
 have cx:=β hx0
 have cz:=β hz0
 unfold bdr
 have HF:=κ (Qi A c sc g t s _ (hS.below hb0) hx0 hn hw)
 have HZ:=κ hb0
 clear hS hcell hx0 hz0 hb0
 go_enter func48,ntmps48
 go_wp2_with fail
 refine μ HF ?_
 rintro e w1 ⟨hb1,hq⟩
 have hbw:=HZ.out.trans (hb1.mono HZ.out.size)
 rcases hf:gA sc t s with _|p
 ·rw [hf] at hq
  subst hq
  have HR:=κ (show BPost sc gr (.col t s) w (.returned (.tuple #[.pointer none,.int .i64 6])) w1 from ⟨hbw,by simp [aD,hf]⟩)
  clear hf hb1 hbw
  go_wp2
  go_ret2
  exact HR.out
 ·rw [hf] at hq
  obtain ⟨g2,rfl,hg,hc⟩:=hq
  have HR:=κ (show BPost sc gr (.col t s) w (.returned (.tuple #[.pointer (some ⟨g2,0,none⟩),.int .i64 0])) w1 from ⟨hbw,by
   have e:(aD sc (.col t s) gr).2=0:=by simp [aD,hf]
   rw [if_pos e]
   exact ⟨g2,rfl,Nat.le_trans HZ.out.size hg,p,hf,hc⟩⟩)
  clear hf hb1 hbw hg hc
  go_wp2
  go_ret2
  exact HR.out
end
theorem Zq {sc:List Tb} {gr:Bool} {op:List UInt8} {x:Lp.X} {w w':World} {e:Ending} (hop:op≠fW) (h:eN sc gr Mz 1 1 [x] w e w'):BPost sc gr (.un op x) w e w' :=
 Xq (k:=1) (by unfold jD;rw [if_neg hop];rfl) (by rw [show unN op=Mz from if_neg hop];exact h)
theorem BPost.pre {sc:List Tb} {gr:Bool} {x:Lp.X} {a w w':World} {e:Ending} (hb:Below a.heap.size a w) (h:BPost sc gr x w e w'):BPost sc gr x a e w':=by
 obtain ⟨h1,h2⟩:=h
 refine ⟨hb.trans (h1.mono hb.size), ?_⟩
 split
 ·rename_i h0
  rw [if_pos h0] at h2
  obtain ⟨g,h3,h4⟩:=h2
  exact ⟨g,h3,h4.turn (Turn.mono fun k hk _=>Nat.le_trans hb.size hk)⟩
 ·rename_i h0
  rw [if_neg h0] at h2
  exact h2
theorem BPost.form {sc:List Tb} {gr:Bool} {x:Lp.X} {w w':World} {e:Ending} (h:BPost sc gr x w e w'):∃ u E,e=.returned (.tuple #[.pointer u,.int .i64 E]):=by
 obtain ⟨-,h⟩:=h
 split at h
 ·obtain ⟨g,h, -⟩:=h;exact ⟨_,_,h⟩
 ·exact ⟨_,_,h⟩
section
attribute [local go_sem] pF pG mQ
theorem Km (A:Option Addr) (c:Nat) (sc:List Tb) (gr:Bool) (op:List UInt8) (x:Lp.X) (hop:op≠fW) (hB:cQ A c sc gr x):cQ A c sc gr (.un op x):=by
 intro w v hx hS
 obtain ⟨g,u, -,rfl,hcell,hpx⟩:=hx
 have hb0:Below w.heap.size w (w.alloc (.cells #[.slice A sc.length c,.bool gr] 139)):=ρ
 have hx0:=aA hcell hb0
 have hz0:=heap_alloc_new w (.cells #[.slice A sc.length c,.bool gr] 139)
 have cx:=β hx0
 have cz:=β hz0
 have e1:(op==[78,79,84])=false:=η hop
 obtain ⟨T,g2,rfl⟩:=hpx.form
 have hb1:Below w.heap.size w ((w.alloc (.cells #[.slice A sc.length c,.bool gr] 139)).drew.alloc (.cells #[.iface T (.pointer (some ⟨g2,0,none⟩))] 66)):=hb0.drew.alloc (by simp) _
 have hrd:Rds ((w.alloc (.cells #[.slice A sc.length c,.bool gr] 139)).drew.alloc (.cells #[.iface T (.pointer (some ⟨g2,0,none⟩))] 66)) (some ⟨w.heap.size+1,0,none⟩) [.iface T (.pointer (some ⟨g2,0,none⟩))]:=by
  have h:=heap_alloc_new (w.alloc (.cells #[.slice A sc.length c,.bool gr] 139)).drew (.cells #[.iface T (.pointer (some ⟨g2,0,none⟩))] 66)
  rw [show (w.alloc (.cells #[.slice A sc.length c,.bool gr] 139)).drew.heap.size=w.heap.size+1 from World.size_alloc _ _] at h
  exact bD _ h
 have HJ:=κ ((jE A c sc gr Mz 1 1 [(x,.iface T (.pointer (some ⟨g2,0,none⟩)))] (some ⟨w.heap.size+1,0,none⟩) 1 _ (hS.below hb1) hrd (by simp) (by simp) (by
  intro p hq
  rw [List.mem_singleton] at hq
  subst hq
  exact PX.keep (aK hb1) hpx) (by
  intro p hq
  rw [List.mem_singleton] at hq
  subst hq
  exact hB)).mono fun e w' h=>(show BPost sc gr (.un op x) w e w' from BPost.pre hb1 (Zq hop h)))
 have cz2:=β (aA (show (w.alloc (.cells #[.slice A sc.length c,.bool gr] 139)).drew.heap[w.heap.size]? = _ from hz0) ((θ).alloc (ν _) (.cells #[.iface T (.pointer (some ⟨g2,0,none⟩))] 66)))
 clear hS hcell hx0 hz0 hb0 hb1 hrd hpx hB
 unfold bdr at *
 go_enter func48,ntmps48
 go_wp2_with fail
 go_region_with (go_at_call 96;refine μ HJ ?_;rintro e w2 hj;obtain ⟨u,E,rfl⟩:=hj.form;have HR:=κ hj;clear hj)
 all_goals
  go_wp2
  go_ret2
  exact HR.out
end
section
attribute [local go_sem] pF pG mQ
theorem Kl (A:Option Addr) (c:Nat) (sc:List Tb) (gr:Bool) (x:Lp.X) (hB:cQ A c sc gr x):cQ A c sc gr (.un fW x):=by
 intro w v hx hS
 obtain ⟨g,u, -,rfl,hcell,hpx⟩:=hx
 have hb0:Below w.heap.size w (w.alloc (.cells #[.slice A sc.length c,.bool gr] 139)):=ρ
 have hx0:=aA hcell hb0
 have hz0:=heap_alloc_new w (.cells #[.slice A sc.length c,.bool gr] 139)
 have cx:=β hx0
 have cz:=β hz0
 obtain ⟨T,g2,rfl⟩:=hpx.form
 have hb1:Below w.heap.size w ((w.alloc (.cells #[.slice A sc.length c,.bool gr] 139)).drew.alloc (.cells #[.iface T (.pointer (some ⟨g2,0,none⟩))] 66)):=hb0.drew.alloc (by simp) _
 have hrd:Rds ((w.alloc (.cells #[.slice A sc.length c,.bool gr] 139)).drew.alloc (.cells #[.iface T (.pointer (some ⟨g2,0,none⟩))] 66)) (some ⟨w.heap.size+1,0,none⟩) [.iface T (.pointer (some ⟨g2,0,none⟩))]:=by
  have h:=heap_alloc_new (w.alloc (.cells #[.slice A sc.length c,.bool gr] 139)).drew (.cells #[.iface T (.pointer (some ⟨g2,0,none⟩))] 66)
  rw [show (w.alloc (.cells #[.slice A sc.length c,.bool gr] 139)).drew.heap.size=w.heap.size+1 from World.size_alloc _ _] at h
  exact bD _ h
 have HJ:=κ ((jE A c sc gr fW 3 3 [(x,.iface T (.pointer (some ⟨g2,0,none⟩)))] (some ⟨w.heap.size+1,0,none⟩) 1 _ (hS.below hb1) hrd (by simp) (by simp) (by
  intro p hq
  rw [List.mem_singleton] at hq
  subst hq
  exact PX.keep (aK hb1) hpx) (by
  intro p hq
  rw [List.mem_singleton] at hq
  subst hq
  exact hB)).mono fun e w' h=>(show BPost sc gr (.un fW x) w e w' from BPost.pre hb1 (Xq (k:=3) (op:=fW) rfl h)))
 have cz2:=β (aA (show (w.alloc (.cells #[.slice A sc.length c,.bool gr] 139)).drew.heap[w.heap.size]? = _ from hz0) ((θ).alloc (ν _) (.cells #[.iface T (.pointer (some ⟨g2,0,none⟩))] 66)))
 clear hS hcell hx0 hz0 hb0 hb1 hrd hpx hB
 unfold bdr at *
 go_enter func48,ntmps48
 go_wp2_with fail
 go_region_with (go_at_call 96;refine μ HJ ?_;rintro e w2 hj;obtain ⟨u,E,rfl⟩:=hj.form;have HR:=κ hj;clear hj)
 all_goals
  go_wp2
  go_ret2
  exact HR.out
end
section
attribute [local go_sem] wF wG rJ zZ
theorem Ry (A:Option Addr) (c:Nat) (sc:List Tb) (gr:Bool) (x:Lp.X) (hB:cQ A c sc gr x):cQ A c sc gr (.isn false x):=by
 intro w v hx hS
 obtain ⟨g,u, -,rfl,hcell,hpx⟩:=hx
 have hb0:Below w.heap.size w (w.alloc (.cells #[.slice A sc.length c,.bool gr] 139)):=ρ
 have hx0:=aA hcell hb0
 have hz0:=heap_alloc_new w (.cells #[.slice A sc.length c,.bool gr] 139)
 have cx:=β hx0
 have cz:=β hz0
 obtain ⟨T,g2,rfl⟩:=hpx.form
 have hb1:Below w.heap.size w ((w.alloc (.cells #[.slice A sc.length c,.bool gr] 139)).drew.alloc (.cells #[.iface T (.pointer (some ⟨g2,0,none⟩))] 66)):=hb0.drew.alloc (by simp) _
 have hrd:Rds ((w.alloc (.cells #[.slice A sc.length c,.bool gr] 139)).drew.alloc (.cells #[.iface T (.pointer (some ⟨g2,0,none⟩))] 66)) (some ⟨w.heap.size+1,0,none⟩) [.iface T (.pointer (some ⟨g2,0,none⟩))]:=by
  have h:=heap_alloc_new (w.alloc (.cells #[.slice A sc.length c,.bool gr] 139)).drew (.cells #[.iface T (.pointer (some ⟨g2,0,none⟩))] 66)
  rw [show (w.alloc (.cells #[.slice A sc.length c,.bool gr] 139)).drew.heap.size=w.heap.size+1 from World.size_alloc _ _] at h
  exact bD _ h
 have HJ:=κ ((jE A c sc gr sIs 0 3 [(x,.iface T (.pointer (some ⟨g2,0,none⟩)))] (some ⟨w.heap.size+1,0,none⟩) 1 _ (hS.below hb1) hrd (by simp) (by simp) (by
  intro p hq
  rw [List.mem_singleton] at hq
  subst hq
  exact PX.keep (aK hb1) hpx) (by
  intro p hq
  rw [List.mem_singleton] at hq
  subst hq
  exact hB)).mono fun e w' h=>(show BPost sc gr (.isn false x) w e w' from BPost.pre hb1 (Rs (n:=false) h)))
 have cz2:=β (aA (show (w.alloc (.cells #[.slice A sc.length c,.bool gr] 139)).drew.heap[w.heap.size]? = _ from hz0) ((θ).alloc (ν _) (.cells #[.iface T (.pointer (some ⟨g2,0,none⟩))] 66)))
 clear hS hcell hx0 hz0 hb0 hb1 hrd hpx hB
 unfold bdr at *
 go_enter func48,ntmps48
 go_wp2_with fail
 go_region_with (go_at_call 96;refine μ HJ ?_;rintro e w2 hj;obtain ⟨u,E,rfl⟩:=hj.form;have HR:=κ hj;clear hj)
 all_goals
  go_wp2
  go_ret2
  exact HR.out
end
section
attribute [local go_sem] wF wG rJ zZ
theorem Cz (A:Option Addr) (c:Nat) (sc:List Tb) (gr:Bool) (x:Lp.X) (hB:cQ A c sc gr x):cQ A c sc gr (.isn true x):=by
 intro w v hx hS
 obtain ⟨g,u, -,rfl,hcell,hpx⟩:=hx
 have hb0:Below w.heap.size w (w.alloc (.cells #[.slice A sc.length c,.bool gr] 139)):=ρ
 have hx0:=aA hcell hb0
 have hz0:=heap_alloc_new w (.cells #[.slice A sc.length c,.bool gr] 139)
 have cx:=β hx0
 have cz:=β hz0
 obtain ⟨T,g2,rfl⟩:=hpx.form
 have hb1:Below w.heap.size w ((w.alloc (.cells #[.slice A sc.length c,.bool gr] 139)).drew.alloc (.cells #[.iface T (.pointer (some ⟨g2,0,none⟩))] 66)):=hb0.drew.alloc (by simp) _
 have hrd:Rds ((w.alloc (.cells #[.slice A sc.length c,.bool gr] 139)).drew.alloc (.cells #[.iface T (.pointer (some ⟨g2,0,none⟩))] 66)) (some ⟨w.heap.size+1,0,none⟩) [.iface T (.pointer (some ⟨g2,0,none⟩))]:=by
  have h:=heap_alloc_new (w.alloc (.cells #[.slice A sc.length c,.bool gr] 139)).drew (.cells #[.iface T (.pointer (some ⟨g2,0,none⟩))] 66)
  rw [show (w.alloc (.cells #[.slice A sc.length c,.bool gr] 139)).drew.heap.size=w.heap.size+1 from World.size_alloc _ _] at h
  exact bD _ h
 have HJ:=κ ((jE A c sc gr xV 0 3 [(x,.iface T (.pointer (some ⟨g2,0,none⟩)))] (some ⟨w.heap.size+1,0,none⟩) 1 _ (hS.below hb1) hrd (by simp) (by simp) (by
  intro p hq
  rw [List.mem_singleton] at hq
  subst hq
  exact PX.keep (aK hb1) hpx) (by
  intro p hq
  rw [List.mem_singleton] at hq
  subst hq
  exact hB)).mono fun e w' h=>(show BPost sc gr (.isn true x) w e w' from BPost.pre hb1 (Rs (n:=true) h)))
 have cz2:=β (aA (show (w.alloc (.cells #[.slice A sc.length c,.bool gr] 139)).drew.heap[w.heap.size]? = _ from hz0) ((θ).alloc (ν _) (.cells #[.iface T (.pointer (some ⟨g2,0,none⟩))] 66)))
 clear hS hcell hx0 hz0 hb0 hb1 hrd hpx hB
 unfold bdr at *
 go_enter func48,ntmps48
 go_wp2_with fail
 go_region_with (go_at_call 96;refine μ HJ ?_;rintro e w2 hj;obtain ⟨u,E,rfl⟩:=hj.form;have HR:=κ hj;clear hj)
 all_goals
  go_wp2
  go_ret2
  exact HR.out
end
theorem uQ (sc:List Tb) (gr:Bool) (a b:Lp.X):bG sc gr [a,b]=if (aD sc a gr).2=0 then (aD sc b gr).2 else (aD sc a gr).2:=by
 show (if (aD sc a gr).2=0 then (if (aD sc b gr).2=0 then (0:Int) else (aD sc b gr).2) else (aD sc a gr).2)=_
 split
 ·split
  ·rename_i h;exact h.symm
  ·rfl
 ·rfl
theorem uI (sc:List Tb) (gr:Bool) (op:List UInt8) (a b:Lp.X):(bG sc gr [a,b]=0→aD sc (.bin op a b) gr=gS op (aD sc a gr).1 (aD sc b gr).1)∧(bG sc gr [a,b]≠0→aD sc (.bin op a b) gr=(0,bG sc gr [a,b])):=by
 have hkx:aD sc (.bin op a b) gr=dD (aD sc a gr) fun k=>dD (aD sc b gr) (gS op k):=rfl
 rw [uQ,hkx]
 by_cases h0:(aD sc a gr).2=0
 ·rw [if_pos h0,dD,if_pos h0]
  by_cases h1:(aD sc b gr).2=0
  ·exact ⟨fun _=>by rw [dD,if_pos h1],fun h=>absurd h1 h⟩
  ·exact ⟨fun h=>absurd h h1,fun _=>by rw [dD,if_neg h1]⟩
 ·rw [if_neg h0,dD,if_neg h0]
  exact ⟨fun h=>absurd h h0,fun _=>rfl⟩
theorem Ps {op:List UInt8} {k a b:Int} (hop:((op=jN∨op=uOr)∧k=3)∨(op∈hY∧k=1)):gS op a b=(if fitK a k&&fitK b k then (k,0) else (0,8))∧Kk op=k∧k≠0:=by
 rcases hop with ⟨h,rfl⟩|⟨h,rfl⟩
 ·have h2:op ∉ hY:=by rcases h with rfl|rfl<;>decide
  exact ⟨by unfold gS;rw [if_pos h],if_neg h2,by decide⟩
 ·have h2:¬(op=jN∨op=uOr):=by rintro (rfl|rfl)<;>revert h<;>decide
  exact ⟨by unfold gS;rw [if_neg h2,if_pos h],if_pos h,by decide⟩
theorem Rt {sc:List Tb} {gr:Bool} {op:List UInt8} {a b:Lp.X} {k:Int} {w w':World} {e:Ending} (hop:((op=jN∨op=uOr)∧k=3)∨(op∈hY∧k=1)) (h:eN sc gr op k k [a,b] w e w'):BPost sc gr (.bin op a b) w e w':=by
 obtain ⟨hb,h⟩:=h
 refine ⟨hb, ?_⟩
 obtain ⟨q1,q2⟩:=uI sc gr op a b
 by_cases h0:bG sc gr [a,b]=0
 ·rw [if_pos h0] at h
  obtain ⟨k1,k2,k3⟩:=Ps (a:=(aD sc a gr).1) (b:=(aD sc b gr).1) hop
  rw [q1 h0,k1]
  have hany:(kS sc gr k [a,b]).any id = !(fitK (aD sc a gr).1 k&&fitK (aD sc b gr).1 k):=by simp [kS,Bool.not_and]
  rw [hany] at h
  cases hf:(fitK (aD sc a gr).1 k&&fitK (aD sc b gr).1 k)
  ·rw [hf] at h
   rw [if_pos ⟨k3,rfl⟩] at h
   simpa using h
  ·rw [hf] at h
   rw [if_neg (fun h=>by cases h.2)] at h
   simp only [if_true]
   obtain ⟨g,Ao,co,gs,rfl,hg,hc,hp,hn⟩:=h
   match gs,hn with
   | [g1,g2],hn =>
     exact ⟨g,rfl,hg,Ao,co,g1,g2,by rw [k2];exact hc,hp.turn (Turn.mono fun _ h _=>h.1) (by simp),hn.1.turn (Turn.mono fun _ h _=>h.1),hn.2.1.turn (Turn.mono fun _ h _=>h.1)⟩
 ·rw [if_neg h0] at h
  rw [q2 h0]
  simp only [h0,if_false]
  exact h
theorem Pp {sc:List Tb} {gr:Bool} {op:List UInt8} {a b:Lp.X} (h1:¬(op=jN∨op=uOr)) (h2:op ∉ hY) (h0:bG sc gr [a,b]=0) :
 aD sc (.bin op a b) gr=if fitK (aD sc a gr).1 (aD sc b gr).1||fitK (aD sc b gr).1 (aD sc a gr).1 then (3,0) else (0,8):=by
 rw [(uI sc gr op a b).1 h0]
 unfold gS
 rw [if_neg h1,if_neg h2]
theorem Qa {sc:List Tb} {gr:Bool} {op:List UInt8} {a b:Lp.X} {w w':World} {e:Ending} (h:eN sc gr op 0 3 [a,b] w e w') :
 (∃ E,E≠0∧E=bG sc gr [a,b]∧e=.returned (.tuple #[.pointer none,.int .i64 E])) ∨
 (bG sc gr [a,b]=0∧∃ g bA offA co g1 g2,e=.returned (.tuple #[ptr g,.int .i64 0])∧w.heap.size≤g∧w'.heap[g]? = some (.cells (ndv op 3 nul 0 (some ⟨bA,offA,none⟩) 2 co) 120 (0,0)) ∧
  w'.cell? ⟨bA,offA,none⟩=some (ptr g1)∧w'.cell? ⟨bA,offA+1,none⟩=some (ptr g2)∧Prts (fun k=>w.heap.size≤k) w' (some ⟨bA,offA,none⟩) [g1,g2]∧NT (fun k=>w.heap.size≤k) w' sc a g1∧NT (fun k=>w.heap.size≤k) w' sc b g2):=by
 obtain ⟨hb,h⟩:=h
 by_cases h0:bG sc gr [a,b]=0
 ·rw [if_pos h0,if_neg (fun h=>h.1 rfl)] at h
  obtain ⟨g,Ao,co,gs,rfl,hg,hc,hp,hn⟩:=h
  match gs,hn with
  | [g1,g2],hn =>
    obtain ⟨bA,offA,rfl,h1,h2⟩:=hp
    exact .inr ⟨h0,g,bA,offA,co,g1,g2,rfl,hg,hc,h2 0 _ rfl,h2 1 _ rfl,⟨bA,offA,rfl,h1.1,h2⟩,hn.1.turn (Turn.mono fun _ h _=>h.1),hn.2.1.turn (Turn.mono fun _ h _=>h.1)⟩
 ·rw [if_neg h0] at h
  exact .inl ⟨_,h0,rfl,h⟩
theorem aY {w w':World} {a:Addr} {u:Value} (h:w.cell? a=some u) (hb:Below w.heap.size w w'):w'.cell? a=some u:=(hb.cell (p:=a) (World.block_lt_of_cell? w a h)).trans h
def Wx (w:World) (a b:Lp.X) (op:List UInt8) (g:Nat):Prop:=∃ u1 u2,w.heap[g]? = some (.cells #[.string ⟨op.toArray⟩,u1,u2] 247 (0,0))∧PX 0 w a u1∧PX 0 w b u2
theorem Fu (A:Option Addr) (c:Nat) (sc:List Tb) (gr:Bool) (a b:Lp.X) (op:List UInt8) (hop:op=jN∨op=uOr) (g:Nat) (w:World) (hT:Wx w a b op g) (hS:ScM w A sc) (hA:cQ A c sc gr a) (hB:cQ A c sc gr b) :
 Calls prog 97 #[bdr A sc c gr,.pointer (some ⟨g,0,none⟩)] w (BPost sc gr (.bin op a b) w):=by
 obtain ⟨u1,u2,hcell,hp1,hp2⟩:=hT
 obtain ⟨T1,g1,rfl⟩:=hp1.form
 obtain ⟨T2,g2,rfl⟩:=hp2.form
 have hb0:Below w.heap.size w (w.alloc (.cells #[.slice A sc.length c,.bool gr] 139)):=ρ
 have hx0:=aA hcell hb0
 have hz0:=heap_alloc_new w (.cells #[.slice A sc.length c,.bool gr] 139)
 have cx:=β hx0
 have cz:=β hz0
 have hb1:Below w.heap.size w ((w.alloc (.cells #[.slice A sc.length c,.bool gr] 139)).alloc (.cells #[.iface T1 (.pointer (some ⟨g1,0,none⟩)),.iface T2 (.pointer (some ⟨g2,0,none⟩))] 66)).drew:=(hb0.alloc (by simp) _).drew
 have hrd:Rds ((w.alloc (.cells #[.slice A sc.length c,.bool gr] 139)).alloc (.cells #[.iface T1 (.pointer (some ⟨g1,0,none⟩)),.iface T2 (.pointer (some ⟨g2,0,none⟩))] 66)).drew (some ⟨w.heap.size+1,0,none⟩) [.iface T1 (.pointer (some ⟨g1,0,none⟩)),.iface T2 (.pointer (some ⟨g2,0,none⟩))]:=by
  have h:=heap_alloc_new (w.alloc (.cells #[.slice A sc.length c,.bool gr] 139)) (.cells #[.iface T1 (.pointer (some ⟨g1,0,none⟩)),.iface T2 (.pointer (some ⟨g2,0,none⟩))] 66)
  rw [World.size_alloc] at h
  exact bD (w:=((w.alloc (.cells #[.slice A sc.length c,.bool gr] 139)).alloc (.cells #[.iface T1 (.pointer (some ⟨g1,0,none⟩)),.iface T2 (.pointer (some ⟨g2,0,none⟩))] 66)).drew) _ h
 have HJ:=κ ((jE A c sc gr op 3 3 [(a,.iface T1 (.pointer (some ⟨g1,0,none⟩))),(b,.iface T2 (.pointer (some ⟨g2,0,none⟩)))] (some ⟨w.heap.size+1,0,none⟩) 2 _ (hS.below hb1) hrd (by simp) (by simp) (by
  intro p hq
  rcases List.mem_cons.1 hq with rfl|hq
  ·exact PX.keep (aK hb1) hp1
  ·rw [List.mem_singleton] at hq
   subst hq
   exact PX.keep (aK hb1) hp2) (by
  intro p hq
  rcases List.mem_cons.1 hq with rfl|hq
  ·exact hA
  ·rw [List.mem_singleton] at hq
   subst hq
   exact hB)).mono fun e w' h=>(show BPost sc gr (.bin op a b) w e w'∧Below ((w.alloc (.cells #[.slice A sc.length c,.bool gr] 139)).alloc (.cells #[.iface T1 (.pointer (some ⟨g1,0,none⟩)),.iface T2 (.pointer (some ⟨g2,0,none⟩))] 66)).drew.heap.size _ w' from ⟨BPost.pre hb1 (Rt (.inl ⟨hop,rfl⟩) h),h.1⟩))
 have hbD:Below (w.alloc (.cells #[.slice A sc.length c,.bool gr] 139)).heap.size (w.alloc (.cells #[.slice A sc.length c,.bool gr] 139)) ((w.alloc (.cells #[.slice A sc.length c,.bool gr] 139)).alloc (.cells #[.iface T1 (.pointer (some ⟨g1,0,none⟩)),.iface T2 (.pointer (some ⟨g2,0,none⟩))] 66)).drew:=(ρ).drew
 have cz2:=β (aA hz0 hbD)
 have cx2:=β (aA hx0 hbD)
 clear hS hcell hx0 hz0 hb0 hb1 hrd hp1 hp2 hA hB hbD
 unfold bdr at *
 have hO:∃ O,O=op:=⟨_,rfl⟩
 obtain ⟨O,hO⟩:=hO
 rw [←hO] at cx cx2 HJ ⊢
 have he:((O==[65,78,68])=true)∨((O==[65,78,68])=false∧(O==[79,82])=true):=by rcases hop with rfl|rfl<;>subst hO<;>first|exact .inl rfl|exact .inr ⟨rfl,rfl⟩
 clear hop hO
 rcases he with e1|⟨e1,e2⟩
 all_goals
  go_enter func97,ntmps97
  go_wp2_with fail
  go_region_held3 (fun w'=>w'.cell? ⟨w.heap.size,0,none⟩=some (.slice A sc.length c)∧w'.cell? ⟨w.heap.size,1,none⟩=some (.bool gr)∧w'.cell? ⟨g,0,none⟩=some (.string ⟨O.toArray⟩)∧w'.cell? ⟨g,1,none⟩=some (.iface T1 (.pointer (some ⟨g1,0,none⟩)))∧w'.cell? ⟨g,2,none⟩=some (.iface T2 (.pointer (some ⟨g2,0,none⟩))))
   (first|go_keep|exact hd2)
   ((go_at_call 96;refine μ HJ ?_;rintro e w2 hj;obtain ⟨u,E,rfl⟩:=hj.1.form;have HR:=κ hj.1;have hd2:w2.cell? ⟨w.heap.size,0,none⟩=some (.slice A sc.length c)∧w2.cell? ⟨w.heap.size,1,none⟩=some (.bool gr)∧w2.cell? ⟨g,0,none⟩=some (.string ⟨O.toArray⟩)∧w2.cell? ⟨g,1,none⟩=some (.iface T1 (.pointer (some ⟨g1,0,none⟩)))∧w2.cell? ⟨g,2,none⟩=some (.iface T2 (.pointer (some ⟨g2,0,none⟩))):=⟨aY (cz2 0) hj.2,aY (cz2 1) hj.2,aY (cx2 0) hj.2,aY (cx2 1) hj.2,aY (cx2 2) hj.2⟩;clear hj))
  all_goals
   go_wp2
   go_ret2
   exact HR.out
theorem zF (A:Option Addr) (c:Nat) (sc:List Tb) (gr:Bool) (a b:Lp.X) (op:List UInt8) (hop:op∈hY) (g:Nat) (w:World) (hT:Wx w a b op g) (hS:ScM w A sc) (hA:cQ A c sc gr a) (hB:cQ A c sc gr b) :
 Calls prog 97 #[bdr A sc c gr,.pointer (some ⟨g,0,none⟩)] w (BPost sc gr (.bin op a b) w):=by
 obtain ⟨u1,u2,hcell,hp1,hp2⟩:=hT
 obtain ⟨T1,g1,rfl⟩:=hp1.form
 obtain ⟨T2,g2,rfl⟩:=hp2.form
 have hb0:Below w.heap.size w (w.alloc (.cells #[.slice A sc.length c,.bool gr] 139)):=ρ
 have hx0:=aA hcell hb0
 have hz0:=heap_alloc_new w (.cells #[.slice A sc.length c,.bool gr] 139)
 have cx:=β hx0
 have cz:=β hz0
 have hb1:Below w.heap.size w ((w.alloc (.cells #[.slice A sc.length c,.bool gr] 139)).alloc (.cells #[.iface T1 (.pointer (some ⟨g1,0,none⟩)),.iface T2 (.pointer (some ⟨g2,0,none⟩))] 66)).drew:=(hb0.alloc (by simp) _).drew
 have hrd:Rds ((w.alloc (.cells #[.slice A sc.length c,.bool gr] 139)).alloc (.cells #[.iface T1 (.pointer (some ⟨g1,0,none⟩)),.iface T2 (.pointer (some ⟨g2,0,none⟩))] 66)).drew (some ⟨w.heap.size+1,0,none⟩) [.iface T1 (.pointer (some ⟨g1,0,none⟩)),.iface T2 (.pointer (some ⟨g2,0,none⟩))]:=by
  have h:=heap_alloc_new (w.alloc (.cells #[.slice A sc.length c,.bool gr] 139)) (.cells #[.iface T1 (.pointer (some ⟨g1,0,none⟩)),.iface T2 (.pointer (some ⟨g2,0,none⟩))] 66)
  rw [World.size_alloc] at h
  exact bD (w:=((w.alloc (.cells #[.slice A sc.length c,.bool gr] 139)).alloc (.cells #[.iface T1 (.pointer (some ⟨g1,0,none⟩)),.iface T2 (.pointer (some ⟨g2,0,none⟩))] 66)).drew) _ h
 have HJ:=κ ((jE A c sc gr op 1 1 [(a,.iface T1 (.pointer (some ⟨g1,0,none⟩))),(b,.iface T2 (.pointer (some ⟨g2,0,none⟩)))] (some ⟨w.heap.size+1,0,none⟩) 2 _ (hS.below hb1) hrd (by simp) (by simp) (by
  intro p hq
  rcases List.mem_cons.1 hq with rfl|hq
  ·exact PX.keep (aK hb1) hp1
  ·rw [List.mem_singleton] at hq
   subst hq
   exact PX.keep (aK hb1) hp2) (by
  intro p hq
  rcases List.mem_cons.1 hq with rfl|hq
  ·exact hA
  ·rw [List.mem_singleton] at hq
   subst hq
   exact hB)).mono fun e w' h=>(show BPost sc gr (.bin op a b) w e w'∧Below ((w.alloc (.cells #[.slice A sc.length c,.bool gr] 139)).alloc (.cells #[.iface T1 (.pointer (some ⟨g1,0,none⟩)),.iface T2 (.pointer (some ⟨g2,0,none⟩))] 66)).drew.heap.size _ w' from ⟨BPost.pre hb1 (Rt (.inr ⟨hop,rfl⟩) h),h.1⟩))
 have hbD:Below (w.alloc (.cells #[.slice A sc.length c,.bool gr] 139)).heap.size (w.alloc (.cells #[.slice A sc.length c,.bool gr] 139)) ((w.alloc (.cells #[.slice A sc.length c,.bool gr] 139)).alloc (.cells #[.iface T1 (.pointer (some ⟨g1,0,none⟩)),.iface T2 (.pointer (some ⟨g2,0,none⟩))] 66)).drew:=(ρ).drew
 have cz2:=β (aA hz0 hbD)
 have cx2:=β (aA hx0 hbD)
 clear hS hcell hx0 hz0 hb0 hb1 hrd hp1 hp2 hA hB hbD
 unfold bdr at *
 have hO:∃ O,O=op:=⟨_,rfl⟩
 obtain ⟨O,hO⟩:=hO
 rw [←hO] at cx cx2 HJ ⊢
 have he:(O==[65,78,68])=false∧(O==[79,82])=false∧(((O==[43])=true)∨((O==[43])=false∧(O==[45])=true)∨((O==[43])=false∧(O==[45])=false∧(O==[42])=true)∨((O==[43])=false∧(O==[45])=false∧(O==[42])=false∧(O==[47])=true)∨((O==[43])=false∧(O==[45])=false∧(O==[42])=false∧(O==[47])=false∧(O==[37])=true)):=by
  simp only [hY,List.mem_cons,List.not_mem_nil,or_false] at hop
  subst hO
  rcases hop with rfl|rfl|rfl|rfl|rfl<;>decide
 clear hop hO
 obtain ⟨e1,e2,he⟩:=he
 rcases he with q0|⟨q0,q1⟩|⟨q0,q1,q2⟩|⟨q0,q1,q2,q3⟩|⟨q0,q1,q2,q3,q4⟩
 all_goals
  go_enter func97,ntmps97
  go_wp2_with fail
  go_region_held3 (fun w'=>w'.cell? ⟨w.heap.size,0,none⟩=some (.slice A sc.length c)∧w'.cell? ⟨w.heap.size,1,none⟩=some (.bool gr)∧w'.cell? ⟨g,0,none⟩=some (.string ⟨O.toArray⟩)∧w'.cell? ⟨g,1,none⟩=some (.iface T1 (.pointer (some ⟨g1,0,none⟩)))∧w'.cell? ⟨g,2,none⟩=some (.iface T2 (.pointer (some ⟨g2,0,none⟩))))
   (first|go_keep|exact hd2)
   ((go_at_call 96;refine μ HJ ?_;rintro e w2 hj;obtain ⟨u,E,rfl⟩:=hj.1.form;have HR:=κ hj.1;have hd2:w2.cell? ⟨w.heap.size,0,none⟩=some (.slice A sc.length c)∧w2.cell? ⟨w.heap.size,1,none⟩=some (.bool gr)∧w2.cell? ⟨g,0,none⟩=some (.string ⟨O.toArray⟩)∧w2.cell? ⟨g,1,none⟩=some (.iface T1 (.pointer (some ⟨g1,0,none⟩)))∧w2.cell? ⟨g,2,none⟩=some (.iface T2 (.pointer (some ⟨g2,0,none⟩))):=⟨aY (cz2 0) hj.2,aY (cz2 1) hj.2,aY (cx2 0) hj.2,aY (cx2 1) hj.2,aY (cx2 2) hj.2⟩;clear hj))
  all_goals
   go_wp2
   go_ret2
   exact HR.out
theorem BPost.drewN {sc:List Tb} {gr:Bool} {x:Lp.X} {w w':World} {e:Ending} {n:Nat} (h:BPost sc gr x w e w'):BPost sc gr x w e (w'.drewN n):=by
 obtain ⟨hb,h⟩:=h
 refine ⟨fP n hb, ?_⟩
 by_cases h0:(aD sc x gr).2=0
 ·rw [if_pos h0] at h ⊢
  obtain ⟨g,h1,h2⟩:=h
  have ht:Turn (fun k=>w.heap.size≤k) (fun k=>w.heap.size≤k) w' (w'.drewN n):=fun g hg _=>⟨hg,rfl⟩
  exact ⟨g,h1,h2.turn ht⟩
 ·rw [if_neg h0] at h ⊢
  exact h
theorem Xi {g n:Nat} {op:List UInt8} {kd k a:Int} {v:Lp.V} {A:Option Addr} {m c:Nat} {w:World} (h:w.heap[g]? = some (.cells (ndv op kd v a A m c) 120 (0,0))) :
 Calls prog 37 #[.pointer (some ⟨g,0,none⟩),.int .u8 k] (w.drewN n) fun e w'=>e=.returned (.bool (fitK kd k))∧w'=w.drewN n :=
 (pW g op kd v a A m c k (w.drewN n) h).mono fun _ _ q=>⟨q.1,q.2.symm⟩
def CmpJ (sc:List Tb) (gr:Bool) (op:List UInt8) (a b:Lp.X) (w:World) (e:Ending) (w':World):Prop :=
 (∃ E,E≠0∧e=.returned (.tuple #[.pointer none,.int .i64 E])∧BPost sc gr (.bin op a b) w (.returned (.tuple #[.pointer none,.int .i64 E])) w') ∨
 ∃ g bA offA co g1 g2,e=.returned (.tuple #[ptr g,.int .i64 0])∧w'.cell? ⟨g,7,none⟩=some (.slice (some ⟨bA,offA,none⟩) 2 co) ∧
  w'.cell? ⟨bA,offA,none⟩=some (ptr g1)∧w'.cell? ⟨bA,offA+1,none⟩=some (ptr g2)∧w'.cell? ⟨g1,1,none⟩=some (.int .u8 (aD sc a gr).1)∧w'.cell? ⟨g2,1,none⟩=some (.int .u8 (aD sc b gr).1) ∧
  (∃ o1 v1 a1 A1 n1 c1,w'.heap[g1]? = some (.cells (ndv o1 (aD sc a gr).1 v1 a1 A1 n1 c1) 120 (0,0))) ∧
  (∃ o1 v1 a1 A1 n1 c1,w'.heap[g2]? = some (.cells (ndv o1 (aD sc b gr).1 v1 a1 A1 n1 c1) 120 (0,0))) ∧
  BPost sc gr (.bin op a b) w (if fitK (aD sc a gr).1 (aD sc b gr).1||fitK (aD sc b gr).1 (aD sc a gr).1 then .returned (.tuple #[ptr g,.int .i64 0]) else .returned (.tuple #[.pointer none,.int .i64 8])) w'
theorem We {sc:List Tb} {gr:Bool} {op:List UInt8} {a b:Lp.X} {w w1 w':World} {e:Ending} (hb:Below w.heap.size w w1) (h:CmpJ sc gr op a b w1 e w'):CmpJ sc gr op a b w e w':=by
 rcases h with ⟨E,h0,h1,h2⟩|⟨g,bA,offA,co,g1,g2,h0,h1,h2,h3,h4,h5,h6,h7,h8⟩
 ·exact .inl ⟨E,h0,h1,BPost.pre hb h2⟩
 ·exact .inr ⟨g,bA,offA,co,g1,g2,h0,h1,h2,h3,h4,h5,h6,h7,BPost.pre hb h8⟩
theorem CmpJ.form {sc:List Tb} {gr:Bool} {op:List UInt8} {a b:Lp.X} {w w':World} {e:Ending} (h:CmpJ sc gr op a b w e w'):∃ u E,e=.returned (.tuple #[.pointer u,.int .i64 E]):=by
 rcases h with ⟨E,h0,h1,h2⟩|⟨g,bA,offA,co,g1,g2,h0, -⟩
 ·exact ⟨_,_,h1⟩
 ·exact ⟨_,_,h0⟩
theorem Cg {sc:List Tb} {gr:Bool} {a b:Lp.X} (h:bG sc gr [a,b]=0):(aD sc a gr).2=0∧(aD sc b gr).2=0:=by
 rw [uQ] at h
 split at h
 ·rename_i h1;exact ⟨h1,h⟩
 ·rename_i h1;exact absurd h h1
theorem Wd {sc:List Tb} {gr:Bool} {op:List UInt8} {a b:Lp.X} {w w':World} {e:Ending} (h1:¬(op=jN∨op=uOr)) (h2:op ∉ hY) (h:eN sc gr op 0 3 [a,b] w e w'):CmpJ sc gr op a b w e w':=by
 have hb:=h.1
 rcases Qa h with ⟨E,q0,q1,q2⟩|⟨q0,g,bA,offA,co,g1,g2,qe,qg,qc,c1,c2,qp,n1,n2⟩
 ·refine .inl ⟨E,q0,q2,hb, ?_⟩
  rw [(uI sc gr op a b).2 (by rw [←q1];exact q0), ←q1]
  rw [if_neg q0]
 ·obtain ⟨z1,z2⟩:=Cg q0
  have hn1:=n1.kind z1
  have hn2:=n2.kind z2
  obtain ⟨o1,v1,a1,A1,m1,d1,f1⟩:=hn1
  obtain ⟨o2,v2,a2,A2,m2,d2,f2⟩:=hn2
  refine .inr ⟨g,bA,offA,co,g1,g2,qe,β qc 7,c1,c2,β f1 1,β f2 1,⟨_,_,_,_,_,_,f1⟩,⟨_,_,_,_,_,_,f2⟩,hb, ?_⟩
  rw [Pp h1 h2 q0]
  have hbk:Kk op=3:=if_neg h2
  cases hf:(fitK (aD sc a gr).1 (aD sc b gr).1||fitK (aD sc b gr).1 (aD sc a gr).1)
  ·simp
  ·simp only [if_true]
   exact ⟨g,rfl,qg,some ⟨bA,offA,none⟩,co,g1,g2,by rw [hbk];exact qc,qp,n1,n2⟩
theorem Fs (A:Option Addr) (c:Nat) (sc:List Tb) (gr:Bool) (a b:Lp.X) (op:List UInt8) (hop1:¬(op=jN∨op=uOr)) (hop:op ∉ hY) (g:Nat) (w:World) (hT:Wx w a b op g) (hS:ScM w A sc) (hA:cQ A c sc gr a) (hB:cQ A c sc gr b) :
 Calls prog 97 #[bdr A sc c gr,.pointer (some ⟨g,0,none⟩)] w (BPost sc gr (.bin op a b) w):=by
 obtain ⟨u1,u2,hcell,hp1,hp2⟩:=hT
 obtain ⟨T1,g1,rfl⟩:=hp1.form
 obtain ⟨T2,g2,rfl⟩:=hp2.form
 have hb0:Below w.heap.size w (w.alloc (.cells #[.slice A sc.length c,.bool gr] 139)):=ρ
 have hx0:=aA hcell hb0
 have hz0:=heap_alloc_new w (.cells #[.slice A sc.length c,.bool gr] 139)
 have cx:=β hx0
 have cz:=β hz0
 have hb1:Below w.heap.size w ((w.alloc (.cells #[.slice A sc.length c,.bool gr] 139)).alloc (.cells #[.iface T1 (.pointer (some ⟨g1,0,none⟩)),.iface T2 (.pointer (some ⟨g2,0,none⟩))] 66)).drew:=(hb0.alloc (by simp) _).drew
 have hrd:Rds ((w.alloc (.cells #[.slice A sc.length c,.bool gr] 139)).alloc (.cells #[.iface T1 (.pointer (some ⟨g1,0,none⟩)),.iface T2 (.pointer (some ⟨g2,0,none⟩))] 66)).drew (some ⟨w.heap.size+1,0,none⟩) [.iface T1 (.pointer (some ⟨g1,0,none⟩)),.iface T2 (.pointer (some ⟨g2,0,none⟩))]:=by
  have h:=heap_alloc_new (w.alloc (.cells #[.slice A sc.length c,.bool gr] 139)) (.cells #[.iface T1 (.pointer (some ⟨g1,0,none⟩)),.iface T2 (.pointer (some ⟨g2,0,none⟩))] 66)
  rw [World.size_alloc] at h
  exact bD (w:=((w.alloc (.cells #[.slice A sc.length c,.bool gr] 139)).alloc (.cells #[.iface T1 (.pointer (some ⟨g1,0,none⟩)),.iface T2 (.pointer (some ⟨g2,0,none⟩))] 66)).drew) _ h
 have HJ:=κ ((jE A c sc gr op 0 3 [(a,.iface T1 (.pointer (some ⟨g1,0,none⟩))),(b,.iface T2 (.pointer (some ⟨g2,0,none⟩)))] (some ⟨w.heap.size+1,0,none⟩) 2 _ (hS.below hb1) hrd (by simp) (by simp) (by
  intro p hq
  rcases List.mem_cons.1 hq with rfl|hq
  ·exact PX.keep (aK hb1) hp1
  ·rw [List.mem_singleton] at hq
   subst hq
   exact PX.keep (aK hb1) hp2) (by
  intro p hq
  rcases List.mem_cons.1 hq with rfl|hq
  ·exact hA
  ·rw [List.mem_singleton] at hq
   subst hq
   exact hB)).mono fun e w' h=>(show CmpJ sc gr op a b w e w'∧Below ((w.alloc (.cells #[.slice A sc.length c,.bool gr] 139)).alloc (.cells #[.iface T1 (.pointer (some ⟨g1,0,none⟩)),.iface T2 (.pointer (some ⟨g2,0,none⟩))] 66)).drew.heap.size _ w' from ⟨We hb1 (Wd hop1 hop h),h.1⟩))
 have hbD:Below (w.alloc (.cells #[.slice A sc.length c,.bool gr] 139)).heap.size (w.alloc (.cells #[.slice A sc.length c,.bool gr] 139)) ((w.alloc (.cells #[.slice A sc.length c,.bool gr] 139)).alloc (.cells #[.iface T1 (.pointer (some ⟨g1,0,none⟩)),.iface T2 (.pointer (some ⟨g2,0,none⟩))] 66)).drew:=(ρ).drew
 have cz2:=β (aA hz0 hbD)
 have cx2:=β (aA hx0 hbD)
 clear hS hcell hx0 hz0 hb0 hb1 hrd hp1 hp2 hA hB hbD
 unfold bdr at *
 have hO:∃ O,O=op:=⟨_,rfl⟩
 obtain ⟨O,hO⟩:=hO
 rw [←hO] at cx cx2 HJ ⊢
 have he:(O==[65,78,68])=false∧(O==[79,82])=false∧(O==[43])=false∧(O==[45])=false∧(O==[42])=false∧(O==[47])=false∧(O==[37])=false:=by
  subst hO
  simp only [hY,List.mem_cons,List.not_mem_nil,or_false,not_or] at hop
  simp only [beq_eq_false_iff_ne,ne_eq]
  exact ⟨fun h=>hop1 (.inl h),fun h=>hop1 (.inr h),hop⟩
 clear hop hop1 hO
 obtain ⟨e1,e2,e3,e4,e5,e6,e7⟩:=he
 go_enter func97,ntmps97
 go_wp2_with fail
 go_region_held3 (fun w'=>w'.cell? ⟨w.heap.size,0,none⟩=some (.slice A sc.length c)∧w'.cell? ⟨w.heap.size,1,none⟩=some (.bool gr)∧w'.cell? ⟨g,0,none⟩=some (.string ⟨O.toArray⟩)∧w'.cell? ⟨g,1,none⟩=some (.iface T1 (.pointer (some ⟨g1,0,none⟩)))∧w'.cell? ⟨g,2,none⟩=some (.iface T2 (.pointer (some ⟨g2,0,none⟩))))
  (first|go_keep|exact hd2)
  ((go_at_call 96;refine μ HJ ?_;rintro e w2 hj;have HR:=κ hj.1;obtain ⟨u,E,rfl⟩:=hj.1.form;have hd2:w2.cell? ⟨w.heap.size,0,none⟩=some (.slice A sc.length c)∧w2.cell? ⟨w.heap.size,1,none⟩=some (.bool gr)∧w2.cell? ⟨g,0,none⟩=some (.string ⟨O.toArray⟩)∧w2.cell? ⟨g,1,none⟩=some (.iface T1 (.pointer (some ⟨g1,0,none⟩)))∧w2.cell? ⟨g,2,none⟩=some (.iface T2 (.pointer (some ⟨g2,0,none⟩))):=⟨aY (cz2 0) hj.2,aY (cz2 1) hj.2,aY (cx2 0) hj.2,aY (cx2 1) hj.2,aY (cx2 2) hj.2⟩;clear hj))
 all_goals
  rcases HR.out with ⟨E',q0,hR,HP⟩|⟨g9,bA,offA,co,g8,g7,hR,k0,k1,k2,k3,k4,⟨o1,v1,a1,A1,n1,d1,f1⟩,⟨o2,v2,a2,A2,n2,d2,f2⟩,HP⟩
  ·cases hR
   have HP:=κ HP
   have q1:decide (E=0)=false:=by simp [q0]
   have q2:(E==0)=false:=by simp [q0]
   clear q0 HR HJ cz cz2 cx cx2
   go_wp2_with fail
   go_quiet (fail)
   all_goals
    go_wp2
    go_ret2
    exact HP.out.drewN
  ·cases hR
   have HF1:=κ (fun n=>Xi (n:=n) (k:=(aD sc b gr).1) f1)
   have HF2:=κ (fun n=>Xi (n:=n) (k:=(aD sc a gr).1) f2)
   clear HR HJ f1 f2 cz cz2 cx cx2
   unfold ptr at *
   have HP:=κ HP
   cases q1:fitK (aD sc a gr).1 (aD sc b gr).1
   ·cases q2:fitK (aD sc b gr).1 (aD sc a gr).1
    ·rw [q1,q2] at HP
     rw [q1] at HF1
     rw [q2] at HF2
     clear q1 q2
     simp only [Bool.or_self,φ,if_false] at HP
     go_wp2_with fail
     go_quiet (first
      | (with_reducible (go_at_call 37;exact Calls.quiet_of_same (HF1.out _)))
      | (with_reducible (go_at_call 37;exact Calls.quiet_of_same (HF2.out _))))
     go_wp2
     go_ret2
     exact HP.out.drewN
    ·rw [q1,q2] at HP
     rw [q1] at HF1
     rw [q2] at HF2
     clear q1 q2
     simp only [Bool.or_true,if_true] at HP
     go_wp2_with fail
     go_quiet (first
      | (with_reducible (go_at_call 37;exact Calls.quiet_of_same (HF1.out _)))
      | (with_reducible (go_at_call 37;exact Calls.quiet_of_same (HF2.out _))))
     go_wp2
     go_ret2
     exact HP.out.drewN
   ·rw [q1] at HF1 HP
    clear HF2 q1
    simp only [Bool.true_or,if_true] at HP
    go_wp2_with fail
    go_quiet (with_reducible (go_at_call 37;exact Calls.quiet_of_same (HF1.out _)))
    go_wp2
    go_ret2
    exact HP.out.drewN
theorem uR (sc:List Tb) (gr:Bool) (x:Lp.X):bG sc gr [x]=(aD sc x gr).2:=by
 show (if (aD sc x gr).2=0 then (0:Int) else _)=_
 split
 ·rename_i h;exact h.symm
 ·rfl
theorem Ru {sc:List Tb} {op:List UInt8} {x:Lp.X} {of:Int} {w w':World} {e:Ending} (hop:(op=dN∧of=1)∨(op=aU∧of=0)) (h:eN sc false op of 1 [x] w e w'):BPost sc true (.agg op x) w e w':=by
 obtain ⟨hb,h⟩:=h
 refine ⟨hb, ?_⟩
 have hkx:aD sc (.agg op x) true=dD (aD sc x false) (lN op):=rfl
 rw [uR] at h
 by_cases h0:(aD sc x false).2=0
 ·rw [if_pos h0] at h
  have hkx2:aD sc (.agg op x) true=lN op (aD sc x false).1:=by rw [hkx,dD,if_pos h0]
  rw [hkx2]
  have hany:(kS sc false of [x]).any id = !fitK (aD sc x false).1 of:=by simp [kS]
  rw [hany] at h
  rcases hop with ⟨rfl,rfl⟩|⟨rfl,rfl⟩
  ·have hu:lN dN (aD sc x false).1=if fitK (aD sc x false).1 1 then (1,0) else (0,8):=if_pos rfl
   rw [hu]
   cases hf:fitK (aD sc x false).1 1
   ·rw [hf] at h
    rw [if_pos ⟨by decide,rfl⟩] at h
    simpa using h
   ·rw [hf] at h
    rw [if_neg (fun h=>by cases h.2)] at h
    simp only [if_true]
    obtain ⟨g,Ao,co,gs,rfl,hg,hc,hp,hn⟩:=h
    match gs,hn with
    | [g1],hn =>
      exact ⟨g,rfl,hg,Ao,co,g1,by rw [hu,hf];exact hc,hp.turn (Turn.mono fun _ h _=>h.1) (by simp),hn.1.turn (Turn.mono fun _ h _=>h.1)⟩
  ·have hu:lN aU (aD sc x false).1=(1,0):=rfl
   rw [hu]
   rw [if_neg (fun h=>h.1 rfl)] at h
   simp only [if_true]
   obtain ⟨g,Ao,co,gs,rfl,hg,hc,hp,hn⟩:=h
   match gs,hn with
   | [g1],hn =>
     exact ⟨g,rfl,hg,Ao,co,g1,by rw [hu];exact hc,hp.turn (Turn.mono fun _ h _=>h.1) (by simp),hn.1.turn (Turn.mono fun _ h _=>h.1)⟩
 ·rw [if_neg h0] at h
  rw [hkx,dD,if_neg h0]
  simp only [h0,if_false]
  exact h
theorem Uo (op:List UInt8) (k k':Int) (v:Lp.V) (a:Int) (A:Option Addr) (n c:Nat):(ndv op k v a A n c).setIfInBounds 1 (.int .u8 k')=ndv op k' v a A n c:=by simp [ndv]
def MinJ (sc:List Tb) (op:List UInt8) (x:Lp.X) (w:World) (e:Ending) (w':World):Prop :=
 (∃ E,E≠0∧e=.returned (.tuple #[.pointer none,.int .i64 E])∧BPost sc true (.agg op x) w (.returned (.tuple #[.pointer none,.int .i64 E])) w') ∨
 ∃ g bA offA co g1,e=.returned (.tuple #[ptr g,.int .i64 0])∧w'.cell? ⟨g,7,none⟩=some (.slice (some ⟨bA,offA,none⟩) 1 co) ∧
  w'.cell? ⟨bA,offA,none⟩=some (ptr g1)∧w'.cell? ⟨g1,1,none⟩=some (.int .u8 (aD sc x false).1) ∧
  w'.heap[g]? = some (.cells (ndv op 0 nul 0 (some ⟨bA,offA,none⟩) 1 co) 120 (0,0))∧g1≠g∧bA≠g ∧
  BPost sc true (.agg op x) w (.returned (.tuple #[ptr g,.int .i64 0])) (w'.setCell ⟨g,1,none⟩ (.int .u8 (aD sc x false).1))
theorem NT.at_ {S:Nat→Prop} {w:World} {sc:List Tb} {x:Lp.X} {g:Nat} (h:NT S w sc x g):S g:=by
 cases x<;>exact h.1
theorem Ut {sc:List Tb} {op:List UInt8} {x:Lp.X} {w w':World} {e:Ending} (h1:op≠dN) (h2:op≠aU) (h:eN sc false op 0 0 [x] w e w'):MinJ sc op x w e w':=by
 obtain ⟨hb,h⟩:=h
 have hkx:aD sc (.agg op x) true=dD (aD sc x false) (lN op):=rfl
 rw [uR] at h
 by_cases h0:(aD sc x false).2=0
 ·rw [if_pos h0,if_neg (fun h=>h.1 rfl)] at h
  have hu:lN op (aD sc x false).1=((aD sc x false).1,0):=by unfold lN;rw [if_neg h1,if_neg h2]
  have hkx2:aD sc (.agg op x) true=((aD sc x false).1,0):=by rw [hkx,dD,if_pos h0,hu]
  obtain ⟨g,Ao,co,gs,rfl,hg,hc,hp,hn⟩:=h
  match gs,hn with
  | [g1],hn =>
    obtain ⟨bA,offA,rfl,hs1,hs2⟩:=hp
    obtain ⟨o1,v1,a1,A1,n1,c1,f1⟩:=hn.1.kind h0
    have hne1:g1≠g:=hn.1.at_.2
    refine .inr ⟨g,bA,offA,co,g1,rfl,β hc 7,hs2 0 _ rfl,β f1 1,hc,hne1,hs1.2, ?_⟩
    refine ⟨hb.setCell (p:=⟨g,1,none⟩) hg _, ?_⟩
    rw [hkx2,if_pos rfl]
    have ht:Turn (fun k=>w.heap.size≤k∧k≠g) (fun k=>w.heap.size≤k) w' (w'.setCell ⟨g,1,none⟩ (.int .u8 (aD sc x false).1)):=fun k hk _=>⟨hk.1,Below.heap_setCell w' ⟨g,1,none⟩ _ k hk.2⟩
    have hs:=heap_setCell_same w' g 1 _ _ (.int .u8 (aD sc x false).1) hc
    rw [Uo] at hs
    exact ⟨g,rfl,hg,some ⟨bA,offA,none⟩,co,g1,by rw [hu];exact hs,Prts.turn ht (by simp) ⟨bA,offA,rfl,hs1,hs2⟩,hn.1.turn ht⟩
 ·rw [if_neg h0] at h
  refine .inl ⟨_,h0,h,hb, ?_⟩
  rw [hkx,dD,if_neg h0]
  simp only [h0,if_false]
theorem Us {sc:List Tb} {op:List UInt8} {x:Lp.X} {w w1 w':World} {e:Ending} (hb:Below w.heap.size w w1) (h:MinJ sc op x w1 e w'):MinJ sc op x w e w':=by
 rcases h with ⟨E,h0,h1,h2⟩|⟨g,bA,offA,co,g1,h0,h1,h2,h3,h4,h5,h6,h7⟩
 ·exact .inl ⟨E,h0,h1,BPost.pre hb h2⟩
 ·exact .inr ⟨g,bA,offA,co,g1,h0,h1,h2,h3,h4,h5,h6,BPost.pre hb h7⟩
theorem MinJ.form {sc:List Tb} {op:List UInt8} {x:Lp.X} {w w':World} {e:Ending} (h:MinJ sc op x w e w'):∃ u E,e=.returned (.tuple #[.pointer u,.int .i64 E]):=by
 rcases h with ⟨E,h0,h1,h2⟩|⟨g,bA,offA,co,g1,h0, -⟩
 ·exact ⟨_,_,h1⟩
 ·exact ⟨_,_,h0⟩
theorem Cd (A:Option Addr) (c:Nat) (sc:List Tb) (x:Lp.X) (hx:(aD sc x false)=(0,3)) (g:Nat) (w:World) :
 Calls prog 98 #[bdr A sc c false,.pointer (some ⟨g,0,none⟩)] w (BPost sc false x w):=by
 have hb0:Below w.heap.size w (w.alloc (.cells #[.slice A sc.length c,.bool false] 139)):=ρ
 have HR:=κ (show BPost sc false x w (.returned (.tuple #[.pointer none,.int .i64 3])) _ from ⟨hb0,by rw [hx];rfl⟩)
 clear hx hb0
 unfold bdr
 go_enter func98,ntmps98
 go_wp2
 go_ret2
 exact HR.out
theorem Jp (A:Option Addr) (c:Nat) (sc:List Tb) (g:Nat) (w:World) (hcell:w.heap[g]? = some (.cells #[.string ⟨aU.toArray⟩,.nilIface] 208 (0,0))) :
 Calls prog 98 #[bdr A sc c true,.pointer (some ⟨g,0,none⟩)] w (BPost sc true .cnt w):=by
 have hb0:Below w.heap.size w (w.alloc (.cells #[.slice A sc.length c,.bool false] 139)):=ρ
 have hx0:=aA hcell hb0
 have cx:=β hx0
 have hb1:Below w.heap.size w ((w.alloc (.cells #[.slice A sc.length c,.bool false] 139)).alloc (.cells (ndv xW 1 nul 0 none 0 0) 120)):=hb0.alloc (by simp) _
 have hn:=bN w (.cells #[.slice A sc.length c,.bool false] 139) (.cells (ndv xW 1 nul 0 none 0 0) 120)
 have HR:=κ (show BPost sc true .cnt w (.returned (.tuple #[.pointer (some ⟨w.heap.size+1,0,none⟩),.int .i64 0])) _ from ⟨hb1,by
  have e:(aD sc .cnt true).2=0:=rfl
  rw [if_pos e]
  exact ⟨_,rfl,by show w.heap.size≤w.heap.size+1;omega,hn⟩⟩)
 clear hcell hx0 hb0 hb1 hn
 unfold bdr
 go_enter func98,ntmps98
 go_wp2
 go_ret2
 exact HR.out
theorem oS {A:Option Addr} {c:Nat} {sc:List Tb} {a:Lp.X} {w:World} {T1:TypeId} {g1:Nat} (op:List UInt8) (of kind:Int) (hS:ScM w A sc) (hp1:PX 0 w a (.iface T1 (.pointer (some ⟨g1,0,none⟩)))) (hA:cQ A c sc false a) :
 Calls prog 96 #[bdr A sc c false,.string ⟨op.toArray⟩,.int .u8 of,.int .u8 kind,.slice (some ⟨w.heap.size+1,0,none⟩) 1 1] ((w.alloc (.cells #[.slice A sc.length c,.bool false] 139)).alloc (.cells #[.iface T1 (.pointer (some ⟨g1,0,none⟩))] 66)).drew
  fun e w'=>∃ w1,Below w.heap.size w w1∧eN sc false op of kind [a] w1 e w'∧Below (w.alloc (.cells #[.slice A sc.length c,.bool false] 139)).heap.size (w.alloc (.cells #[.slice A sc.length c,.bool false] 139)) w':=by
 have hb0:Below w.heap.size w (w.alloc (.cells #[.slice A sc.length c,.bool false] 139)):=ρ
 have hb1:Below w.heap.size w ((w.alloc (.cells #[.slice A sc.length c,.bool false] 139)).alloc (.cells #[.iface T1 (.pointer (some ⟨g1,0,none⟩))] 66)).drew:=(hb0.alloc (by simp) _).drew
 have hbD:Below (w.alloc (.cells #[.slice A sc.length c,.bool false] 139)).heap.size (w.alloc (.cells #[.slice A sc.length c,.bool false] 139)) ((w.alloc (.cells #[.slice A sc.length c,.bool false] 139)).alloc (.cells #[.iface T1 (.pointer (some ⟨g1,0,none⟩))] 66)).drew:=(ρ).drew
 have hrd:Rds ((w.alloc (.cells #[.slice A sc.length c,.bool false] 139)).alloc (.cells #[.iface T1 (.pointer (some ⟨g1,0,none⟩))] 66)).drew (some ⟨w.heap.size+1,0,none⟩) [.iface T1 (.pointer (some ⟨g1,0,none⟩))]:=by
  have h:=heap_alloc_new (w.alloc (.cells #[.slice A sc.length c,.bool false] 139)) (.cells #[.iface T1 (.pointer (some ⟨g1,0,none⟩))] 66)
  rw [World.size_alloc] at h
  exact bD (w:=((w.alloc (.cells #[.slice A sc.length c,.bool false] 139)).alloc (.cells #[.iface T1 (.pointer (some ⟨g1,0,none⟩))] 66)).drew) _ h
 exact (jE A c sc false op of kind [(a,.iface T1 (.pointer (some ⟨g1,0,none⟩)))] (some ⟨w.heap.size+1,0,none⟩) 1 _ (hS.below hb1) hrd (by simp) (by simp) (by
  intro p hq
  rw [List.mem_singleton] at hq
  subst hq
  exact PX.keep (aK hb1) hp1) (by
  intro p hq
  rw [List.mem_singleton] at hq
  subst hq
  exact hA)).mono fun e w' h=>⟨_,hb1,h,hbD.trans (h.1.mono hbD.size)⟩
theorem xB (A:Option Addr) (c:Nat) (sc:List Tb) (a:Lp.X) (op:List UInt8) (hop:op=dN∨op=aU) (g:Nat) (w:World) (T1:TypeId) (g1:Nat) (hcell:w.heap[g]? = some (.cells #[.string ⟨op.toArray⟩,.iface T1 (.pointer (some ⟨g1,0,none⟩))] 208 (0,0))) (hS:ScM w A sc) (hp1:PX 0 w a (.iface T1 (.pointer (some ⟨g1,0,none⟩)))) (hA:cQ A c sc false a) :
 Calls prog 98 #[bdr A sc c true,.pointer (some ⟨g,0,none⟩)] w (BPost sc true (.agg op a) w):=by
 have hb0:Below w.heap.size w (w.alloc (.cells #[.slice A sc.length c,.bool false] 139)):=ρ
 have hx0:=aA hcell hb0
 have hz0:=heap_alloc_new w (.cells #[.slice A sc.length c,.bool false] 139)
 have cx:=β hx0
 have cz:=β hz0
 have HJS:=κ (fun h:op=dN=>(oS (c:=c) op 1 1 hS hp1 hA).mono fun e w' ⟨w1,h1,h2,h3⟩=>(show BPost sc true (.agg op a) w e w'∧Below (w.alloc (.cells #[.slice A sc.length c,.bool false] 139)).heap.size (w.alloc (.cells #[.slice A sc.length c,.bool false] 139)) w' from ⟨BPost.pre h1 (Ru (.inl ⟨h,rfl⟩) h2),h3⟩))
 have HJC:=κ (fun h:op=aU=>(oS (c:=c) op 0 1 hS hp1 hA).mono fun e w' ⟨w1,h1,h2,h3⟩=>(show BPost sc true (.agg op a) w e w'∧Below (w.alloc (.cells #[.slice A sc.length c,.bool false] 139)).heap.size (w.alloc (.cells #[.slice A sc.length c,.bool false] 139)) w' from ⟨BPost.pre h1 (Ru (.inr ⟨h,rfl⟩) h2),h3⟩))
 clear hS hcell hx0 hz0 hb0 hp1 hA
 unfold bdr at *
 obtain ⟨O,hO⟩:∃ O,O=op:=⟨_,rfl⟩
 rw [←hO] at cx HJS HJC ⊢
 have he:((O==[83,85,77])=true∧O=dN)∨((O==[83,85,77])=false∧(O==[67,79,85,78,84])=true∧O=aU):=by rcases hop with rfl|rfl<;>subst hO<;>first|exact .inl ⟨rfl,rfl⟩|exact .inr ⟨rfl,rfl,rfl⟩
 clear hop hO
 rcases he with ⟨e1,e3⟩|⟨e1,e2,e3⟩
 ·have HJ:=κ (HJS.out e3)
  clear HJS HJC e3
  go_enter func98,ntmps98
  go_wp2_with fail
  go_region_held3 (fun w'=>w'.cell? ⟨w.heap.size,0,none⟩=some (.slice A sc.length c)∧w'.cell? ⟨w.heap.size,1,none⟩=some (.bool false)∧w'.cell? ⟨g,0,none⟩=some (.string ⟨O.toArray⟩)∧w'.cell? ⟨g,1,none⟩=some (.iface T1 (.pointer (some ⟨g1,0,none⟩))))
   (first|go_keep|exact hd2)
   ((go_at_call 96;refine μ HJ ?_;rintro e w2 hj;obtain ⟨u,E,rfl⟩:=hj.1.form;have HR:=κ hj.1;have hd2:w2.cell? ⟨w.heap.size,0,none⟩=some (.slice A sc.length c)∧w2.cell? ⟨w.heap.size,1,none⟩=some (.bool false)∧w2.cell? ⟨g,0,none⟩=some (.string ⟨O.toArray⟩)∧w2.cell? ⟨g,1,none⟩=some (.iface T1 (.pointer (some ⟨g1,0,none⟩))):=⟨aY (cz 0) hj.2,aY (cz 1) hj.2,aY (cx 0) hj.2,aY (cx 1) hj.2⟩;clear hj))
  all_goals
   go_wp2
   go_ret2
   exact HR.out
 ·have HJ:=κ (HJC.out e3)
  clear HJS HJC e3
  go_enter func98,ntmps98
  go_wp2_with fail
  go_region_held3 (fun w'=>w'.cell? ⟨w.heap.size,0,none⟩=some (.slice A sc.length c)∧w'.cell? ⟨w.heap.size,1,none⟩=some (.bool false)∧w'.cell? ⟨g,0,none⟩=some (.string ⟨O.toArray⟩)∧w'.cell? ⟨g,1,none⟩=some (.iface T1 (.pointer (some ⟨g1,0,none⟩))))
   (first|go_keep|exact hd2)
   ((go_at_call 96;refine μ HJ ?_;rintro e w2 hj;obtain ⟨u,E,rfl⟩:=hj.1.form;have HR:=κ hj.1;have hd2:w2.cell? ⟨w.heap.size,0,none⟩=some (.slice A sc.length c)∧w2.cell? ⟨w.heap.size,1,none⟩=some (.bool false)∧w2.cell? ⟨g,0,none⟩=some (.string ⟨O.toArray⟩)∧w2.cell? ⟨g,1,none⟩=some (.iface T1 (.pointer (some ⟨g1,0,none⟩))):=⟨aY (cz 0) hj.2,aY (cz 1) hj.2,aY (cx 0) hj.2,aY (cx 1) hj.2⟩;clear hj))
  all_goals
   go_wp2
   go_ret2
   exact HR.out
theorem Jo (A:Option Addr) (c:Nat) (sc:List Tb) (a:Lp.X) (op:List UInt8) (hop1:op≠dN) (hop2:op≠aU) (g:Nat) (w:World) (T1:TypeId) (g1:Nat) (hcell:w.heap[g]? = some (.cells #[.string ⟨op.toArray⟩,.iface T1 (.pointer (some ⟨g1,0,none⟩))] 208 (0,0))) (hS:ScM w A sc) (hp1:PX 0 w a (.iface T1 (.pointer (some ⟨g1,0,none⟩)))) (hA:cQ A c sc false a) :
 Calls prog 98 #[bdr A sc c true,.pointer (some ⟨g,0,none⟩)] w (BPost sc true (.agg op a) w):=by
 have hb0:Below w.heap.size w (w.alloc (.cells #[.slice A sc.length c,.bool false] 139)):=ρ
 have hx0:=aA hcell hb0
 have hz0:=heap_alloc_new w (.cells #[.slice A sc.length c,.bool false] 139)
 have cx:=β hx0
 have cz:=β hz0
 have HJ:=κ ((oS (c:=c) op 0 0 hS hp1 hA).mono fun e w' ⟨w1,h1,h2,h3⟩=>(show MinJ sc op a w e w'∧Below (w.alloc (.cells #[.slice A sc.length c,.bool false] 139)).heap.size (w.alloc (.cells #[.slice A sc.length c,.bool false] 139)) w' from ⟨Us h1 (Ut hop1 hop2 h2),h3⟩))
 clear hS hcell hx0 hz0 hb0 hp1 hA
 unfold bdr at *
 have e1:(op==[83,85,77])=false:=η hop1
 have e2:(op==[67,79,85,78,84])=false:=η hop2
 clear hop1 hop2
 go_enter func98,ntmps98
 go_wp2_with fail
 go_region_held3 (fun w'=>w'.cell? ⟨w.heap.size,0,none⟩=some (.slice A sc.length c)∧w'.cell? ⟨w.heap.size,1,none⟩=some (.bool false)∧w'.cell? ⟨g,0,none⟩=some (.string ⟨op.toArray⟩)∧w'.cell? ⟨g,1,none⟩=some (.iface T1 (.pointer (some ⟨g1,0,none⟩))))
  (first|go_keep|exact hd2)
  ((go_at_call 96;refine μ HJ ?_;rintro e w2 hj;obtain ⟨u,E,rfl⟩:=hj.1.form;have HR:=κ hj.1;have hd2:w2.cell? ⟨w.heap.size,0,none⟩=some (.slice A sc.length c)∧w2.cell? ⟨w.heap.size,1,none⟩=some (.bool false)∧w2.cell? ⟨g,0,none⟩=some (.string ⟨op.toArray⟩)∧w2.cell? ⟨g,1,none⟩=some (.iface T1 (.pointer (some ⟨g1,0,none⟩))):=⟨aY (cz 0) hj.2,aY (cz 1) hj.2,aY (cx 0) hj.2,aY (cx 1) hj.2⟩;clear hj))
 all_goals
  clear hd2
  rcases HR.out with ⟨E',q0,hR,HP⟩|⟨g9,bA,offA,co,g8,hR,k0,k1,k2,k3,k4,k5,HP⟩
  ·cases hR
   have HP:=κ HP
   have q1:(E==0)=false:=by simp [q0]
   clear q0 HR HJ cz cx
   go_wp2
   go_ret2
   exact HP.out
  ·cases hR
   have HP:=κ HP
   have cn:=β k3 1
   have fn:=frozen_of_row _ _ 1 _ _ k3
   simp only [ndv] at cn
   clear HR HJ cz cx k3
   unfold ptr at *
   go_wp2
   go_ret2
   exact HP.out
theorem Ft (A:Option Addr) (c:Nat) (sc:List Tb) (gr:Bool) (a b:Lp.X) (op:List UInt8) (g:Nat) (w:World) (hT:Wx w a b op g) (hS:ScM w A sc) (hA:cQ A c sc gr a) (hB:cQ A c sc gr b) :
 Calls prog 97 #[bdr A sc c gr,.pointer (some ⟨g,0,none⟩)] w (BPost sc gr (.bin op a b) w):=by
 by_cases h1:op=jN∨op=uOr
 ·exact Fu A c sc gr a b op h1 g w hT hS hA hB
 ·by_cases h2:op∈hY
  ·exact zF A c sc gr a b op h2 g w hT hS hA hB
  ·exact Fs A c sc gr a b op h1 h2 g w hT hS hA hB
section
attribute [local go_sem] vL vM rP xP qI
theorem Kr (A:Option Addr) (c:Nat) (sc:List Tb) (gr:Bool) (op:List UInt8) (a b:Lp.X) (hA:cQ A c sc gr a) (hB:cQ A c sc gr b):cQ A c sc gr (.bin op a b):=by
 intro w v hx hS
 obtain ⟨g,u1,u2, -,rfl,hcell,hp1,hp2⟩:=hx
 have hb0:Below w.heap.size w (w.alloc (.cells #[.slice A sc.length c,.bool gr] 139)):=ρ
 have hx0:=aA hcell hb0
 have hz0:=heap_alloc_new w (.cells #[.slice A sc.length c,.bool gr] 139)
 have cz:=β hz0
 have HF:=κ ((Ft A c sc gr a b op g _ ⟨u1,u2,hx0,PX.keep (aK hb0) hp1,PX.keep (aK hb0) hp2⟩ (hS.below hb0) hA hB).mono fun e w' h=>(show BPost sc gr (.bin op a b) w e w' from BPost.pre hb0 h))
 clear hS hcell hx0 hz0 hb0 hp1 hp2 hA hB
 unfold bdr at *
 go_enter func48,ntmps48
 go_wp2_with fail
 refine μ HF ?_
 rintro e w1 hj
 obtain ⟨u,E,rfl⟩:=hj.form
 have HR:=κ hj
 clear hj
 go_wp2
 go_ret2
 exact HR.out
end
section
attribute [local go_sem] Du Dv xQ Hp vN Xy
theorem xF (A:Option Addr) (c:Nat) (sc:List Tb) (gr:Bool) (x:Lp.X) (g:Nat) (w:World) (hS:ScM w A sc)
 (hG:∀ w1,Below w.heap.size w w1→ScM w1 A sc→Calls prog 98 #[bdr A sc c gr,.pointer (some ⟨g,0,none⟩)] w1 (BPost sc gr x w1)) :
 Calls prog 48 #[bdr A sc c gr,.iface 204 (.pointer (some ⟨g,0,none⟩))] w (BPost sc gr x w):=by
 have hb0:Below w.heap.size w (w.alloc (.cells #[.slice A sc.length c,.bool gr] 139)):=ρ
 have hz0:=heap_alloc_new w (.cells #[.slice A sc.length c,.bool gr] 139)
 have cz:=β hz0
 have HF:=κ ((hG _ hb0.drew (hS.below hb0.drew)).mono fun e w' h=>(show BPost sc gr x w e w' from BPost.pre hb0.drew h))
 clear hS hz0 hb0 hG
 unfold bdr at *
 go_enter func48,ntmps48
 go_wp2_with fail
 go_region_with (go_at_call 98;refine μ HF ?_;rintro e w2 hj;obtain ⟨u,E,rfl⟩:=hj.form;have HR:=κ hj;clear hj)
 all_goals
  go_wp2
  go_ret2
  exact HR.out
end
theorem Kt (A:Option Addr) (c:Nat) (sc:List Tb) (gr:Bool) (op:List UInt8) (a:Lp.X) (hA:cQ A c sc false a):cQ A c sc gr (.agg op a):=by
 intro w v hx hS
 obtain ⟨g,u, -,rfl,hcell,hp⟩:=hx
 obtain ⟨T1,g1,rfl⟩:=hp.form
 refine xF A c sc gr _ g w hS fun w1 hb1 hS1 => ?_
 cases gr with
 | false=>exact Cd A c sc _ rfl g w1
 | true =>
   by_cases h1:op=dN
   ·exact xB A c sc a op (.inl h1) g w1 T1 g1 (aA hcell hb1) hS1 (PX.keep (aK hb1) hp) hA
   ·by_cases h2:op=aU
    ·exact xB A c sc a op (.inr h2) g w1 T1 g1 (aA hcell hb1) hS1 (PX.keep (aK hb1) hp) hA
    ·exact Jo A c sc a op h1 h2 g w1 T1 g1 (aA hcell hb1) hS1 (PX.keep (aK hb1) hp) hA
theorem Kq (A:Option Addr) (c:Nat) (sc:List Tb) (gr:Bool):cQ A c sc gr .cnt:=by
 intro w v hx hS
 obtain ⟨g, -,rfl,hcell⟩:=hx
 refine xF A c sc gr _ g w hS fun w1 hb1 hS1 => ?_
 cases gr with
 | false=>exact Cd A c sc _ rfl g w1
 | true=>exact Jp A c sc g w1 (aA hcell hb1)
theorem Ks (A:Option Addr) (c:Nat) (sc:List Tb) (hn:sc.length≤100) (hw:bW sc≤10000):∀ (x:Lp.X) (gr:Bool),x.wf→cQ A c sc gr x:=by
 intro x
 induction x with
 | lit k i s b=>intro gr _;exact Kn A c sc gr k i s b
 | col t s=>intro gr _;exact Ko A c sc gr t s hn hw
 | un op x ih =>
   intro gr h
   by_cases h1:op=fW
   ·subst h1;exact Kl A c sc gr x (ih gr h.2)
   ·exact Km A c sc gr op x h1 (ih gr h.2)
 | bin op a b iha ihb=>intro gr h;exact Kr A c sc gr op a b (iha gr h.2.1) (ihb gr h.2.2)
 | isn n x ih =>
   intro gr h
   cases n with
   | false=>exact Ry A c sc gr x (ih gr h)
   | true=>exact Cz A c sc gr x (ih gr h)
 | agg op x ih=>intro gr h;exact Kt A c sc gr op x (ih false h.2)
 | cnt=>intro gr _;exact Kq A c sc gr
theorem mB (A:Option Addr) (c:Nat) (sc:List Tb) (gr:Bool) (x:Lp.X) (v:Value) (w:World) (hn:sc.length≤100) (hw:bW sc≤10000) (hx:x.wf) (hp:PX 0 w x v) (hS:ScM w A sc) :
 Calls prog 36 #[.slice A sc.length c,v,.bool gr] w (BPost sc gr x w):=by
 have HB:=κ (Ks A c sc hn hw x gr hx w v hp hS)
 obtain ⟨T,g,rfl⟩:=hp.form
 clear hn hw hx hp hS
 unfold bdr at *
 go_enter func36,ntmps36
 go_wp2_with fail
 refine μ HB ?_
 rintro e w1 hj
 obtain ⟨u,E,rfl⟩:=hj.form
 have HR:=κ hj
 clear hj
 go_wp2
 go_ret2
 exact HR.out
