/-
 Contracts. Conditions: those of each.
-/
import Derived.Test.YtkolcimllghnaaaGreatDoorQcVK
set_option maxRecDepth 100000
set_option maxHeartbeats 8000000
namespace Go.Proofs.YtkolcimllghnaaaGreatDoor
open Lp Go.Proofs.Tryz
open Go.RowKit
theorem Vg (i j:Nat) {xs:ZV} {u v:Value} (h:i≠j:=by decide):(xs.setIfInBounds i u).setIfInBounds j v=(xs.setIfInBounds j v).setIfInBounds i u:=Array.setIfInBounds_comm _ _ h
section
attribute [local go_sem] Array.getElem_setIfInBounds Array.size_setIfInBounds
theorem aKG {Q:Exit->Act->World->Prop} (xs:ZV) (df:List _) (q B bi g:Nat) (v:Value) (nm:ZS) (C1 C2:ZT) (n r1 r2:Nat) (w wr w2:World) (sc:List Tb) (x:Lp.X) (cs:ZV) (xl:List Lp.X) (us:ZU) (gs:List Nat) (hn:n<=1000) (hul:us.length=n) (hgl:gs.length=n) (hsz:xs.size=210) (h6:xs[6]=.pointer (some ⟨q+1,0,none⟩)) (hbi:xs[10]=.pointer (some ⟨bi,0,none⟩)) (hg:xs[11]=ptr g)
 (hqB:q<B) (hBi:bi≠q) (hwB:w<=B) (hbut:But q w wr) (hq:wr.heap[q]? = some (.cells cs 84 (0,0))) (hcA:cs[1]? = some (.slice C2 n r2)) (hcB:cs[0]? = some (.slice C1 n r1)) (hp:Pair sc B T0 9 (.slice C1 n r1) (.slice C2 n r2) us gs xl gs wr) (hW:Below wr wr w2) (hx:NT (λk=>wr.heap.size<=k) w2 sc x g)
 (x2:w2.heap[q+1]? = some (.cells #[q] 76 (0,0))) (i2:w2.heap[bi]? = some (.cells #[v,nm] 142 (0,0))) (hwf:x.wf) (hpx:PX 0 w2 x v)
 (h:∀ A5 c5 A7 c7 y1 y2 y3 y4 y5 (w':World),But q w w'->w'.heap[q]? = some (.cells ((cs.setIfInBounds 1 (.slice A5 (n+1) c5)).setIfInBounds 0 (.slice A7 (n+1) c7)) 84 (0,0))->Pair sc B T0 9 (.slice A7 (n+1) c7) (.slice A5 (n+1) c5) (us++[nmV (x,nm)]) (gs++[g]) (xl++[x]) (gs++[g]) w'->Q .normal ⟨(((((((((((((((((((((xs.setIfInBounds 105 (.pointer (some ⟨q,0,none⟩))).setIfInBounds 106 (.pointer (some ⟨q,0,none⟩))).setIfInBounds 107 (.pointer (some ⟨q,0,none⟩))).setIfInBounds 108 (.pointer (some ⟨q,0,none⟩))).setIfInBounds 109 (.pointer (some ⟨q,1,none⟩))).setIfInBounds 110 (.slice C2 n r2)).setIfInBounds 111 (ptr g)).setIfInBounds 114 (.pointer (some ⟨q,0,none⟩))).setIfInBounds 115 (.pointer (some ⟨q,0,none⟩))).setIfInBounds 116 (.pointer (some ⟨q,0,none⟩))).setIfInBounds 117 (.slice C1 n r1)).setIfInBounds 118 (.agg #[v,nm])).setIfInBounds 112 y1).setIfInBounds 113 y2).setIfInBounds 119 y3).setIfInBounds 120 y4).setIfInBounds 121 y5).setIfInBounds 122 (.pointer (some ⟨q,0,none⟩))).setIfInBounds 123 (.pointer (some ⟨q,1,none⟩))).setIfInBounds 124 (.pointer (some ⟨q,0,none⟩))).setIfInBounds 125 (.pointer (some ⟨q,0,none⟩))),df⟩ w'):Code.wp prog (zU Tryz.f17 21) Q ⟨xs,df⟩ w2:=by
 obtain ⟨iN,hiN,hz0,hz1,hz2⟩:=re;obtain ⟨iS,hiS,hy0,hy1,hy2⟩:=info_parts wX;have q2:=aA hq hW;refine xP ?_
 conv=>arg 2;whnf
 refine eR (S:=λw'=>w'.cell? ⟨q+1,0,none⟩=some (.pointer (some ⟨q,0,none⟩))/\w'.cell? ⟨bi,0,none⟩=some v/\w'.cell? ⟨bi,1,none⟩=some (.string nm)) (λw'=>w'.cell? ⟨q,1,none⟩=some (.slice C2 n r2)/\w'.cell? ⟨q,0,none⟩=some (.slice C1 n r1)) 19 aj ⟨β x2 0,β i2 0,β i2 1⟩ ⟨(β q2 1).trans hcA,(β q2 0).trans hcB⟩ (λhS hT => ?_);refine tkE false 0 105 ?_;refine tkE false 1 106 ?_;refine tkE false 2 107 ?_;refine tkE false 3 108 ?_;refine tkE false 4 109 ?_;refine tkE true 5 110 ?_;refine tkE false 6 111 ?_;refine tkE false 9 114 ?_;refine tkE false 10 115 ?_;refine tkE false 11 116 ?_;refine tkE true 12 117 ?_;refine tkE false 13 118 ?_;have hlx:Below w2 w2 (w2.drew.alloc (.cells #[ptr g] 53)):=(θ).drew.alloc (ν _) _;have hga:=heap_alloc_new w2.drew (.cells #[ptr g] 53);refine stE 7 λK hK => ?_;go_simp;refine hK.out _ _ ⟨β (aB x2 _) 0,β (aB i2 _) 0,β (aB i2 _) 1⟩ ⟨(β (aB q2 _) 1).trans hcA,(β (aB q2 _) 0).trans hcB⟩ (λhS hT => ?_);clear hK K;have hlW:=vo;have hnW:=hx.below hlx;have hp1:=hp.new hlW hnW;have o2:=hp1.o2;rw [hgl] at o2;have x3:=aA x2 hlx;have i3:=aA i2 hlx;have q3:=aA q2 hlx;refine stE 8 λK hK => ?_;refine bL _ rfl (.tmp 110) (.tmp 112) _ rfl B 53 iN _ 1 8 underlying46 hiN hz0 hz1 hz2 rfl ac C2 n r2 (gs.map ptr) im o2 (some ⟨w2,0,none⟩) 1 1 [ptr g] im rfl (aS [ptr g] hga) ?_ ?_ ?_ ?_ ?_
 ·simp [Value.oneCell',ptr]
 ·simp only [maxLen];omega
 ·omega
 ·exact hp1.hB
 intro A5 c5 w5 ho5 hb5 hg5 hk5;have x5:=vu;have i5:=vt;have q5:=vq;change K (Act.put _ (some 113) _) _;refine hK.out _ _ ⟨β x5 0,β i5 0,β i5 1⟩ ⟨(β q5 1).trans hcA,(β q5 0).trans hcB⟩ (λhS hT => ?_);have ho5':=vp
 have hp5:=vv;clear hK K hg5 ho5;have hN:=Qv x nm v w5 hwf (PX.keepN (StaysT.keeps o2 am hk5) (PX.keepN (StaysT.below hlx) hpx));refine stE 14 λK hK => ?_;go_simp;go_at_call 49;refine hN.mono ?_;rintro e w6 ⟨rfl,hb6⟩;have x6:=aA x5 hb6;have i6:=aA i5 hb6;have q6:=aA q5 hb6;refine hK.out _ _ ⟨β x6 0,β i6 0,β i6 1⟩ ⟨(β q6 1).trans hcA,(β q6 0).trans hcB⟩ (λhS hT => ?_);have h56:=hb6.trans ((θ).alloc hb6.size (.cells #[nmV (x,nm)] 9));have hp6:=hp5.below h56;have o6:=hp6.o1;rw [hul] at o6;clear hK K hN;refine stE 15 λK hK => ?_;go_simp;refine hK.out _ _ ⟨β (aB x6 _) 0,β (aB i6 _) 0,β (aB i6 _) 1⟩ ⟨(β (aB q6 _) 1).trans hcA,(β (aB q6 _) 0).trans hcB⟩ (λhS hT => ?_);clear hK K;refine stE 16 λK hK => ?_;refine bL _ rfl (.tmp 117) (.tmp 120) _ rfl B 9 iS _ 1 16 underlying81 hiS hy0 hy1 hy2 rfl ac C1 n r1 us im o6 (some ⟨w6,0,none⟩) 1 1 [nmV (x,nm)] im rfl (aS [nmV (x,nm)] (heap_alloc_new w6 _)) ?_ ?_ ?_ ?_ ?_
 ·simp [Value.oneCell',nmV]
 ·simp only [maxLen];omega
 ·omega
 ·exact hp6.hB
 intro A7 c7 w7 ho7 hb7 hg7 hk7;have x7:=vz;have i7:=vy;have q7:=vx;change K (Act.put _ (some 121) _) _;refine hK.out _ _ ⟨β x7 0,β i7 0,β i7 1⟩ ⟨(β q7 1).trans hcA,(β q7 0).trans hcB⟩ (λhS hT => ?_);have ho7':w7.ownsRow B 9 1 (.slice A7 (n+1) c7) (us.length+1) (us++[nmV (x,nm)]):=vw
 have hS6:=vR (i:=1) (j:=0) hbut hqB hwB hq hp am hlW hnW ho5' hb5 hk5 h56 ho7' hb7 hk7;clear hK K;have q8:=gJ (o:=1) (u:=.slice A5 (n+1) c5) q7;have hk:(cs.setIfInBounds 1 (.slice A5 (n+1) c5))[0]? = some (.slice C1 n r1):=by rw [Array.getElem?_setIfInBounds_ne am];exact hcB
 have d7:=(β q7 1).trans hcA;have d8:=(β q8 0).trans hk;have f7:=wb;have f8:=wa;have bxq:q+1≠q:=ac
 have x8:=cA (o2:=1) x7 bxq (.slice A5 (n+1) c5);have i8:=cA (o2:=1) i7 hBi (.slice A5 (n+1) c5);refine tkE false 17 122 ?_;refine tkE false 18 123 ?_;refine stL 19 λK hK => ?_;go_simp;refine hK.out _ _ ⟨β x8 0,β i8 0,β i8 1⟩ (λhS => ?_);clear hK K;refine tkE false 20 124 ?_;refine tkE false 21 125 ?_;refine stL 22 λK hK => ?_;go_simp;refine hK.out _ _ ⟨β (cA x8 bxq _) 0,β (cA i8 hBi _) 0,β (cA i8 hBi _) 1⟩ (λhS => ?_);clear hK K;refine dY ?_ rfl _;exact h A5 c5 A7 c7 _ _ _ _ _ _ hS6.1 hS6.2.1 hS6.2.2
theorem aKD {Q:Exit->Act->World->Prop} (xs:ZV) (df:List _) (q B bi g:Nat) (v:Value) (bd:Bool) (C1 C2:ZT) (n r1 r2:Nat) (w wr w2:World) (sc:List Tb) (x:Lp.X) (cs:ZV) (xl:List Lp.X) (us:ZU) (gs:List Nat) (hn:n<=1000) (hul:us.length=n) (hgl:gs.length=n) (hsz:xs.size=210) (h6:xs[6]=.pointer (some ⟨q+1,0,none⟩)) (hbi:xs[14]=.pointer (some ⟨bi,0,none⟩)) (hg:xs[15]=ptr g)
 (hqB:q<B) (hBi:bi≠q) (hwB:w<=B) (hbut:But q w wr) (hq:wr.heap[q]? = some (.cells cs 84 (0,0))) (hcA:cs[5]? = some (.slice C2 n r2)) (hcB:cs[6]? = some (.slice C1 n r1)) (hp:Pair sc B T0 4 (.slice C1 n r1) (.slice C2 n r2) us gs xl gs wr) (hW:Below wr wr w2) (hx:NT (λk=>wr.heap.size<=k) w2 sc x g)
 (x2:w2.heap[q+1]? = some (.cells #[q] 76 (0,0))) (i2:w2.heap[bi]? = some (.cells #[v,bd] 147 (0,0)))
 (h:∀ A5 c5 A7 c7 y1 y2 y3 y4 (w':World),But q w w'->w'.heap[q]? = some (.cells ((cs.setIfInBounds 5 (.slice A5 (n+1) c5)).setIfInBounds 6 (.slice A7 (n+1) c7)) 84 (0,0))->Pair sc B T0 4 (.slice A7 (n+1) c7) (.slice A5 (n+1) c5) (us++[.bool bd]) (gs++[g]) (xl++[x]) (gs++[g]) w'->Q .normal ⟨(((((((((((((((((((((xs.setIfInBounds 155 (.pointer (some ⟨q,0,none⟩))).setIfInBounds 156 (.pointer (some ⟨q,0,none⟩))).setIfInBounds 157 (.pointer (some ⟨q,0,none⟩))).setIfInBounds 158 (.pointer (some ⟨q,0,none⟩))).setIfInBounds 159 (.pointer (some ⟨q,5,none⟩))).setIfInBounds 160 (.slice C2 n r2)).setIfInBounds 161 (ptr g)).setIfInBounds 164 (.pointer (some ⟨q,0,none⟩))).setIfInBounds 165 (.pointer (some ⟨q,0,none⟩))).setIfInBounds 166 (.pointer (some ⟨q,6,none⟩))).setIfInBounds 167 (.slice C1 n r1)).setIfInBounds 168 (.pointer (some ⟨bi,1,none⟩))).setIfInBounds 169 (.bool bd)).setIfInBounds 162 y1).setIfInBounds 163 y2).setIfInBounds 170 y3).setIfInBounds 171 y4).setIfInBounds 172 (.pointer (some ⟨q,0,none⟩))).setIfInBounds 173 (.pointer (some ⟨q,5,none⟩))).setIfInBounds 174 (.pointer (some ⟨q,0,none⟩))).setIfInBounds 175 (.pointer (some ⟨q,6,none⟩))),df⟩ w'):Code.wp prog (zU Tryz.f17 31) Q ⟨xs,df⟩ w2:=by
 obtain ⟨iN,hiN,hz0,hz1,hz2⟩:=re;obtain ⟨iB,hiB,hx0,hx1,hx2⟩:=info_parts Ch;have q2:=aA hq hW;refine xP ?_
 conv=>arg 2;whnf
 refine eR (S:=λw'=>w'.cell? ⟨q+1,0,none⟩=some (.pointer (some ⟨q,0,none⟩))/\w'.cell? ⟨bi,0,none⟩=some v/\w'.cell? ⟨bi,1,none⟩=some (.bool bd)) (λw'=>w'.cell? ⟨q,5,none⟩=some (.slice C2 n r2)/\w'.cell? ⟨q,6,none⟩=some (.slice C1 n r1)) 19 aj ⟨β x2 0,β i2 0,β i2 1⟩ ⟨(β q2 5).trans hcA,(β q2 6).trans hcB⟩ (λhS hT => ?_);refine tkE false 0 155 ?_;refine tkE false 1 156 ?_;refine tkE false 2 157 ?_;refine tkE false 3 158 ?_;refine tkE false 4 159 ?_;refine tkE true 5 160 ?_;refine tkE false 6 161 ?_;refine tkE false 9 164 ?_;refine tkE false 10 165 ?_;refine tkE false 11 166 ?_;refine tkE true 12 167 ?_;refine tkE false 13 168 ?_;refine tkE false 14 169 ?_;refine aCE 7 15 (λK hK => ?_) λK hK => ?_
 ·go_simp;refine hK.out _ _ ⟨β (aB x2 _) 0,β (aB i2 _) 0,β (aB i2 _) 1⟩ ⟨(β (aB q2 _) 5).trans hcA,(β (aB q2 _) 6).trans hcB⟩ (λhS hT => ?_);clear hK K;refine aCE 8 15 (λK hK => ?_) λK hK => ?_
  ·have hlx:Below w2 w2 (w2.alloc (.cells #[ptr g] 53)).drew:=(ρ).drew;have hga:(w2.alloc (.cells #[ptr g] 53)).drew.heap[w2.heap.size]? = some (.cells #[ptr g] 53 (0,0)):=heap_alloc_new w2 _;have hlW:=vo;have hnW:=hx.below hlx;have hp1:=hp.new hlW hnW;have o2:=hp1.o2;rw [hgl] at o2;have x3:=aA x2 hlx;have i3:=aA i2 hlx;have q3:=aA q2 hlx;refine bL _ rfl (.tmp 160) (.tmp 162) _ rfl B 53 iN _ 1 8 underlying46 hiN hz0 hz1 hz2 rfl ac C2 n r2 (gs.map ptr) im o2 (some ⟨w2,0,none⟩) 1 1 [ptr g] im rfl (aS [ptr g] hga) ?_ ?_ ?_ ?_ ?_
   ·simp [Value.oneCell',ptr]
   ·simp only [maxLen];omega
   ·omega
   ·exact hp1.hB
   intro A5 c5 w5 ho5 hb5 hg5 hk5;have x5:=vu;have i5:=vt;have q5:=vq;change K (Act.put _ (some 163) _) _;refine hK.out _ _ ⟨β x5 0,β i5 0,β i5 1⟩ ⟨(β q5 5).trans hcA,(β q5 6).trans hcB⟩ (λhS hT => ?_);have ho5':=vp
   have hp5:=vv;clear hK K hg5 ho5;refine stE 15 λK hK => ?_;go_simp;refine hK.out _ _ ⟨β (aB x5 _) 0,β (aB i5 _) 0,β (aB i5 _) 1⟩ ⟨(β (aB q5 _) 5).trans hcA,(β (aB q5 _) 6).trans hcB⟩ (λhS hT => ?_);clear hK K;have h56:Below w5 w5 (w5.alloc (.cells #[bd] 4)):=ρ;have hgb6:=heap_alloc_new w5 (.cells #[bd] 4);have hp6:=hp5.below h56;have o6:=hp6.o1;rw [hul] at o6;refine stE 16 λK hK => ?_;refine bL _ rfl (.tmp 167) (.tmp 170) _ rfl B 4 iB _ 1 1 underlying82 hiB hx0 hx1 hx2 rfl ac C1 n r1 us im o6 (some ⟨w5,0,none⟩) 1 1 [.bool bd] im rfl (aS [.bool bd] hgb6) ?_ ?_ ?_ ?_ ?_
   ·simp [Value.oneCell']
   ·simp only [maxLen];omega
   ·omega
   ·exact hp6.hB
   intro A7 c7 w7 ho7 hb7 hg7 hk7;have x7:=vz;have i7:=vy;have q7:=vx;change K (Act.put _ (some 171) _) _;refine hK.out _ _ ⟨β x7 0,β i7 0,β i7 1⟩ ⟨(β q7 5).trans hcA,(β q7 6).trans hcB⟩ (λhS hT => ?_);have ho7':=wd
   have hS6:=wg;clear hK K;have q8:=we;have hk:(cs.setIfInBounds 5 (.slice A5 (n+1) c5))[6]? = some (.slice C1 n r1):=by rw [Array.getElem?_setIfInBounds_ne am];exact hcB
   have d7:=(β q7 5).trans hcA;have d8:=(β q8 6).trans hk;have f7:=wb;have f8:=wa;have bxq:q+1≠q:=ac
   have x8:=wl;have i8:=wj;refine tkE false 17 172 ?_;refine tkE false 18 173 ?_;refine stL 19 λK hK => ?_;go_simp;refine hK.out _ _ ⟨β x8 0,β i8 0,β i8 1⟩ (λhS => ?_);clear hK K;refine tkE false 20 174 ?_;refine tkE false 21 175 ?_;refine stL 22 λK hK => ?_;go_simp;refine hK.out _ _ ⟨β (cA x8 bxq _) 0,β (cA i8 hBi _) 0,β (cA i8 hBi _) 1⟩ (λhS => ?_);clear hK K;refine dY ?_ rfl _;exact wi
  ·go_simp;refine hK.out _ _ ⟨β (aB (aB x2 _) _) 0,β (aB (aB i2 _) _) 0,β (aB (aB i2 _) _) 1⟩ ⟨(β (aB (aB q2 _) _) 5).trans hcA,(β (aB (aB q2 _) _) 6).trans hcB⟩ (λhS hT => ?_);clear hK K;have hlx:Below w2 w2 ((w2.alloc (.cells #[ptr g] 53)).alloc (.cells #[bd] 4)).drew:=((ρ).alloc aa _).drew;have hga:((w2.alloc (.cells #[ptr g] 53)).alloc (.cells #[bd] 4)).drew.heap[w2.heap.size]? = some (.cells #[ptr g] 53 (0,0)):=aB (heap_alloc_new w2 _) _;have hgb:((w2.alloc (.cells #[ptr g] 53)).alloc (.cells #[bd] 4)).drew.heap[w2.heap.size+1]? = some (.cells #[bd] 4 (0,0)):=bG w2 _ _;refine stE 8 λK hK => ?_;have hlW:=vo;have hnW:=hx.below hlx;have hp1:=hp.new hlW hnW;have o2:=hp1.o2;rw [hgl] at o2;have x3:=aA x2 hlx;have i3:=aA i2 hlx;have q3:=aA q2 hlx;refine bL _ rfl (.tmp 160) (.tmp 162) _ rfl B 53 iN _ 1 8 underlying46 hiN hz0 hz1 hz2 rfl ac C2 n r2 (gs.map ptr) im o2 (some ⟨w2,0,none⟩) 1 1 [ptr g] im rfl (aS [ptr g] hga) ?_ ?_ ?_ ?_ ?_
   ·simp [Value.oneCell',ptr]
   ·simp only [maxLen];omega
   ·omega
   ·exact hp1.hB
   intro A5 c5 w5 ho5 hb5 hg5 hk5;have x5:=vu;have i5:=vt;have q5:=vq;change K (Act.put _ (some 163) _) _;refine hK.out _ _ ⟨β x5 0,β i5 0,β i5 1⟩ ⟨(β q5 5).trans hcA,(β q5 6).trans hcB⟩ (λhS hT => ?_);have ho5':=vp
   have hp5:=vv;clear hK K hg5 ho5;have h56:=Below.refl w5 w5;have hgb6:=bV hk5 o2 hgb am;have hp6:=hp5.below h56;have o6:=hp6.o1;rw [hul] at o6;refine stE 16 λK hK => ?_;refine bL _ rfl (.tmp 167) (.tmp 170) _ rfl B 4 iB _ 1 1 underlying82 hiB hx0 hx1 hx2 rfl ac C1 n r1 us im o6 (some ⟨w2+1,0,none⟩) 1 1 [.bool bd] im rfl (aS [.bool bd] hgb6) ?_ ?_ ?_ ?_ ?_
   ·simp [Value.oneCell']
   ·simp only [maxLen];omega
   ·omega
   ·exact hp6.hB
   intro A7 c7 w7 ho7 hb7 hg7 hk7;have x7:=vz;have i7:=vy;have q7:=vx;change K (Act.put _ (some 171) _) _;refine hK.out _ _ ⟨β x7 0,β i7 0,β i7 1⟩ ⟨(β q7 5).trans hcA,(β q7 6).trans hcB⟩ (λhS hT => ?_);have ho7':=wd
   have hS6:=wg;clear hK K;have q8:=we;have hk:(cs.setIfInBounds 5 (.slice A5 (n+1) c5))[6]? = some (.slice C1 n r1):=by rw [Array.getElem?_setIfInBounds_ne am];exact hcB
   have d7:=(β q7 5).trans hcA;have d8:=(β q8 6).trans hk;have f7:=wb;have f8:=wa;have bxq:q+1≠q:=ac
   have x8:=wl;have i8:=wj;refine tkE false 17 172 ?_;refine tkE false 18 173 ?_;refine stL 19 λK hK => ?_;go_simp;refine hK.out _ _ ⟨β x8 0,β i8 0,β i8 1⟩ (λhS => ?_);clear hK K;refine tkE false 20 174 ?_;refine tkE false 21 175 ?_;refine stL 22 λK hK => ?_;go_simp;refine hK.out _ _ ⟨β (cA x8 bxq _) 0,β (cA i8 hBi _) 0,β (cA i8 hBi _) 1⟩ (λhS => ?_);clear hK K;refine dY ?_ rfl _;rw [Vg 170 163];exact wi
 ·go_simp;refine hK.out _ _ ⟨β (aB x2 _) 0,β (aB i2 _) 0,β (aB i2 _) 1⟩ ⟨(β (aB q2 _) 5).trans hcA,(β (aB q2 _) 6).trans hcB⟩ (λhS hT => ?_);clear hK K;refine stE 7 λK hK => ?_;go_simp;refine hK.out _ _ ⟨β (aB (aB x2 _) _) 0,β (aB (aB i2 _) _) 0,β (aB (aB i2 _) _) 1⟩ ⟨(β (aB (aB q2 _) _) 5).trans hcA,(β (aB (aB q2 _) _) 6).trans hcB⟩ (λhS hT => ?_);clear hK K;have hlx:Below w2 w2 ((w2.alloc (.cells #[bd] 4)).alloc (.cells #[ptr g] 53)).drew:=((ρ).alloc aa _).drew;have hga:((w2.alloc (.cells #[bd] 4)).alloc (.cells #[ptr g] 53)).drew.heap[w2.heap.size+1]? = some (.cells #[ptr g] 53 (0,0)):=bG w2 _ _;have hgb:((w2.alloc (.cells #[bd] 4)).alloc (.cells #[ptr g] 53)).drew.heap[w2.heap.size]? = some (.cells #[bd] 4 (0,0)):=aB (heap_alloc_new w2 _) _;refine stE 8 λK hK => ?_;have hlW:=vo;have hnW:=hx.below hlx;have hp1:=hp.new hlW hnW;have o2:=hp1.o2;rw [hgl] at o2;have x3:=aA x2 hlx;have i3:=aA i2 hlx;have q3:=aA q2 hlx;refine bL _ rfl (.tmp 160) (.tmp 162) _ rfl B 53 iN _ 1 8 underlying46 hiN hz0 hz1 hz2 rfl ac C2 n r2 (gs.map ptr) im o2 (some ⟨w2+1,0,none⟩) 1 1 [ptr g] im rfl (aS [ptr g] hga) ?_ ?_ ?_ ?_ ?_
  ·simp [Value.oneCell',ptr]
  ·simp only [maxLen];omega
  ·omega
  ·exact hp1.hB
  intro A5 c5 w5 ho5 hb5 hg5 hk5;have x5:=vu;have i5:=vt;have q5:=vq;change K (Act.put _ (some 163) _) _;refine hK.out _ _ ⟨β x5 0,β i5 0,β i5 1⟩ ⟨(β q5 5).trans hcA,(β q5 6).trans hcB⟩ (λhS hT => ?_);have ho5':=vp
  have hp5:=vv;clear hK K hg5 ho5;have h56:=Below.refl w5 w5;have hgb6:=bV hk5 o2 hgb am;have hp6:=hp5.below h56;have o6:=hp6.o1;rw [hul] at o6;refine stE 16 λK hK => ?_;refine bL _ rfl (.tmp 167) (.tmp 170) _ rfl B 4 iB _ 1 1 underlying82 hiB hx0 hx1 hx2 rfl ac C1 n r1 us im o6 (some ⟨w2,0,none⟩) 1 1 [.bool bd] im rfl (aS [.bool bd] hgb6) ?_ ?_ ?_ ?_ ?_
  ·simp [Value.oneCell']
  ·simp only [maxLen];omega
  ·omega
  ·exact hp6.hB
  intro A7 c7 w7 ho7 hb7 hg7 hk7;have x7:=vz;have i7:=vy;have q7:=vx;change K (Act.put _ (some 171) _) _;refine hK.out _ _ ⟨β x7 0,β i7 0,β i7 1⟩ ⟨(β q7 5).trans hcA,(β q7 6).trans hcB⟩ (λhS hT => ?_);have ho7':=wd
  have hS6:=wg;clear hK K;have q8:=we;have hk:(cs.setIfInBounds 5 (.slice A5 (n+1) c5))[6]? = some (.slice C1 n r1):=by rw [Array.getElem?_setIfInBounds_ne am];exact hcB
  have d7:=(β q7 5).trans hcA;have d8:=(β q8 6).trans hk;have f7:=wb;have f8:=wa;have bxq:q+1≠q:=ac
  have x8:=wl;have i8:=wj;refine tkE false 17 172 ?_;refine tkE false 18 173 ?_;refine stL 19 λK hK => ?_;go_simp;refine hK.out _ _ ⟨β x8 0,β i8 0,β i8 1⟩ (λhS => ?_);clear hK K;refine tkE false 20 174 ?_;refine tkE false 21 175 ?_;refine stL 22 λK hK => ?_;go_simp;refine hK.out _ _ ⟨β (cA x8 bxq _) 0,β (cA i8 hBi _) 0,β (cA i8 hBi _) 1⟩ (λhS => ?_);clear hK K;refine dY ?_ rfl _;rw [Vg 170 162,Vg 170 163];exact wi
end
