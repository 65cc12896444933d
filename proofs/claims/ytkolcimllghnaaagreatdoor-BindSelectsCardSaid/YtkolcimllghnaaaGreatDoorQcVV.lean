/-
 Contracts. Conditions: those of each.
-/
import Derived.Test.YtkolcimllghnaaaGreatDoorQcQS
import Derived.Test.YtkolcimllghnaaaGreatDoorQcRs17
import Derived.Test.YtkolcimllghnaaaGreatDoorQcVU
import Derived.Lib.LaidIn
import Derived.Lib.LaidU8T
import Derived.Lib.LaidCaseMet
import Derived.PinnedBridge
import Derived.Deep.DeepHandedRow
import Derived.Deep.DeepWitnessRowRef
set_option maxRecDepth 100000
set_option maxHeartbeats 8000000
namespace Go.Proofs.YtkolcimllghnaaaGreatDoor
open Lp Go.Proofs.Tryz
open Go.RowKit
variable{e:Ending}{sc:List Tb}{a b d:Nat}{S:Nat->Prop}{w w':World}{Z xs:ZV}
theorem aHT (h:ScPost 2 w e w'):∃ A1 n c1 A2 c2 ok,e=.returned (.tuple #[.slice A1 n c1,.slice A2 n c2,.bool ok])/\Below w w w'/\(ok=true->∃ l:List dW,n=l.length/\ScA w' A1 l/\ScA w' A2 l/\nA (aE l)):=by
 obtain ⟨hb,rfl|⟨l,A1,c1,A2,c2,rfl,h1,h2,h3,h4⟩⟩:=h
 ·exact ⟨none,0,0,none,0,false,rfl,hb,λh=>ao⟩
 ·refine ⟨A1,l.length,c1,A2,c2,true,rfl,hb,λ_=>⟨l,rfl,h1,h2,by rw [pG];exact h3,λtb htb => ?_⟩⟩;obtain ⟨p,hp,rfl⟩:=List.mem_map.1 htb;obtain ⟨k1,k2, -,k3⟩:=h4 p hp;exact ⟨k1,k2,k3⟩
theorem Fh {s:Sel} (hok:nA sc) (h:SelOk s) (p:Lp.X×ZS) (hp:p∈aY sc s):p.1.wf:=by
 unfold aY at hp
 split at hp
 ·obtain ⟨tb,h1,h2⟩:=tj;obtain ⟨c,h3,rfl⟩:=ti;obtain ⟨-,hD, -,hn2⟩:=hok.2 tb h1;exact ⟨hn2,(hD.2 c h3).2⟩
 ·exact (h.itm.1 p hp).1
def PrsK (q:Option Sm) (v:Value) (w':World):Prop:=match q with
 | none=>False
 | some (.sel s)=>∃ g cs,v=.iface 74 (.pointer (some ⟨g,0,none⟩))/\w'.heap[g]? = some (.cells cs 136 (0,0))/\SelC 0 w' s 9 cs
 | some .oth=>∃ T g,v=.iface T (.pointer (some ⟨g,0,none⟩))
theorem aDB {q:Option Sm} (h:aLB w q e w'):∃ v c,e=.returned (.tuple #[v,.int .i64 c])/\Below w w w'/\(c=0->PrsK q v w'):=by
 obtain ⟨hb,h⟩:=h
 match q,h with
 | none,⟨c,h1,h2⟩=>exact ⟨_,c,h2,hb,λh=>absurd h h1⟩
 | some (.sel s),⟨g,cs,h1,h2,h3⟩=>exact ⟨_,0,h1,hb,λ_=>⟨g,cs,rfl,h2,h3.1,λj u hj hu=>(h3.2 j u hj hu).map (λ_ _ h=>h.mono (Nat.zero_le _)) (λh=>xO (Nat.zero_le _) h)⟩⟩
 | some .oth,.inl ⟨c,h1,h2⟩=>exact ⟨_,c,h2,hb,λh=>absurd h h1⟩
 | some .oth,.inr ⟨T,g,h1,h2⟩=>exact ⟨_,0,h2,hb,λ_=>⟨T,g,rfl⟩⟩
theorem PrsK.below {q:Option Sm} {v:Value} {w w':World} (h:PrsK q v w) (hb:Below w w w'):PrsK q v w':=by
 match q,h with
 | some (.sel s),⟨g,cs,h1,h2,h3⟩=>exact ⟨g,cs,h1,aA h2 hb,h3.stays (StaysT.below hb)⟩
 | some .oth,h=>exact h
theorem aJT (g:Nat) (w:World):(Instr.typeAssert (.iface 74 g) 28 74 true).run prog w=.ok (.tuple #[g,true]) w:=aj
structure QV (sc:List Tb) (s:Sel) (q:Nat) (An:ZT) (cn:Nat) (Bi:ZT) (ci:Nat) (on wh:Value) (Ag:ZT) (cg:Nat) (Ao:ZT) (co:Nat) (Ad:ZT) (cd:Nat) (gi gg go:List Nat) (w:World):Prop where
 bx:w.heap[q]? = some (.cells #[.slice An (aY sc s).length cn,.slice Bi (aY sc s).length ci,on,wh,.slice Ag s.group.length cg,.slice Ao s.order.length co,.slice Ad s.order.length cd,.int .i64 s.limit,.bool (mL sc s)] 84 (0,0))
 on_:OnS Any w sc s.on on
 wh_:OnS Any w sc s.wh wh
 nm_:Rds w An ((aY sc s).map nmV)
 it_:Rds w Bi (gi.map ptr)/\NTs Any w sc ((aY sc s).map (·.1)) gi
 gr_:Rds w Ag (gg.map ptr)/\NTs Any w sc s.group gg
 or_:Rds w Ao (go.map ptr)/\NTs Any w sc (s.order.map (·.1)) go
 ds_:Rds w Ad (s.order.map λp=>.bool p.2)
section
variable {sc:List Tb} {s:Sel} {q cn ci cg co cd:Nat} {An Bi Ag Ao Ad:ZT} {on wh:Value} {gi gg go:List Nat} {w w':World}
theorem QV.below (h:QV sc s q An cn Bi ci on wh Ag cg Ao co Ad cd gi gg go w) (hb:Below w w w'):QV sc s q An cn Bi ci on wh Ag cg Ao co Ad cd gi gg go w' :=
 ⟨aA h.bx hb,h.on_.turn (Turn.below hb),h.wh_.turn (Turn.below hb),h.nm_.below hb,⟨h.it_.1.below hb,NTs.turn (Turn.below hb) h.it_.2⟩,⟨h.gr_.1.below hb,NTs.turn (Turn.below hb) h.gr_.2⟩,⟨h.or_.1.below hb,NTs.turn (Turn.below hb) h.or_.2⟩,h.ds_.below hb⟩
theorem aKI {e:Ending} (h:Jk sc s w e w'):Below w w w'/\∃ v,e=.returned (.tuple #[.pointer v,.int .i64 (fO sc s)])/\(fO sc s≠0->v=none)/\(fO sc s=0->∃ q An cn Bi ci on wh Ag cg Ao co Ad cd gi gg go,v=some ⟨q,0,none⟩/\QV sc s q An cn Bi ci on wh Ag cg Ao co Ad cd gi gg go w'):=by
 obtain ⟨hb,h⟩:=h;refine ⟨hb, ?_⟩
 split at h
 ·rename_i h0
  obtain ⟨q,nm,it,on,wh,gr,od,ds,rfl,h1,⟨⟨o1,o2,Ag,cg,gg,rfl,g2,g3,g4⟩,⟨An,cn,rfl,n1⟩,Bi,ci,gi,rfl,i2,i3,i4⟩,⟨Ao,co,go,rfl,r2,r3,r4⟩,Ad,cd,rfl,d1⟩:=h;rw [List.length_map] at h1;refine ⟨some ⟨q,0,none⟩,by rw [h0];rfl,λh=>absurd h0 h,λ_=>⟨q,An,cn,Bi,ci,on,wh,Ag,cg,Ao,co,Ad,cd,gi,gg,go,rfl, ?_,o1,o2,n1.rds,⟨i3.rds,i4⟩,⟨g3.rds,g4⟩,⟨r3.rds,r4⟩,d1.rds⟩⟩;rw [List.length_map] at h1;exact h1
 ·rename_i h0
  exact ⟨none,h,λ_=>rfl,λh=>absurd h h0⟩
end
theorem Ds {S:Nat->Prop} {w:World} {sc:List Tb}:∀ {xs:List Lp.X} {gs:List Nat} {i:Nat} (_:NTs S w sc xs gs) (h:i<xs.length) (h':i<gs.length),NT S w sc xs[i] gs[i]
 | _::_,_::_,0,hp,_,_=>hp.1
 | _::xs,_::gs,i+1,hp,h,h'=>by
   have:=Ds (i:=i) hp.2 an (by simpa using h')
   simpa using this
 | [],_,_,_,h,_=>absurd h (Nat.not_lt_zero _)
 | _::_,[],_,_,_,h'=>absurd h' (Nat.not_lt_zero _)
theorem aDE {l:List (Lp.X×ZS×Bool)} {pr:List (RC×ZS×Bool)} (h:PRl S w l pr) {i:Nat} (hi:i<l.length) (hr:i<pr.length):pr[i].2=l[i].2:=by
 have e:(pr.map (·.2))[i]? = (l.map (·.2))[i]? := by rw [h.1]
 rw [List.getElem?_map,List.getElem?_map,List.getElem?_eq_getElem hi,List.getElem?_eq_getElem hr] at e
 simpa using e
theorem aGS {l:List (Lp.X×ZS×Bool)} {A:ZT} {n c:Nat} (h:PR (λ_=>True) w l (.slice A n c)):n=l.length/\∃ tr,TR w A (l.map (·.1)) tr/\∀ i (hi:i<l.length) (hr:i<tr.length),tr[i].2=l[i].2:=by
 obtain ⟨A',c',pr,e,h1,h2⟩:=h;injection e with e1 e2 e3;subst e1 e2;exact ⟨rfl,pr,⟨by rw [gM h2,List.length_map],h1.rds,h2.2⟩,λi hi hr=>aDE h2 hi hr⟩
theorem Pj (w:World):Calls prog 12 #[.pointer none] w λe w'=>e=.returned (.string ⟨#[]⟩)/\Below w w w':=by
 go_enter func12,ntmps12;go_wp2;go_ret;exact ⟨rfl,θ⟩
theorem aGO {o:Option Lp.X} {u:Value} {W:World} (hwd:bY sc<=10000) (hx:∀ x,o=some x->x.wf/\x.size<=10000) (h:OnS S w sc o u) (hL:LitT w) (hb:Below w w W):Calls prog 12 #[u] W λe w'=>e=.returned (.string (shO sc o))/\Below w w w':=by
 cases o with
 | none =>
   rw [show u=.pointer none from h];exact (Pj W).mono λ_ _ ⟨h1,h2⟩=>⟨h1,hb.trans (h2.mono hb.size)⟩
 | some x =>
   obtain ⟨g,rfl,hn⟩:=h;exact pE sc hwd x (hx x rfl).1 (hx x rfl).2 S w W g hn hL hb
def Agr (a b:Nat) (Z xs:ZV):Prop:=Z.size=xs.size/\∀ j,j<a\/b<=j->Z[j]? = xs[j]?
theorem qC :Agr a b xs xs:=⟨rfl,λ_ _=>rfl⟩
theorem tM {v:Value} (h:Agr a b Z xs) (h1:a<=d) (h2:d<b):Agr a b (Z.setIfInBounds d v) xs :=
 ⟨PU,λj hj=>by rw [Array.getElem?_setIfInBounds_ne ac];exact h.2 j hj⟩
def mT (xs:ZV) (y:Nat->Value):Nat->Nat->ZV
 | _,0=>xs
 | a,k+1=>mT (xs.setIfInBounds a (y a)) y (a+1) k
theorem Gr (Z:ZV) (y:Nat->Value):∀ (k a:Nat) (xs:ZV),Agr a (a+k) Z xs->a+k<=xs.size->(∀ i,a<=i->i<a+k->Z[i]? = some (y i))->mT xs y a k=Z
 | 0,a,xs,h,_,_=>Array.ext_getElem? λj=>(h.2 j ac).symm
 | k+1,a,xs,h,hk,hy=>by
   refine Gr Z y k (a+1) _ ⟨PU,λj hj => ?_⟩ (by rw [Array.size_setIfInBounds];omega) λi h1 h2=>hy i ac ac
   by_cases hja:j=a
   ·subst hja;rw [hy j (ν _) ac,Array.getElem?_setIfInBounds_self_of_lt ac]
   ·rw [Array.getElem?_setIfInBounds_ne (λe=>hja e.symm)];exact h.2 j ac
theorem mH {Q:Exit->Act->World->Prop} (a k:Nat) {df:List Deferred} (hA:Agr a (a+k) Z xs) (hk:a+k<=xs.size) (h:∀ y:Nat->Value,(∀ i v,a<=i->i<a+k->Z[i]? = some v->y i=v)->Q .normal ⟨mT xs y a k,df⟩ w):Q .normal ⟨Z,df⟩ w:=by
 have hZ:∀ i,a<=i->i<a+k->Z[i]? = some (Z.getD i undef):=λi _ h2=>by
  have:i<Z.size:=by rw [hA.1];omega
  simp [Array.getD,this]
 have h1:=h (λi=>Z.getD i undef) λi v h1 h2 hv=>by
  have:=hZ i h1 h2;rw [hv] at this;exact (Option.some.inj this).symm
 rwa [Gr Z _ k a xs hA hk hZ] at h1
theorem Io {Q:Exit->Act->World->Prop} (a k r:Nat) (v:Value) {df:List Deferred} (hA:Agr a (a+k) Z xs) (hk:a+k<=xs.size) (h:∀ y:Nat->Value,Q .normal ⟨(mT xs y a k).setIfInBounds r v,df⟩ w):Q .normal ⟨Z.setIfInBounds r v,df⟩ w :=
 mH (Q:=λe a w=>Q e ⟨a.tmps.setIfInBounds r v,a.defers⟩ w) a k hA hk λy _=>h y
theorem nK {ops:Array Oper} {oi oj:Oper} {tmps:ZV} {j:Nat} {b:Bool} (hg:oi.guard=some (j,b)) (hj:ops[j]? = some oj) (hd:oj.dst=some d) (ht:tmps[d]? = some (.bool b)):Region.wanted oi (yielded ops tmps)=true:=by
 simp [Region.wanted,hg,yielded,hj,hd,ht]
section
variable {P:Program} {md:Region.Mode} {ops:Array Oper} {Q:Exit->Act->World->Prop} {S T:World->Prop} {k:Nat}
theorem tkG (i d:Nat) {j d':Nat} {b':Bool} {oi oj:Oper} {v:Value} {n:Nat} {l:Array Bool} {a:Act} {w:World} (h:wpE P md ops Q S T k n (l.setIfInBounds i true) (a.put (some d) v) w) (hi:ops[i]? = some oi:=by rfl) (hd:oi.dst=some d:=by rfl) (ho:okE md ops l i k false=true:=by as_aux_lemma=>kernel_rfl) (hQ:∀ c a w,Q (.panic c) (a.put (some d) v) w->Q (.panic c) a w:=by exact λ_ _ _ h=>h) (hg:oi.guard=some (j,b'):=by rfl) (hj:ops[j]? = some oj:=by rfl) (hd':oj.dst=some d':=by rfl) (ht:a.tmps[d']? = some (.bool b'):=by simp [Act.put,Array.getElem?_setIfInBounds,hsz])
 (hy:∀ w,S w->(execOp a.eval oi).run P w=.ok (.value v) w:=by (intro w hSw;(try dsimp only at hSw);go_simp;try with_reducible rfl)) (hS:S w:=by assumption) (hT:T w:=by assumption):wpE P md ops Q S T k (n+1) l a w :=
 tk_ (b:=false) h hi hd ho hQ (.inl ⟨nK hg hj hd' ht,λw hw=>hy w hw.1⟩) hS (λ_=>hT)
end
end Go.Proofs.YtkolcimllghnaaaGreatDoor

namespace Go.Proofs.YtkolcimllghnaaaGreatDoor
open Lp Go.Proofs.Tryz
open Go.ChangeShapes Go.WideShapes Go.ChangeAt Go.RowKit Go.Lib Go.Shelf
open Go.ChangeMaps (open_string shut_string)
variable{W w:World}
theorem Ac {P:Program} {w:World} {sp:Nat->Bool} {held:Bool} {fuel:Nat} {t e:TypeId} {n:Nat} {cs:ZU} {ws:List ZS} {p:List MemPlace}
 (ht:P.underlying t=some (.array n e)) (he:P.underlying e=some .string) (hce:P.cellsOf e=1) (hct:P.cellsOf t=n)
 (h:DataW.trod (λ_=>()) P w 0 sp held fuel t cs=some (.agg (ws.map λl=>.lit (.string l)),p)):cs=wv ws:=by
 cases fuel with
 | zero=>simp [DataW.trod] at h
 | succ fuel =>
   simp only [DataW.trod,ht,hce,hct,Nat.mul_one] at h
   split at h
   ·rename_i hl
    obtain ⟨xs,hm,hx⟩:=ar;have hxs:xs.map (·.1)=ws.map λl=>(DataW.lit (.string l):DataW Unit):=by
     have:=congrArg Prod.fst hx
     simpa using this
    have hxl:xs.length=n:=by simpa using mapM_length hm
    have hzl:ws.length=n:=by
     have:=congrArg List.length hxs;simp at this;omega
    apply List.ext_getElem?;intro i
    by_cases hi:i<n
    ·obtain ⟨b,hb,hf⟩:=mapM_at hm i i (by simp [hi]);obtain ⟨s,hc,rfl,_⟩:=DataW.trod_string he hf;have h1:cs[i]? = some (.string s):=by
      have:=congrArg (·[0]?) hc
      simpa [List.getElem?_take,List.getElem?_drop] using this
     have h2:(xs.map (·.1))[i]? = some (DataW.lit (.string s.data.toList):DataW Unit):=by simp [hb]
     rw [hxs] at h2;simp only [List.getElem?_map,Option.map_eq_some_iff,DataW.lit.injEq,Lit.string.injEq] at h2;obtain ⟨l,hl',hl2⟩:=h2;have hs:s=⟨l.toArray⟩:=by rw [hl2]
     rw [h1,hs];unfold wv;simp [hl']
    ·rw [List.getElem?_eq_none ac,List.getElem?_eq_none (by unfold wv;simp;omega)]
   ·cases h
theorem Kr (h:Lib.VarReads prog W "lapidary/parse.reserved" Rows.laid_lapidary_parse_reserved):Resv W:=by
 obtain ⟨g,t,cs,fuel,p,hg,hty,hvar,hd⟩:=h;have hgn:prog.globalNamed "lapidary/parse.reserved" = some 3:=by kernel_rfl
 obtain rfl:=Option.some.inj (hgn.symm.trans hg);obtain rfl:=Option.some.inj ((show (prog.globals[3]?).map (·.type)=some 278 by kernel_rfl).symm.trans hty);have e:(Rows.laid_lapidary_parse_reserved:DataW Unit)=.agg (Qf.map λl=>.lit (.string l)):=aj
 rw [e] at hd;have hcs:=Ac underlying278 underlying9 aj aj hd;intro j u hu;have hc:=World.var?_cell hgn hvar j;rw [hc, <-Array.getElem?_toList,hcs];exact hu
def AwZ (W:World):Prop:=eQ W/\Resv W/\Pow W/\Ml W
theorem aBV (hL:laidMet prog Rows.bindRowsRow.laid W) (hS:W.ShapedOpen prog):AwZ W:=by
 have r1:=Lib.laidMet.reads hL (.tail _ (.tail _ (.head _)));have r2:=Lib.laidMet.reads hL (.tail _ (.tail _ (.tail _ (.head _))));have r4:=Lib.laidMet.reads hL (.tail _ (.tail _ (.tail _ (.tail _ (.head _)))));have r3:=Lib.laidMet.reads hL (.tail _ (.tail _ (.tail _ (.tail _ (.tail _ (.tail _ (.head _)))))));have e1:(Rows.laid_internal_strconv_uint64pow10:DataW Unit)=Lib.tabData .u64 Lib.pow10Tab:=aj
 have e2:(Rows.laid_unicode_utf8_acceptRanges:DataW Unit)=Lib.acceptData:=aj
 have e3:Rows.laid_unicode_utf8_first=Lib.firstData:=aj
 rw [e1] at r1;rw [e2] at r2;rw [e3] at r3;exact ⟨utf8Tabs_of_readsT (U8Types.of196 Tryz.laysValid) ⟨aj,aj,aj,aj,aj,aj,aj⟩ r3 r2,Kr r4,Ql r1,Qx hS⟩
theorem aEH:Lays.n274 prog Tryz.lays203_ren:={ lays203 with }
theorem Oj:CaseExtra prog Tryz.lays203_ren:=⟨aj,aj,aj,aj,aj,aj⟩
def aLG:DataW Unit->ZU
 | .lit (.string l)=>[.string ⟨l.toArray⟩]
 | _=>[]
def aLF:DataW Unit->ZU
 | .agg l=>l.flatMap aLG
 | _=>[]
noncomputable def lO (os:Os):World :=
 let N:=(World.settled prog os).heap.size
 let w0:=World.holding prog os ⟨#[.cells Lib.caseCells5 309],#[],[]⟩
 let put (h:Array Obj) (g:Nat) (cs:ZV):Array Obj:=h.modify g fun
  | .cells _ t frozen=>.cells cs t frozen
  | o=>o
 let h1:=put w0.heap 6 (Iy Rows.laid_math_bits_deBruijn32tab).toArray
 let h2:=put h1 7 (Iy Rows.laid_math_bits_deBruijn64tab).toArray
 let h3:=put h2 5 (Iy Rows.laid_internal_strconv_uint64pow10).toArray
 let h4:=put h3 1 (Iy Rows.laid_unicode_utf8_acceptRanges).toArray
 let h5:=put h4 0 (Iy Rows.laid_unicode_utf8_first).toArray
 let h6:=put h5 3 (aLF Rows.laid_lapidary_parse_reserved).toArray
 let h7:=put h6 4 #[.slice (some ⟨N,0,none⟩) 336 336]
 { w0 with heap:=h7 }
theorem aFL (R:Nat) (t:TypeId) (hgR:4≠R) (hvar:w.heap[4]? = some (.cells #[.slice (some ⟨R,0,none⟩) caseA.size caseA.size] 286 (0,0))) (hblk:w.heap[R]? = some (.cells caseCells5 t (0,0))) :
 LaidIn prog w [("unicode.CaseRanges", caseData)] [4,R]:=by
 have hT:=caseTab_of_block hblk;have hread:=case_slice_reads aEH lays203.t206 Oj hT caseA_wf (by rw [caseA_size];unfold maxLen;omega) 0;rw [case_rows_data] at hread;have hv:w.var? prog "unicode.CaseRanges" = some #[.slice (some ⟨R,0,none⟩) caseA.size caseA.size]:=by
  have h13:=Oj.n13;unfold World.var?;rw [h13];show (match w.heap[4]? with|some (.cells cs _ _)=>some cs|_=>none)=_;rw [hvar]
 refine LaidIn.one [4,R] Oj.n13 Oj.y13 hv hread ?_ ?_ ?_
 ·refine List.nodup_append.2 ⟨row_nodup _ _,row_nodup _ _, ?_⟩;intro a ha b hb e;obtain ⟨i,_,rfl⟩:=MemPlace.mem_row.1 ha;obtain ⟨j,_,rfl⟩:=MemPlace.mem_row.1 hb;simp at e;exact hgR e.1
 ·intro b off hp;rcases List.mem_append.1 hp with hp|hp
  ·obtain ⟨i,hi,e⟩:=MemPlace.mem_row.1 hp;cases e;refine ⟨⟨_,_,hvar⟩,λu v hc => ?_⟩;have hi0:i=0:=by simp at hi;omega
   subst hi0;have hc:w.cell? ⟨4,0,none⟩=some (.iface u v):=hc;rw [Lib.cell_of_heap hvar] at hc;simp at hc
  ·obtain ⟨i,hi,e⟩:=MemPlace.mem_row.1 hp;cases e;refine ⟨⟨_,_,hblk⟩,λu v hc => ?_⟩;obtain ⟨c0,c1,c2,c3,c4⟩:=hT (i / 5) ac;have hi5:0+i=0+i / 5*5+i % 5:=ac
   simp only at hc;rw [hi5] at hc;have hm:i % 5<5:=Nat.mod_lt _ ac
   match hk:i % 5,hm with
   | 0,_=>rw [hk,Nat.add_zero,c0] at hc;cases hc
   | 1,_=>rw [hk,c1] at hc;cases hc
   | 2,_=>rw [hk,c2] at hc;cases hc
   | 3,_=>rw [hk,c3] at hc;cases hc
   | 4,_=>rw [hk,c4] at hc;cases hc
 ·intro x hx;rcases List.mem_append.1 hx with hx|hx
  ·obtain ⟨i,_,rfl⟩:=MemPlace.mem_row.1 hx;exact List.mem_cons_self
  ·obtain ⟨i,_,rfl⟩:=MemPlace.mem_row.1 hx;exact List.mem_cons_of_mem _ List.mem_cons_self
