/-
 Contracts. Conditions: those of each.
-/
import Derived.Test.YtkolcimllghnaaaGreatDoorQbGV
import Derived.ProofKit
import Derived.OpenShut
import Derived.ShutString
import Derived.ChangeOld
import Derived.ChangeArms
import Derived.Lib.LaidIn
import Derived.Lib.LaidU8T
import Derived.Lib.LaidCaseMet
import Derived.PinnedBridge
import Derived.Deep.DeepHandedRow
import Derived.Deep.DeepWitnessRowRef
set_option maxRecDepth 100000
namespace Go.Proofs.YtkolcimllghnaaaGreatDoor
open Lp Go.Proofs.Tryz
open Go.ChangeShapes Go.WideShapes Go.ChangeAt Go.RowKit Go.Lib Go.Shelf
open Go.ChangeMaps (open_string shut_string)
theorem wA {P:Program} {w:World} {sp:Nat→Bool} {held:Bool} {fuel:Nat} {t e:TypeId} {n:Nat} {cs:List Value} {ws:List (List UInt8)} {p:List MemPlace}
 (ht:P.underlying t=some (.array n e)) (he:P.underlying e=some .string) (hce:P.cellsOf e=1) (hct:P.cellsOf t=n)
 (h:DataW.trod (fun _=>()) P w 0 sp held fuel t cs=some (.agg (ws.map fun l=>.lit (.string l)),p)):cs=wv ws:=by
 cases fuel with
 | zero=>simp [DataW.trod] at h
 | succ fuel =>
   simp only [DataW.trod,ht,hce,hct,Nat.mul_one] at h
   split at h
   ·rename_i hl
    obtain ⟨xs,hm,hx⟩:=Option.map_eq_some_iff.1 h
    have hxs:xs.map (·.1)=ws.map fun l=>(DataW.lit (.string l):DataW Unit):=by
     have:=congrArg Prod.fst hx
     simpa using this
    have hxl:xs.length=n:=by simpa using mapM_length hm
    have hzl:ws.length=n:=by
     have:=congrArg List.length hxs
     simp at this
     omega
    apply List.ext_getElem?
    intro i
    by_cases hi:i<n
    ·obtain ⟨b,hb,hf⟩:=mapM_at hm i i (by simp [hi])
     obtain ⟨s,hc,rfl,_⟩:=DataW.trod_string he hf
     have h1:cs[i]? = some (.string s):=by
      have:=congrArg (·[0]?) hc
      simpa [List.getElem?_take,List.getElem?_drop] using this
     have h2:(xs.map (·.1))[i]? = some (DataW.lit (.string s.data.toList):DataW Unit):=by simp [hb]
     rw [hxs] at h2
     simp only [List.getElem?_map,Option.map_eq_some_iff,DataW.lit.injEq,Lit.string.injEq] at h2
     obtain ⟨l,hl',hl2⟩:=h2
     have hs:s=⟨l.toArray⟩:=by rw [hl2]
     rw [h1,hs]
     unfold wv
     simp [hl']
    ·rw [List.getElem?_eq_none (by omega),List.getElem?_eq_none (by unfold wv;simp;omega)]
   ·cases h
theorem Ei {W:World} (h:Lib.VarReads prog W "lapidary/parse.reserved" Rows.laid_lapidary_parse_reserved):Resv W:=by
 obtain ⟨g,t,cs,fuel,p,hg,hty,hvar,hd⟩:=h
 have hgn:prog.globalNamed "lapidary/parse.reserved" = some 3:=by kernel_rfl
 obtain rfl:=Option.some.inj (hgn.symm.trans hg)
 obtain rfl:=Option.some.inj ((show (prog.globals[3]?).map (·.type)=some 278 by kernel_rfl).symm.trans hty)
 have e:(Rows.laid_lapidary_parse_reserved:DataW Unit)=.agg (Io.map fun l=>.lit (.string l)):=by kernel_rfl
 rw [e] at hd
 have hcs:=wA underlying278 underlying9 (by kernel_rfl) (by kernel_rfl) hd
 intro j u hu
 have hc:=World.var?_cell hgn hvar j
 rw [hc, ←Array.getElem?_toList,hcs]
 exact hu
def AwZ (W:World):Prop:=dZ W∧Resv W∧Pow W∧Ml W
theorem Ta {W:World} (hL:laidMet prog Rows.bindRowsRow.laid W) (hS:W.ShapedOpen prog):AwZ W:=by
 have r1:=Lib.laidMet.reads hL (.tail _ (.tail _ (.head _)))
 have r2:=Lib.laidMet.reads hL (.tail _ (.tail _ (.tail _ (.head _))))
 have r4:=Lib.laidMet.reads hL (.tail _ (.tail _ (.tail _ (.tail _ (.head _)))))
 have r3:=Lib.laidMet.reads hL (.tail _ (.tail _ (.tail _ (.tail _ (.tail _ (.tail _ (.head _)))))))
 have e1:(Rows.laid_internal_strconv_uint64pow10:DataW Unit)=Lib.tabData .u64 Lib.pow10Tab:=by kernel_rfl
 have e2:(Rows.laid_unicode_utf8_acceptRanges:DataW Unit)=Lib.acceptData:=by kernel_rfl
 have e3:Rows.laid_unicode_utf8_first=Lib.firstData:=by kernel_rfl
 rw [e1] at r1
 rw [e2] at r2
 rw [e3] at r3
 exact ⟨utf8Tabs_of_readsT (U8Types.of196 Tryz.laysValid) ⟨by kernel_rfl,by kernel_rfl,by kernel_rfl,by kernel_rfl,by kernel_rfl,by kernel_rfl,by kernel_rfl⟩ r3 r2,Ei r4,It r1,Je hS⟩
theorem Vc:Lays.n274 prog Tryz.lays203_ren:={ lays203 with }
theorem Hc:CaseExtra prog Tryz.lays203_ren:=⟨by kernel_rfl,by kernel_rfl,by kernel_rfl,by kernel_rfl,by kernel_rfl,by kernel_rfl⟩
def aAZ:DataW Unit→List Value
 | .lit (.string l)=>[.string ⟨l.toArray⟩]
 | _=>[]
def aAY:DataW Unit→List Value
 | .agg l=>l.flatMap aAZ
 | _=>[]
noncomputable def jW (os:Os):World :=
 let N:=(World.settled prog os).heap.size
 let w0:=World.holding prog os ⟨#[.cells Lib.caseCells5 309],#[],[]⟩
 let put (h:Array Obj) (g:Nat) (cs:Array Value):Array Obj:=h.modify g fun
  | .cells _ t frozen=>.cells cs t frozen
  | o=>o
 let h1:=put w0.heap 6 (Cx Rows.laid_math_bits_deBruijn32tab).toArray
 let h2:=put h1 7 (Cx Rows.laid_math_bits_deBruijn64tab).toArray
 let h3:=put h2 5 (Cx Rows.laid_internal_strconv_uint64pow10).toArray
 let h4:=put h3 1 (Cx Rows.laid_unicode_utf8_acceptRanges).toArray
 let h5:=put h4 0 (Cx Rows.laid_unicode_utf8_first).toArray
 let h6:=put h5 3 (aAY Rows.laid_lapidary_parse_reserved).toArray
 let h7:=put h6 4 #[.slice (some ⟨N,0,none⟩) 336 336]
 { w0 with heap:=h7 }
theorem Wf {w:World} (R:Nat) (t:TypeId) (hgR:4≠R) (hvar:w.heap[4]? = some (.cells #[.slice (some ⟨R,0,none⟩) caseA.size caseA.size] 286 (0,0))) (hblk:w.heap[R]? = some (.cells caseCells5 t (0,0))) :
 LaidIn prog w [("unicode.CaseRanges", caseData)] [4,R]:=by
 have hT:=caseTab_of_block hblk
 have hread:=case_slice_reads Vc lays203.t206 Hc hT caseA_wf (by rw [caseA_size];unfold maxLen;omega) 0
 rw [case_rows_data] at hread
 have hv:w.var? prog "unicode.CaseRanges" = some #[.slice (some ⟨R,0,none⟩) caseA.size caseA.size]:=by
  have h13:=Hc.n13
  unfold World.var?
  rw [h13]
  show (match w.heap[4]? with|some (.cells cs _ _)=>some cs|_=>none)=_
  rw [hvar]
 refine LaidIn.one [4,R] Hc.n13 Hc.y13 hv hread ?_ ?_ ?_
 ·refine List.nodup_append.2 ⟨row_nodup _ _,row_nodup _ _, ?_⟩
  intro a ha b hb e
  obtain ⟨i,_,rfl⟩:=MemPlace.mem_row.1 ha
  obtain ⟨j,_,rfl⟩:=MemPlace.mem_row.1 hb
  simp at e
  exact hgR e.1
 ·intro b off hp
  rcases List.mem_append.1 hp with hp|hp
  ·obtain ⟨i,hi,e⟩:=MemPlace.mem_row.1 hp
   cases e
   refine ⟨⟨_,_,hvar⟩,fun u v hc => ?_⟩
   have hi0:i=0:=by simp at hi;omega
   subst hi0
   have hc:w.cell? ⟨4,0,none⟩=some (.iface u v):=hc
   rw [Lib.cell_of_heap hvar] at hc
   simp at hc
  ·obtain ⟨i,hi,e⟩:=MemPlace.mem_row.1 hp
   cases e
   refine ⟨⟨_,_,hblk⟩,fun u v hc => ?_⟩
   obtain ⟨c0,c1,c2,c3,c4⟩:=hT (i / 5) (by omega)
   have hi5:0+i=0+i / 5*5+i % 5:=by omega
   simp only at hc
   rw [hi5] at hc
   have hm:i % 5<5:=Nat.mod_lt _ (by omega)
   match hk:i % 5,hm with
   | 0,_=>rw [hk,Nat.add_zero,c0] at hc;cases hc
   | 1,_=>rw [hk,c1] at hc;cases hc
   | 2,_=>rw [hk,c2] at hc;cases hc
   | 3,_=>rw [hk,c3] at hc;cases hc
   | 4,_=>rw [hk,c4] at hc;cases hc
 ·intro x hx
  rcases List.mem_append.1 hx with hx|hx
  ·obtain ⟨i,_,rfl⟩:=MemPlace.mem_row.1 hx
   exact List.mem_cons_self
  ·obtain ⟨i,_,rfl⟩:=MemPlace.mem_row.1 hx
   exact List.mem_cons_of_mem _ List.mem_cons_self
