/-
 EvalGroups: the value of every bound expression with groups, of any rows, is the document's, or its error; it is Null, or of the kind that the node says. The card: the listed tables start as the program's text lays them (the given tie).
-/
import Derived.Test.YtkfjmgmjbljnbaaGreatDoorCards
import Derived.Test.YtkfjmgmjbljnbaaGreatDoorTie
import Derived.Test.YtkfjmgmjbljnbaaGreatDoorQWalkEvalGroups
import Derived.Test.YtkfjmgmjbljnbaaGreatDoorQTabE
set_option maxRecDepth 100000
set_option maxHeartbeats 8000000
namespace Go.Proofs.YtkfjmgmjbljnbaaGreatDoor.evalGroups
open Go.ChangeShapes Go.WideShapes Go.ChangeAt Go.RowKit Go.Lib
open Go.ChangeMaps (open_string shut_string)
theorem walk (A:Option Addr) (c:Nat) (l:List TabA) (s:ByteArray) (gA:Option Addr) (gc:Nat) (G:List RowV) (W:World) (hA:ScA W A l) (_:l.length≤c) (_:s.size≤9223372036854775807) (hG:RdsR W gA G) (hGl:G.length≤9223372036854775807) (hT:AwE W) :
 Calls Tryz.prog 7 #[.slice A l.length c,.string s,.slice gA G.length gc] W fun e W'=>e=.returned (.bool true)∧Below W.heap.size W W' :=
 groups_walk A c l s gA gc G W hA hG hGl hT.1 hT.2
theorem own:ownKnob Tryz.prog.godebug=none:=by kernel_rfl
theorem laidOut:laidOutB Tryz.prog=true:=by kernel_rfl
theorem contract (H:Type) (enc:TypeId×Value→H) (W:World) (base:Nat) (args:Array Value) (ds gs:List (DataW H)) (before:List MemPlace)
 (hval:∀ (j:Nat) t v,Tryz.f7.params[j]? = some t→args[j]? = some v→Value.okWide Tryz.prog W .any base t v)
 (hW:DataW.Whole enc Tryz.prog Tryz.f7.params.toList Rows.evalGroupsSpec.vars false W args.toList ds gs before) (hL:laidMet Tryz.prog Rows.evalGroupsRow.laid W) :
 Calls Tryz.prog 7 args W fun e W'=>∃ v,e=.returned v∧Rows.evalGroupsSpec.post enc Tryz.prog Tryz.f7 false true false false W args v W':=by
 have hT:=tabs_of hL
 have hW':=hW
 obtain ⟨p,q,hA0,hV,rfl,hfz,hnd⟩:=hW
 have hA:DataW.TrodAll enc Tryz.prog W 0 (fun _=>true) true Tryz.f7.params.toList args.toList ds p:=hA0
 rw [Tryz.params7] at hA hval
 obtain ⟨v0,vs0,d0,ds0,p0,q0,hargs,rfl,rfl,h0,r0⟩:=trodAll_cons hA
 obtain ⟨v1,vs1,d1,ds1,p1,q1,rfl,rfl,rfl,h1,r1⟩:=trodAll_cons r0
 obtain ⟨v2,vs2,d2,ds2,p2,q2,rfl,rfl,rfl,h2,r2⟩:=trodAll_cons r1
 obtain ⟨rfl,rfl,rfl⟩:=trodAll_nil r2
 obtain rfl:args=#[v0,v1,v2]:=by cases args;simp_all
 obtain ⟨rfl,rfl⟩:=trodVars_none hV
 have k0:=h0
 have lt0:∀ x∈p0,x.block<W.heap.size:=by obtain ⟨m,hm⟩:=k0;exact DataW.trod_lt m _ _ _ hm
 have k1:=h1
 have lt1:∀ x∈p1,x.block<W.heap.size:=by obtain ⟨m,hm⟩:=k1;exact DataW.trod_lt m _ _ _ hm
 have k2:=h2
 have lt2:∀ x∈p2,x.block<W.heap.size:=by obtain ⟨m,hm⟩:=k2;exact DataW.trod_lt m _ _ _ hm
 obtain ⟨A0,c0,l0,rfl,g0,x0⟩:=open_tabs (hval 0 22 v0 rfl rfl) h0
 obtain ⟨a1,rfl,rfl,rfl,w1⟩:=open_string Tryz.underlying9 (hval 1 9 v1 rfl rfl) h1
 obtain ⟨A2,c2,l2,rfl,g2,x2⟩:=open_rows (hval 2 51 v2 rfl rfl) h2
 refine (walk A0 c0 l0 a1 A2 c2 l2 W g0 x0 w1 g2 x2 hT).mono fun e W' ⟨he,bel⟩ => ?_
 subst he
 exact ⟨_,rfl,_,_,_,[],_,[],hW',trodAll_mk1 (shut_bool Tryz.underlying4 _),(trodAll_cons_mk (Below.trod laidOut (by kernel_rfl) (of_decide_eq_true (by kernel_rfl)) k0 bel lt0) (trodAll_cons_mk (Below.trod laidOut (by kernel_rfl) (of_decide_eq_true (by kernel_rfl)) k1 bel lt1) (trodAll_cons_mk (Below.trod laidOut (by kernel_rfl) (of_decide_eq_true (by kernel_rfl)) k2 bel lt2) trodAll_mk0))),rfl,bel.frame _,fun h=>by cases h⟩
theorem laid_met (os:Os):laidMet Tryz.prog Rows.evalGroupsRow.laid ((laidWorld os).forCall (fun _ _=>0) ⟨#[],#[.slice none 0 0,.string ⟨#[]⟩,.slice none 0 0],[]⟩).memory:=by
 have h1:=LaidIn.of_run (P:=Tryz.prog) (w:=((laidWorld os).forCall (fun _ _=>0) ⟨#[],#[.slice none 0 0,.string ⟨#[]⟩,.slice none 0 0],[]⟩).memory) (l:=[("unicode/utf8.acceptRanges", Rows.laid_unicode_utf8_acceptRanges),("lapidary/parse.reserved", Rows.laid_lapidary_parse_reserved)]) [1,3] 8 (by kernel_rfl) (by kernel_rfl) (by kernel_rfl) (by kernel_rfl)
 have h2:=case_in (w:=((laidWorld os).forCall (fun _ _=>0) ⟨#[],#[.slice none 0 0,.string ⟨#[]⟩,.slice none 0 0],[]⟩).memory) (World.settled Tryz.prog default).heap.size 351 (of_decide_eq_true (by kernel_rfl)) (by kernel_rfl) (by kernel_rfl)
 have h3:=LaidIn.of_run (P:=Tryz.prog) (w:=((laidWorld os).forCall (fun _ _=>0) ⟨#[],#[.slice none 0 0,.string ⟨#[]⟩,.slice none 0 0],[]⟩).memory) (l:=[("unicode/utf8.first", Rows.laid_unicode_utf8_first)]) [0] 8 (by kernel_rfl) (by kernel_rfl) (by kernel_rfl) (by kernel_rfl)
 have h4:=((h1.append h2 (by kernel_rfl)).append h3 (by kernel_rfl)).met
 rw [←Pinned.caseRanges_eq] at h4
 exact h4
theorem reads (os:Os) {H:Type} (enc:TypeId×Value→H):∃ places,DataW.whole enc Tryz.prog ((laidWorld os).forCall (fun _ _=>0) ⟨#[],#[.slice none 0 0,.string ⟨#[]⟩,.slice none 0 0],[]⟩).memory Tryz.f7.params.toList Rows.evalGroupsSpec.vars false (#[.slice none 0 0,.string ⟨#[]⟩,.slice none 0 0]:Array Value).toList 8=some ([.nil,.lit (.string []),.nil],[],places) :=
 ⟨[],by kernel_rfl⟩
theorem lifted (os:Os) (started:os.Started) (H:Type) (enc:TypeId×Value→H) (F:Stop.Interp) :
 ReturnsInHanded {} Tryz.checked os 7 .any ((OpenSpec.ofChange Rows.evalGroupsSpec).preRow enc Tryz.prog Tryz.f7 Rows.evalGroupsRow.domain false Rows.evalGroupsRow.laid) (((OpenSpec.ofChange Rows.evalGroupsSpec).at F).post enc Tryz.prog Tryz.f7 false true false false):=by
 obtain ⟨places,hx⟩:=reads os enc
 refine returnsInHanded_of_row (C:=Tryz.checked) (s:=OpenSpec.ofChange Rows.evalGroupsSpec) own started (by kernel_rfl) Tryz.func7
  (witness_row_atRef (enc:=enc) (C:=Tryz.checked) false (laidWorld os) #[.slice none 0 0,.string ⟨#[]⟩,.slice none 0 0] rfl (by kernel_rfl) (by kernel_rfl) (by kernel_rfl)
   (OpenSpec.preRow_of_cond 8 hx (by kernel_rfl) (fun k hk=>by cases hk) (by kernel_rfl) (laid_met os))) ?_
 intro W base args ds gs before hval hW _ _ _ hL _ _
 exact contract H enc W base args ds gs before hval hW hL
theorem facts:joinedFacts Tryz.pinned.checked.prog 7 Tryz.f7 (OpenSpec.ofChange Rows.evalGroupsSpec).bare Rows.evalGroupsRow=true:=by
 unfold joinedFacts
 repeat rw [Bool.and_eq_true]
 repeat' apply ι
 all_goals (as_aux_lemma=>kernel_rfl)
theorem said:Rows.EvalGroupsSaid :=
 OpenClaim.holds_of_cond 7 Tryz.f7 rfl rfl rfl rfl rfl rfl rfl ⟨rfl,rfl,rfl,rfl,rfl⟩ rfl rfl rfl rfl rfl (by kernel_rfl) Tryz.func7 facts
  (of_decide_eq_true (by kernel_rfl)) (by unfold Func.isWrapper;first|(rw [if_pos (by decide +kernel)];kernel_rfl)|(rw [if_neg (by decide +kernel)];exact ⟨rfl,rfl⟩))
  (fun os started H enc _ F=>by rw [OpenClaim.pre_eq_preRow];exact lifted os started H enc F)
theorem plain (f:FuncId) (fn:Func) (hf:Tryz.pinned.checked.prog.funcNamed Rows.evalGroupsRow.func=some f) (hfn:Tryz.pinned.checked.prog.funcs[f]? = some fn) :
 true=Tryz.pinned.checked.prog.looks []∧∀ (j:Nat) t,fn.params[j]? = some t→Tryz.pinned.checked.prog.wantsStandIn t=false:=by
 obtain rfl:f=7:=Option.some.inj ((show Tryz.prog.funcNamed Rows.evalGroupsRow.func=some 7 by kernel_rfl).symm.trans hf) |>.symm
 obtain rfl:fn=Tryz.f7:=(Option.some.inj (Tryz.func7.symm.trans hfn)).symm
 refine ⟨by kernel_rfl,fun j t ht => ?_⟩
 rw [Tryz.params7] at ht
 have hm:=Array.mem_of_getElem? ht
 have hd:∀ t∈(#[22,9,51]:Array TypeId),Tryz.prog.wantsStandIn t=false:=by
  intro t ht
  simp only [List.mem_toArray,List.mem_cons,List.not_mem_nil,or_false] at ht
  rcases ht with rfl|rfl|rfl<;>kernel_rfl
 exact hd t hm
theorem card:Rows.EvalGroupsCardSaid :=
 Claim7.holds_tied_plain_at .later [] _ _ _ _ said (fun _ h=>by cases h) (by kernel_rfl) (fun _ h=>by cases h) evalGroups_row_tie rfl ⟨rfl,rfl⟩ (by kernel_rfl) rfl plain (by kernel_rfl)
#print axioms card
end Go.Proofs.YtkfjmgmjbljnbaaGreatDoor.evalGroups
