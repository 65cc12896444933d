/-
 EvalSums: COUNT, SUM, MIN and MAX of numbers, Nulls aside, are what a loop over them reckons; the least, the greatest and the count are the same of the rows turned about. The card: the listed tables start as the program's text lays them (the given tie).
-/
import Derived.Test.YtkfjmgmjbljnbaaGreatDoorCards
import Derived.Test.YtkfjmgmjbljnbaaGreatDoorTie
import Derived.Test.YtkfjmgmjbljnbaaGreatDoorQWalkEvalSums
import Derived.Test.YtkfjmgmjbljnbaaGreatDoorQTabE
set_option maxRecDepth 100000
set_option maxHeartbeats 8000000
namespace Go.Proofs.YtkfjmgmjbljnbaaGreatDoor.evalSums
open Go.ChangeShapes Go.WideShapes Go.ChangeAt Go.RowKit Go.Lib
open Go.ChangeMaps (open_string shut_string)
theorem walk (A:Option Addr) (c:Nat) (l:List Int) (bA:Option Addr) (bc:Nat) (bl:List Bool) (W:World) (hl:Rds W A (nuv l)) (hc:l.length≤c) (hi:∀ n∈l, -9223372036854775808≤n∧n≤9223372036854775807) (hb:Rds W bA (bov bl)) (h63:bl.length≤9223372036854775807) (hT:AwE W) :
 Calls Tryz.prog 6 #[.slice A l.length c,.slice bA bl.length bc] W fun e W'=>e=.returned (.bool true)∧Below W.heap.size W W' :=
 sums_walk A c l bA bc bl W hl hc hi hb h63 hT.1 hT.2
theorem own:ownKnob Tryz.prog.godebug=none:=by kernel_rfl
theorem laidOut:laidOutB Tryz.prog=true:=by kernel_rfl
theorem contract (H:Type) (enc:TypeId×Value→H) (W:World) (base:Nat) (args:Array Value) (ds gs:List (DataW H)) (before:List MemPlace)
 (hval:∀ (j:Nat) t v,Tryz.f6.params[j]? = some t→args[j]? = some v→Value.okWide Tryz.prog W .any base t v)
 (hW:DataW.Whole enc Tryz.prog Tryz.f6.params.toList Rows.evalSumsSpec.vars false W args.toList ds gs before) (hL:laidMet Tryz.prog Rows.evalSumsRow.laid W) :
 Calls Tryz.prog 6 args W fun e W'=>∃ v,e=.returned v∧Rows.evalSumsSpec.post enc Tryz.prog Tryz.f6 false true false false W args v W':=by
 have hT:=tabs_of hL
 have hW':=hW
 obtain ⟨p,q,hA0,hV,rfl,hfz,hnd⟩:=hW
 have hA:DataW.TrodAll enc Tryz.prog W 0 (fun _=>true) true Tryz.f6.params.toList args.toList ds p:=hA0
 rw [Tryz.params6] at hA hval
 obtain ⟨v0,vs0,d0,ds0,p0,q0,hargs,rfl,rfl,h0,r0⟩:=trodAll_cons hA
 obtain ⟨v1,vs1,d1,ds1,p1,q1,rfl,rfl,rfl,h1,r1⟩:=trodAll_cons r0
 obtain ⟨rfl,rfl,rfl⟩:=trodAll_nil r1
 obtain rfl:args=#[v0,v1]:=by cases args;simp_all
 obtain ⟨rfl,rfl⟩:=trodVars_none hV
 have k0:=h0
 have lt0:∀ x∈p0,x.block<W.heap.size:=by obtain ⟨m,hm⟩:=k0;exact DataW.trod_lt m _ _ _ hm
 have k1:=h1
 have lt1:∀ x∈p1,x.block<W.heap.size:=by obtain ⟨m,hm⟩:=k1;exact DataW.trod_lt m _ _ _ hm
 obtain ⟨A0,c0,l0,rfl,g0,x0,y0⟩:=open_nums (hval 0 49 v0 rfl rfl) h0
 obtain ⟨A1,c1,l1,rfl,g1,x1⟩:=open_bits (hval 1 50 v1 rfl rfl) h1
 refine (walk A0 c0 l0 A1 c1 l1 W g0 x0 y0 g1 x1 hT).mono fun e W' ⟨he,bel⟩ => ?_
 subst he
 exact ⟨_,rfl,_,_,_,[],_,[],hW',trodAll_mk1 (shut_bool Tryz.underlying4 _),(trodAll_cons_mk (Below.trod laidOut (by kernel_rfl) (of_decide_eq_true (by kernel_rfl)) k0 bel lt0) (trodAll_cons_mk (Below.trod laidOut (by kernel_rfl) (of_decide_eq_true (by kernel_rfl)) k1 bel lt1) trodAll_mk0)),rfl,bel.frame _,fun h=>by cases h⟩
theorem laid_met (os:Os):laidMet Tryz.prog Rows.evalSumsRow.laid ((laidWorld os).forCall (fun _ _=>0) ⟨#[],#[.slice none 0 0,.slice none 0 0],[]⟩).memory:=by
 have h1:=LaidIn.of_run (P:=Tryz.prog) (w:=((laidWorld os).forCall (fun _ _=>0) ⟨#[],#[.slice none 0 0,.slice none 0 0],[]⟩).memory) (l:=[("unicode/utf8.acceptRanges", Rows.laid_unicode_utf8_acceptRanges),("lapidary/parse.reserved", Rows.laid_lapidary_parse_reserved)]) [1,3] 8 (by kernel_rfl) (by kernel_rfl) (by kernel_rfl) (by kernel_rfl)
 have h2:=case_in (w:=((laidWorld os).forCall (fun _ _=>0) ⟨#[],#[.slice none 0 0,.slice none 0 0],[]⟩).memory) (World.settled Tryz.prog default).heap.size 351 (of_decide_eq_true (by kernel_rfl)) (by kernel_rfl) (by kernel_rfl)
 have h3:=LaidIn.of_run (P:=Tryz.prog) (w:=((laidWorld os).forCall (fun _ _=>0) ⟨#[],#[.slice none 0 0,.slice none 0 0],[]⟩).memory) (l:=[("unicode/utf8.first", Rows.laid_unicode_utf8_first)]) [0] 8 (by kernel_rfl) (by kernel_rfl) (by kernel_rfl) (by kernel_rfl)
 have h4:=((h1.append h2 (by kernel_rfl)).append h3 (by kernel_rfl)).met
 rw [←Pinned.caseRanges_eq] at h4
 exact h4
theorem reads (os:Os) {H:Type} (enc:TypeId×Value→H):∃ places,DataW.whole enc Tryz.prog ((laidWorld os).forCall (fun _ _=>0) ⟨#[],#[.slice none 0 0,.slice none 0 0],[]⟩).memory Tryz.f6.params.toList Rows.evalSumsSpec.vars false (#[.slice none 0 0,.slice none 0 0]:Array Value).toList 8=some ([.nil,.nil],[],places) :=
 ⟨[],by kernel_rfl⟩
theorem lifted (os:Os) (started:os.Started) (H:Type) (enc:TypeId×Value→H) (F:Stop.Interp) :
 ReturnsInHanded {} Tryz.checked os 6 .any ((OpenSpec.ofChange Rows.evalSumsSpec).preRow enc Tryz.prog Tryz.f6 Rows.evalSumsRow.domain false Rows.evalSumsRow.laid) (((OpenSpec.ofChange Rows.evalSumsSpec).at F).post enc Tryz.prog Tryz.f6 false true false false):=by
 obtain ⟨places,hx⟩:=reads os enc
 refine returnsInHanded_of_row (C:=Tryz.checked) (s:=OpenSpec.ofChange Rows.evalSumsSpec) own started (by kernel_rfl) Tryz.func6
  (witness_row_atRef (enc:=enc) (C:=Tryz.checked) false (laidWorld os) #[.slice none 0 0,.slice none 0 0] rfl (by kernel_rfl) (by kernel_rfl) (by kernel_rfl)
   (OpenSpec.preRow_of_cond 8 hx (by kernel_rfl) (fun k hk=>by cases hk) (by kernel_rfl) (laid_met os))) ?_
 intro W base args ds gs before hval hW _ _ _ hL _ _
 exact contract H enc W base args ds gs before hval hW hL
theorem facts:joinedFacts Tryz.pinned.checked.prog 6 Tryz.f6 (OpenSpec.ofChange Rows.evalSumsSpec).bare Rows.evalSumsRow=true:=by
 unfold joinedFacts
 repeat rw [Bool.and_eq_true]
 repeat' apply ι
 all_goals (as_aux_lemma=>kernel_rfl)
theorem said:Rows.EvalSumsSaid :=
 OpenClaim.holds_of_cond 6 Tryz.f6 rfl rfl rfl rfl rfl rfl rfl ⟨rfl,rfl,rfl,rfl,rfl⟩ rfl rfl rfl rfl rfl (by kernel_rfl) Tryz.func6 facts
  (of_decide_eq_true (by kernel_rfl)) (by unfold Func.isWrapper;first|(rw [if_pos (by decide +kernel)];kernel_rfl)|(rw [if_neg (by decide +kernel)];exact ⟨rfl,rfl⟩))
  (fun os started H enc _ F=>by rw [OpenClaim.pre_eq_preRow];exact lifted os started H enc F)
theorem plain (f:FuncId) (fn:Func) (hf:Tryz.pinned.checked.prog.funcNamed Rows.evalSumsRow.func=some f) (hfn:Tryz.pinned.checked.prog.funcs[f]? = some fn) :
 true=Tryz.pinned.checked.prog.looks []∧∀ (j:Nat) t,fn.params[j]? = some t→Tryz.pinned.checked.prog.wantsStandIn t=false:=by
 obtain rfl:f=6:=Option.some.inj ((show Tryz.prog.funcNamed Rows.evalSumsRow.func=some 6 by kernel_rfl).symm.trans hf) |>.symm
 obtain rfl:fn=Tryz.f6:=(Option.some.inj (Tryz.func6.symm.trans hfn)).symm
 refine ⟨by kernel_rfl,fun j t ht => ?_⟩
 rw [Tryz.params6] at ht
 have hm:=Array.mem_of_getElem? ht
 have hd:∀ t∈(#[49,50]:Array TypeId),Tryz.prog.wantsStandIn t=false:=by
  intro t ht
  simp only [List.mem_toArray,List.mem_cons,List.not_mem_nil,or_false] at ht
  rcases ht with rfl|rfl<;>kernel_rfl
 exact hd t hm
theorem card:Rows.EvalSumsCardSaid :=
 Claim7.holds_tied_plain_at .later [] _ _ _ _ said (fun _ h=>by cases h) (by kernel_rfl) (fun _ h=>by cases h) evalSums_row_tie rfl ⟨rfl,rfl⟩ (by kernel_rfl) rfl plain (by kernel_rfl)
#print axioms card
end Go.Proofs.YtkfjmgmjbljnbaaGreatDoor.evalSums
