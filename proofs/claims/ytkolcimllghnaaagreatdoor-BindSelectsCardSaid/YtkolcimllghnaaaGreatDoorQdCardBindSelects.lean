/-
 BindSelects: every SELECT is bound over any one or two tables as the document says, or refused: what is told, under which names, by what it is grouped and sorted. The card: the listed tables start as the program's text lays them (the given tie).
-/
import Derived.Test.YtkolcimllghnaaaGreatDoorCards
import Derived.Test.YtkolcimllghnaaaGreatDoorTie
import Derived.Test.YtkolcimllghnaaaGreatDoorQdWalkBindSelects
set_option maxRecDepth 100000
set_option maxHeartbeats 8000000
namespace Go.Proofs.YtkolcimllghnaaaGreatDoor.bindSelects
open Go.ChangeShapes Go.WideShapes Go.ChangeAt Go.RowKit Go.Lib
open Go.ChangeMaps (open_string shut_string)
open Go.Proofs.Tryz (f4 func4 params4 prog underlying4 underlying9)
noncomputable def M0 (os:Os):World:=((lO os).forCall (λ_ _=>0) ⟨#[],#[.slice none 0 0,()],[]⟩).memory
theorem walk (A:Option Addr) (c:Nat) (l:List dW) (s:ByteArray) (W:World) (hA:ScA W A l) (_:l.length≤c) (_:s.size≤9223372036854775807) (hT:AwZ W) :
 Calls prog 4 #[.slice A l.length c,s] W λe W'=>e=.returned (.bool true)∧Below W W W' :=
 Vh A c l s W hA hT.1 hT.2.1 hT.2.2
theorem own:ownKnob prog.godebug=none:=aj
theorem laidOut:laidOutB prog=true:=aj
theorem contract (H:Type) (enc:TypeId×Value->H) (W:World) (base:Nat) (args:Array Value) (ds gs:List (DataW H)) (before:List MemPlace)
 (hval:∀ (j:Nat) t v,f4.params[j]? = some t->args[j]? = some v->Value.okWide prog W .any base t v)
 (hW:DataW.Whole enc prog f4.params.toList Rows.bindSelectsSpec.vars false W args.toList ds gs before) (hL:laidMet prog Rows.bindSelectsRow.laid W) (hS:W.ShapedOpen prog) :
 Calls prog 4 args W λe W'=>∃ v,e=.returned v∧Rows.bindSelectsSpec.post enc prog f4 false true false false W args v W':=by
 have hT:=aBV hL hS;have hW':=hW;obtain ⟨p,q,hA0,hV,rfl,hfz,hnd⟩:=hW;have hA:DataW.TrodAll enc prog W 0 (λ_=>true) true f4.params.toList args.toList ds p:=hA0;rw [params4] at hA hval;obtain ⟨v0,vs0,d0,ds0,p0,q0,hargs,rfl,rfl,h0,r0⟩:=trodAll_cons hA;obtain ⟨v1,vs1,d1,ds1,p1,q1,rfl,rfl,rfl,h1,r1⟩:=trodAll_cons r0;obtain ⟨rfl,rfl,rfl⟩:=trodAll_nil r1;obtain rfl:args=#[v0,v1]:=by cases args;simp_all
 obtain ⟨rfl,rfl⟩:=trodVars_none hV;have k0:=h0;have lt0:∀ x∈p0,x.block<W.heap.size:=by obtain ⟨m,hm⟩:=k0;exact DataW.trod_lt m _ _ _ hm
 have k1:=h1;have lt1:∀ x∈p1,x.block<W.heap.size:=by obtain ⟨m,hm⟩:=k1;exact DataW.trod_lt m _ _ _ hm
 obtain ⟨A0,c0,l0,rfl,g0,x0⟩:=Qr (hval 0 22 v0 rfl rfl) h0;obtain ⟨a1,rfl,rfl,rfl,w1⟩:=open_string underlying9 (hval 1 9 v1 rfl rfl) h1;refine (walk A0 c0 l0 a1 W g0 x0 w1 hT).mono λe W' ⟨he,bel⟩ => ?_;subst he;exact ⟨_,rfl,_,_,_,[],_,[],hW',trodAll_mk1 (shut_bool underlying4 _),(trodAll_cons_mk (Below.trod laidOut aj (of_decide_eq_true aj) k0 bel lt0) (trodAll_cons_mk (Below.trod laidOut aj (of_decide_eq_true aj) k1 bel lt1) trodAll_mk0)),rfl,bel.frame _,λh=>lq⟩
theorem laid_met (os:Os):laidMet prog Rows.bindSelectsRow.laid (M0 os):=by
 have h1:=LaidIn.of_run (P:=prog) (w:=(M0 os)) (l:=[("math/bits.deBruijn32tab", Rows.laid_math_bits_deBruijn32tab),("math/bits.deBruijn64tab", Rows.laid_math_bits_deBruijn64tab),("internal/strconv.uint64pow10", Rows.laid_internal_strconv_uint64pow10),("unicode/utf8.acceptRanges", Rows.laid_unicode_utf8_acceptRanges),("lapidary/parse.reserved", Rows.laid_lapidary_parse_reserved)]) [6,7,5,1,3] 8 (by kernel_rfl) (by kernel_rfl) (by kernel_rfl) (by kernel_rfl);have h2:=aFL (w:=(M0 os)) (World.settled prog default).heap.size 309 (of_decide_eq_true (by kernel_rfl)) (by kernel_rfl) (by kernel_rfl);have h3:=LaidIn.of_run (P:=prog) (w:=(M0 os)) (l:=[("unicode/utf8.first", Rows.laid_unicode_utf8_first)]) [0] 8 (by kernel_rfl) (by kernel_rfl) (by kernel_rfl) (by kernel_rfl);have h4:=((h1.append h2 (by kernel_rfl)).append h3 (by kernel_rfl)).met;rw [<-Pinned.caseRanges_eq] at h4;exact h4
theorem reads (os:Os) {H:Type} (enc:TypeId×Value->H):∃ places,DataW.whole enc prog (M0 os) f4.params.toList Rows.bindSelectsSpec.vars false (#[.slice none 0 0,()]:Array Value).toList 8=some ([.nil,.lit (.string [])],[],places) :=
 ⟨[],aj⟩
theorem lifted (os:Os) (started:os.Started) (H:Type) (enc:TypeId×Value->H) (F:Stop.Interp) :
 ReturnsInHanded {} Tryz.checked os 4 .any ((OpenSpec.ofChange Rows.bindSelectsSpec).preRow enc prog f4 Rows.bindSelectsRow.domain false Rows.bindSelectsRow.laid) (((OpenSpec.ofChange Rows.bindSelectsSpec).at F).post enc prog f4 false true false false):=by
 obtain ⟨places,hx⟩:=reads os enc;refine returnsInHanded_of_row (C:=Tryz.checked) (s:=OpenSpec.ofChange Rows.bindSelectsSpec) own started aj func4
  (witness_row_atRef (enc:=enc) (C:=Tryz.checked) false (lO os) #[.slice none 0 0,()] rfl aj aj aj
   (OpenSpec.preRow_of_cond 8 hx aj (λk hk=>by cases hk) aj (laid_met os))) ?_
 intro W base args ds gs before hval hW _ _ _ hL hS _;exact contract H enc W base args ds gs before hval hW hL hS
theorem facts:joinedFacts Tryz.pinned.checked.prog 4 f4 (OpenSpec.ofChange Rows.bindSelectsSpec).bare Rows.bindSelectsRow=true:=by
 unfold joinedFacts
 repeat rw [Bool.and_eq_true]
 repeat' apply ι
 all_goals (as_aux_lemma=>kernel_rfl)
theorem said:Rows.BindSelectsSaid :=
 OpenClaim.holds_of_cond 4 f4 rfl rfl rfl rfl rfl rfl rfl ⟨rfl,rfl,rfl,rfl,rfl⟩ rfl rfl rfl rfl rfl aj func4 facts
  (of_decide_eq_true aj) (by unfold Func.isWrapper;first|(rw [if_pos (by decide +kernel)];kernel_rfl)|(rw [if_neg (by decide +kernel)];exact ⟨rfl,rfl⟩))
  (λos started H enc _ F=>by rw [OpenClaim.pre_eq_preRow];exact lifted os started H enc F)
theorem plain (f:FuncId) (fn:Func) (hf:Tryz.pinned.checked.prog.funcNamed Rows.bindSelectsRow.func=some f) (hfn:Tryz.pinned.checked.prog.funcs[f]? = some fn) :
 true=Tryz.pinned.checked.prog.looks []∧∀ (j:Nat) t,fn.params[j]? = some t->Tryz.pinned.checked.prog.wantsStandIn t=false:=by
 obtain rfl:f=4:=Option.some.inj ((show prog.funcNamed Rows.bindSelectsRow.func=some 4 by kernel_rfl).symm.trans hf) |>.symm;obtain rfl:fn=f4:=(Option.some.inj (func4.symm.trans hfn)).symm;refine ⟨aj,λj t ht => ?_⟩;rw [params4] at ht;have hm:=Array.mem_of_getElem? ht;have hd:∀ t∈(#[22,9]:Array TypeId),prog.wantsStandIn t=false:=by
  intro t ht;simp only [List.mem_toArray,List.mem_cons,List.not_mem_nil,or_false] at ht;rcases ht with rfl|rfl<;>kernel_rfl
 exact hd t hm
theorem card:Rows.BindSelectsCardSaid :=
 Claim7.holds_tied_plain_at .later [] _ _ _ _ said (λ_ h=>lq) aj (λ_ h=>lq) bindSelects_row_tie rfl ⟨rfl,rfl⟩ aj rfl plain aj
end Go.Proofs.YtkolcimllghnaaaGreatDoor.bindSelects
