/-
 Contracts. Conditions: those of each.
-/
import Derived.Test.YtkolcimllghnaaaGreatDoorQdGB
import Derived.Lib.Strings
import Derived.WalkSmall
import Derived.Lib.LaidU8
import Derived.Lib.LaidTab
import Derived.Test.YtkolcimllghnaaaGreatDoorQdShelf
import Derived.Lib.AppendIntMem
import Derived.Deep.LoopGhost
import Derived.OrdersHeld
import Derived.Deep.RegionHeld
set_option maxRecDepth 100000
set_option maxHeartbeats 8000000
namespace Go.Proofs.YtkolcimllghnaaaGreatDoor.Lp
open Go.RowKit
end Go.Proofs.YtkolcimllghnaaaGreatDoor.Lp

namespace Go.Proofs.YtkolcimllghnaaaGreatDoor
open Go.Proofs.Tryz
open Go.RowKit
theorem Uh (x:Int) (w:World):(Instr.typeAssert (.iface 2 (.int .i64 x)) 20 2 true).run prog w=.ok (.tuple #[.int .i64 x,true]) w:=aj
theorem Ug (x:Int) (w:World):(Instr.typeAssert (.iface 2 (.int .i64 x)) 20 9 true).run prog w=.ok (.tuple #[(),false]) w:=aj
theorem Ui (x:Int) (w:World):(Instr.typeAssert (.iface 2 (.int .i64 x)) 20 4 true).run prog w=.ok (.tuple #[false,false]) w:=aj
theorem aGM (x:Int) (w:World):(Instr.typeAssert (.iface 2 (.int .i64 x)) 20 2 false).run prog w=.ok (.int .i64 x) w:=aj
theorem Ub (x:ByteArray) (w:World):(Instr.typeAssert (.iface 9 (.string x)) 20 2 true).run prog w=.ok (.tuple #[.int .i64 0,false]) w:=aj
theorem Ua (x:ByteArray) (w:World):(Instr.typeAssert (.iface 9 (.string x)) 20 9 true).run prog w=.ok (.tuple #[x,true]) w:=aj
theorem Uc (x:ByteArray) (w:World):(Instr.typeAssert (.iface 9 (.string x)) 20 4 true).run prog w=.ok (.tuple #[false,false]) w:=aj
theorem aGL (x:ByteArray) (w:World):(Instr.typeAssert (.iface 9 (.string x)) 20 9 false).run prog w=.ok (.string x) w:=aj
theorem Uk (x:Bool) (w:World):(Instr.typeAssert (.iface 4 (.bool x)) 20 2 true).run prog w=.ok (.tuple #[.int .i64 0,false]) w:=aj
theorem Uj (x:Bool) (w:World):(Instr.typeAssert (.iface 4 (.bool x)) 20 9 true).run prog w=.ok (.tuple #[(),false]) w:=aj
theorem Ul (x:Bool) (w:World):(Instr.typeAssert (.iface 4 (.bool x)) 20 4 true).run prog w=.ok (.tuple #[x,true]) w:=aj
theorem aGN (x:Bool) (w:World):(Instr.typeAssert (.iface 4 (.bool x)) 20 4 false).run prog w=.ok (.bool x) w:=aj
theorem Ue  (w:World):(Instr.typeAssert (.nilIface) 20 2 true).run prog w=.ok (.tuple #[.int .i64 0,false]) w:=aj
theorem Ud  (w:World):(Instr.typeAssert (.nilIface) 20 9 true).run prog w=.ok (.tuple #[(),false]) w:=aj
theorem Uf  (w:World):(Instr.typeAssert (.nilIface) 20 4 true).run prog w=.ok (.tuple #[false,false]) w:=aj
end Go.Proofs.YtkolcimllghnaaaGreatDoor

namespace Go.Proofs.YtkolcimllghnaaaGreatDoor
open Lp Go.Proofs.Tryz
open Go.RowKit Go.Lib
def Pow (w:World):Prop:=Lib.TabIs prog w "internal/strconv.uint64pow10" .u64 Lib.pow10Tab
theorem uF {w w':World} (h:Pow w) (hb:Below w w w'):Pow w':=by
 have hg:prog.globalNamed "internal/strconv.uint64pow10" = some 5:=by kernel_rfl
 refine var?_below hb hg ?_ h;unfold Pow Lib.TabIs World.var? at h;simp only [hg,Option.bind_some] at h
 by_cases hlt:5<w.heap.size
 ·exact hlt
 ·rw [Array.getElem?_eq_none ac] at h;cases h
theorem Ql {W:World} (h:Lib.VarReads prog W "internal/strconv.uint64pow10" (Lib.tabData .u64 Lib.pow10Tab)):Pow W:=by
 obtain ⟨g,t,cs,fuel,p,hg,hty,hvar,hd⟩:=h;obtain rfl:=Option.some.inj ((show prog.globalNamed "internal/strconv.uint64pow10" = some 5 by kernel_rfl).symm.trans hg);obtain rfl:=Option.some.inj ((show (prog.globals[5]?).map (·.type)=some 302 by kernel_rfl).symm.trans hty);unfold Pow Lib.TabIs;rw [hvar, <-Lib.cells_of_tab underlying302 underlying189 (by kernel_rfl) (by kernel_rfl) hd]
def aAH:DataW Unit->ZU
 | .lit (.int k z)=>[.int k z]
 | _=>[]
def aKQ:DataW Unit->ZU
 | .agg l=>l.flatMap aAH
 | d=>aAH d
def Iy:DataW Unit->ZU
 | .agg l=>l.flatMap aKQ
 | d=>aAH d
theorem aER (n:Int) (w:World) (h:inR n) (hP:Pow w) :
 Calls prog 160 #[.int .i64 n,.int .i64 10] w λe w'=>e=.returned (.string ⟨(Lib.itoa n).toArray⟩)∧Below w w w':=by
 unfold inR at h;refine (Tryz.strconv_FormatInt_10 n ac ac w hP).mono ?_;rintro e w' ⟨he,k,os,hw⟩;subst hw;exact ⟨he,Lib.below_grow _ _ (ν _) _ _⟩
theorem aAI (n:Int) (w:World) (h:inR n) (hP:Pow w) :
 Calls prog 138 #[.int .i64 n] w λe w'=>e=.returned (.string ⟨(Lib.itoa n).toArray⟩)∧Below w w w':=by
 go_enter func138,ntmps138;go_wp2_with fail;refine (aER n w h hP).mono ?_;rintro e w' ⟨rfl,hb⟩;go_wp2;go_ret;exact fg
theorem Py (n:Int) (w:World) (h:inR n) :
 Calls prog 93 #[.int .i64 n] w λe w'=>e=.returned (.int .u64 (mag n))∧w=w':=by
 obtain ⟨h1,h2⟩:=h
 by_cases hn:n<0
 ·rw [aEA hn];go_enter func93,ntmps93;go_wp2;go_ret;exact cm
 ·rw [aDZ hn];have hn':0≤n:=ac
  go_enter func93,ntmps93;go_wp2;go_ret;exact cm
theorem Sb (d:Nat) (h:d<10) (T:ZS):(⟨#[48,49,50,51,52,53,54,55,56,57]⟩:ByteArray).extract d (d+1)++(T:ByteArray)=⟨(tG d::T).toArray⟩:=by
 have e:(⟨#[48,49,50,51,52,53,54,55,56,57]⟩:ByteArray).extract d (d+1)=⟨#[tG d]⟩:=by
  rcases (show d=0∨d=1∨d=2∨d=3∨d=4∨d=5∨d=6∨d=7∨d=8∨d=9 by omega) with rfl|rfl|rfl|rfl|rfl|rfl|rfl|rfl|rfl|rfl<;>rfl
 rw [e];apply ByteArray.ext;simp
theorem Hg (T:ZS):(⟨#[45]⟩:ByteArray)++(T:ByteArray)=⟨(45::T).toArray⟩:=by
 apply ByteArray.ext;simp
theorem Sc {M k:Nat} (h:M<10 ^ (20-k)) (hk:k≤20) (hM:0<M):M / 10<10 ^ (20-(k+1))∧k+1≤20:=by
 have hk2:k<20:=by
  apply Nat.lt_of_le_of_ne hk;intro e;subst e;simp at h;omega
 have e:20-k=(20-(k+1))+1:=ac
 rw [e,Nat.pow_succ] at h;exact ⟨ac,hk2⟩
theorem Gj (n:Int) (w:World) (h:inR n) :
 Calls prog 42 #[.int .i64 n] w λe w'=>e=.returned (.string ⟨(Lib.itoa n).toArray⟩)∧w=w':=by
 have hm:=aEB n;have hml:=Xp h;have hsz:=Py n w h;rw [hm] at hsz hml;obtain ⟨U,hU⟩:∃ U,n.natAbs=U:=cw;rw [hU] at hsz hml;have HU:=κ hU;have HS:=κ hsz;clear hm hU hsz;go_enter func42,ntmps42;go_wp2_with fail;refine (HS.o).mono ?_;rintro e w' ⟨rfl,rfl⟩;go_wp2_with fail
 go_loopg [3,4] (U+1) (λgk s3 s4 wr=>∃ (T:ZS) (M:Nat),w=wr∧s3=.string ⟨T.toArray⟩∧s4=.int .u64 (M:Int)∧M≤9223372036854775808∧T.length≤20∧Hd0 (M<10 ^ (20-T.length))∧Hd0 (zI U T M)∧Hd0 (gk=M+(if T=[] then 1 else 0)))
 case atStart=>exact ⟨[],U,rfl,rfl,rfl,ac,aa,by (show _<_;simp;omega),Sa U,eh⟩
 case round =>
  obtain ⟨T,M,rfl,rfl,rfl,hM,hTl,HB,HD,HG⟩:=dd;have hd0:(0:Int)≤(M:Int) % 10:=ac
  have hd1:(M:Int) % 10+1≤10:=ac
  have hd2:((M:Int) % 10).toNat=M % 10:=ac
  have hd3:((M:Int) % 10+1).toNat=M % 10+1:=ac
  have hp:=Sb (M % 10) ac T
  by_cases hM0:0<M
  ·have HD2:=κ (Ip HD.o (.inl hM0));obtain ⟨hb1,hb2⟩:=Sc HB.o hTl hM0;have HB2:Hd0 (M / 10<10 ^ (20-(tG (M % 10)::T).length)):=by show _<_;rw [List.length_cons];exact hb1
   have hlt:Hd0 (M / 10+0<gk):=by
    show _<_;rw [HG.o];split<;>omega
   have hM1:(0:Int)<(M:Int):=ac
   clear HG HD HB hb1;go_wp2
   go_roundg (M / 10)
   case measure=>have:=hlt.o;omega
   case rel=>exact ⟨tG (M % 10)::T,M / 10,rfl,rfl,rfl,ac,by rw [List.length_cons];exact hb2,HB2,HD2,fw⟩
  ·obtain rfl:M=0:=ac
   by_cases hT:T=[]
   ·subst hT;have HD2:=κ (Ip HD.o (.inr rfl));have hp0:(⟨#[48,49,50,51,52,53,54,55,56,57]⟩:ByteArray).extract 0 1++(⟨#[]⟩:ByteArray)=⟨#[48]⟩:=rfl;have hg:Hd0 (gk=1):=by have:=HG.o;show _=_;simpa using this
    clear HG HD hp;go_wp2
    go_roundg 0
    case measure=>have:=hg.o;omega
    case rel=>exact ⟨[48],0,rfl,rfl,rfl,ac,aa,by (show _<_;simp),HD2,fw⟩
   ·have HE:=κ (aFA HD.o hT);have e1:(T:ByteArray).toList=T:=by rw [ByteArray.toList_eq]
    have hmp:=Hg T;have e2:T.isEmpty=false:=by cases T with|nil=>exact absurd rfl hT|cons=>rfl
    clear HG HD hT hp
    by_cases hn:n<0
    ·have HF:Hd0 ((⟨(45::T).toArray⟩:ByteArray)=⟨(Lib.itoa n).toArray⟩):=by
      show _=_;rw [Lib.itoa,if_pos hn,HU.o,HE.o]
     go_wp2;go_ret;exact ⟨by rw [<-HF.o];rfl,rfl⟩
    ·have HF:Hd0 ((T:ByteArray)=⟨(Lib.itoa n).toArray⟩):=by
      show _=_;rw [Lib.itoa,if_neg hn,show n.toNat=n.natAbs by omega,HU.o,HE.o]
     go_wp2;go_ret;exact ⟨by rw [<-HF.o];rfl,rfl⟩
section
variable {P:Program} {md:Region.Mode} {ops:Array Oper} {Q:Exit->Act->World->Prop} {S T:World->Prop} {k:Nat}
def wpE (P:Program) (md:Region.Mode) (ops:Array Oper) (Q:Exit->Act->World->Prop) (S T:World->Prop) (k:Nat):Nat->Array Bool->Act->World->Prop
 | 0,l,a,w=>Region.ready md ops l=[]∧Q .normal a w
 | n+1,l,a,w=>(Region.ready md ops l=[]->Q .normal a w)∧∀ i∈Region.ready md ops l,wpOp P ops Q i (λa' w'=>(S w'∧((l.setIfInBounds i true).getD k true=false->T w'))∧wpE P md ops Q S T k n (l.setIfInBounds i true) a' w') a w
theorem Mk:∀ (n:Nat) (l:Array Bool) (a:Act) (w:World),wpE P md ops Q S T k n l a w->wpAny P md ops Q n l a w
 | 0,_,_,_,h=>h
 | n+1,_,_,_,h=>⟨h.1,λi hi=>wpOp_mono (λa' w' h'=>Mk n _ a' w' h'.2) (h.2 i hi)⟩
theorem aEQ {l:Array Bool} {i:Nat} (h:l.getD i true=false) (h2:l.getD i false=true):False:=by
 unfold Array.getD at *
 split at h<;>simp_all
theorem Ot {i:Nat} {oi:Oper} {v:Value} {b:Bool} (hi:ops[i]? = some oi) (hsel:∀ (j:Nat) (o:Oper) cs b,ops[j]? = some o->o.op≠.select cs b)
 (hQ:∀ c a w,Q (.panic c) (a.put oi.dst v) w->Q (.panic c) a w) (hki:i≠k) (hb:b=true->∃ ok,ops[k]? = some ok∧∃ e∈ok.after,Region.binds md e=true∧e.on=i) :
 ∀ (n:Nat) (l:Array Bool) (a:Act) (w:World),
  (∀ j oj,ops[j]? = some oj->j≠i->l.getD j true=false->(∀ e∈oj.after,Region.binds md e=true->e.on≠i)->oi.apart ops oj=true) ->
  i∈Region.ready md ops l->(b=true->l.getD k true=false)->YieldsIf P ops (λw=>S w∧(b=true->T w)) oi v a->S w->(l.getD k true=false->T w) ->
  wpE P md ops Q S T k n (l.setIfInBounds i true) (a.put oi.dst v) w->wpE P md ops Q S T k (n+1) l a w:=by
 intro n
 induction n with
 | zero =>
   intro l a w _ hr hk hy hS hT H;refine ⟨λh=>(by rw [h] at hr;cases hr),λj hj => ?_⟩
   by_cases hji:j=i
   ·subst hji;exact qd
   ·have:=ready_mono hj hji;rw [H.1] at this;cases this
 | succ n ih =>
   intro l a w hf hr hk hy hS hT H;refine ⟨λh=>(by rw [h] at hr;cases hr),λj hj => ?_⟩
   by_cases hji:j=i
   ·subst hji;exact qd
   ·have h1:=H.2 j (ready_mono hj hji);obtain ⟨hjun,oj,hoj,hall⟩:=mem_ready.1 hj;have hno:∀ e∈oj.after,Region.binds md e=true->e.on≠i:=λe he hbd heq=>aEQ (mem_ready.1 hr).1 (heq▸hall e he hbd);have h2:=wpOp_putIf hoj (hf j oj hoj hji hjun hno) (λcs b=>hsel i oi cs b hi) (λcs b=>hsel j oj cs b hoj) hQ hy h1;have hk2:b=true->(l.setIfInBounds j true).getD k true=false:=λh=>by
     obtain ⟨ok,hok,e,he,heb,hon⟩:=hb h;have hkj:j≠k:=by
      rintro rfl;rw [hok] at hoj;cases hoj;exact hno e he heb hon
     rw [getD_set_ne true hkj];exact hk h
    have hc:=Array.setIfInBounds_comm (xs:=l) true true (Ne.symm hji);refine wpOp_mono (λa' w' h3 => ?_) h2;rw [hc,getD_set_ne true hki] at h3;refine ⟨h3.2.1,ih (l.setIfInBounds j true) a' w' (λm om hm hmi hun hn=>hf m om hm hmi ?_ hn) (ready_mono hr (Ne.symm hji)) hk2 h3.1 h3.2.1.1 h3.2.1.2 h3.2.2⟩
    by_cases hjm:j=m
    ·subst hjm;exact hjun
    ·rw [getD_set_ne true hjm] at hun;exact hun
theorem eR (T:World->Prop) (k:Nat) {id:Nat} {a:Act} {w:World} (hm:P.follows .mixedOrders=true) (hS:S w.drew) (hT:T w.drew) (h:S w.drew->T w.drew->wpE P .any ops Q S T k ops.size (Array.replicate ops.size false) a w.drew):(Code.region id ops true).wp P Q a w :=
 wp_region_any hm (Mk _ _ _ _ (h hS hT))
def okE (md:Region.Mode) (ops:Array Oper) (l:Array Bool) (i k:Nat) (b:Bool):Bool :=
 Region.noSelect ops&&(Region.free md ops l i&&((Region.ready md ops l).contains i&&(i !=k&&(!b||(!l.getD k true&&(ops[k]?.map (·.after.any λe=>Region.binds md e&&e.on==i)).getD false)))))
theorem tk_ {i d:Nat} {b:Bool} {oi:Oper} {v:Value} {n:Nat} {l:Array Bool} {a:Act} {w:World} (h:wpE P md ops Q S T k n (l.setIfInBounds i true) (a.put (some d) v) w) (hi:ops[i]? = some oi) (hd:oi.dst=some d) (ho:okE md ops l i k b=true) (hQ:∀ c a w,Q (.panic c) (a.put (some d) v) w->Q (.panic c) a w) (hy:YieldsIf P ops (λw=>S w∧(b=true->T w)) oi v a) (hS:S w) (hT:l.getD k true=false->T w):wpE P md ops Q S T k (n+1) l a w:=by
 simp only [okE,Bool.and_eq_true,bne_iff_ne] at ho;obtain ⟨hs,hf,hr,hk⟩:=ho;refine Ot hi (Region.noSelect_spec hs) (by rw [hd];exact hQ) hk.1 (λh => ?_) n l a w (Region.free_spec hi hf) (by simpa using hr) (λh => ?_) hy hS hT (by rw [hd];exact h)
 ·subst h;have:=hk.2;cases hko:ops[k]? with
  | none=>simp [hko] at this
  | some ok =>
    simp only [hko,Bool.not_true,Bool.false_or,Bool.and_eq_true,Option.map_some,Option.getD_some] at this;obtain ⟨e,he,hb⟩:=Array.any_eq_true'.1 this.2;simp only [Bool.and_eq_true,beq_iff_eq] at hb;exact ⟨ok,rfl,e,he,hb⟩
 ·subst h;have:=hk.2;simp only [Bool.not_true,Bool.false_or,Bool.and_eq_true,Bool.not_eq_true'] at this;exact this.1
theorem tkE (b:Bool) (i d:Nat) {oi:Oper} {v:Value} {n:Nat} {l:Array Bool} {a:Act} {w:World} (h:wpE P md ops Q S T k n (l.setIfInBounds i true) (a.put (some d) v) w) (hi:ops[i]? = some oi:=by rfl) (hd:oi.dst=some d:=by rfl) (ho:okE md ops l i k b=true:=by as_aux_lemma=>kernel_rfl) (hQ:∀ c a w,Q (.panic c) (a.put (some d) v) w->Q (.panic c) a w:=by exact λ_ _ _ h=>h) (hw:Region.wanted oi (yielded ops a.tmps)=true:=by rfl)
 (hy:∀ w,S w∧(b=true->T w)->(execOp a.eval oi).run P w=.ok (.value v) w:=by (rintro w ⟨hSw,hTw⟩;(try dsimp only at hSw);(try replace hTw:=hTw rfl);(try dsimp only at hTw);go_simp;try with_reducible rfl)) (hS:S w:=by assumption) (hT:l.getD k true=false->T w:=by first|exact λ_=>by assumption|exact λh=>absurd (h.symm.trans aj) Bool.false_ne_true):wpE P md ops Q S T k (n+1) l a w :=
 tk_ h hi hd ho hQ (.inl ⟨hw,hy⟩) hS hT
theorem tkN (i d:Nat) {oi:Oper} {n:Nat} {l:Array Bool} {a:Act} {w:World} (h:wpE P md ops Q S T k n (l.setIfInBounds i true) (a.put (some d) undef) w) (hi:ops[i]? = some oi:=by rfl) (hd:oi.dst=some d:=by rfl) (ho:okE md ops l i k false=true:=by as_aux_lemma=>kernel_rfl) (hQ:∀ c a w,Q (.panic c) (a.put (some d) undef) w->Q (.panic c) a w:=by exact λ_ _ _ h=>h) (hw:Region.wanted oi (yielded ops a.tmps)=false:=by rfl) (hS:S w:=by assumption) (hT:l.getD k true=false->T w:=by first|exact λ_=>by assumption|exact λh=>absurd (h.symm.trans aj) Bool.false_ne_true):wpE P md ops Q S T k (n+1) l a w :=
 tk_ h hi hd ho hQ (.inr ⟨hw,rfl⟩) hS hT
theorem stE (i:Nat) {oi:Oper} {n:Nat} {l:Array Bool} {a:Act} {w:World} (h:∀ K':Act->World->Prop,Shut (∀ a w,S w->T w->(S w->T w->wpE P md ops Q S T k n (l.setIfInBounds i true) a w)->K' a w)->if Region.wanted oi (yielded ops a.tmps)=true then Oper.wp P oi a w K' Q else K' (a.put oi.dst undef) w) (hi:ops[i]? = some oi:=by rfl) (hr:Region.ready md ops l=[i]:=by as_aux_lemma=>kernel_rfl):wpE P md ops Q S T k (n+1) l a w :=
 ⟨λh0=>qf,λj hj=>by
  rw [hr] at hj;rw [List.mem_singleton.1 hj];exact wpOp_step hi λK' hK=>h K' λa w h1 h2 h3=>hK a w ⟨⟨h1,λ_=>h2⟩,h3 h1 h2⟩⟩
theorem aCE (i j:Nat) {oi oj:Oper} {n:Nat} {l:Array Bool} {a:Act} {w:World} (h:∀ K':Act->World->Prop,Shut (∀ a w,S w->T w->(S w->T w->wpE P md ops Q S T k n (l.setIfInBounds i true) a w)->K' a w)->if Region.wanted oi (yielded ops a.tmps)=true then Oper.wp P oi a w K' Q else K' (a.put oi.dst undef) w) (h2:∀ K':Act->World->Prop,Shut (∀ a w,S w->T w->(S w->T w->wpE P md ops Q S T k n (l.setIfInBounds j true) a w)->K' a w)->if Region.wanted oj (yielded ops a.tmps)=true then Oper.wp P oj a w K' Q else K' (a.put oj.dst undef) w)
 (hi:ops[i]? = some oi:=by rfl) (hj:ops[j]? = some oj:=by rfl) (hr:Region.ready md ops l=[i,j]:=by as_aux_lemma=>kernel_rfl):wpE P md ops Q S T k (n+1) l a w :=
 ⟨λh0=>qf,λm hm=>by
  rw [hr] at hm;rcases List.mem_cons.1 hm with rfl|hm
  ·exact wpOp_step hi λK' hK=>h K' λa w h1 h2 h3=>hK a w ⟨⟨h1,λ_=>h2⟩,h3 h1 h2⟩
  ·rw [List.mem_singleton.1 hm];exact wpOp_step hj λK' hK=>h2 K' λa w h1 h2 h3=>hK a w ⟨⟨h1,λ_=>h2⟩,h3 h1 h2⟩⟩
theorem stL (i:Nat) {oi:Oper} {n:Nat} {l:Array Bool} {a:Act} {w:World} (h:∀ K':Act->World->Prop,Shut (∀ a w,S w->(S w->wpE P md ops Q S T k n (l.setIfInBounds i true) a w)->K' a w)->if Region.wanted oi (yielded ops a.tmps)=true then Oper.wp P oi a w K' Q else K' (a.put oi.dst undef) w) (hi:ops[i]? = some oi:=by rfl) (hr:Region.ready md ops l=[i]:=by as_aux_lemma=>kernel_rfl) (hk:(l.setIfInBounds i true).getD k true=true:=by as_aux_lemma=>kernel_rfl):wpE P md ops Q S T k (n+1) l a w :=
 ⟨λh0=>qf,λj hj=>by
  rw [hr] at hj;rw [List.mem_singleton.1 hj];exact wpOp_step hi λK' hK=>h K' λa w h1 h3=>hK a w ⟨⟨h1,λh=>absurd (h.symm.trans hk) Bool.false_ne_true⟩,h3 h1⟩⟩
theorem dY {l:Array Bool} {a:Act} {w:World} (h:Q .normal a w) (hr:Region.ready md ops l=[]:=by kernel_rfl):∀ n,wpE P md ops Q S T k n l a w
 | 0=>⟨hr,h⟩
 | _+1=>⟨λ_=>h,(by rw [hr];simp)⟩
end
