/-
 bind's risky, any, Safe. Conditions: right expressions.
-/
import Derived.Test.YtkfjmgmjbljnbaaGreatDoorBGE
import Derived.Test.YtkfjmgmjbljnbaaGreatDoorBGC
set_option maxRecDepth 100000
set_option maxHeartbeats 8000000
namespace Go.Proofs.YtkfjmgmjbljnbaaGreatDoor
open Go.RowKit
def riskW : List (List UInt8) := [[110, 101, 103], [43], [45], [42], [47], [37], [83, 85, 77]]
theorem risky_any (g : Nat) (op : List UInt8) (kd : Int) (v : Lp.V) (a : Int) (A : Option Addr) (n c : Nat) (w : World) (h : w.heap[g]? = some (.cells (ndv op kd v a A n c) 66 (0, 0))) :
 Calls Tryz.prog 47 #[ptr g] w fun e w' => e = .returned (.bool (hasW riskW op)) ∧ Below w.heap.size w w' := by
 have hb0 : Below w.heap.size w (w.alloc (.cells #[.string ⟨#[110, 101, 103]⟩, .string ⟨#[43]⟩, .string ⟨#[45]⟩, .string ⟨#[42]⟩, .string ⟨#[47]⟩, .string ⟨#[37]⟩, .string ⟨#[83, 85, 77]⟩] 9)) := (Below.refl _ _).alloc (Nat.le_refl _) _
 have hw : WdsAt (w.alloc (.cells #[.string ⟨#[110, 101, 103]⟩, .string ⟨#[43]⟩, .string ⟨#[45]⟩, .string ⟨#[42]⟩, .string ⟨#[47]⟩, .string ⟨#[37]⟩, .string ⟨#[83, 85, 77]⟩] 9)) w.heap.size riskW := by
  intro j u hu
  rw [box_cells (heap_alloc_new w _) j, ← hu]
  simp [wv, riskW]
 have HC := Lib.hid (contains_any w.heap.size 7 riskW ⟨op.toArray⟩ _ hw (by decide))
 have hc := box_cells (box_below h hb0)
 simp only [ndv] at hc
 have HB := Lib.hid hb0
 rw [show (⟨op.toArray⟩ : ByteArray).data.toList = op from rfl] at HC
 generalize hasW riskW op = b at *
 clear h hw hb0
 unfold ptr
 go_enter Tryz.func47, Tryz.ntmps47
 go_wp2_with fail
 refine HC.out.mono ?_
 rintro e w' ⟨rfl, rfl⟩
 go_wp2
 go_ret
 exact ⟨rfl, HB.out⟩
def AnyOk (sc : List Lp.Tb) (x : Lp.X) : Prop := ∀ (S : Nat → Prop) (W : World) (g : Nat), NT S W sc x g → Calls Tryz.prog 46 #[ptr g, .func (.func 47) #[] #[]] W fun e w' => e = .returned (.bool (!Lp.safeX x)) ∧ Below W.heap.size W w'
theorem any1_any (g bx : Nat) (b : Bool) (w : World) (hb : w.heap[bx]? = some (.cells #[.func (.func 47) #[] #[]] 47 (0, 0)))
 (h : Calls Tryz.prog 46 #[ptr g, .func (.func 47) #[] #[]] w fun e w' => e = .returned (.bool b) ∧ Below w.heap.size w w') :
 Calls Tryz.prog 92 #[ptr g, .pointer (some ⟨bx, 0, none⟩)] w fun e w' => e = .returned (.bool b) ∧ Below w.heap.size w w' := by
 have hc := box_cells hb 0
 have H := Lib.hid h
 clear h hb
 unfold ptr at *
 go_enter Tryz.func92, Tryz.ntmps92
 go_wp2_with fail
 refine H.out.mono ?_
 rintro e w' ⟨rfl, hb⟩
 go_wp2
 go_ret
 exact ⟨rfl, hb⟩
theorem any_node (sc : List Lp.Tb) (op : List UInt8) (kd : Int) (v : Lp.V) (a : Int) (A : Option Addr) (c g : Nat) (xs : List Lp.X) (gs : List Nat) (S : Nat → Prop) (w : World) (h : w.heap[g]? = some (.cells (ndv op kd v a A gs.length c) 66 (0, 0))) (hp : Rds w A (gs.map ptr)) (hn : gs.length ≤ 10) (hl : xs.length = gs.length)
 (hx : ∀ (j : Nat) (x : Lp.X) (k : Nat), xs[j]? = some x → gs[j]? = some k → NT S w sc x k) (ho : ∀ x ∈ xs, AnyOk sc x) :
 Calls Tryz.prog 46 #[ptr g, .func (.func 47) #[] #[]] w fun e w' => e = .returned (.bool (hasW riskW op || xs.any fun x => !Lp.safeX x)) ∧ Below w.heap.size w w' := by
 have hb0 : Below w.heap.size w (w.alloc (.cells #[.func (.func 47) #[] #[]] 47)) := (Below.refl _ _).alloc (Nat.le_refl _) _
 have hz0 := heap_alloc_new w (.cells #[.func (.func 47) #[] #[]] 47)
 have HR := Lib.hid (risky_any g op kd v a A gs.length c _ (box_below h hb0))
 have HC := Lib.hid (fun (W : World) (hb : Below w.heap.size w W) (hz : W.heap[w.heap.size]? = some (.cells #[.func (.func 47) #[] #[]] 47 (0, 0))) => contains_nodes 92 (fun _ _ => rfl) (.pointer (some ⟨w.heap.size, 0, none⟩)) A c gs (xs.map fun x => !Lp.safeX x) W (hp.below hb) (by rw [List.length_map]; exact hl) hn (by
  intro j k b hj hbj wr hwr
  rw [List.getElem?_map, Option.map_eq_some_iff] at hbj
  obtain ⟨x, hxj, rfl⟩ := hbj
  exact any1_any k w.heap.size _ wr (box_below hz hwr) (ho x (List.mem_of_getElem? hxj) S wr k ((hx j x k hxj hj).below (hb.trans (hwr.mono hb.size))))))
 rw [List.any_map] at HC
 have HG := Lib.hid (And.intro h (And.intro hb0 hz0))
 have e1 : (xs.any (id ∘ fun x => !Lp.safeX x)) = xs.any fun x => !Lp.safeX x := rfl
 rw [e1] at HC
 generalize (xs.any fun x => !Lp.safeX x) = bb at *
 generalize hasW riskW op = b at *
 clear h hp hx ho hb0 hz0 e1
 unfold ptr at *
 go_enter Tryz.func46, Tryz.ntmps46
 go_wp2_with fail
 refine HR.out.mono ?_
 rintro e w1 ⟨rfl, hb1⟩
 have hk1 := HG.out.2.1.trans (hb1.mono HG.out.2.1.size)
 cases b
 ·have hz1 := box_below HG.out.2.2 hb1
  have hc := box_cells (box_below HG.out.1 hk1)
  simp only [ndv] at hc
  have HC2 := Lib.hid (HC.out w1 hk1 hz1)
  have HK := Lib.hid hk1
  clear hz1 hb1 hk1
  go_wp2_with fail
  refine HC2.out.mono ?_
  rintro e w2 ⟨rfl, hb2⟩
  have HB2 := Lib.hid (HK.out.trans (hb2.mono HK.out.size))
  clear hb2
  go_wp2
  go_ret
  exact ⟨by simp, HB2.out⟩
 ·have HK := Lib.hid hk1
  clear hb1 hk1
  go_wp2
  go_ret
  exact ⟨by simp, HK.out⟩
theorem prts_rds {S : Nat → Prop} {w : World} {A : Option Addr} {gs : List Nat} (h : Prts S w A gs) : Rds w A (gs.map ptr) := by
 obtain ⟨b, off, rfl, -, hc⟩ := h
 exact .inr ⟨b, off, rfl, hc⟩
theorem any_all (sc : List Lp.Tb) : ∀ x : Lp.X, x.wf → AnyOk sc x := by
 intro x
 have leaf : ∀ {op : List UInt8} {kd : Int} {v : Lp.V} {a : Int} {g : Nat} {w : World}, hasW riskW op = false → w.heap[g]? = some (.cells (ndv op kd v a none 0 0) 66 (0, 0)) → Calls Tryz.prog 46 #[ptr g, .func (.func 47) #[] #[]] w fun e w' => e = .returned (.bool false) ∧ Below w.heap.size w w' := by
  intro op kd v a g w hop h
  have := any_node sc op kd v a none 0 g [] [] (fun _ => True) w h Rds.nil_ (by simp) rfl (fun j x k hj _ => by simp at hj) (fun x hx => by cases hx)
  rw [hop] at this
  exact this
 have one : ∀ {op : List UInt8} {kd : Int} {v : Lp.V} {a : Int} {A : Option Addr} {c g g1 : Nat} {x : Lp.X} {S : Nat → Prop} {w : World} {r : Bool}, (hasW riskW op || !Lp.safeX x) = r → w.heap[g]? = some (.cells (ndv op kd v a A 1 c) 66 (0, 0)) → Prts S w A [g1] → NT S w sc x g1 → AnyOk sc x →
  Calls Tryz.prog 46 #[ptr g, .func (.func 47) #[] #[]] w fun e w' => e = .returned (.bool r) ∧ Below w.heap.size w w' := by
  intro op kd v a A c g g1 x S w r hr h hp hx ho
  have := any_node sc op kd v a A c g [x] [g1] S w h (prts_rds hp) (by simp) rfl (fun j y k hj hk => by
   cases j with
   | zero => simp at hj hk; subst hj hk; exact hx
   | succ j => simp at hj) (fun y hy => by rw [List.mem_singleton] at hy; rw [hy]; exact ho)
  rw [show ([x].any fun x => !Lp.safeX x) = !Lp.safeX x by simp, hr] at this
  exact this
 induction x with
 | lit k i s b => intro _ S w g h; exact leaf (by decide) h.2
 | col t s => intro _ S w g h; obtain ⟨-, p, -, h⟩ := h; exact leaf (by decide) h
 | un op x ih =>
   intro hw S w g h
   obtain ⟨-, A, c, g1, h1, h2, h3⟩ := h
   refine one ?_ h1 h2 h3 (ih hw.2)
   rcases hw.1 with rfl | rfl
   ·show (hasW riskW (unN Lp.uNot) || !Lp.safeX x) = !(Lp.uNot == Lp.uNot && Lp.safeX x)
    rw [show hasW riskW (unN Lp.uNot) = false by decide, show (Lp.uNot == Lp.uNot) = true by decide]
    simp
   ·show (hasW riskW (unN [45]) || !Lp.safeX x) = !(([45] : List UInt8) == Lp.uNot && Lp.safeX x)
    rw [show hasW riskW (unN [45]) = true by decide, show (([45] : List UInt8) == Lp.uNot) = false by decide]
    simp
 | bin op a b iha ihb =>
   intro hw S w g h
   obtain ⟨-, A, c, g1, g2, h1, h2, h3, h4⟩ := h
   have := any_node sc op _ _ _ A c g [a, b] [g1, g2] S w h1 (prts_rds h2) (by simp) rfl (fun j y k hj hk => by
    match j with
    | 0 => simp at hj hk; subst hj hk; exact h3
    | 1 => simp at hj hk; subst hj hk; exact h4
    | j + 2 => simp at hj) (fun y hy => by
    rcases List.mem_cons.1 hy with rfl | hy
    ·exact iha hw.2.1
    ·rw [List.mem_singleton] at hy; rw [hy]; exact ihb hw.2.2)
   have hop : ∀ o ∈ Lp.binOps, hasW riskW o = Lp.riskB o := by decide
   rw [hop op hw.1, show ([a, b].any fun x => !Lp.safeX x) = (!Lp.safeX a || !Lp.safeX b) by simp] at this
   rw [show (!Lp.safeX (.bin op a b)) = (Lp.riskB op || (!Lp.safeX a || !Lp.safeX b)) by
    show (!(!Lp.riskB op && Lp.safeX a && Lp.safeX b)) = _
    cases Lp.riskB op <;> cases Lp.safeX a <;> cases Lp.safeX b <;> rfl]
   exact this
 | isn n x ih =>
   intro hw S w g h
   obtain ⟨-, A, c, g1, h1, h2, h3⟩ := h
   refine one ?_ h1 h2 h3 (ih hw)
   rw [show hasW riskW (isN n) = false by cases n <;> decide]
   rfl
 | agg op x ih =>
   intro hw S w g h
   obtain ⟨-, A, c, g1, h1, h2, h3⟩ := h
   refine one ?_ h1 h2 h3 (ih hw.2)
   have hop : ∀ o ∈ Lp.aggOps, hasW riskW o = (o == Lp.uSum) := by decide
   rw [hop op hw.1]
   show (op == Lp.uSum || !Lp.safeX x) = !(!(op == Lp.uSum) && Lp.safeX x)
   cases (op == Lp.uSum) <;> cases Lp.safeX x <;> rfl
 | cnt => intro _ S w g h; exact leaf (by decide) h.2
theorem safe_any (sc : List Lp.Tb) (x : Lp.X) (hw : x.wf) (S : Nat → Prop) (g : Nat) (w : World) (hnt : NT S w sc x g) :
 Calls Tryz.prog 21 #[ptr g] w fun e w' => e = .returned (.bool (Lp.safeX x)) ∧ Below w.heap.size w w' := by
 have H := Lib.hid (any_all sc x hw S w g hnt)
 have e : (!(!Lp.safeX x)) = Lp.safeX x := by simp
 rw [← e]
 generalize (!Lp.safeX x) = b at *
 clear hnt hw e
 unfold ptr at *
 go_enter Tryz.func21, Tryz.ntmps21
 go_wp2_with fail
 refine H.out.mono ?_
 rintro e w' ⟨rfl, hb⟩
 go_wp2
 go_ret
 exact ⟨rfl, hb⟩
end Go.Proofs.YtkfjmgmjbljnbaaGreatDoor
