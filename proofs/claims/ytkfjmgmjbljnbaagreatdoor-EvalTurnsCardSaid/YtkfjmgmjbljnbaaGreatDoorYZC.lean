/-
 Contracts and laws, joined. Conditions: those of each.
-/
import Derived.Test.YtkfjmgmjbljnbaaGreatDoorYPlainEval
import Derived.Test.YtkfjmgmjbljnbaaGreatDoorYGB
namespace Go.Proofs.YtkfjmgmjbljnbaaGreatDoor.Lp
theorem less_asym : ∀ a b : List UInt8, Op.bytesLess a b = true → Op.bytesLess b a = false
 | a, [], h => by rw [less_nil_r] at h; cases h
 | [], y :: b, _ => less_nil_r _
 | x :: a, y :: b, h => by
   rw [less_cons] at h ⊢
   simp only [Bool.or_eq_true, decide_eq_true_iff, Bool.and_eq_true, beq_iff_eq] at h
   rcases h with h | ⟨rfl, h⟩
   ·rw [Bool.or_eq_false_iff]
    have h1 : ¬ y < x := by rw [UInt8.lt_iff_toNat_lt] at *; omega
    have h2 : (y == x) = false := by rw [beq_eq_false_iff_ne]; rintro rfl; rw [UInt8.lt_iff_toNat_lt] at h; omega
    exact ⟨by simpa using h1, by rw [h2]; rfl⟩
   ·rw [Bool.or_eq_false_iff]
    exact ⟨by simp [UInt8.lt_irrefl], by rw [less_asym a b h]; simp⟩
theorem cmpI_turn (a b : Int) : cmpI b a = - cmpI a b := by
 unfold cmpI
 repeat' split
 all_goals omega
theorem cmpS_turn (a b : List UInt8) : cmpS b a = - cmpS a b := by
 unfold cmpS
 cases h1 : Op.bytesLess a b
 ·cases h2 : Op.bytesLess b a <;> simp
 ·have := less_asym a b h1
  rw [this]; simp
theorem vord_turn (u v : V) (h : u.k = v.k) : vord v u = - vord u v := by
 unfold vord
 rw [h]
 simp only [if_true]
 repeat' split
 ·exact cmpI_turn _ _
 ·exact cmpS_turn _ _
 ·exact cmpI_turn _ _
 ·rfl
theorem cmpB_turn (u v : V) : cmpB v u = cmpB u v := by
 unfold cmpB
 rw [Bool.and_comm (isK v.k), show decide (v.k = u.k) = decide (u.k = v.k) from by congr 1; exact propext ⟨Eq.symm, Eq.symm⟩]
theorem cmpE_turn (u v : V) : cmpE v u = cmpE u v := by
 unfold cmpE
 rw [Bool.and_comm (isK v.k), show decide (v.k = u.k) = decide (u.k = v.k) from by congr 1; exact propext ⟨Eq.symm, Eq.symm⟩]
theorem cmpV_turn (u v : V) : cmpV v u = - cmpV u v := by
 unfold cmpV
 rw [Bool.and_comm (isK v.k), show decide (v.k = u.k) = decide (u.k = v.k) from by congr 1; exact propext ⟨Eq.symm, Eq.symm⟩]
 split
 ·rename_i h
  simp only [Bool.and_eq_true, decide_eq_true_iff] at h
  exact vord_turn u v h.2
 ·rfl
theorem cmp_turn (u v : V) : cmpX [62] v u = cmpX [60] u v := by
 unfold cmpX
 rw [cmpE_turn, cmpB_turn, cmpV_turn]
 have e : standsX [62] (- cmpV u v) = standsX [60] (cmpV u v) := by
  unfold standsX
  rw [if_neg (by decide), if_neg (by decide), if_neg (by decide), if_neg (by decide), if_pos rfl, if_neg (by decide), if_neg (by decide), if_pos rfl]
  rw [decide_eq_decide]
  omega
 rw [e]
theorem bin_cmp {op : List UInt8} (h : op = [60] ∨ op = [62] ∨ op = [62, 61]) (u v : V) : binX op u v = cmpX op u v := by
 unfold binX
 rcases h with rfl | rfl | rfl <;> rw [if_neg (by decide), if_neg (by decide), if_neg (by decide)]
theorem eval_turn (sc : List Tb) (x y : X) (row : List V) (rows : List (List V)) :
 ((evalX sc (.bin [60] x y) row rows).2 = 0 ↔ (evalX sc (.bin [62] y x) row rows).2 = 0) ∧ ((evalX sc (.bin [60] x y) row rows).2 = 0 → (evalX sc (.bin [60] x y) row rows).1 = (evalX sc (.bin [62] y x) row rows).1) := by
 show ((thenV (evalX sc x row rows) fun u => thenV (evalX sc y row rows) (binX [60] u)).2 = 0 ↔ (thenV (evalX sc y row rows) fun u => thenV (evalX sc x row rows) (binX [62] u)).2 = 0) ∧
  ((thenV (evalX sc x row rows) fun u => thenV (evalX sc y row rows) (binX [60] u)).2 = 0 → (thenV (evalX sc x row rows) fun u => thenV (evalX sc y row rows) (binX [60] u)).1 = (thenV (evalX sc y row rows) fun u => thenV (evalX sc x row rows) (binX [62] u)).1)
 generalize evalX sc x row rows = p
 generalize evalX sc y row rows = q
 obtain ⟨u, e⟩ := p
 obtain ⟨v, f⟩ := q
 unfold thenV
 by_cases h1 : e = 0
 ·by_cases h2 : f = 0
  ·simp only [h1, h2, if_true]
   rw [bin_cmp (.inl rfl), bin_cmp (.inr (.inl rfl)), cmp_turn]
   exact ⟨Iff.rfl, fun _ => rfl⟩
  ·exact ⟨by simp [h1, h2], fun h => by simp [h1, h2] at h⟩
 ·by_cases h2 : f = 0
  ·exact ⟨by simp [h1, h2], fun h => by simp [h1] at h⟩
  ·exact ⟨by simp [h1, h2], fun h => by simp [h1] at h⟩
theorem not_ge (u v : V) (_h1 : (cmpX [60] u v).2 = 0) (_h2 : (unX uNot (cmpX [62, 61] u v).1).2 = 0) : (unX uNot (cmpX [62, 61] u v).1).1 = (cmpX [60] u v).1 := by
 unfold cmpX at *
 by_cases h : cmpE u v = 0 ∧ cmpB u v = true
 ·simp only [if_pos h] at *
  have e : standsX [62, 61] (cmpV u v) = !standsX [60] (cmpV u v) := by
   unfold standsX
   rw [if_neg (by decide), if_neg (by decide), if_neg (by decide), if_neg (by decide), if_neg (by decide), if_neg (by decide), if_neg (by decide), if_pos rfl]
   rw [Bool.eq_iff_iff]
   simp
  rw [e]
  cases standsX [60] (cmpV u v) <;> rfl
 ·simp only [if_neg h] at *
  rfl
theorem eval_not (sc : List Tb) (x y : X) (row : List V) (rows : List (List V)) (h1 : (evalX sc (.bin [60] x y) row rows).2 = 0) (h2 : (evalX sc (.un uNot (.bin [62, 61] x y)) row rows).2 = 0) :
 (evalX sc (.bin [60] x y) row rows).1 = (evalX sc (.un uNot (.bin [62, 61] x y)) row rows).1 := by
 revert h1 h2
 show (thenV (evalX sc x row rows) fun u => thenV (evalX sc y row rows) (binX [60] u)).2 = 0 → (thenV (thenV (evalX sc x row rows) fun u => thenV (evalX sc y row rows) (binX [62, 61] u)) (unX uNot)).2 = 0 →
  (thenV (evalX sc x row rows) fun u => thenV (evalX sc y row rows) (binX [60] u)).1 = (thenV (thenV (evalX sc x row rows) fun u => thenV (evalX sc y row rows) (binX [62, 61] u)) (unX uNot)).1
 generalize evalX sc x row rows = p
 generalize evalX sc y row rows = q
 obtain ⟨u, e⟩ := p
 obtain ⟨v, f⟩ := q
 unfold thenV
 by_cases h1 : e = 0
 ·by_cases h2 : f = 0
  ·simp only [h1, h2, if_true]
   rw [bin_cmp (.inl rfl), bin_cmp (.inr (.inr rfl))]
   intro h3 h4
   by_cases h5 : (cmpX [62, 61] u v).2 = 0
   ·rw [if_pos h5] at h4 ⊢
    exact (not_ge u v h3 h4).symm
   ·rw [if_neg h5] at h4
    exact absurd h4 h5
  ·intro h3
   simp [h1, h2] at h3
 ·intro h3
  simp [h1] at h3
end Go.Proofs.YtkfjmgmjbljnbaaGreatDoor.Lp
namespace Go.Proofs.YtkfjmgmjbljnbaaGreatDoor.Lp
def CutB (x : UInt8) : Prop := wordB x = false ∧ isDig x = false ∧ x ≠ 39 ∧ ∀ c, twoB c x = false
theorem cut41 : CutB 41 := ⟨by decide, by decide, by decide, fun c => by unfold twoB; simp⟩
theorem nextT_cut {x : UInt8} (hx : CutB x) (c : UInt8) (r m : List UInt8) (h0 : (nextT (c :: r)).2.2 = 0) : nextT (c :: r ++ x :: m) = nextT (c :: r) := by
 obtain ⟨b1, b2, b3, b4⟩ := hx
 rw [List.cons_append]
 cases h1 : letB c
 ·cases h2 : isDig c
  ·by_cases h3 : c = 39
   ·subst h3
    rw [nextT_text] at h0
    rw [nextT_text, nextT_text]
    cases ht : txt r with
    | none => rw [ht] at h0; cases h0
    | some p => rw [txt_stop b3 m r.length r p (Nat.le_refl _) ht]
   ·have hs := signN_stop b4 c r m
    rw [List.cons_append] at hs
    have hl := signN_le (c :: r)
    rw [nextT_sign _ h1 h2 h3, nextT_sign _ h1 h2 h3, hs]
    by_cases g : signN (c :: r) = 0
    ·rw [if_pos g, if_pos g]
    ·rw [if_neg g, if_neg g, ← List.cons_append, List.take_append_of_le_length hl]
  ·have ht := takeWhile_stop b2 m (c :: r)
   rw [List.cons_append] at ht
   rw [nextT_num _ h1 h2, nextT_num _ h1 h2, ht]
 ·have ht := takeWhile_stop b1 m (c :: r)
  rw [List.cons_append] at ht
  rw [nextT_word _ h1, nextT_word _ h1, ht]
theorem splA_cut {x : UInt8} (hx : CutB x) (m : List UInt8) : ∀ (k : Nat) (acc : List Tok) (l : List UInt8), l.length ≤ k → (splA [] l).2 = 0 → splA acc (l ++ x :: m) = splA (acc ++ (splA [] l).1) (x :: m)
 | k, acc, [], _, _ => by
   rw [List.nil_append, splA_nil]; simp
 | 0, acc, c :: r, hk, _ => by simp at hk
 | k + 1, acc, c :: r, hk, h => by
   simp only [List.length_cons] at hk
   cases hb : blankB c
   ·by_cases h0 : (nextT (c :: r)).2.2 = 0
    ·have h1 := nextT_n h0
     have hst := nextT_cut hx c r m h0
     have hl : ((c :: r).drop (nextT (c :: r)).2.1).length ≤ k := by rw [List.length_drop, List.length_cons]; omega
     rw [splA_tok [] hb h0, splA_acc k _ _ hl] at h
     have h2 : (splA [] ((c :: r).drop (nextT (c :: r)).2.1)).2 = 0 := by
      by_cases g : (splA [] ((c :: r).drop (nextT (c :: r)).2.1)).2 = 0
      ·exact g
      ·rw [if_neg g] at h; exact h
     have e1 : (c :: r ++ x :: m).drop (nextT (c :: r)).2.1 = (c :: r).drop (nextT (c :: r)).2.1 ++ x :: m := by
      rw [List.drop_append_of_le_length (by rw [List.length_cons]; omega)]
     have := splA_cut hx m k (acc ++ [(nextT (c :: r)).1]) _ hl h2
     rw [splA_tok [] hb h0, splA_acc k _ _ hl, if_pos h2]
     have h3 : splA acc (c :: r ++ x :: m) = splA (acc ++ [(nextT (c :: r)).1]) ((c :: r ++ x :: m).drop (nextT (c :: r)).2.1) := by
      rw [List.cons_append] at hst ⊢
      rw [splA_tok acc hb (by rw [hst]; exact h0), hst]
     rw [h3, e1, this]
     simp
    ·rw [splA_err [] hb h0] at h; exact absurd h h0
   ·rw [splA_blank [] r hb] at h ⊢
    rw [List.cons_append, splA_blank acc _ hb]
    exact splA_cut hx m k acc r (by omega) h
def rp : Tok := ⟨4, [41], 0⟩
theorem isF_more {s : List UInt8} (hs : s ≠ [41]) (l M : List Tok) : isF s (l ++ rp :: M) = isF s l := by
 cases l with
 | nil =>
   show (([41] : List UInt8) == s && _) = false
   rw [beq_eq_false_iff_ne.2 (Ne.symm hs)]; rfl
 | cons t r => rfl
theorem isF_more_yes {s : List UInt8} {l : List Tok} (h : isF s l = true) (M : List Tok) : isF s (l ++ M) = true := by
 obtain ⟨t, r, rfl⟩ := isF_ne h
 exact h
theorem tail_more {s : List UInt8} {l : List Tok} (h : isF s l = true) (M : List Tok) : (l ++ M).tail = l.tail ++ M := by
 obtain ⟨t, r, rfl⟩ := isF_ne h
 rfl
theorem needF_more {s : List UInt8} {l r : List Tok} (h : needF s l = some r) (M : List Tok) : needF s (l ++ M) = some (r ++ M) := by
 unfold needF at h ⊢
 by_cases h1 : isF s l = true
 ·rw [if_pos h1] at h
  injection h with h
  rw [if_pos (isF_more_yes h1 M), tail_more h1, h]
 ·rw [if_neg h1] at h; cases h
theorem nameF_more {l r : List Tok} {n : List UInt8} (h : nameF l = some (n, r)) (M : List Tok) : nameF (l ++ M) = some (n, r ++ M) := by
 cases l with
 | nil => cases h
 | cons t r' =>
   simp only [nameF, List.cons_append] at h ⊢
   by_cases h1 : t.k = 1 ∧ resB t.s = false ∧ t.s.length ≤ 20
   ·rw [if_pos h1] at h ⊢
    simp only [Option.some.injEq, Prod.mk.injEq] at h
    rw [h.1, h.2]
   ·rw [if_neg h1] at h; cases h
theorem colF_more {l r : List Tok} {x : X} (h : colF l = some (x, r)) (M : List Tok) : colF (l ++ rp :: M) = some (x, r ++ rp :: M) := by
 unfold colF at h ⊢
 cases h1 : nameF l with
 | none => rw [h1] at h; cases h
 | some p =>
   obtain ⟨n, r1⟩ := p
   rw [h1] at h
   rw [nameF_more h1]
   simp only at h ⊢
   rw [isF_more (by decide)]
   by_cases h2 : isF [46] r1 = true
   ·rw [if_pos h2] at h ⊢
    rw [tail_more h2]
    cases h3 : nameF r1.tail with
    | none => rw [h3] at h; cases h
    | some p =>
      obtain ⟨m, r2⟩ := p
      rw [h3] at h
      rw [nameF_more h3]
      simp only [Option.some.injEq, Prod.mk.injEq] at h ⊢
      exact ⟨h.1, by rw [h.2]⟩
   ·rw [if_neg h2] at h ⊢
    simp only [Option.some.injEq, Prod.mk.injEq] at h ⊢
    exact ⟨h.1, by rw [h.2]⟩
theorem nullF_more {l r : List Tok} {b : Bool} (h : nullF l = some (b, r)) (M : List Tok) : nullF (l ++ rp :: M) = some (b, r ++ rp :: M) := by
 unfold nullF at h ⊢
 rw [isF_more (by decide)]
 by_cases h1 : isF wNot l = true
 ·rw [if_pos h1] at h ⊢
  obtain ⟨r1, h2, h3⟩ := Option.map_eq_some_iff.1 h
  simp only [Prod.mk.injEq] at h3
  rw [tail_more h1, needF_more h2, ← h3.1, ← h3.2]; rfl
 ·rw [if_neg h1] at h ⊢
  obtain ⟨r1, h2, h3⟩ := Option.map_eq_some_iff.1 h
  simp only [Prod.mk.injEq] at h3
  rw [needF_more h2, ← h3.1, ← h3.2]; rfl
theorem ops_rp : ∀ lev : Nat, ∀ s ∈ opsL lev, s ≠ [41] := by
 intro lev
 unfold opsL
 split <;> decide
theorem find_congr {α : Type} {p q : α → Bool} : ∀ {l : List α}, (∀ a ∈ l, p a = q a) → l.find? p = l.find? q
 | [], _ => rfl
 | a :: l, h => by
   rw [List.find?_cons, List.find?_cons, h a (by simp), find_congr (fun b hb => h b (by simp [hb]))]
theorem signF_more (lev : Nat) (l M : List Tok) : signF lev (l ++ rp :: M) = signF lev l := find_congr fun s hs => isF_more (ops_rp lev s hs) l M
mutual
theorem px_deep : ∀ (f lev d e : Nat) (l : List Tok) (p : X × List Tok), d ≤ e → px f lev e l = some p → px f lev d l = some p
 | 0, _, _, _, _, _, _, h => by simp [px] at h
 | f + 1, lev, d, e, l, p, hd, h => by
   unfold px at h ⊢
   by_cases h3 : lev = 3
   ·rw [if_pos h3] at h ⊢
    by_cases h1 : isF wNot l = true
    ·rw [if_pos h1] at h ⊢
     by_cases h4 : e + 1 ≤ 40
     ·rw [if_pos h4] at h
      rw [if_pos (show d + 1 ≤ 40 by omega)]
      obtain ⟨q, h5, h6⟩ := Option.map_eq_some_iff.1 h
      rw [px_deep f 3 (d + 1) (e + 1) _ _ (by omega) h5, ← h6]; rfl
     ·rw [if_neg h4] at h; cases h
    ·rw [if_neg h1] at h ⊢
     exact px_deep f 4 d e l p hd h
   ·rw [if_neg h3] at h ⊢
    by_cases h7 : lev = 7
    ·rw [if_pos h7] at h ⊢
     by_cases h1 : isF [45] l = true
     ·rw [if_pos h1] at h ⊢
      by_cases h4 : e + 1 ≤ 40
      ·rw [if_pos h4] at h
       rw [if_pos (show d + 1 ≤ 40 by omega)]
       obtain ⟨q, h5, h6⟩ := Option.map_eq_some_iff.1 h
       rw [px_deep f 7 (d + 1) (e + 1) _ _ (by omega) h5, ← h6]; rfl
      ·rw [if_neg h4] at h; cases h
     ·rw [if_neg h1] at h ⊢
      exact px_deep f 8 d e l p hd h
    ·rw [if_neg h7] at h ⊢
     by_cases h8 : lev = 8
     ·rw [if_pos h8] at h ⊢
      exact pa_deep f d e l p hd h
     ·rw [if_neg h8] at h ⊢
      cases hq : px f (lev + 1) e l with
      | none => rw [hq] at h; cases h
      | some q =>
        rw [hq] at h
        rw [px_deep f (lev + 1) d e l q hd hq]
        exact pl_deep f lev d e _ _ _ p hd h
theorem pl_deep : ∀ (f lev d e : Nat) (x : X) (done : Bool) (l : List Tok) (p : X × List Tok), d ≤ e → pl f lev e x done l = some p → pl f lev d x done l = some p
 | 0, _, _, _, _, _, _, _, _, h => by simp [pl] at h
 | f + 1, lev, d, e, x, done, l, p, hd, h => by
   unfold pl at h ⊢
   cases hs : (if done then none else signF lev l) with
   | some s =>
     rw [hs] at h
     simp only at h ⊢
     cases hq : px f (lev + 1) e l.tail with
     | none => rw [hq] at h; cases h
     | some q =>
       rw [hq] at h
       rw [px_deep f (lev + 1) d e _ q hd hq]
       exact pl_deep f lev d e _ _ _ p hd h
   | none =>
     rw [hs] at h
     simp only at h ⊢
     by_cases h1 : lev = 4 ∧ isF wIs l = true
     ·rw [if_pos h1] at h ⊢
      cases hq : nullF l.tail with
      | none => rw [hq] at h; cases h
      | some q =>
        rw [hq] at h
        exact pl_deep f lev d e _ _ _ p hd h
     ·rw [if_neg h1] at h ⊢
      exact h
theorem pa_deep : ∀ (f d e : Nat) (l : List Tok) (p : X × List Tok), d ≤ e → pa f e l = some p → pa f d l = some p
 | 0, _, _, _, _, _, h => by simp [pa] at h
 | f + 1, d, e, [], _, _, h => by simp [pa] at h
 | f + 1, d, e, t :: r, p, hd, h => by
   unfold pa at h ⊢
   by_cases h1 : t.k = 2
   ·rw [if_pos h1] at h ⊢; exact h
   rw [if_neg h1] at h ⊢
   by_cases h2 : t.k = 3
   ·rw [if_pos h2] at h ⊢; exact h
   rw [if_neg h2] at h ⊢
   by_cases h3 : isF wNull (t :: r) = true
   ·rw [if_pos h3] at h ⊢; exact h
   rw [if_neg h3] at h ⊢
   by_cases h4 : isF wTrue (t :: r) = true
   ·rw [if_pos h4] at h ⊢; exact h
   rw [if_neg h4] at h ⊢
   by_cases h5 : isF wFalse (t :: r) = true
   ·rw [if_pos h5] at h ⊢; exact h
   rw [if_neg h5] at h ⊢
   by_cases h6 : isF [40] (t :: r) = true
   ·rw [if_pos h6] at h ⊢
    by_cases h7 : e + 1 ≤ 40
    ·rw [if_pos h7] at h
     rw [if_pos (show d + 1 ≤ 40 by omega)]
     cases hq : px f 1 (e + 1) r with
     | none => rw [hq] at h; cases h
     | some q =>
       rw [hq] at h
       rw [px_deep f 1 (d + 1) (e + 1) r q (by omega) hq]
       exact h
    ·rw [if_neg h7] at h; cases h
   rw [if_neg h6] at h ⊢
   by_cases h8 : (isF wCount (t :: r) || isF wSum (t :: r) || isF wMin (t :: r) || isF wMax (t :: r)) = true
   ·rw [if_pos h8] at h ⊢
    by_cases h7 : e + 1 ≤ 40
    ·rw [if_pos h7] at h
     rw [if_pos (show d + 1 ≤ 40 by omega)]
     cases hn : needF [40] r with
     | none => rw [hn] at h; cases h
     | some r2 =>
       rw [hn] at h
       simp only at h ⊢
       by_cases h9 : t.s = wCount ∧ isF [42] r2 = true
       ·rw [if_pos h9] at h ⊢; exact h
       ·rw [if_neg h9] at h ⊢
        cases hq : px f 1 (e + 1) r2 with
        | none => rw [hq] at h; cases h
        | some q =>
          rw [hq] at h
          rw [px_deep f 1 (d + 1) (e + 1) r2 q (by omega) hq]
          exact h
    ·rw [if_neg h7] at h; cases h
   rw [if_neg h8] at h ⊢
   exact h
end
mutual
theorem px_more (M : List Tok) : ∀ (f lev d e : Nat) (l r : List Tok) (x : X), d ≤ e → px f lev d l = some (x, r) → px f lev e (l ++ rp :: M) = (px f lev e l).map fun p => (p.1, p.2 ++ rp :: M)
 | 0, _, _, _, _, _, _, _, h => by simp [px] at h
 | f + 1, lev, d, e, l, r, x, hd, h => by
   unfold px at h ⊢
   by_cases h3 : lev = 3
   ·simp only [if_pos h3] at h ⊢
    rw [isF_more (by decide)]
    by_cases h1 : isF wNot l = true
    ·simp only [if_pos h1] at h ⊢
     by_cases h4 : e + 1 ≤ 40
     ·simp only [if_pos h4, if_pos (show d + 1 ≤ 40 by omega)] at h ⊢
      obtain ⟨⟨y, r1⟩, h5, h6⟩ := Option.map_eq_some_iff.1 h
      rw [tail_more h1, px_more M f 3 (d + 1) (e + 1) _ _ _ (by omega) h5]
      simp [Option.map_map, Function.comp_def]
     ·simp only [if_neg h4]; rfl
    ·simp only [if_neg h1] at h ⊢
     exact px_more M f 4 d e l r x hd h
   ·simp only [if_neg h3] at h ⊢
    by_cases h7 : lev = 7
    ·simp only [if_pos h7] at h ⊢
     rw [isF_more (by decide)]
     by_cases h1 : isF [45] l = true
     ·simp only [if_pos h1] at h ⊢
      by_cases h4 : e + 1 ≤ 40
      ·simp only [if_pos h4, if_pos (show d + 1 ≤ 40 by omega)] at h ⊢
       obtain ⟨⟨y, r1⟩, h5, h6⟩ := Option.map_eq_some_iff.1 h
       rw [tail_more h1, px_more M f 7 (d + 1) (e + 1) _ _ _ (by omega) h5]
       simp [Option.map_map, Function.comp_def]
      ·simp only [if_neg h4]; rfl
     ·simp only [if_neg h1] at h ⊢
      exact px_more M f 8 d e l r x hd h
    ·simp only [if_neg h7] at h ⊢
     by_cases h8 : lev = 8
     ·simp only [if_pos h8] at h ⊢
      exact pa_more M f d e l r x hd h
     ·simp only [if_neg h8] at h ⊢
      cases hq : px f (lev + 1) d l with
      | none => rw [hq] at h; cases h
      | some q =>
        obtain ⟨y, r1⟩ := q
        rw [hq] at h
        rw [px_more M f (lev + 1) d e l r1 y hd hq]
        cases hq2 : px f (lev + 1) e l with
        | none => rfl
        | some q2 =>
          have h9 := px_deep f (lev + 1) d e l q2 hd hq2
          rw [hq] at h9
          injection h9 with h9
          subst h9
          exact pl_more M f lev d e y false r1 r x hd h
theorem pl_more (M : List Tok) : ∀ (f lev d e : Nat) (x : X) (done : Bool) (l r : List Tok) (y : X), d ≤ e → pl f lev d x done l = some (y, r) → pl f lev e x done (l ++ rp :: M) = (pl f lev e x done l).map fun p => (p.1, p.2 ++ rp :: M)
 | 0, _, _, _, _, _, _, _, _, _, h => by simp [pl] at h
 | f + 1, lev, d, e, x, done, l, r, y, hd, h => by
   unfold pl at h ⊢
   rw [signF_more]
   cases hs : (if done then none else signF lev l) with
   | some s =>
     simp only [hs] at h ⊢
     have h1' : signF lev l = some s := by
      split at hs
      ·cases hs
      ·exact hs
     have ht : (l ++ rp :: M).tail = l.tail ++ rp :: M := tail_more (s := s) (by have := List.find?_some h1'; simpa using this) _
     rw [ht]
     cases hq : px f (lev + 1) d l.tail with
     | none => rw [hq] at h; cases h
     | some q =>
       obtain ⟨z, r1⟩ := q
       rw [hq] at h
       rw [px_more M f (lev + 1) d e l.tail r1 z hd hq]
       cases hq2 : px f (lev + 1) e l.tail with
       | none => rfl
       | some q2 =>
         have h9 := px_deep f (lev + 1) d e l.tail q2 hd hq2
         rw [hq] at h9
         injection h9 with h9
         subst h9
         exact pl_more M f lev d e _ _ r1 r y hd h
   | none =>
     simp only [hs] at h ⊢
     rw [isF_more (by decide)]
     by_cases h1 : lev = 4 ∧ isF wIs l = true
     ·simp only [if_pos h1] at h ⊢
      rw [tail_more h1.2]
      cases hq : nullF l.tail with
      | none => rw [hq] at h; cases h
      | some q =>
        obtain ⟨n, r1⟩ := q
        rw [hq] at h
        rw [nullF_more hq]
        exact pl_more M f lev d e _ _ r1 r y hd h
     ·simp only [if_neg h1]; rfl
theorem pa_more (M : List Tok) : ∀ (f d e : Nat) (l r : List Tok) (x : X), d ≤ e → pa f d l = some (x, r) → pa f e (l ++ rp :: M) = (pa f e l).map fun p => (p.1, p.2 ++ rp :: M)
 | 0, _, _, _, _, _, _, h => by simp [pa] at h
 | f + 1, d, e, [], _, _, _, h => by simp [pa] at h
 | f + 1, d, e, t :: r0, r, x, hd, h => by
   have hF : ∀ s, isF s (t :: (r0 ++ rp :: M)) = isF s (t :: r0) := fun s => rfl
   rw [List.cons_append]
   unfold pa at h ⊢
   simp only [hF]
   by_cases h1 : t.k = 2
   ·simp only [if_pos h1]; rfl
   simp only [if_neg h1] at h ⊢
   by_cases h2 : t.k = 3
   ·simp only [if_pos h2]; rfl
   simp only [if_neg h2] at h ⊢
   by_cases h3 : isF wNull (t :: r0) = true
   ·simp only [if_pos h3]; rfl
   simp only [if_neg h3] at h ⊢
   by_cases h4 : isF wTrue (t :: r0) = true
   ·simp only [if_pos h4]; rfl
   simp only [if_neg h4] at h ⊢
   by_cases h5 : isF wFalse (t :: r0) = true
   ·simp only [if_pos h5]; rfl
   simp only [if_neg h5] at h ⊢
   by_cases h6 : isF [40] (t :: r0) = true
   ·simp only [if_pos h6] at h ⊢
    by_cases h7 : e + 1 ≤ 40
    ·simp only [if_pos h7, if_pos (show d + 1 ≤ 40 by omega)] at h ⊢
     cases hq : px f 1 (d + 1) r0 with
     | none => rw [hq] at h; cases h
     | some q =>
       obtain ⟨z, r1⟩ := q
       rw [hq] at h
       rw [px_more M f 1 (d + 1) (e + 1) r0 r1 z (by omega) hq]
       cases hq2 : px f 1 (e + 1) r0 with
       | none => rfl
       | some q2 =>
         have h9 := px_deep f 1 (d + 1) (e + 1) r0 q2 (by omega) hq2
         rw [hq] at h9
         injection h9 with h9
         subst h9
         obtain ⟨r3, h10, h11⟩ := Option.map_eq_some_iff.1 h
         simp only [Option.map_some]
         rw [needF_more h10, h10]; rfl
    ·simp only [if_neg h7]; rfl
   simp only [if_neg h6] at h ⊢
   by_cases h8 : (isF wCount (t :: r0) || isF wSum (t :: r0) || isF wMin (t :: r0) || isF wMax (t :: r0)) = true
   ·simp only [if_pos h8] at h ⊢
    by_cases h7 : e + 1 ≤ 40
    ·simp only [if_pos h7, if_pos (show d + 1 ≤ 40 by omega)] at h ⊢
     cases hn : needF [40] r0 with
     | none => rw [hn] at h; cases h
     | some r2 =>
       simp only [hn] at h
       rw [needF_more hn]
       simp only
       rw [isF_more (by decide)]
       by_cases h9 : t.s = wCount ∧ isF [42] r2 = true
       ·simp only [if_pos h9] at h ⊢
        obtain ⟨r3, h10, h11⟩ := Option.map_eq_some_iff.1 h
        rw [tail_more h9.2, needF_more h10, h10]; rfl
       ·simp only [if_neg h9] at h ⊢
        cases hq : px f 1 (d + 1) r2 with
        | none => rw [hq] at h; cases h
        | some q =>
          obtain ⟨z, r1⟩ := q
          rw [hq] at h
          rw [px_more M f 1 (d + 1) (e + 1) r2 r1 z (by omega) hq]
          cases hq2 : px f 1 (e + 1) r2 with
          | none => rfl
          | some q2 =>
            have h12 := px_deep f 1 (d + 1) (e + 1) r2 q2 (by omega) hq2
            rw [hq] at h12
            injection h12 with h12
            subst h12
            obtain ⟨r3, h10, h11⟩ := Option.map_eq_some_iff.1 h
            simp only [Option.map_some]
            rw [needF_more h10, h10]; rfl
    ·simp only [if_neg h7]; rfl
   simp only [if_neg h8] at h ⊢
   rw [h]
   exact colF_more (l := t :: r0) h M
end
end Go.Proofs.YtkfjmgmjbljnbaaGreatDoor.Lp
namespace Go.Proofs.YtkfjmgmjbljnbaaGreatDoor.Lp
def lp : Tok := ⟨4, [40], 0⟩
def sg (s : List UInt8) : Tok := ⟨4, s, 0⟩
theorem pX_more (M : List Tok) {lev d e : Nat} {l r : List Tok} {x : X} (hl : lev ≤ 8) (hd : d ≤ e) (h : pX lev d l = some (x, r)) : pX lev e (l ++ rp :: M) = (pX lev e l).map fun p => (p.1, p.2 ++ rp :: M) := by
 have hlen : (l ++ rp :: M).length = l.length + (M.length + 1) := by simp
 unfold pX at h ⊢
 rw [px_fuel (20 * l.length + 20) (20 * (l ++ rp :: M).length + 20) lev e l (by omega) (by omega) (by omega)]
 rw [px_fuel (20 * l.length + 20) (20 * (l ++ rp :: M).length + 20) lev d l (by omega) (by omega) (by omega)] at h
 exact px_more M _ lev d e l r x hd h
theorem pX_deep {lev d e : Nat} {l : List Tok} {p : X × List Tok} (hd : d ≤ e) (h : pX lev e l = some p) : pX lev d l = some p := px_deep _ lev d e l p hd h
def whole (d : Nat) (L : List Tok) : Bool := match pX 1 d L with
 | some (_, []) => true
 | _ => false
theorem isF_semi {t : Tok} {l M : List Tok} (h : isF [59] (t :: l) = true) : isF [41] (t :: l ++ M) = false := by
 simp only [isF, Bool.and_eq_true, beq_iff_eq] at h
 simp [isF, h.1]
theorem pA_br {d : Nat} {L M : List Tok} {x : X} (hx : condX L = some x) : pA d (lp :: (L ++ rp :: M)) = if d + 1 ≤ 40 ∧ whole (d + 1) L = true then some (x, M) else none := by
 rw [pA_cons]
 have k2 : ¬ (lp.k = 2) := by decide
 have k3 : ¬ (lp.k = 3) := by decide
 have f1 : ∀ r, isF wNull (lp :: r) = false := fun r => rfl
 have f2 : ∀ r, isF wTrue (lp :: r) = false := fun r => rfl
 have f3 : ∀ r, isF wFalse (lp :: r) = false := fun r => rfl
 have f4 : ∀ r, isF [40] (lp :: r) = true := fun r => rfl
 rw [if_neg k2, if_neg k3, f1, f2, f3, f4]
 simp only [Bool.false_eq_true, if_false, if_true]
 by_cases hd : d + 1 ≤ 40
 ·rw [if_pos hd]
  unfold condX at hx
  cases h0 : pX 1 0 L with
  | none => rw [h0] at hx; cases hx
  | some p =>
    obtain ⟨x0, r0⟩ := p
    rw [h0] at hx
    simp only at hx
    have hx2 : (if isF [59] r0 = true then r0.tail else r0) = [] ∧ x0 = x := by
     by_cases g : (if isF [59] r0 = true then r0.tail else r0) = []
     ·rw [if_pos g] at hx
      injection hx with hx
      exact ⟨g, hx⟩
     ·rw [if_neg g] at hx
      cases hx
    rw [pX_more M (by decide) (Nat.zero_le _) h0]
    cases h1 : pX 1 (d + 1) L with
    | none =>
      have : whole (d + 1) L = false := by unfold whole; rw [h1]
      rw [this]; simp
    | some q =>
      have h2 := pX_deep (Nat.zero_le _) h1
      rw [h0] at h2
      injection h2 with h2
      subst h2
      obtain ⟨h3, rfl⟩ := hx2
      cases r0 with
      | nil =>
        have : whole (d + 1) L = true := by unfold whole; rw [h1]
        rw [this]
        simp only [Option.map_some, List.nil_append]
        rw [if_pos ⟨hd, trivial⟩]
        rfl
      | cons t r1 =>
        have hw : whole (d + 1) L = false := by unfold whole; rw [h1]
        have hs : isF [59] (t :: r1) = true := by
         cases hh : isF [59] (t :: r1)
         ·rw [hh] at h3; simp at h3
         ·rfl
        rw [hw]
        simp only [Option.map_some]
        rw [needF, isF_semi hs]
        simp
 ·rw [if_neg hd, if_neg fun h => hd h.1]
def Calm (M : List Tok) : Prop := (∀ lev, signF lev M = none) ∧ isF wIs M = false
theorem calm_nil : Calm [] := by
 refine ⟨fun lev => ?_, rfl⟩
 unfold signF
 exact List.find?_eq_none.2 fun s _ => by simp [isF]
theorem calm_rp (M : List Tok) : Calm (rp :: M) := by
 refine ⟨fun lev => ?_, rfl⟩
 unfold signF
 refine List.find?_eq_none.2 fun s hs => ?_
 have := ops_rp lev s hs
 simp only [isF, rp]
 intro h
 simp only [Bool.and_eq_true, beq_iff_eq] at h
 exact this h.1.symm
theorem pX_up {d : Nat} {r M : List Tok} {x : X} (h : pA d (lp :: r) = some (x, M)) (h6 : signF 6 M = none) (h5 : signF 5 M = none) : pX 5 d (lp :: r) = some (x, M) := by
 have h7 : pX 7 d (lp :: r) = some (x, M) := by rw [pX_neg_no (l := lp :: r) rfl, pX_atom]; exact h
 have e6 : pX 6 d (lp :: r) = some (x, M) := by
  rw [pX_lev (by decide) (by decide), h7]
  exact pL_end (by simpa using h6) (.inl (by decide))
 rw [pX_lev (by decide) (by decide), e6]
 exact pL_end (by simpa using h5) (.inl (by decide))
theorem pX_up_no {d : Nat} {r : List Tok} (h : pA d (lp :: r) = none) : pX 5 d (lp :: r) = none := by
 have h7 : pX 7 d (lp :: r) = none := by rw [pX_neg_no (l := lp :: r) rfl, pX_atom]; exact h
 have e6 : pX 6 d (lp :: r) = none := by rw [pX_lev (by decide) (by decide), h7]
 rw [pX_lev (by decide) (by decide), e6]
def Cm (s : List UInt8) : Prop := signF 6 [sg s] = none ∧ signF 5 [sg s] = none ∧ signF 4 [sg s] = some s ∧ upW s = s
theorem cm_lt : Cm [60] := ⟨rfl, rfl, rfl, rfl⟩
theorem cm_gt : Cm [62] := ⟨rfl, rfl, rfl, rfl⟩
theorem cm_ge : Cm [62, 61] := ⟨rfl, rfl, rfl, rfl⟩
theorem signF_one (lev : Nat) (t : Tok) (M : List Tok) : signF lev (t :: M) = signF lev [t] := rfl
theorem pX_cmp {d : Nat} {A B M : List Tok} {x y : X} {s : List UInt8} (hs : Cm s) (hM : Calm M) (hA : condX A = some x) (hB : condX B = some y) :
 pX 4 d (lp :: (A ++ rp :: sg s :: lp :: (B ++ rp :: M))) = if (d + 1 ≤ 40 ∧ whole (d + 1) A = true) ∧ (d + 1 ≤ 40 ∧ whole (d + 1) B = true) then some (.bin s x y, M) else none := by
 obtain ⟨s6, s5, s4, su⟩ := hs
 rw [pX_lev (by decide) (by decide)]
 have ha := pA_br (d := d) (M := sg s :: lp :: (B ++ rp :: M)) hA
 by_cases h1 : d + 1 ≤ 40 ∧ whole (d + 1) A = true
 ·rw [if_pos h1] at ha
  rw [pX_up ha (by rw [signF_one]; exact s6) (by rw [signF_one]; exact s5)]
  simp only
  rw [pL_sign (s := s) (by rw [signF_one]; exact s4) (by decide)]
  simp only [List.tail_cons]
  have hb := pA_br (d := d) (M := M) hB
  by_cases h2 : d + 1 ≤ 40 ∧ whole (d + 1) B = true
  ·rw [if_pos h2] at hb
   rw [pX_up hb (hM.1 6) (hM.1 5), if_pos ⟨h1, h2⟩]
   simp only [su]
   exact pL_end (by simp) (.inr hM.2)
  ·rw [if_neg h2] at hb
   rw [pX_up_no hb, if_neg fun h => h2 h.2]
 ·rw [if_neg h1] at ha
  rw [pX_up_no ha, if_neg fun h => h1 h.1]
theorem pX_top {d : Nat} {l M : List Tok} {z : X} (hn : isF wNot l = false) (hM : Calm M) (h : pX 4 d l = some (z, M)) : pX 1 d l = some (z, M) := by
 have e3 : pX 3 d l = some (z, M) := by rw [pX_not_no hn]; exact h
 have e2 : pX 2 d l = some (z, M) := by
  rw [pX_lev (by decide) (by decide), e3]
  exact pL_end (by simpa using hM.1 2) (.inl (by decide))
 rw [pX_lev (by decide) (by decide), e2]
 exact pL_end (by simpa using hM.1 1) (.inl (by decide))
theorem pX_top_no {d : Nat} {l : List Tok} (hn : isF wNot l = false) (h : pX 4 d l = none) : pX 1 d l = none := by
 have e3 : pX 3 d l = none := by rw [pX_not_no hn]; exact h
 have e2 : pX 2 d l = none := by rw [pX_lev (by decide) (by decide), e3]
 rw [pX_lev (by decide) (by decide), e2]
theorem cond_cmp {A B : List Tok} {x y : X} {s : List UInt8} (hs : Cm s) (hA : condX A = some x) (hB : condX B = some y) :
 condX (lp :: (A ++ rp :: sg s :: lp :: (B ++ [rp]))) = if whole 1 A = true ∧ whole 1 B = true then some (.bin s x y) else none := by
 have h4 := pX_cmp (d := 0) (M := []) hs calm_nil hA hB
 unfold condX
 by_cases h : whole 1 A = true ∧ whole 1 B = true
 ·rw [if_pos ⟨⟨by decide, h.1⟩, ⟨by decide, h.2⟩⟩] at h4
  rw [pX_top rfl calm_nil h4, if_pos h]
  rfl
 ·rw [if_neg fun g => h ⟨g.1.2, g.2.2⟩] at h4
  rw [pX_top_no rfl h4, if_neg h]
def nt : Tok := ⟨1, wNot, 0⟩
theorem cond_not {A B : List Tok} {x y z : X} {s : List UInt8} (hs : Cm s) (hA : condX A = some x) (hB : condX B = some y)
 (h : condX (nt :: lp :: lp :: (A ++ rp :: sg s :: lp :: (B ++ rp :: [rp]))) = some z) : z = .un uNot (.bin s x y) := by
 have h4 := pX_cmp (d := 2) (M := rp :: []) hs (calm_rp []) hA hB
 have h1 : ∀ p, pX 1 2 (lp :: (A ++ rp :: sg s :: lp :: (B ++ rp :: [rp]))) = some p → p = (.bin s x y, [rp]) := by
  intro p hp
  by_cases g : (2 + 1 ≤ 40 ∧ whole (2 + 1) A = true) ∧ (2 + 1 ≤ 40 ∧ whole (2 + 1) B = true)
  ·rw [if_pos g] at h4
   rw [pX_top rfl (calm_rp []) h4] at hp
   injection hp with hp
   exact hp.symm
  ·rw [if_neg g] at h4
   rw [pX_top_no rfl h4] at hp
   cases hp
 have ha : ∀ p, pA 1 (lp :: lp :: (A ++ rp :: sg s :: lp :: (B ++ rp :: [rp]))) = some p → p = (.bin s x y, []) := by
  intro p hp
  rw [pA_cons] at hp
  have k2 : ¬ (lp.k = 2) := by decide
  have k3 : ¬ (lp.k = 3) := by decide
  have f1 : ∀ r, isF wNull (lp :: r) = false := fun r => rfl
  have f2 : ∀ r, isF wTrue (lp :: r) = false := fun r => rfl
  have f3 : ∀ r, isF wFalse (lp :: r) = false := fun r => rfl
  have f4 : ∀ r, isF [40] (lp :: r) = true := fun r => rfl
  rw [if_neg k2, if_neg k3, f1, f2, f3, f4] at hp
  simp only [Bool.false_eq_true, if_false, if_true] at hp
  rw [if_pos (by decide : (1 : Nat) + 1 ≤ 40)] at hp
  cases hq : pX 1 (1 + 1) (lp :: (A ++ rp :: sg s :: lp :: (B ++ rp :: [rp]))) with
  | none => rw [hq] at hp; cases hp
  | some q =>
    rw [hq] at hp
    have := h1 q hq
    subst this
    injection hp with hp
    exact hp.symm
 have h5 : ∀ p, pX 4 1 (lp :: lp :: (A ++ rp :: sg s :: lp :: (B ++ rp :: [rp]))) = some p → p = (.bin s x y, []) := by
  intro p hp
  cases hq : pA 1 (lp :: lp :: (A ++ rp :: sg s :: lp :: (B ++ rp :: [rp]))) with
  | none =>
    rw [pX_lev (by decide) (by decide), pX_up_no hq] at hp
    cases hp
  | some q =>
    have := ha q hq
    subst this
    rw [pX_lev (by decide) (by decide), pX_up hq (calm_nil.1 6) (calm_nil.1 5)] at hp
    simp only at hp
    rw [pL_end (by simpa using calm_nil.1 4) (.inr calm_nil.2)] at hp
    injection hp with hp
    exact hp.symm
 unfold condX at h
 cases h3 : pX 3 0 (nt :: lp :: lp :: (A ++ rp :: sg s :: lp :: (B ++ rp :: [rp]))) with
 | none =>
   have e2 : pX 2 0 (nt :: lp :: lp :: (A ++ rp :: sg s :: lp :: (B ++ rp :: [rp]))) = none := by rw [pX_lev (by decide) (by decide), h3]
   rw [pX_lev (by decide) (by decide), e2] at h
   cases h
 | some p =>
   have hp := h3
   rw [pX_not_yes (l := nt :: lp :: lp :: (A ++ rp :: sg s :: lp :: (B ++ rp :: [rp]))) rfl, if_pos (by decide : (0 : Nat) + 1 ≤ 40), List.tail_cons, pX_not_no (l := lp :: lp :: (A ++ rp :: sg s :: lp :: (B ++ rp :: [rp]))) rfl] at hp
   obtain ⟨q, hq, hq2⟩ := Option.map_eq_some_iff.1 hp
   have := h5 q hq
   subst this
   subst hq2
   have e2 : pX 2 0 (nt :: lp :: lp :: (A ++ rp :: sg s :: lp :: (B ++ rp :: [rp]))) = some (.un uNot (.bin s x y), []) := by
    rw [pX_lev (by decide) (by decide), h3]
    exact pL_end (by simpa using calm_nil.1 2) (.inl (by decide))
   rw [pX_lev (by decide) (by decide), e2] at h
   simp only at h
   rw [pL_end (by simpa using calm_nil.1 1) (.inl (by decide))] at h
   simp only [isF, Bool.false_eq_true, if_false, if_true] at h
   injection h with h
   exact h.symm
theorem sign_tok (c : UInt8) (r : List UInt8) (h0 : letB c = false) (h1 : isDig c = false) (h2 : c ≠ 39) (h3 : singB c = true) (h4 : ∀ d, twoB c d = false) : nextT (c :: r) = (⟨4, [c], 0⟩, 1, 0) := by
 have hs : signN (c :: r) = 1 := by
  cases r with
  | nil => simp [signN, h3]
  | cons d r => simp [signN, h3, h4]
 rw [nextT_sign r h0 h1 h2, hs]
 rfl
theorem two_no (c : UInt8) (hc : c = 40 ∨ c = 41) : ∀ d, twoB c d = false := by
 rcases hc with rfl | rfl <;> intro d <;> simp [twoB]
theorem spl_lp (acc : List Tok) (r : List UInt8) : splA acc (40 :: r) = splA (acc ++ [lp]) r := by
 have h := sign_tok 40 r (by decide) (by decide) (by decide) (by decide) (two_no 40 (.inl rfl))
 rw [splA_tok acc (by decide) (by rw [h]), h]
 rfl
theorem spl_rp (acc : List Tok) (r : List UInt8) : splA acc (41 :: r) = splA (acc ++ [rp]) r := by
 have h := sign_tok 41 r (by decide) (by decide) (by decide) (by decide) (two_no 41 (.inr rfl))
 rw [splA_tok acc (by decide) (by rw [h]), h]
 rfl
theorem spl_bl (acc : List Tok) (r : List UInt8) : splA acc (32 :: r) = splA acc r := splA_blank acc r (by decide)
theorem spl_one (c : UInt8) (hc : c = 60 ∨ c = 62) (acc : List Tok) (r : List UInt8) : splA acc (c :: 32 :: r) = splA (acc ++ [sg [c]]) r := by
 have h : nextT (c :: 32 :: r) = (⟨4, [c], 0⟩, 1, 0) := by
  rcases hc with rfl | rfl
  ·rw [nextT_sign _ (by decide) (by decide) (by decide)]; rfl
  ·rw [nextT_sign _ (by decide) (by decide) (by decide)]; rfl
 rw [splA_tok acc (by rcases hc with rfl | rfl <;> decide) (by rw [h]), h]
 exact spl_bl _ r
theorem spl_ge (acc : List Tok) (r : List UInt8) : splA acc (62 :: 61 :: r) = splA (acc ++ [sg [62, 61]]) r := by
 have h : nextT (62 :: 61 :: r) = (⟨4, [62, 61], 0⟩, 2, 0) := by
  rw [nextT_sign _ (by decide) (by decide) (by decide)]; rfl
 rw [splA_tok acc (by decide) (by rw [h]), h]
 rfl
theorem spl_not (acc : List Tok) (r : List UInt8) : splA acc (78 :: 79 :: 84 :: 32 :: r) = splA (acc ++ [nt]) r := by
 have h : nextT (78 :: 79 :: 84 :: 32 :: r) = (nt, 3, 0) := by
  rw [nextT_word _ (by decide)]; rfl
 rw [splA_tok acc (by decide) (by rw [h]), h]
 exact spl_bl _ r
theorem spl_cut (acc : List Tok) {a : List UInt8} (m : List UInt8) (h : (splA [] a).2 = 0) : splA acc (a ++ 41 :: m) = splA (acc ++ (splA [] a).1 ++ [rp]) m := by
 rw [splA_cut cut41 m a.length acc a (Nat.le_refl _) h, spl_rp]
def sCmp (s a b : List UInt8) : List UInt8 := 40 :: (a ++ 41 :: 32 :: (s ++ 32 :: 40 :: (b ++ [41])))
def sNot (s a b : List UInt8) : List UInt8 := 78 :: 79 :: 84 :: 32 :: 40 :: 40 :: (a ++ 41 :: 32 :: (s ++ 32 :: 40 :: (b ++ 41 :: [41])))
theorem condS_some {a : List UInt8} {x : X} (h : condS a = some x) : (splA [] a).2 = 0 ∧ condX (splA [] a).1 = some x := by
 unfold condS at h
 split at h
 ·rename_i h0; exact ⟨h0, h⟩
 ·cases h
theorem read_cmp {a b : List UInt8} {x y : X} {c : UInt8} (hc : c = 60 ∨ c = 62) (hA : condS a = some x) (hB : condS b = some y) :
 condS (sCmp [c] a b) = if whole 1 (splA [] a).1 = true ∧ whole 1 (splA [] b).1 = true then some (.bin [c] x y) else none := by
 obtain ⟨a0, a1⟩ := condS_some hA
 obtain ⟨b0, b1⟩ := condS_some hB
 have ht : splA [] (sCmp [c] a b) = (lp :: ((splA [] a).1 ++ rp :: sg [c] :: lp :: ((splA [] b).1 ++ [rp])), 0) := by
  unfold sCmp
  rw [spl_lp, spl_cut _ _ a0, spl_bl, List.singleton_append, spl_one c hc, spl_lp, spl_cut _ _ b0, splA_nil]
  simp
 unfold condS
 rw [ht, if_pos rfl]
 exact cond_cmp (by rcases hc with rfl | rfl; exact cm_lt; exact cm_gt) a1 b1
theorem read_not {a b : List UInt8} {x y z : X} (hA : condS a = some x) (hB : condS b = some y) (h : condS (sNot [62, 61] a b) = some z) : z = .un uNot (.bin [62, 61] x y) := by
 obtain ⟨a0, a1⟩ := condS_some hA
 obtain ⟨b0, b1⟩ := condS_some hB
 have ht : splA [] (sNot [62, 61] a b) = (nt :: lp :: lp :: ((splA [] a).1 ++ rp :: sg [62, 61] :: lp :: ((splA [] b).1 ++ rp :: [rp])), 0) := by
  unfold sNot
  rw [spl_not, spl_lp, spl_lp, spl_cut _ _ a0, spl_bl, show ([62, 61] : List UInt8) ++ 32 :: 40 :: (b ++ 41 :: [41]) = 62 :: 61 :: 32 :: 40 :: (b ++ 41 :: [41]) from rfl, spl_ge, spl_bl, spl_lp, spl_cut _ _ b0, spl_rp, splA_nil]
  simp
 unfold condS at h
 rw [ht, if_pos rfl] at h
 exact cond_not cm_ge a1 b1 h
end Go.Proofs.YtkfjmgmjbljnbaaGreatDoor.Lp
