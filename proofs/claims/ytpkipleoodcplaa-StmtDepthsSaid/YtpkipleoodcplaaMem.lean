/-
  Words for memory: a slice that reads as a list; appending to a slice of the call's own. No conditions.
-/
import Derived.Test.YtpkipleoodcplaaRows
import Derived.WalkKit
import Derived.WalkSpells
import Derived.WalkLawsBesides
import Derived.Lib.Hide
import Derived.Lib.AppendStr
import Derived.Maps.AppendAt
import Derived.Deep.AppendLies
import Derived.Deep.Onto
import Derived.Laws.BytesArg
namespace Go.Proofs.Ytpkipleoodcplaa
open Go.RowKit

/-- The cells of a slice, from its address on, hold xs. -/
def Rds (w : World) (A : Option Addr) (xs : List Value) : Prop :=
  xs = [] ∨ ∃ b off, A = some ⟨b, off, none⟩ ∧ ∀ j u, xs[j]? = some u → w.cell? ⟨b, off + j, none⟩ = some u

section
variable {w w' : World} {A : Option Addr} {xs : List Value}
theorem Rds.nil_ : Rds w A [] := .inl rfl
theorem Rds.at_ (h : Rds w A xs) {k : Nat} {u : Value} (hk : xs[k]? = some u) : ∃ b off, A = some ⟨b, off, none⟩ ∧ w.cell? ⟨b, off + k, none⟩ = some u := by
  rcases h with rfl | ⟨b, off, hA, hc⟩
  · simp at hk
  · exact ⟨b, off, hA, hc k u hk⟩
theorem Rds.below (h : Rds w A xs) (hb : Below w.heap.size w w') : Rds w' A xs := by
  rcases h with rfl | ⟨b, off, hA, hc⟩
  · exact .inl rfl
  · exact .inr ⟨b, off, hA, fun j u hu => (hb.cell (p := ⟨b, off + j, none⟩) (World.block_lt_of_cell? w _ (hc j u hu))).trans (hc j u hu)⟩
theorem Rds.take (h : Rds w A xs) (k : Nat) : Rds w A (xs.take k) := by
  rcases h with rfl | ⟨b, off, hA, hc⟩
  · exact .inl (by simp)
  · refine .inr ⟨b, off, hA, fun j u hu => hc j u ?_⟩
    rw [List.getElem?_take] at hu
    split at hu
    · exact hu
    · cases hu
theorem Rds.drop (h : Rds w A xs) (k : Nat) {cap : Nat} (hc : xs.length ≤ cap) : Rds w (if cap = k then A else A.map (·.add (k * 1))) (xs.drop k) := by
  rcases h with rfl | ⟨b, off, rfl, hc2⟩
  · exact .inl (by simp)
  · by_cases hk : cap = k
    · exact .inl (List.drop_eq_nil_of_le (by omega))
    · rw [if_neg hk]
      refine .inr ⟨b, off + k, ?_, fun j u hu => ?_⟩
      · simp only [Option.map_some, Option.some.injEq, Addr.add, Nat.mul_one]
        by_cases h0 : k = 0 <;> simp [h0]
      · rw [List.getElem?_drop] at hu
        rw [Nat.add_assoc]
        exact hc2 _ u hu
theorem rds_new (w : World) (xs : List Value) (t : TypeId) : Rds (w.alloc (.cells xs.toArray t)) (some ⟨w.heap.size, 0, none⟩) xs := by
  refine .inr ⟨_, 0, rfl, fun j u hu => ?_⟩
  rw [cell_of_row (w.alloc (.cells xs.toArray t)) w.heap.size (0 + j) xs.toArray t (0, 0) (heap_alloc_new w _)]
  simpa using hu
theorem rds_drew (h : Rds w A xs) : Rds w.drew A xs := h
theorem own_form {B n size : Nat} {e : TypeId} {v : Value} (h : w.ownsRow B e size v n xs) : ∃ A c, v = .slice A n c ∧ n ≤ c := by
  rcases h.2 with ⟨rfl, rfl⟩ | ⟨g, cap, cur, rfl, _, _, h1, _⟩
  · exact ⟨none, 0, rfl, Nat.le_refl _⟩
  · exact ⟨_, cap, rfl, h1⟩
theorem Rds.own {B n c size : Nat} {e : TypeId} (h : w.ownsRow B e size (.slice A n c) n xs) : Rds w A xs := by
  rcases Nat.eq_zero_or_pos n with h0 | h0
  · left; exact List.eq_nil_of_length_eq_zero (by rw [h.1, h0, Nat.zero_mul])
  · obtain ⟨g, cap, hv, hg, _⟩ := h.form h0
    injection hv with hA _ _
    subst hA
    refine .inr ⟨g, 0, rfl, fun j u hu => ?_⟩
    have := h.cells (g := g) rfl j u hu
    have e : (⟨g, 0, none⟩ : Addr).add j = ⟨g, 0 + j, none⟩ := by unfold Addr.add; split <;> simp_all
    rw [e] at this
    exact this
end

/-- A block of another element type is no row of the call's own. -/
theorem own_ne {w : World} {B n size g : Nat} {e t : TypeId} {v : Value} {xs : List Value} {cs : Array Value} (h : w.ownsRow B e size v n xs) (hg : w.heap[g]? = some (.cells cs t (0, 0))) (hne : e ≠ t) : some g ≠ v.ownBlock := by
  rcases h.2 with ⟨rfl, _⟩ | ⟨g', cap, cur, rfl, _, hh, _⟩
  · simp [Value.ownBlock]
  · intro he
    have : g = g' := by simpa [Value.ownBlock] using he
    subst this
    rw [hh] at hg
    injection hg with hg
    injection hg with _ ht
    exact hne ht
theorem heap_lt {w : World} {g : Nat} {o : Obj} (h : w.heap[g]? = some o) : g < w.heap.size := (Array.getElem?_eq_some_iff.1 h).1
theorem box_far {w w2 : World} {B n size g : Nat} {e t : TypeId} {v : Value} {xs : List Value} {cs : Array Value} (h : w.ownsRow B e size v n xs) (hg : w.heap[g]? = some (.cells cs t (0, 0))) (hne : e ≠ t) (hb : w.grownBy w2 v.ownBlock) :
    w2.heap[g]? = some (.cells cs t (0, 0)) := (hb.block g (heap_lt hg) (own_ne h hg hne)).trans hg
theorem box_alloc {w : World} {g : Nat} {o : Obj} (h : w.heap[g]? = some o) (o2 : Obj) : (w.alloc o2).heap[g]? = some o := (Below.heap_alloc w o2 g (heap_lt h)).trans h
theorem box_below {w w2 : World} {g : Nat} {o : Obj} (h : w.heap[g]? = some o) (hb : Below w.heap.size w w2) : w2.heap[g]? = some o := (hb.block g (heap_lt h)).trans h
theorem box_drew {w : World} {g : Nat} {o : Obj} (h : w.heap[g]? = some o) : w.drew.heap[g]? = some o := h
theorem box_far_drew {w w2 : World} {B n size g : Nat} {e t : TypeId} {v : Value} {xs : List Value} {cs : Array Value} (h : w.ownsRow B e size v n xs) (hg : w.heap[g]? = some (.cells cs t (0, 0))) (hne : e ≠ t) (hb : w.drew.grownBy w2 v.ownBlock) :
    w2.heap[g]? = some (.cells cs t (0, 0)) := box_far h.drew (box_drew hg) hne hb
theorem box_far_alloc {w w2 : World} {o : Obj} {B n size g : Nat} {e t : TypeId} {v : Value} {xs : List Value} {cs : Array Value} (h : w.ownsRow B e size v n xs) (hg : w.heap[g]? = some (.cells cs t (0, 0))) (hne : e ≠ t) (hb : (w.alloc o).drew.grownBy w2 v.ownBlock) :
    w2.heap[g]? = some (.cells cs t (0, 0)) := box_far (h.alloc o).drew (box_drew (box_alloc hg o)) hne hb
theorem heap_new2 (w : World) (a b : Obj) : ((w.alloc a).alloc b).heap[w.heap.size + 1]? = some b := by
  have h := heap_alloc_new (w.alloc a) b
  rw [World.size_alloc] at h
  exact h
theorem box_cells {w : World} {g : Nat} {t : TypeId} {cs : Array Value} (h : w.heap[g]? = some (.cells cs t (0, 0))) : ∀ j, w.cell? ⟨g, j, none⟩ = cs[j]? := fun j => cell_of_row w g j cs t (0, 0) h

/-- What is no row of the call's own stays, and becomes none. -/
def Keeps (w w' : World) (r r' : Option Nat) : Prop := ∀ g o, w.heap[g]? = some o → some g ≠ r → w'.heap[g]? = some o ∧ some g ≠ r'
theorem keeps_of {w w' : World} {r r' : Option Nat} (hg : w.grownBy w' r) (hat : r' = r ∨ r' = some w.heap.size) : Keeps w w' r r' := by
  intro g o ho hne
  have hlt := heap_lt ho
  refine ⟨(hg.block g hlt hne).trans ho, ?_⟩
  rcases hat with h | h
  · rw [h]; exact hne
  · rw [h]; intro e; injection e with e; omega
theorem rds_blk {w : World} {g : Nat} {t : TypeId} {fr : Nat × Nat} (cs : List Value) (h : w.heap[g]? = some (.cells cs.toArray t fr)) : Rds w (some ⟨g, 0, none⟩) cs := by
  refine .inr ⟨_, 0, rfl, fun j u hu => ?_⟩
  rw [cell_of_row w g (0 + j) cs.toArray t fr h]
  simpa using hu
theorem stays {w w' : World} {r : Option Nat} (hg : w.grownBy w' r) {g : Nat} {o : Obj} (ho : w.heap[g]? = some o) (hne : some g ≠ r) : w'.heap[g]? = some o := (hg.block g (heap_lt ho) hne).trans ho
theorem own_old {w : World} {B n size g : Nat} {e : TypeId} {v : Value} {xs : List Value} (h : w.ownsRow B e size v n xs) (hg : w.heap.size ≤ g) : some g ≠ v.ownBlock := by
  intro e
  have := (h.lt g e.symm).2
  omega

section
variable {P : Program} (w : World)

theorem run_app_nil (base : Nat) (t ty e : TypeId) (i : TypeInfo) (size : Nat) (ht : P.underlying t = some (.slice e)) (hi : P.info? e = some i)
    (v : Value) (n : Nat) (xs : List Value) (hown : w.ownsRow base e size v n xs) (c : Nat) : (Builtin.append_ #[t, t] ty #[v, .slice none 0 c]).run P w = .ok v w := by
  rcases hown.2 with ⟨rfl, rfl⟩ | ⟨g, cap, cur, rfl, _, _, hnc, _⟩
  · simp [Builtin.append_, run_underlying ht, sizeOf, typeInfo, hi, Builtin.lenOf, Builtin.firstCells]
  · simp [Builtin.append_, run_underlying ht, sizeOf, typeInfo, hi, Builtin.lenOf, Builtin.firstCells, hnc, storeCells]

/-- A slice appended to a slice of the call's own. -/
theorem wp_app {o : Oper} {a : Act} {K : Act → World → Prop} {Q : Exit → Act → World → Prop} (s x : Operand) (t : TypeId)
    (ho : o.op = .call { callee := .builtin .append, args := #[s, x], argTypes := #[t, t] })
    (base : Nat) (e : TypeId) (i : TypeInfo) (z : Value) (size bytes : Nat) (ht : P.underlying t = some (.slice e)) (hi : P.info? e = some i) (hz : i.zero = some z)
    (hsize : i.size = size) (hby : i.bytes = bytes) (hzs : z.cells.size = size) (hsz : 0 < size)
    (A0 : Option Addr) (n c0 : Nat) (xs : List Value) (hs : a.eval s = .slice A0 n c0) (hown : w.ownsRow base e size (.slice A0 n c0) n xs)
    (A : Option Addr) (m c : Nat) (news : List Value) (hx : a.eval x = .slice A m c) (hl : news.length = m * size) (hr : Rds w A news) (h1 : ∀ u ∈ news, u.oneCell' = true)
    (h63 : n + m ≤ maxLen) (hbytes : (n + m) * bytes ≤ 140737488355328) (hbase : base ≤ w.heap.size)
    (h : ∀ A' c' w', w'.ownsRow base e size (.slice A' (n + m) c') (n + m) (xs ++ news) → Below base w w' → w.grownBy w' (Value.ownBlock (.slice A0 n c0)) → Keeps w w' (Value.ownBlock (.slice A0 n c0)) (Value.ownBlock (.slice A' (n + m) c')) → K (a.put o.dst (.slice A' (n + m) c')) w') : o.wp P a w K Q := by
  have fin : ∀ v' w', (Builtin.append_ #[t, t] o.type #[.slice A0 n c0, .slice A m c]).run P w = .ok v' w' → w'.ownsRow base e size v' (n + m) (xs ++ news) → w.grownBy w' (Value.ownBlock (.slice A0 n c0)) → (v'.ownBlock = Value.ownBlock (.slice A0 n c0) ∨ v'.ownBlock = some w.heap.size) → o.wp P a w K Q := by
    intro v' w' hrun h2 h3 hat
    obtain ⟨A', c', rfl, _⟩ := own_form h2
    unfold Oper.wp execOp
    simp only [ho, resolve, invoke, builtin, Sem.run_bind, Sem.run_pure, Result.andThen_ok, List.map_toArray, List.map_cons, List.map_nil, hs, hx, hrun]
    exact h A' c' w' h2 ((Below.refl base w).grown h3 hbase fun k hk => (hown.lt k hk).1) h3 (keeps_of h3 hat)
  rcases A with _ | ad
  · have hn : news = [] := by
      rcases hr with h0 | ⟨b, off, h0, _⟩
      · exact h0
      · cases h0
    subst hn
    have hm : m = 0 := by
      simp only [List.length_nil] at hl
      rcases Nat.mul_eq_zero.1 hl.symm with h0 | h0
      · exact h0
      · omega
    subst hm
    exact fin _ w (run_app_nil w base t o.type e i size ht hi _ n xs hown c) (by simpa using hown) (World.grownBy.refl w _) (.inl rfl)
  · have hcells : ∀ j u, news[j]? = some u → w.cell? (ad.add j) = some u := by
      intro j u hu
      obtain ⟨b, off, hA, hc⟩ := hr.at_ hu
      injection hA with hA
      subst hA
      have e : (⟨b, off, none⟩ : Addr).add j = ⟨b, off + j, none⟩ := by unfold Addr.add; split <;> simp_all
      rw [e]; exact hc
    obtain ⟨v', w', hrun, h2, h3, _, h5⟩ := run_append_own_at (P := P) w base t o.type e i z size bytes ht hi hz hsize hby hzs hsz _ n xs hown ad m c news hl hcells h1 h63 hbytes hbase
    exact fin v' w' hrun h2 h3 h5

theorem wpList_app {ops : Array Oper} {rest : List Oper} {o : Oper} {a : Act} {Q : Exit → Act → World → Prop} (hgd : o.guard = none) (s x : Operand) (t : TypeId)
    (ho : o.op = .call { callee := .builtin .append, args := #[s, x], argTypes := #[t, t] })
    (base : Nat) (e : TypeId) (i : TypeInfo) (z : Value) (size bytes : Nat) (ht : P.underlying t = some (.slice e)) (hi : P.info? e = some i) (hz : i.zero = some z)
    (hsize : i.size = size) (hby : i.bytes = bytes) (hzs : z.cells.size = size) (hsz : 0 < size)
    (A0 : Option Addr) (n c0 : Nat) (xs : List Value) (hs : a.eval s = .slice A0 n c0) (hown : w.ownsRow base e size (.slice A0 n c0) n xs)
    (A : Option Addr) (m c : Nat) (news : List Value) (hx : a.eval x = .slice A m c) (hl : news.length = m * size) (hr : Rds w A news) (h1 : ∀ u ∈ news, u.oneCell' = true)
    (h63 : n + m ≤ maxLen) (hbytes : (n + m) * bytes ≤ 140737488355328) (hbase : base ≤ w.heap.size)
    (h : ∀ A' c' w', w'.ownsRow base e size (.slice A' (n + m) c') (n + m) (xs ++ news) → Below base w w' → w.grownBy w' (Value.ownBlock (.slice A0 n c0)) → Keeps w w' (Value.ownBlock (.slice A0 n c0)) (Value.ownBlock (.slice A' (n + m) c')) → wpList P ops Q rest (a.put o.dst (.slice A' (n + m) c')) w') : wpList P ops Q (o :: rest) a w :=
  wpList_plain hgd fun _ hK => wp_app w s x t ho base e i z size bytes ht hi hz hsize hby hzs hsz A0 n c0 xs hs hown A m c news hx hl hr h1 h63 hbytes hbase fun A' c' w' h2 h3 h4 h5 => hK _ _ (h A' c' w' h2 h3 h4 h5)
/-- The same under a guard that let it run. -/
theorem wpList_app_g {ops : Array Oper} {rest : List Oper} {o : Oper} {a : Act} {Q : Exit → Act → World → Prop} (hw : Region.wanted o (yielded ops a.tmps) = true) (s x : Operand) (t : TypeId)
    (ho : o.op = .call { callee := .builtin .append, args := #[s, x], argTypes := #[t, t] })
    (base : Nat) (e : TypeId) (i : TypeInfo) (z : Value) (size bytes : Nat) (ht : P.underlying t = some (.slice e)) (hi : P.info? e = some i) (hz : i.zero = some z)
    (hsize : i.size = size) (hby : i.bytes = bytes) (hzs : z.cells.size = size) (hsz : 0 < size)
    (A0 : Option Addr) (n c0 : Nat) (xs : List Value) (hs : a.eval s = .slice A0 n c0) (hown : w.ownsRow base e size (.slice A0 n c0) n xs)
    (A : Option Addr) (m c : Nat) (news : List Value) (hx : a.eval x = .slice A m c) (hl : news.length = m * size) (hr : Rds w A news) (h1 : ∀ u ∈ news, u.oneCell' = true)
    (h63 : n + m ≤ maxLen) (hbytes : (n + m) * bytes ≤ 140737488355328) (hbase : base ≤ w.heap.size)
    (h : ∀ A' c' w', w'.ownsRow base e size (.slice A' (n + m) c') (n + m) (xs ++ news) → Below base w w' → w.grownBy w' (Value.ownBlock (.slice A0 n c0)) → Keeps w w' (Value.ownBlock (.slice A0 n c0)) (Value.ownBlock (.slice A' (n + m) c')) → wpList P ops Q rest (a.put o.dst (.slice A' (n + m) c')) w') : wpList P ops Q (o :: rest) a w :=
  wpList_step fun K hK => by
    rw [if_pos hw]
    exact wp_app w s x t ho base e i z size bytes ht hi hz hsize hby hzs hsz A0 n c0 xs hs hown A m c news hx hl hr h1 h63 hbytes hbase fun A' c' w' h2 h3 h4 h5 => hK _ _ (h A' c' w' h2 h3 h4 h5)
theorem step_app {ops : Array Oper} {o : Oper} {a : Act} {K : Act → World → Prop} {Q : Exit → Act → World → Prop} {E : Prop} (hgd : o.guard = none) (s x : Operand) (t : TypeId)
    (ho : o.op = .call { callee := .builtin .append, args := #[s, x], argTypes := #[t, t] })
    (base : Nat) (e : TypeId) (i : TypeInfo) (z : Value) (size bytes : Nat) (ht : P.underlying t = some (.slice e)) (hi : P.info? e = some i) (hz : i.zero = some z)
    (hsize : i.size = size) (hby : i.bytes = bytes) (hzs : z.cells.size = size) (hsz : 0 < size)
    (A0 : Option Addr) (n c0 : Nat) (xs : List Value) (hs : a.eval s = .slice A0 n c0) (hown : w.ownsRow base e size (.slice A0 n c0) n xs)
    (A : Option Addr) (m c : Nat) (news : List Value) (hx : a.eval x = .slice A m c) (hl : news.length = m * size) (hr : Rds w A news) (h1 : ∀ u ∈ news, u.oneCell' = true)
    (h63 : n + m ≤ maxLen) (hbytes : (n + m) * bytes ≤ 140737488355328) (hbase : base ≤ w.heap.size)
    (h : ∀ A' c' w', w'.ownsRow base e size (.slice A' (n + m) c') (n + m) (xs ++ news) → Below base w w' → w.grownBy w' (Value.ownBlock (.slice A0 n c0)) → Keeps w w' (Value.ownBlock (.slice A0 n c0)) (Value.ownBlock (.slice A' (n + m) c')) → K (a.put o.dst (.slice A' (n + m) c')) w') :
    if Region.wanted o (yielded ops a.tmps) = true then Oper.wp P o a w K Q else E := by
  have hw : Region.wanted o (yielded ops a.tmps) = true := by simp [Region.wanted, hgd]
  rw [if_pos hw]
  exact wp_app w s x t ho base e i z size bytes ht hi hz hsize hby hzs hsz A0 n c0 xs hs hown A m c news hx hl hr h1 h63 hbytes hbase h

/-- A text appended to bytes of the call's own. -/
theorem wp_app_str {o : Oper} {a : Act} {K : Act → World → Prop} {Q : Exit → Act → World → Prop} (sl x : Operand) (t u : TypeId)
    (ho : o.op = .call { callee := .builtin .append, args := #[sl, x], argTypes := #[t, u] })
    (base : Nat) (e : TypeId) (i : TypeInfo) (ht : P.underlying t = some (.slice e)) (hu : P.underlying u = some .string) (hi : P.info? e = some i) (hz : i.zero = some (.int .u8 0))
    (hsize : i.size = 1) (hby : i.bytes = 1)
    (A0 : Option Addr) (n c0 : Nat) (xs : List Value) (hs : a.eval sl = .slice A0 n c0) (hown : w.ownsRow base e 1 (.slice A0 n c0) n xs) (s : ByteArray) (hx : a.eval x = .string s)
    (h63 : n + s.size ≤ maxLen) (hbytes : n + s.size ≤ 140737488355328) (hbase : base ≤ w.heap.size)
    (h : ∀ A' c' w', w'.ownsRow base e 1 (.slice A' (n + s.size) c') (n + s.size) (xs ++ Lib.strCells s) → Below base w w' → w.grownBy w' (Value.ownBlock (.slice A0 n c0)) → K (a.put o.dst (.slice A' (n + s.size) c')) w') : o.wp P a w K Q := by
  obtain ⟨v', w', hrun, h2, h3, _⟩ := Lib.run_append_own_string (P := P) w base t u o.type e i ht hu hi hz hsize hby _ n xs hown s h63 hbytes hbase
  obtain ⟨A', c', rfl, _⟩ := own_form h2
  unfold Oper.wp execOp
  simp only [ho, resolve, invoke, builtin, Sem.run_bind, Sem.run_pure, Result.andThen_ok, List.map_toArray, List.map_cons, List.map_nil, hs, hx, hrun]
  exact h A' c' w' h2 ((Below.refl base w).grown h3 hbase fun k hk => (hown.lt k hk).1) h3
theorem step_app_str {ops : Array Oper} {o : Oper} {a : Act} {K : Act → World → Prop} {Q : Exit → Act → World → Prop} {E : Prop} (hgd : o.guard = none) (sl x : Operand) (t u : TypeId)
    (ho : o.op = .call { callee := .builtin .append, args := #[sl, x], argTypes := #[t, u] })
    (base : Nat) (e : TypeId) (i : TypeInfo) (ht : P.underlying t = some (.slice e)) (hu : P.underlying u = some .string) (hi : P.info? e = some i) (hz : i.zero = some (.int .u8 0))
    (hsize : i.size = 1) (hby : i.bytes = 1)
    (A0 : Option Addr) (n c0 : Nat) (xs : List Value) (hs : a.eval sl = .slice A0 n c0) (hown : w.ownsRow base e 1 (.slice A0 n c0) n xs) (s : ByteArray) (hx : a.eval x = .string s)
    (h63 : n + s.size ≤ maxLen) (hbytes : n + s.size ≤ 140737488355328) (hbase : base ≤ w.heap.size)
    (h : ∀ A' c' w', w'.ownsRow base e 1 (.slice A' (n + s.size) c') (n + s.size) (xs ++ Lib.strCells s) → Below base w w' → w.grownBy w' (Value.ownBlock (.slice A0 n c0)) → K (a.put o.dst (.slice A' (n + s.size) c')) w') :
    if Region.wanted o (yielded ops a.tmps) = true then Oper.wp P o a w K Q else E := by
  have hw : Region.wanted o (yielded ops a.tmps) = true := by simp [Region.wanted, hgd]
  rw [if_pos hw]
  exact wp_app_str w sl x t u ho base e i ht hu hi hz hsize hby A0 n c0 xs hs hown s hx h63 hbytes hbase h
theorem wpList_app_str {ops : Array Oper} {rest : List Oper} {o : Oper} {a : Act} {Q : Exit → Act → World → Prop} (hgd : o.guard = none) (sl x : Operand) (t u : TypeId)
    (ho : o.op = .call { callee := .builtin .append, args := #[sl, x], argTypes := #[t, u] })
    (base : Nat) (e : TypeId) (i : TypeInfo) (ht : P.underlying t = some (.slice e)) (hu : P.underlying u = some .string) (hi : P.info? e = some i) (hz : i.zero = some (.int .u8 0))
    (hsize : i.size = 1) (hby : i.bytes = 1)
    (A0 : Option Addr) (n c0 : Nat) (xs : List Value) (hs : a.eval sl = .slice A0 n c0) (hown : w.ownsRow base e 1 (.slice A0 n c0) n xs) (s : ByteArray) (hx : a.eval x = .string s)
    (h63 : n + s.size ≤ maxLen) (hbytes : n + s.size ≤ 140737488355328) (hbase : base ≤ w.heap.size)
    (h : ∀ A' c' w', w'.ownsRow base e 1 (.slice A' (n + s.size) c') (n + s.size) (xs ++ Lib.strCells s) → Below base w w' → w.grownBy w' (Value.ownBlock (.slice A0 n c0)) → wpList P ops Q rest (a.put o.dst (.slice A' (n + s.size) c')) w') : wpList P ops Q (o :: rest) a w :=
  wpList_plain hgd fun _ hK => wp_app_str w sl x t u ho base e i ht hu hi hz hsize hby A0 n c0 xs hs hown s hx h63 hbytes hbase fun A' c' w' h2 h3 h4 => hK _ _ (h A' c' w' h2 h3 h4)
end

/-! Bytes. -/
def bv (l : List UInt8) : List Value := l.map fun c => .int .u8 c.toNat
theorem bv_length (l : List UInt8) : (bv l).length = l.length := by simp [bv]
theorem bv_append (l k : List UInt8) : bv (l ++ k) = bv l ++ bv k := by simp [bv]
theorem bv_take (l : List UInt8) (k : Nat) : (bv l).take k = bv (l.take k) := by simp [bv, List.map_take]
theorem bv_drop (l : List UInt8) (k : Nat) : (bv l).drop k = bv (l.drop k) := by simp [bv, List.map_drop]
theorem bv_one (l : List UInt8) : ∀ u ∈ bv l, u.oneCell' = true := by
  intro u hu
  obtain ⟨c, _, rfl⟩ := List.mem_map.1 hu
  rfl
theorem bv_at {l : List UInt8} {k : Nat} (h : k < l.length) : (bv l)[k]? = some (.int .u8 l[k].toNat) := by
  simp [bv, List.getElem?_eq_getElem h]

/-- The call's own bytes. -/
def OwnB (w : World) (B : Nat) (A : Option Addr) (c : Nat) (l : List UInt8) : Prop := w.ownsRow B 5 1 (.slice A l.length c) l.length (bv l)
theorem OwnB.rds {w : World} {B c : Nat} {A : Option Addr} {l : List UInt8} (h : OwnB w B A c l) : Rds w A (bv l) := Rds.own h

theorem byteInfo : (Try.prog.info? 5).map (fun i => (i.zero, i.size, i.bytes)) = some (some (.int .u8 0), 1, 1) := by kernel_rfl

/-- A slice of bytes as a text. -/
theorem conv_rds {w : World} {A : Option Addr} {l : List UInt8} (n c : Nat) (hn : n = l.length) (h : Rds w A (bv l)) :
    (convert 95 9 (.slice A n c)).run Try.prog w = .ok (.string ⟨l.toArray⟩) w := by
  subst hn
  rcases h with h | ⟨b, off, rfl, hc⟩
  · have hl : l = [] := by simpa [bv] using h
    subst hl
    simp only [List.length_nil]
    rcases A with _ | a
    · exact run_convert_bytes_nil w 95 5 Try.underlying95 Try.underlying5 0 c 9 Try.underlying9
    · rw [run_convert_bytes_string w 95 9 5 _ 0 c Try.underlying95 Try.underlying5 Try.underlying9,
        run_bytesToString w a 0 c [] (by have := run_loadCells_list (P := Try.prog) w a [] (fun j v hj => by simp at hj); simpa using this)]
      rfl
  · have := run_convert_bytes_arg (P := Try.prog) w 95 5 Try.underlying95 Try.underlying5 b off l.length c (l.map fun x => (x.toNat : Int)) (by simp)
      (fun i hi => by rw [hc i _ (bv_at hi)]; simp [List.getD, List.getElem?_eq_getElem hi]) 9 Try.underlying9
    rw [this]
    simp [strOfNums, Function.comp_def]
end Go.Proofs.Ytpkipleoodcplaa
