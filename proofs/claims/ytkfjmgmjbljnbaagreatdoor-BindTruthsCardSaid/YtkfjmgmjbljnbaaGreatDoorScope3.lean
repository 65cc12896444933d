/-
  The document's Few: a table that isn't too great. No conditions.
-/
import Derived.Test.YtkfjmgmjbljnbaaGreatDoorScope2
import Derived.Laws.OwnMore
import Derived.Deep.Onto
namespace Go.Proofs.YtkfjmgmjbljnbaaGreatDoor
open Go.RowKit

theorem colInfo : (Tryz.prog.info? 55).map (fun i => (i.zero, i.size, i.bytes)) = some (some (.agg #[.string ⟨#[]⟩, .int .u8 0]), 2, 24) := by kernel_rfl
/-- A slice appended to a slice of the call's own, as a run. -/
theorem app_run {P : Program} (w : World) (base : Nat) (t ty e : TypeId) (i : TypeInfo) (z : Value) (size bytes : Nat) (ht : P.underlying t = some (.slice e)) (hi : P.info? e = some i) (hz : i.zero = some z)
    (hsize : i.size = size) (hby : i.bytes = bytes) (hzs : z.cells.size = size) (hsz : 0 < size) (A0 : Option Addr) (n c0 : Nat) (xs : List Value) (hown : w.ownsRow base e size (.slice A0 n c0) n xs)
    (A : Option Addr) (m c : Nat) (news : List Value) (hl : news.length = m * size) (hr : Rds w A news) (h1 : ∀ u ∈ news, u.oneCell' = true)
    (h63 : n + m ≤ maxLen) (hbytes : (n + m) * bytes ≤ 140737488355328) (hbase : base ≤ w.heap.size) :
    ∃ A' c' w', (Builtin.append_ #[t, t] ty #[.slice A0 n c0, .slice A m c]).run P w = .ok (.slice A' (n + m) c') w' ∧ w'.ownsRow base e size (.slice A' (n + m) c') (n + m) (xs ++ news) ∧ Below base w w' ∧ Keeps w w' (Value.ownBlock (.slice A0 n c0)) (Value.ownBlock (.slice A' (n + m) c')) := by
  have fin : ∀ v' w', (Builtin.append_ #[t, t] ty #[.slice A0 n c0, .slice A m c]).run P w = .ok v' w' → w'.ownsRow base e size v' (n + m) (xs ++ news) → w.grownBy w' (Value.ownBlock (.slice A0 n c0)) → (v'.ownBlock = Value.ownBlock (.slice A0 n c0) ∨ v'.ownBlock = some w.heap.size) →
      ∃ A' c' w', (Builtin.append_ #[t, t] ty #[.slice A0 n c0, .slice A m c]).run P w = .ok (.slice A' (n + m) c') w' ∧ w'.ownsRow base e size (.slice A' (n + m) c') (n + m) (xs ++ news) ∧ Below base w w' ∧ Keeps w w' (Value.ownBlock (.slice A0 n c0)) (Value.ownBlock (.slice A' (n + m) c')) := by
    intro v' w' hrun h2 h3 hat
    obtain ⟨A', c', rfl, _⟩ := own_form h2
    exact ⟨A', c', w', hrun, h2, (Below.refl base w).grown h3 hbase fun k hk => (hown.lt k hk).1, keeps_of h3 hat⟩
  rcases A with _ | ad
  · have hn : news = [] := by
      rcases hr with h0 | ⟨b, off, h0, _⟩
      · exact h0
      · cases h0
    subst hn
    have hm : m = 0 := by
      simp only [List.length_nil] at hl
      rcases Nat.mul_eq_zero.1 hl.symm with h0 | h0
      · exact h0
      · omega
    subst hm
    exact fin _ w (run_app_nil w base t ty e i size ht hi _ n xs hown c) (by simpa using hown) (World.grownBy.refl w _) (.inl rfl)
  · have hcells : ∀ j u, news[j]? = some u → w.cell? (ad.add j) = some u := by
      intro j u hu
      obtain ⟨b, off, hA, hc⟩ := hr.at_ hu
      injection hA with hA
      subst hA
      have e : (⟨b, off, none⟩ : Addr).add j = ⟨b, off + j, none⟩ := by unfold Addr.add; split <;> simp_all
      rw [e]; exact hc
    obtain ⟨v', w', hrun, h2, h3, _, h5⟩ := run_append_own_at (P := P) w base t ty e i z size bytes ht hi hz hsize hby hzs hsz _ n xs hown ad m c news hl hcells h1 h63 hbytes hbase
    exact fin v' w' hrun h2 h3 h5
/-- What Few leaves: the table's name, and columns that are few, of right kinds, in a row of their own. -/
def FewPost (s : ByteArray) (w : World) (e : Ending) (w' : World) : Prop :=
  Below w.heap.size w w' ∧ ∃ A c cs, e = .returned (.agg #[.string s, .slice A cs.length c]) ∧ w'.ownsRow w.heap.size 55 2 (.slice A cs.length c) cs.length (colv cs) ∧ cs.length ≤ 8 ∧ cs.length ≤ c ∧ ∀ u ∈ cs, ColOk u ∧ 1 ≤ u.k ∧ u.k ≤ 3
theorem colv_take (cs : List Lp.Col) (n : Nat) : colv (cs.take n) = (colv cs).take (n * 2) := by
  induction cs generalizing n with
  | nil => simp [colv]
  | cons c cs ih =>
    cases n with
    | zero => simp [colv]
    | succ n =>
      have := ih n
      show [Value.string ⟨c.n.toArray⟩, .int .u8 c.k] ++ colv (cs.take n) = ([Value.string ⟨c.n.toArray⟩, .int .u8 c.k] ++ colv cs).take ((n + 1) * 2)
      rw [this, show (n + 1) * 2 = n * 2 + 1 + 1 by omega]
      rfl
theorem colv_len (cs : List Lp.Col) : (colv cs).length = cs.length * 2 := flat_len (f := colC) (n := 2) (fun _ => rfl) cs
theorem colv_one (cs : List Lp.Col) : ∀ u ∈ colv cs, u.oneCell' = true := by
  intro u hu
  unfold colv at hu
  obtain ⟨c, -, hc⟩ := List.mem_flatMap.1 hu
  simp only [List.mem_cons, List.not_mem_nil, or_false] at hc
  rcases hc with rfl | rfl <;> rfl
/-- One column's kind is another. -/
theorem colv_set {cs : List Lp.Col} {i : Nat} (hi : i < cs.length) (k : Int) : (colv cs).set (i * 2 + 1) (.int .u8 k) = colv (cs.set i ⟨(cs[i]).n, k⟩) := by
  induction cs generalizing i with
  | nil => simp at hi
  | cons c cs ih =>
    cases i with
    | zero => rfl
    | succ i =>
      have := ih (i := i) (by simpa using hi)
      have e : colv (c :: cs) = Value.string ⟨c.n.toArray⟩ :: .int .u8 c.k :: colv cs := rfl
      rw [e, show (i + 1) * 2 + 1 = (i * 2 + 1) + 1 + 1 by omega, List.set_cons_succ, List.set_cons_succ, this]
      rfl
/-- The columns that Few keeps while it goes. -/
def FewCs (i : Nat) (cs : List Lp.Col) : Prop := (∀ u ∈ cs, ColOk u) ∧ ∀ j (h : j < cs.length), j < i → 1 ≤ (cs[j]).k ∧ (cs[j]).k ≤ 3
theorem FewCs.next {i : Nat} {cs : List Lp.Col} (h : FewCs i cs) (hi : i < cs.length) {k : Int} (h1 : 1 ≤ k) (h2 : k ≤ 3) : FewCs (i + 1) (cs.set i ⟨(cs[i]).n, k⟩) := by
  refine ⟨fun u hu => ?_, fun j hj hlt => ?_⟩
  · rcases List.mem_or_eq_of_mem_set hu with hu | rfl
    · exact h.1 u hu
    · exact ⟨(h.1 _ (List.getElem_mem hi)).1, by show 0 ≤ k; omega, by show k ≤ 255; omega⟩
  · rw [List.getElem_set]
    split
    · exact ⟨h1, h2⟩
    · exact h.2 j (by simpa using hj) (by omega)
theorem FewCs.all {cs : List Lp.Col} (h : FewCs cs.length cs) : ∀ u ∈ cs, ColOk u ∧ 1 ≤ u.k ∧ u.k ≤ 3 := by
  intro u hu
  obtain ⟨j, hj, rfl⟩ := List.getElem_of_mem hu
  exact ⟨h.1 _ hu, h.2 j hj hj⟩
theorem World.ownsRow_setCell_lt {w : World} {base : Nat} {e : TypeId} {size : Nat} {v : Value} {n : Nat} {xs : List Value} (h : w.ownsRow base e size v n xs) {a : Addr} (ha : a.block < base) (u : Value) : (w.setCell a u).ownsRow base e size v n xs := ownsRow_setCell_below h ha u
theorem few_ne {k g n c : Nat} (h : k < g) : some k ≠ Value.ownBlock (.slice (some ⟨g, 0, none⟩) n c) := by
  show some k ≠ some g
  intro e
  injection e with e
  omega
set_option maxRecDepth 100000 in
set_option maxHeartbeats 8000000 in
theorem few17r_any (s : ByteArray) (A : Option Addr) (c : Nat) (cs : List Lp.Col) (w : World) (h : Rds w A (colv cs)) (hc : cs.length ≤ c) (hok : ∀ u ∈ cs, ColOk u) :
    Calls Tryz.prog 39 #[.agg #[.string s, .slice A cs.length c]] w (FewPost s w) := by
  obtain ⟨iC, hiC, hz0, hz1, hz2⟩ := info_parts colInfo
  have hm : (min (cs.length : Int) 8).toNat = min cs.length 8 := by omega
  have h0 : (0 : Int) ≤ min (cs.length : Int) 8 := by omega
  have h1 : min (cs.length : Int) 8 ≤ (cs.length : Int) := by omega
  have h2 : min (cs.length : Int) 8 ≤ (c : Int) := by omega
  have h3 : (min cs.length 8) ≤ 8 := by omega
  have hb0 : Below w.heap.size w ((w.alloc (.cells #[.string s, .slice A cs.length c] 90)).alloc (.cells #[.string ⟨#[]⟩, .slice none 0 0] 90)) := bal (bal (Below.refl _ _) _) _
  have hbl : Below w.heap.size w (((w.alloc (.cells #[.string s, .slice A cs.length c] 90)).alloc (.cells #[.string ⟨#[]⟩, .slice none 0 0] 90)).alloc (.cells #[] 55)) := bal hb0 _
  have hown : (((w.alloc (.cells #[.string s, .slice A cs.length c] 90)).alloc (.cells #[.string ⟨#[]⟩, .slice none 0 0] 90)).alloc (.cells #[] 55)).ownsRow (w.heap.size + 1 + 1) 55 2 (.slice (some ⟨w.heap.size + 1 + 1, 0, none⟩) 0 0) 0 [] := by
    have := World.ownsRow_lit (base := w.heap.size + 1 + 1) (e := 55) (size := 2) ((w.alloc (.cells #[.string s, .slice A cs.length c] 90)).alloc (.cells #[.string ⟨#[]⟩, .slice none 0 0] 90)) #[] 0 (by simp) (Nat.zero_le _) rfl
    simpa using this
  have hrd : Rds (((w.alloc (.cells #[.string s, .slice A cs.length c] 90)).alloc (.cells #[.string ⟨#[]⟩, .slice none 0 0] 90)).alloc (.cells #[] 55)) A (colv (cs.take (min cs.length 8))) := by
    rw [colv_take]
    exact (h.below hbl).take _
  have hx := box_alloc (box_alloc (heap_alloc_new w (.cells #[.string s, .slice A cs.length c] 90)) (.cells #[.string ⟨#[]⟩, .slice none 0 0] 90)) (.cells #[] 55)
  have hr := box_alloc (heap_new2 w (.cells #[.string s, .slice A cs.length c] 90) (.cells #[.string ⟨#[]⟩, .slice none 0 0] 90)) (.cells #[] 55)
  have hcl : (cs.take (min cs.length 8)).length = (min cs.length 8) := by rw [List.length_take]; omega
  have hF0 : FewCs 0 (cs.take (min cs.length 8)) := ⟨fun u hu => hok u (List.mem_of_mem_take hu), fun j _ hj => by omega⟩
  have HX := Lib.hid (And.intro hx (And.intro hr (And.intro hbl (And.intro hcl hF0))))
  have HO := Lib.hid hown
  have HR := Lib.hid hrd
  have hcl2 : (colv (cs.take (min cs.length 8))).length = (min cs.length 8) * 2 := by rw [colv_len, hcl]
  have HC := Lib.hid hcl2
  have HCO := Lib.hid (colv_one (cs.take (min cs.length 8)))
  have hcI : ((min cs.length 8 : Nat) : Int) ≤ 8 := by omega
  clear hx hr hbl hcl hF0 hown hrd hcl2 hb0 h hok
  go_enter Tryz.func39, Tryz.ntmps39
  go_wp2_with (at_builtin; go_loud (refine wpList_app _ rfl (.tmp 4) (.tmp 11) _ rfl (w.heap.size + 1 + 1) 55 iC _ 2 24 Tryz.underlying56 hiC hz0 hz1 hz2 rfl (by omega) _ _ _ _ rfl HO.out _ (min cs.length 8) _ (colv (cs.take (min cs.length 8))) rfl HC.out HR.out HCO.out (by simp only [maxLen]; omega) (by omega) (by simp) ?_; intro A4 c4 w4 hown4 hb4 _ hk4; rw [List.nil_append, Nat.zero_add] at hown4; rw [Nat.zero_add] at hk4 ⊢; obtain ⟨hx, hxn⟩ := hk4 _ _ HX.out.1 (few_ne (by omega)); obtain ⟨hr, -⟩ := hk4 _ _ HX.out.2.1 (few_ne (by omega)); have cx4 := box_cells hx; have fx4 := fun j => frozen_of_row _ _ j _ _ hx))
  have hb5 := HX.out.2.2.1.trans (hb4.mono (Nat.le_trans (Nat.le_succ _) (Nat.le_succ _)))
  have hown5 := World.ownsRow_setCell_lt hown4 (a := ⟨w.heap.size, 1, none⟩) (by show w.heap.size < w.heap.size + 1 + 1; omega) (.slice A4 (min cs.length 8) c4)
  have hx5 := heap_setCell_same w4 w.heap.size 1 _ _ (.slice A4 (min cs.length 8) c4) hx
  rw [show (#[Value.string s, .slice A cs.length c] : Array Value).setIfInBounds 1 (.slice A4 (min cs.length 8) c4) = #[.string s, .slice A4 (min cs.length 8) c4] by simp] at hx5
  have hr5 := (Below.heap_setCell w4 ⟨w.heap.size, 1, none⟩ (.slice A4 (min cs.length 8) c4) (w.heap.size + 1) (by show w.heap.size + 1 ≠ w.heap.size; omega)).trans hr
  have hb6 := hb5.setCell (p := ⟨w.heap.size, 1, none⟩) (Nat.le_refl _) (.slice A4 (min cs.length 8) c4)
  have hF0 := HX.out.2.2.2.2
  have hcl := HX.out.2.2.2.1
  generalize (w4.setCell ⟨w.heap.size, 1, none⟩ (.slice A4 (min cs.length 8) c4)) = W5 at *
  generalize cs.take (min cs.length 8) = ct at *
  have HI := Lib.hid (And.intro hown5 (And.intro hx5 (And.intro hr5 (And.intro hb6 (And.intro hF0 hcl)))))
  clear hown5 hx5 hr5 hb6 hF0 hcl hb5 cx4 fx4 hx hxn hr hk4 hb4 hown4 HO HR HC HCO HX
  go_loopw [3, 17] (fun _ s17 wr => ∃ (i : Nat) (ct : List Lp.Col), i ≤ min cs.length 8 ∧ s17 = .int .i64 i ∧ ct.length = min cs.length 8 ∧ wr.ownsRow (w.heap.size + 1 + 1) 55 2 (.slice A4 (min cs.length 8) c4) (min cs.length 8) (colv ct) ∧ FewCs i ct ∧
    wr.heap[w.heap.size]? = some (.cells #[.string s, .slice A4 (min cs.length 8) c4] 90 (0, 0)) ∧ wr.heap[w.heap.size + 1]? = some (.cells #[.string ⟨#[]⟩, .slice none 0 0] 90 (0, 0)) ∧ Below w.heap.size w wr) (fun _ s17 _ => min cs.length 8 - (intOf s17).toNat)
  case atStart => exact ⟨0, ct, Nat.zero_le _, rfl, HI.out.2.2.2.2.2, HI.out.1, HI.out.2.2.2.2.1, HI.out.2.1, HI.out.2.2.1, HI.out.2.2.2.1⟩
  case round =>
    obtain ⟨i, ct, hi, rfl, hcl, hown, hF, hx, hr, hb⟩ := hrel
    generalize min cs.length 8 = m at *
    by_cases hlt : i < m
    · obtain ⟨g4, cap, hv, -⟩ := hown.form (by omega)
      injection hv with hA4 h7 h8
      clear h7 h8
      subst hA4
      obtain ⟨b, off, hA, q0, q1⟩ := colv_cells (Rds.own hown) (show i < ct.length by omega)
      simp only [Option.some.injEq, Addr.mk.injEq, and_true] at hA
      obtain ⟨rfl, rfl⟩ := hA
      have hk := hF.1 _ (List.getElem_mem (show i < ct.length by omega))
      have hk0 := hk.2.1
      have hk1 := hk.2.2
      have cx := box_cells hx
      have fo := hown.frozenAt
      simp only [Nat.zero_add] at q0 q1
      generalize (ct[i]'(by omega)).k = kd at *
      have HS := Lib.hid (And.intro hcl (And.intro hown (And.intro hF (And.intro hx (And.intro hr hb)))))
      clear q0 hk hcl hown hF hx hr hb HI
      go_wp2_with fail
      go_region
      obtain ⟨hcl, hown, hF, hx, hr, hb⟩ := HS.out
      have hg4 := (hown.lt g4 rfl).1
      have ho2 := (hown.stored (i * 2 + 1) (.int .u8 (1 + kd % 3))).1
      rw [colv_set (show i < ct.length by omega)] at ho2
      have hF2 := hF.next (show i < ct.length by omega) (k := 1 + kd % 3) (by omega) (by omega)
      have hx2 := (Below.heap_setCell wr ⟨g4, i * 2 + 1, none⟩ (.int .u8 (1 + kd % 3)) w.heap.size (by show w.heap.size ≠ g4; omega)).trans hx
      have hr2 := (Below.heap_setCell wr ⟨g4, i * 2 + 1, none⟩ (.int .u8 (1 + kd % 3)) (w.heap.size + 1) (by show w.heap.size + 1 ≠ g4; omega)).trans hr
      have hb2 := hb.setCell (p := ⟨g4, i * 2 + 1, none⟩) (by show w.heap.size ≤ g4; omega) (.int .u8 (1 + kd % 3))
      have hl2 : (ct.set i ⟨(ct[i]'(by omega)).n, 1 + kd % 3⟩).length = m := by rw [List.length_set]; exact hcl
      have hN := And.intro hl2 (And.intro ho2.drew (And.intro hF2 (And.intro hx2 (And.intro hr2 hb2.drew))))
      generalize ct.set i ⟨(ct[i]'(by omega)).n, 1 + kd % 3⟩ = ct2 at hN
      have HN := Lib.hid hN
      clear hcl hown hF hx hr hb hg4 ho2 hF2 hx2 hr2 hb2 hl2 hN HS cx fo q1
      go_wp2
      go_roundw
      case rel => exact ⟨i + 1, _, by omega, by go_num, HN.out.1, HN.out.2.1, HN.out.2.2.1, HN.out.2.2.2.1, HN.out.2.2.2.2.1, HN.out.2.2.2.2.2⟩
      case measure => simp [intOf]; omega
    · have hi2 : i = ct.length := by omega
      have hok2 := (hi2 ▸ hF).all
      have cx := box_cells hx
      have cr := box_cells hr
      have fr := fun j => frozen_of_row _ _ j _ _ hr
      have hm8 : ct.length ≤ 8 := by omega
      have hcap : ct.length ≤ c4 := by
        rcases hown.2 with ⟨hv, h0⟩ | ⟨g, cap, cur, hv, -, -, hnc, -⟩
        · omega
        · injection hv with _ _ hv
          omega
      have hm2 : m = ct.length := by omega
      subst hm2
      have hr3 := heap_setCell_same _ (w.heap.size + 1) 1 _ _ (.slice A4 ct.length c4) (heap_setCell_same wr (w.heap.size + 1) 0 _ _ (.string s) hr)
      have hb3 := (hb.setCell (p := ⟨w.heap.size + 1, 0, none⟩) (Nat.le_succ _) (.string s)).setCell (p := ⟨w.heap.size + 1, 1, none⟩) (Nat.le_succ _) (.slice A4 ct.length c4)
      have HCE := Lib.hid (box_cells hr3)
      have hrd2 := (World.ownsRow_setCell_lt (World.ownsRow_setCell_lt hown (a := ⟨w.heap.size + 1, 0, none⟩) (by show w.heap.size + 1 < _; omega) (.string s)) (a := ⟨w.heap.size + 1, 1, none⟩) (by show w.heap.size + 1 < _; omega) (.slice A4 ct.length c4)).mono (base' := w.heap.size) (by omega)
      have HE := Lib.hid (show FewPost s w (.returned (.agg #[.string s, .slice A4 ct.length c4])) ((wr.setCell ⟨w.heap.size + 1, 0, none⟩ (.string s)).setCell ⟨w.heap.size + 1, 1, none⟩ (.slice A4 ct.length c4)) from ⟨hb3, A4, c4, ct, rfl, hrd2, hm8, hcap, hok2⟩)
      clear hown hx hr hb hb3 hrd2 hok2 hF hr3 hi2
      go_wp2
      have hcE := HCE.out
      simp only [List.setIfInBounds_toArray, List.set_cons_zero, List.set_cons_succ] at hcE
      exact bodyPost_ret (v := .agg #[.string s, .slice A4 ct.length c4]) (by simp [results, Tryz.results39, go_sem, hcE]) rfl HE.out
end Go.Proofs.YtkfjmgmjbljnbaaGreatDoor
