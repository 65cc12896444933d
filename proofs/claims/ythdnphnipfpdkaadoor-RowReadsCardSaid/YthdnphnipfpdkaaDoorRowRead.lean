/-
  What row.Read gives, of any kinds and any bytes: the row, or the refusal. Conditions: unicode/utf8's tables as laid; at most 10^6 bytes.
-/
import Derived.Test.YthdnphnipfpdkaaDoorRowTake2
import Derived.Test.YthdnphnipfpdkaaDoorRowTake3
import Derived.Test.YthdnphnipfpdkaaDoorKeyRead
namespace Go.Proofs.YthdnphnipfpdkaaDoor
open Go.RowKit

def RowReadPost (w : World) (ks l : List UInt8) (e : Ending) (w' : World) : Prop :=
  Below w.heap.size w w' ∧ ((Lp.kindsOk ks = false ∧ e = .returned (.tuple #[.slice none 0 0, .int .i64 1])) ∨
    (Lp.kindsOk ks = true ∧ ((∃ L A c, Lp.rread ks l = some L ∧ e = .returned (.tuple #[.slice A L.length c, .int .i64 0]) ∧ RdsV w' A L ∧ ∀ u ∈ L, u.ok) ∨
      (Lp.rread ks l = none ∧ e = .returned (.tuple #[.slice none 0 0, .int .i64 3])))))
def rEnd : Option (List Lp.V × List UInt8) → Option (List Lp.V)
  | some (l, []) => some l
  | _ => none
theorem bit_of (a : Nat) (h : a < 256) : bits .and .u8 (a : Int) 1 = ((a % 2 : Nat) : Int) := by
  have := u8_and_nat a 1 h (by decide)
  rw [Nat.and_one_is_mod] at this
  exact this
theorem kind_cases {ks : List UInt8} (h : Lp.kindsOk ks = true) {i : Nat} (hi : i < ks.length) : ks[i] = 1 ∨ ks[i] = 2 ∨ ks[i] = 3 := by
  simp [Lp.kindsOk] at h
  have := h.2 ks[i] (List.getElem_mem hi)
  have e : ∀ (n : Nat), ks[i].toNat = n → n < 256 → ks[i] = UInt8.ofNat n := fun n hn hl => UInt8.toNat_inj.1 (by rw [hn]; simp; omega)
  rcases (show ks[i].toNat = 1 ∨ ks[i].toNat = 2 ∨ ks[i].toNat = 3 by omega) with h1 | h1 | h1
  · exact .inl (e 1 h1 (by omega))
  · exact .inr (.inl (e 2 h1 (by omega)))
  · exact .inr (.inr (e 3 h1 (by omega)))
theorem take4_any (k : UInt8) (hk : k = 1 ∨ k = 2 ∨ k = 3) (A : Option Addr) (n c : Nat) (l : List UInt8) (hnl : n = l.length) (w : World) (h : Rds w A (bv l)) (hc : n ≤ c) (hcm : n ≤ 1000000) (hT : Tabs w) :
    Calls Tryd.prog 48 #[.int .u8 k.toNat, .slice A n c] w (TakePost w A (Lp.rtake k l)) := by
  rcases hk with rfl | rfl | rfl
  · exact take4_int A n c l hnl w h hc (by omega)
  · exact take4_text A n c l hnl w h hc hcm hT
  · exact take4_bool A n c l hnl w h hc hcm
/-- The rest of a reading, from kind i on. -/
def Rest (ks : List UInt8) (x : Nat) (r0 : List UInt8) (i : Nat) (L : List Lp.V) (p : List UInt8) : Prop :=
  Lp.rtakes ks x r0 = (Lp.rtakes (ks.drop i) (x / 2 ^ i) p).map fun y => (L ++ y.1, y.2)
theorem rest_null {ks : List UInt8} {x i : Nat} {r0 p : List UInt8} {L : List Lp.V} (h : Rest ks x r0 i L p) (hi : i < ks.length) (hb : x / 2 ^ i % 2 = 1) : Rest ks x r0 (i + 1) (L ++ [Lp.vNull]) p := by
  unfold Rest at *
  rw [h, List.drop_eq_getElem_cons hi, Lp.rtakes, if_pos hb, Option.map_map, Nat.div_div_eq_div_mul, ← Nat.pow_succ]
  congr 1; funext y; simp
theorem rest_some {ks : List UInt8} {x i : Nat} {r0 p r : List UInt8} {L : List Lp.V} {v : Lp.V} (h : Rest ks x r0 i L p) (hi : i < ks.length) (hb : x / 2 ^ i % 2 ≠ 1) (hk : Lp.rtake ks[i] p = some (v, r)) : Rest ks x r0 (i + 1) (L ++ [v]) r := by
  unfold Rest at *
  rw [h, List.drop_eq_getElem_cons hi, Lp.rtakes, if_neg hb, hk]
  simp only [Option.map_map, Nat.div_div_eq_div_mul, ← Nat.pow_succ]
  congr 1; funext y; simp
theorem rest_none {ks : List UInt8} {x i : Nat} {r0 p : List UInt8} {L : List Lp.V} (h : Rest ks x r0 i L p) (hi : i < ks.length) (hb : x / 2 ^ i % 2 ≠ 1) (hk : Lp.rtake ks[i] p = none) : Lp.rtakes ks x r0 = none := by
  unfold Rest at *
  rw [h, List.drop_eq_getElem_cons hi, Lp.rtakes, if_neg hb, hk]; rfl
theorem rest_end {ks : List UInt8} {x : Nat} {r0 p : List UInt8} {L : List Lp.V} (h : Rest ks x r0 ks.length L p) : Lp.rtakes ks x r0 = some (L, p) := by
  unfold Rest at h
  rw [h, List.drop_length, Lp.rtakes]; simp
theorem rtake_nil (k : UInt8) : Lp.rtake k [] = none := by
  unfold Lp.rtake; split
  · simp
  · split <;> rfl
theorem rtake_le {k : UInt8} {p q : List UInt8} {v : Lp.V} (h : Lp.rtake k p = some (v, q)) : q.length ≤ p.length := by
  unfold Lp.rtake at h
  split at h
  · split at h
    · cases h
    · simp only [Option.some.injEq, Prod.mk.injEq] at h; rw [← h.2]; simp
  · split at h
    · cases p with
      | nil => simp at h
      | cons x p =>
        simp only at h
        split at h
        · simp only [Option.some.injEq, Prod.mk.injEq] at h; rw [← h.2]; simp; omega
        · cases h
    · cases p with
      | nil => simp at h
      | cons x p =>
        simp only at h
        split at h
        · simp only [Option.some.injEq, Prod.mk.injEq] at h; rw [← h.2]; simp
        · cases h
theorem set4_same {w : World} {g : Nat} {t : TypeId} {a0 a1 a2 a3 : Value} (h : w.heap[g]? = some (.cells #[a0, a1, a2, a3] t (0, 0))) (u0 u1 u2 u3 : Value) :
    ((((w.setCell ⟨g, 0, none⟩ u0).setCell ⟨g, 1, none⟩ u1).setCell ⟨g, 2, none⟩ u2).setCell ⟨g, 3, none⟩ u3).heap[g]? = some (.cells #[u0, u1, u2, u3] t (0, 0)) := by
  simp [World.setCell, Array.getElem?_modify, h]
theorem own_set {w : World} {B n s : Nat} {e : TypeId} {v : Value} {xs : List Value} {g : Nat} (h : w.ownsRow B e s v n xs) (hne : some g ≠ v.ownBlock) (j : Nat) (u : Value) : (w.setCell ⟨g, j, none⟩ u).ownsRow B e s v n xs := by
  refine h.kept (row := some g) ⟨rfl, rfl, rfl, ?_, ?_⟩ (.inr hne.symm)
  · simp [World.setCell]
  · intro i hi hgi
    simp only [World.setCell, Array.getElem?_modify]
    rw [if_neg (by intro q; exact hgi (by rw [q]))]
set_option maxRecDepth 100000 in
set_option maxHeartbeats 4000000 in
theorem rowRead_any (AK : Option Addr) (nK cK : Nat) (ks : List UInt8) (AP : Option Addr) (nP cP : Nat) (l : List UInt8) (hnk : nK = ks.length) (hnp : nP = l.length) (w : World) (hK : Rds w AK (bv ks)) (hkn : ks.length ≤ 70368744177664)
    (hP : Rds w AP (bv l)) (hcP : nP ≤ cP) (hl : l.length ≤ 1000000) (hT : Tabs w) :
    Calls Tryd.prog 36 #[.slice AK nK cK, .slice AP nP cP] w (RowReadPost w ks l) := by
  subst hnk hnp
  obtain ⟨iV, hiV, hzV0, hzV1, hzV2⟩ := info_parts valInfo
  cases hko : Lp.kindsOk ks
  · have HKO := Lib.hid hko
    clear hko
    go_enter Tryd.func36, Tryd.ntmps36
    go_wp2_with fail
    refine (rright_any _ _ _ ks _ rfl HKO.out _ hK hkn).mono ?_
    rintro e w' ⟨rfl, rfl⟩
    go_wp2
    go_ret2
    exact ⟨Below.refl _ _, .inl ⟨HKO.out, rfl⟩⟩
  · have HKO := Lib.hid hko
    have h8 : ks.length ≤ 8 := by simp [Lp.kindsOk] at hko; exact hko.1.2
    clear hko
    rcases l with _ | ⟨x, r⟩
    · go_enter Tryd.func36, Tryd.ntmps36
      go_wp2_with fail
      refine (rright_any _ _ _ ks _ rfl HKO.out _ hK hkn).mono ?_
      rintro e w' ⟨rfl, rfl⟩
      go_wp2
      go_ret2
      exact ⟨Below.refl _ _, .inr ⟨HKO.out, .inr ⟨rfl, rfl⟩⟩⟩
    · obtain ⟨b, off, rfl, p0⟩ := hP.at_ (k := 0) (u := .int .u8 x.toNat) rfl
      have hlt := World.block_lt_of_cell? w _ p0
      simp only [Nat.add_zero] at p0 hlt
      have hxl := x.toNat_lt
      have el : ((r.length : Int) + 1 == 0) = false := by simp; omega
      simp only [List.length_cons] at hcP hl ⊢
      by_cases hbad : 200 < r.length + 1 ∨ x.toNat / 2 ^ ks.length ≠ 0
      · have HF : Hid (Lp.rread ks (x :: r) = none) := by show _ = _; simp only [Lp.rread]; rw [if_pos hbad]
        by_cases h200 : 200 < r.length + 1
        · clear hbad
          go_enter Tryd.func36, Tryd.ntmps36
          go_wp2_with fail
          refine (rright_any _ _ _ ks _ rfl HKO.out _ hK hkn).mono ?_
          rintro e w' ⟨rfl, rfl⟩
          go_wp2
          go_ret2
          exact ⟨Below.refl _ _, .inr ⟨HKO.out, .inr ⟨HF.out, rfl⟩⟩⟩
        · have hq : x.toNat / 2 ^ ks.length ≠ 0 := hbad.resolve_left h200
          have e1 : ((x.toNat : Int) / 2 ^ ks.length != 0) = true := by
            have : ((x.toNat : Int) / 2 ^ ks.length) = ((x.toNat / 2 ^ ks.length : Nat) : Int) := by simp
            rw [this]; exact bne_iff_ne.2 (fun g => hq (by omega))
          clear hbad hq
          go_enter Tryd.func36, Tryd.ntmps36
          go_wp2_with fail
          refine (rright_any _ _ _ ks _ rfl HKO.out _ hK hkn).mono ?_
          rintro e w' ⟨rfl, rfl⟩
          go_wp2
          go_ret2
          exact ⟨Below.refl _ _, .inr ⟨HKO.out, .inr ⟨HF.out, rfl⟩⟩⟩
      · have h200 : ¬ 200 < r.length + 1 := fun g => hbad (.inl g)
        have hq : x.toNat / 2 ^ ks.length = 0 := by
          by_cases g : x.toNat / 2 ^ ks.length = 0
          · exact g
          · exact absurd (.inr g) hbad
        have HRR : Hid (Lp.rread ks (x :: r) = rEnd (Lp.rtakes ks x.toNat r)) := by
          show _ = _
          simp only [Lp.rread]
          rw [if_neg hbad]
          cases Lp.rtakes ks x.toNat r with
          | none => rfl
          | some y => obtain ⟨a, c⟩ := y; cases c <;> rfl
        have e1 : ((x.toNat : Int) / 2 ^ ks.length != 0) = false := by
          have : ((x.toNat : Int) / 2 ^ ks.length) = ((x.toNat / 2 ^ ks.length : Nat) : Int) := by simp
          rw [this, hq]; rfl
        have hd := hP.drop 1 (cap := cP) (by rw [bv_length, List.length_cons]; exact hcP)
        clear hbad hq
        go_enter Tryd.func36, Tryd.ntmps36
        go_wp2_with fail
        refine (rright_any _ _ _ ks _ rfl HKO.out _ hK hkn).mono ?_
        rintro e w' ⟨rfl, rfl⟩
        go_upto_region 5 with fail
        go_cut [6, 7] (fun s6 s7 wx => ∃ (o2 cR : Nat), s6 = .int .u8 x.toNat ∧ s7 = .slice (some ⟨b, o2, none⟩) r.length cR ∧ r.length ≤ cR ∧ Rds w (some ⟨b, o2, none⟩) (bv r) ∧ Below w.heap.size w wx)
        case first =>
          by_cases h1 : cP = 1
          · subst h1
            have hr0 : r = [] := List.eq_nil_of_length_eq_zero (by omega)
            subst hr0
            go_wp2_with fail
            go_quiet (fail)
            go_wp2
            go_meet
            exact ⟨off, _, rfl, rfl, by simp, Rds.nil_, drewN_below w _⟩
          · rw [if_neg h1] at hd
            have hd2 : Rds w (some ⟨b, off + 1, none⟩) (bv r) := hd
            clear hd
            go_wp2_with fail
            go_quiet (fail)
            go_wp2
            go_meet
            exact ⟨off + 1, cP - 1, rfl, by simp, by omega, hd2, drewN_below w _⟩
        case rest =>
          obtain ⟨o2, cR, rfl, rfl, hcR, hr, hbw0⟩ := hcut
          clear hd p0 e1
          go_wp2_with fail
          go_loopg [7, 8, 9, 10, 11, 12, 41] (ks.length + 1) (fun gk s7 s8 _ _ _ _ s41 wr => ∃ (i : Nat) (p : List UInt8) (Ap : Option Addr) (cp : Nat) (L : List Lp.V) (A2 : Option Addr) (c2 : Nat), i ≤ ks.length ∧ gk = ks.length + 1 - i ∧ s41 = .int .i64 i ∧ s7 = .slice Ap p.length cp ∧ p.length ≤ cp ∧ Rds w Ap (bv p) ∧ p.length ≤ r.length ∧
            s8 = .slice A2 i c2 ∧ wr.ownsRow w.heap.size 36 4 (.slice A2 i c2) i (Lp.vv L) ∧ Hid (L.length = i) ∧ Hid (∀ u ∈ L, u.ok) ∧ Hid (Rest ks x.toNat r i L p) ∧ Below w.heap.size w wr)
          case atStart => exact ⟨0, r, _, cR, [], none, 0, by omega, rfl, rfl, rfl, hcR, hr, Nat.le_refl _, rfl, World.ownsRow_nil _ _ _ _, rfl, (fun u hu => by cases hu), by show Rest _ _ _ _ _ _; unfold Rest; simp, hbw0⟩
          case round =>
            obtain ⟨i, p, Ap, cp, L, A2, c2, hik, rfl, rfl, rfl, hcp, hp, hpl, rfl, hown, HLI, HOK, HRE, hbw⟩ := hrel
            have hsz := hbw.size
            by_cases hi : i < ks.length
            · obtain ⟨bk, ok', he, q0⟩ := (hK.below hbw).at_ (bv_at hi)
              subst he
              have hqlt := World.block_lt_of_cell? wr _ q0
              have hi8 : i < 8 := by omega
              have hdv : ((x.toNat : Int) / 2 ^ i) = ((x.toNat / 2 ^ i : Nat) : Int) := by simp
              have hlt256 : x.toNat / 2 ^ i < 256 := Nat.lt_of_le_of_lt (Nat.div_le_self _ _) hxl
              have hbit : bits .and .u8 ((x.toNat : Int) / 2 ^ i) 1 = ((x.toNat / 2 ^ i % 2 : Nat) : Int) := by rw [hdv]; exact bit_of _ hlt256
              clear hdv hlt256
              by_cases hb1 : x.toNat / 2 ^ i % 2 = 1
              · have HB1 := Lib.hid (rest_null HRE.out hi hb1)
                rw [hb1] at hbit
                clear hb1
                go_wp2_with (at_builtin; refine wpList_app _ rfl (.tmp 61) (.tmp 63) _ rfl w.heap.size 36 iV _ 4 40 Tryd.underlying28 hiV hzV0 hzV1 hzV2 rfl (by omega) _ _ _ _ rfl ((hown.alloc _).alloc _) _ 1 1 (Lp.vv [Lp.vNull]) rfl rfl (rds_blk (Lp.vv [Lp.vNull]) (heap_new2 wr _ _)) (by simp [Value.oneCell', Lp.vv, Lp.V.cells, Lp.vNull]) (by simp only [maxLen]; omega) (by omega) (by simp; omega) ?_; intro A4 c4 w4 hown4 hb4 hg4 _)
                have hbw4 := (((hbw.alloc hsz _).alloc (by simp; omega) _).trans hb4)
                rw [← Lp.vv_append] at hown4
                have HLI2 : Hid ((L ++ [Lp.vNull]).length = i + 1) := by show _ = _; rw [List.length_append, HLI.out]; rfl
                have HOK2 : Hid (∀ u ∈ L ++ [Lp.vNull], u.ok) := by
                  show ∀ u ∈ L ++ [Lp.vNull], u.ok
                  intro u hu
                  rcases List.mem_append.1 hu with h1 | h1
                  · exact HOK.out u h1
                  · have : u = Lp.vNull := by simpa using h1
                    rw [this]; exact vnull_ok
                clear hb4 hg4 hown hbw HLI HOK HRE hbit
                go_wp2
                go_roundg (ks.length + 1 - (i + 1))
                case measure => omega
                case rel => exact ⟨i + 1, p, Ap, cp, L ++ [Lp.vNull], A4, c4, by omega, rfl, by go_num, rfl, hcp, hp, hpl, rfl, hown4, HLI2, HOK2, HB1, hbw4⟩
              · have hb0 : x.toNat / 2 ^ i % 2 = 0 := by omega
                rw [hb0] at hbit
                have hk3 := kind_cases HKO.out hi
                have HSOME := Lib.hid (fun v q (hk : Lp.rtake ks[i] p = some (v, q)) => rest_some HRE.out hi hb1 hk)
                have HNONE := Lib.hid (fun (hk : Lp.rtake ks[i] p = none) => rest_none HRE.out hi hb1 hk)
                clear hb1 hb0 HRE
                generalize ks[i] = kk at *
                have hx0 := heap_alloc_new wr (.cells #[.int .u8 0, .int .i64 0, .string ⟨#[]⟩, .bool false] 36)
                have hown0 := World.ownsRow.alloc hown (.cells #[.int .u8 0, .int .i64 0, .string ⟨#[]⟩, .bool false] 36)
                have hne := own_old hown (Nat.le_refl _)
                have hT0 := tabs_below hT (hbw.alloc hsz (.cells #[.int .u8 0, .int .i64 0, .string ⟨#[]⟩, .bool false] 36))
                have hbw1 := hbw.alloc hsz (.cells #[.int .u8 0, .int .i64 0, .string ⟨#[]⟩, .bool false] 36)
                go_wp2_with fail
                refine (take4_any kk hk3 Ap _ cp p rfl _ (hp.below hbw1) hcp (by omega) hT0).mono ?_
                rintro e w1 ⟨hb1, ⟨v, q, A3, c3, ho, rfl, hc3, hr3, hv3, hB3⟩ | ⟨ho, v, y, rfl⟩⟩
                · have HB1 := Lib.hid (HSOME.out v q ho)
                  have hql := rtake_le ho
                  have hpn : bv p ≠ [] := by
                    intro g
                    have : p = [] := by simpa [bv] using g
                    rw [this, rtake_nil] at ho; cases ho
                  have hx1 := box_below hx0 hb1
                  have hc1 := box_cells hx1
                  have hf1 := fun j => frozen_of_row w1 wr.heap.size j _ _ hx1
                  have hbw2 := hbw1.trans (hb1.mono (by simp; omega))
                  have hq := rds_back hbw2 hp hpn hB3 hr3
                  have hsz1 := hb1.size
                  rw [World.size_alloc] at hsz1
                  have hown1 := own_below hown0 hb1
                  have HLI2 : Hid ((L ++ [v]).length = i + 1) := by show _ = _; rw [List.length_append, HLI.out]; rfl
                  have HOK2 : Hid (∀ u ∈ L ++ [v], u.ok) := by
                    show ∀ u ∈ L ++ [v], u.ok
                    intro u hu
                    rcases List.mem_append.1 hu with h1 | h1
                    · exact HOK.out u h1
                    · have : u = v := by simpa using h1
                      rw [this]; exact hv3
                  obtain ⟨k, vi, s, vb⟩ := v
                  have hown2 := own_set (own_set (own_set (own_set hown1 hne 0 (.int .u8 k)) hne 1 (.int .i64 vi)) hne 2 (.string s)) hne 3 (.bool vb)
                  have hbw3 := (((hbw2.setCell (p := ⟨wr.heap.size, 0, none⟩) hsz (.int .u8 k)).setCell (p := ⟨wr.heap.size, 1, none⟩) hsz (.int .i64 vi)).setCell (p := ⟨wr.heap.size, 2, none⟩) hsz (.string s)).setCell (p := ⟨wr.heap.size, 3, none⟩) hsz (.bool vb)
                  have hsz3 := hbw3.size
                  have hxs := set4_same hx1 (.int .u8 k) (.int .i64 vi) (.string s) (.bool vb)
                  clear hb1 hx0 hown0 HSOME HNONE ho hown hbw hbw1 hT0 hbw2 hbit hown1 hx1 hr3 hB3 hpn HLI HOK hv3 hne
                  go_upto_region 15 with (fail)
                  clear hc1 hf1
                  generalize (((w1.setCell ⟨wr.heap.size, 0, none⟩ (.int .u8 k)).setCell ⟨wr.heap.size, 1, none⟩ (.int .i64 vi)).setCell ⟨wr.heap.size, 2, none⟩ (.string s)).setCell ⟨wr.heap.size, 3, none⟩ (.bool vb) = ws at *
                  have hcs := box_cells hxs
                  go_wp2_with (at_builtin; refine wpList_app _ rfl (.tmp 61) (.tmp 63) _ rfl w.heap.size 36 iV _ 4 40 Tryd.underlying28 hiV hzV0 hzV1 hzV2 rfl (by omega) _ _ _ _ rfl (World.ownsRow.alloc hown2 _) _ 1 1 (Lp.vv [⟨k, vi, s, vb⟩]) rfl rfl (rds_new _ (Lp.vv [⟨k, vi, s, vb⟩]) _) (by simp [Value.oneCell', Lp.vv, Lp.V.cells]) (by simp only [maxLen]; omega) (by omega) (by rw [World.size_alloc]; omega) ?_; intro A4 c4 w4 hown4 hb4 hg4 _)
                  have hbw4 := (hbw3.alloc hsz3 _).trans hb4
                  rw [← Lp.vv_append] at hown4
                  clear hb4 hg4 hown2 hbw3
                  go_wp2
                  go_roundg (ks.length + 1 - (i + 1))
                  case measure => omega
                  case rel => exact ⟨i + 1, q, A3, c3, L ++ [⟨k, vi, s, vb⟩], A4, c4, by omega, rfl, by go_num, rfl, hc3, hq, by omega, rfl, hown4, HLI2, HOK2, HB1, hbw4⟩
                · have HF : Hid (Lp.rread ks (x :: r) = none) := by show _ = _; rw [HRR.out, HNONE.out ho]; rfl
                  have hx1 := box_below hx0 hb1
                  have hc1 := box_cells hx1
                  have hf1 := fun j => frozen_of_row w1 wr.heap.size j _ _ hx1
                  have hbw2 := hbw1.trans (hb1.mono (by simp; omega))
                  have hbw3 := (((hbw2.setCell (p := ⟨wr.heap.size, 0, none⟩) hsz (.int .u8 v.k)).setCell (p := ⟨wr.heap.size, 1, none⟩) hsz (.int .i64 v.i)).setCell (p := ⟨wr.heap.size, 2, none⟩) hsz (.string v.s)).setCell (p := ⟨wr.heap.size, 3, none⟩) hsz (.bool v.b)
                  clear hb1 hx0 hown0 HSOME HNONE ho hown hbw hbw1 hT0 hbw2 hbit
                  go_wp2
                  go_ret2
                  exact ⟨hbw3, .inr ⟨HKO.out, .inr ⟨HF.out, rfl⟩⟩⟩
            · have hE : Hid (Lp.rtakes ks x.toNat r = some (L, p)) := by
                have e : i = ks.length := by omega
                have := HRE.out; rw [e] at this; exact rest_end this
              rcases p with _ | ⟨y, p⟩
              · have HF : Hid (Lp.rread ks (x :: r) = some L) := by show _ = _; rw [HRR.out, hE.out]; rfl
                have rL : RdsV wr A2 L := Rds.own hown
                clear HRR hE HRE
                go_wp2
                go_ret2
                exact ⟨hbw, .inr ⟨HKO.out, .inl ⟨L, A2, c2, HF.out, by rw [HLI.out]; rfl, rL, HOK.out⟩⟩⟩
              · have HF : Hid (Lp.rread ks (x :: r) = none) := by show _ = _; rw [HRR.out, hE.out]; rfl
                have hyl : (0 : Int) < (p.length : Int) + 1 := by omega
                simp only [List.length_cons] at hcp hpl ⊢
                clear HRR hE HRE
                go_wp2
                go_ret2
                exact ⟨hbw, .inr ⟨HKO.out, .inr ⟨HF.out, rfl⟩⟩⟩
end Go.Proofs.YthdnphnipfpdkaaDoor
