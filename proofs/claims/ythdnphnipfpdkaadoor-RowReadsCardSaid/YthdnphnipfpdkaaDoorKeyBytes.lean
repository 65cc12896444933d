/-
  What key.Bytes gives, of any row: its bytes, or the refusal. Conditions: unicode/utf8's tables as laid; at most 2^30 values, each text no longer than a text can be.
-/
import Derived.Test.YthdnphnipfpdkaaDoorKey1
import Derived.Test.YthdnphnipfpdkaaDoorPlainKey
import Derived.Test.YthdnphnipfpdkaaDoorRight
import Derived.Deep.RegionHeld3
namespace Go.Proofs.YthdnphnipfpdkaaDoor
open Go.RowKit

theorem tabs_below' {w w' : World} (h : Tabs w) (hb : Below w.heap.size w w') : Tabs w' := tabs_below h hb

/-- The values that a slice holds. -/
def RdsV (w : World) (A : Option Addr) (l : List Lp.V) : Prop := Rds w A (Lp.vv l)
theorem RdsV.cells {w : World} {A : Option Addr} {l : List Lp.V} (h : RdsV w A l) {i : Nat} (hi : i < l.length) : ∃ b off, A = some ⟨b, off, none⟩ ∧
    w.cell? ⟨b, off + i * 4, none⟩ = some (.int .u8 l[i].k) ∧ w.cell? ⟨b, off + i * 4 + 1, none⟩ = some (.int .i64 l[i].i) ∧ w.cell? ⟨b, off + i * 4 + 2, none⟩ = some (.string l[i].s) ∧ w.cell? ⟨b, off + i * 4 + 3, none⟩ = some (.bool l[i].b) := by
  rcases h with h0 | ⟨b, off, rfl, hc⟩
  · have := Lp.vv_length l; rw [h0] at this; simp at this; omega
  · refine ⟨b, off, rfl, ?_, ?_, ?_, ?_⟩
    · exact hc (i * 4) _ (Lp.vv_at hi (j := 0) (by omega))
    · have := hc (i * 4 + 1) _ (Lp.vv_at hi (j := 1) (by omega)); rw [← Nat.add_assoc] at this; exact this
    · have := hc (i * 4 + 2) _ (Lp.vv_at hi (j := 2) (by omega)); rw [← Nat.add_assoc] at this; exact this
    · have := hc (i * 4 + 3) _ (Lp.vv_at hi (j := 3) (by omega)); rw [← Nat.add_assoc] at this; exact this

def BytesPost (w : World) (l : List Lp.V) (e : Ending) (w' : World) : Prop :=
  Below w.heap.size w w' ∧ ((l.all Lp.V.right = true ∧ ∃ A c, e = .returned (.tuple #[.slice A (Lp.kbs l).length c, .int .i64 0]) ∧ OwnB w' w.heap.size A c (Lp.kbs l)) ∨
    (l.all Lp.V.right = false ∧ e = .returned (.tuple #[.slice none 0 0, .int .i64 3])))

theorem own_below {w w' : World} {B n size : Nat} {e : TypeId} {v : Value} {xs : List Value} (h : w.ownsRow B e size v n xs) (hb : Below w.heap.size w w') : w'.ownsRow B e size v n xs := by
  have hg : w.grownBy w' none := ⟨hb.os, hb.tape, hb.output, hb.size, fun i hi _ => hb.block i hi⟩
  refine h.kept hg ?_
  cases hv : v.ownBlock
  · exact .inl rfl
  · exact .inr (by simp)

theorem right_at (k i : Int) (s : ByteArray) (b r : Bool) (hr : Lp.rightB k i s b = r) (w : World) (hs : s.size ≤ 9223372036854775807) (hT : Tabs w) :
    Calls Tryd.prog 39 #[.agg #[.int .u8 k, .int .i64 i, .string s, .bool b]] w fun e w' => e = .returned (.bool r) ∧ Below w.heap.size w w' := by
  subst hr; exact right_any k i s b w hs hT

theorem take_next {l : List Lp.V} {i : Nat} (h : i < l.length) : l.take (i + 1) = l.take i ++ [l[i]] := List.take_succ_eq_append_getElem h
theorem all_next {l : List Lp.V} {i : Nat} {v : Lp.V} (h : i < l.length) (hv : l[i] = v) (ha : (l.take i).all Lp.V.right = true) (hr : v.right = true) : (l.take (i + 1)).all Lp.V.right = true := by
  rw [take_next h, hv, List.all_append, ha]; simp [hr]
theorem all_false {l : List Lp.V} {i : Nat} {v : Lp.V} (h : i < l.length) (hv : l[i] = v) (hr : v.right = false) : l.all Lp.V.right = false := by
  rw [List.all_eq_false]; exact ⟨v, hv ▸ List.getElem_mem h, by simp [hr]⟩
theorem bytes_next {w : World} {B n c : Nat} {A : Option Addr} {p pre : List UInt8} {x : UInt8} {y : UInt8}
    (h : w.ownsRow B 5 1 (.slice A (n + (1 + pre.length) + 1) c) (n + (1 + pre.length) + 1) (bv p ++ bv (y :: pre) ++ [.int .u8 ((x.toNat : Nat) : Int)])) :
    w.ownsRow B 5 1 (.slice A (n + (1 + (pre ++ [x]).length)) c) (n + (1 + (pre ++ [x]).length)) (bv p ++ bv (y :: (pre ++ [x]))) := by
  have e : n + (1 + pre.length) + 1 = n + (1 + (pre ++ [x]).length) := by simp; omega
  rw [← e]
  have e2 : bv p ++ bv (y :: (pre ++ [x])) = bv p ++ bv (y :: pre) ++ [.int .u8 ((x.toNat : Nat) : Int)] := by simp [bv]
  rw [e2]; exact h
/-- A value's bytes appended: the row is one value longer. -/
theorem kb_round {l : List Lp.V} {i m B : Nat} {v : Lp.V} {bs : List UInt8} {w : World} {A : Option Addr} {c : Nat} (h : i < l.length) (hv : l[i] = v) (hb : Lp.kb v = bs) (hm : bs.length = m)
    (ho : w.ownsRow B 5 1 (.slice A ((Lp.kbs (l.take i)).length + m) c) ((Lp.kbs (l.take i)).length + m) (bv (Lp.kbs (l.take i)) ++ bv bs)) :
    (Lp.kbs (l.take i)).length + m = (Lp.kbs (l.take (i + 1))).length ∧ OwnB w B A c (Lp.kbs (l.take (i + 1))) := by
  have e : Lp.kbs (l.take (i + 1)) = Lp.kbs (l.take i) ++ bs := by rw [take_next h, hv, Lp.kbs_snoc, hb]
  have e2 : (Lp.kbs (l.take i)).length + m = (Lp.kbs (l.take (i + 1))).length := by rw [e, List.length_append, hm]
  exact ⟨e2, by unfold OwnB; rw [← e2, e, bv_append]; exact ho⟩

theorem text_round {l : List Lp.V} {i B : Nat} {vi : Int} {s : ByteArray} {vb : Bool} {w : World} {A : Option Addr} {c : Nat} (h : i < l.length) (hv : l[i] = ⟨2, vi, s, vb⟩)
    (ho : w.ownsRow B 5 1 (.slice A ((Lp.kbs (l.take i)).length + 1 + s.size + 1) c) ((Lp.kbs (l.take i)).length + 1 + s.size + 1) (bv (Lp.kbs (l.take i)) ++ [.int .u8 4] ++ Lib.strCells s ++ [.int .u8 0])) :
    (Lp.kbs (l.take i)).length + 1 + s.size + 1 = (Lp.kbs (l.take (i + 1))).length ∧ OwnB w B A c (Lp.kbs (l.take (i + 1))) := by
  have e : (Lp.kbs (l.take i)).length + 1 + s.size + 1 = (Lp.kbs (l.take i)).length + (1 + s.size + 1) := by omega
  have e2 : bv (Lp.kbs (l.take i)) ++ [.int .u8 4] ++ Lib.strCells s ++ [.int .u8 0] = bv (Lp.kbs (l.take i)) ++ bv (4 :: (s.data.toList ++ [0])) := by simp [bv, Lib.strCells]
  rw [e, e2] at ho
  have := kb_round h hv (bs := 4 :: (s.data.toList ++ [0])) rfl (by simp; omega) ho
  rw [← e] at this; exact this

set_option maxHeartbeats 4000000 in
theorem keyBytes_any (A : Option Addr) (c : Nat) (l : List Lp.V) (w : World) (h : RdsV w A l) (hT : Tabs w) (hn : l.length ≤ 1073741824) (hs : ∀ v ∈ l, v.ok) :
    Calls Tryd.prog 22 #[.slice A l.length c] w (BytesPost w l) := by
  have HS := Lib.hid hs
  clear hs
  go_enter Tryd.func22, Tryd.ntmps22
  go_wp2_with fail
  go_loopg [4, 12] (l.length + 1) (fun gk s4 s12 wr => ∃ (i : Nat) (A1 : Option Addr) (c1 : Nat), i ≤ l.length ∧ gk + i = l.length + 1 ∧ s12 = .int .i64 i ∧ s4 = .slice A1 (Lp.kbs (l.take i)).length c1 ∧ OwnB wr w.heap.size A1 c1 (Lp.kbs (l.take i)) ∧ Below w.heap.size w wr ∧ Hid ((l.take i).all Lp.V.right = true))
  case atStart => exact ⟨0, none, 0, by omega, by omega, rfl, rfl, World.ownsRow_nil _ _ _ _, Below.refl _ _, by rfl⟩
  case round =>
    obtain ⟨i, A1, c1, hle, hgk, rfl, rfl, hown, hbw, HA⟩ := hrel
    by_cases hi : i < l.length
    · obtain ⟨b, off, rfl, q0, q1, q2, q3⟩ := RdsV.cells h hi
      have hlt := World.block_lt_of_cell? w _ q0
      have hcw : ∀ o, wr.cell? ⟨b, o, none⟩ = w.cell? ⟨b, o, none⟩ := fun o => hbw.cell (p := ⟨b, o, none⟩) hlt
      rw [← hcw] at q0 q1 q2 q3
      clear hcw
      have hok := HS.out l[i] (List.getElem_mem hi)
      have hv := hok.1
      have HI := Lib.hid hok.2.1
      clear hok
      have hTr := tabs_below hT hbw
      generalize hvi : l[i] = v at *
      obtain ⟨k, vi, s, vb⟩ := v
      simp only at q0 q1 q2 q3 hv HI
      have HV := Lib.hid hvi
      have hkl := Lp.kbs_le HA.out
      have hll : (l.take i).length ≤ l.length := List.length_take_le' _ _
      clear hvi
      cases hr : Lp.rightB k vi s vb
      · have HF := Lib.hid (all_false hi HV.out hr)
        have HR := Lib.hid hr
        clear hr
        go_wp2_with fail
        refine (right_at _ _ _ _ _ HR.out _ hv (tabs_alloc hTr _)).mono ?_
        rintro e w1 ⟨rfl, hb1⟩
        go_wp2
        go_ret2
        exact ⟨(hbw.alloc hbw.size _).trans (hb1.mono (by have := hbw.size; simp; omega)), .inr ⟨HF.out, rfl⟩⟩
      · have HA2 := Lib.hid (all_next hi HV.out HA.out hr)
        have HR := Lib.hid hr
        have hk := Lp.right_kinds (v := ⟨k, vi, s, vb⟩) hr
        simp only at hk
        clear hr HA
        have hsz := hbw.size
        obtain ⟨i0, hi0, hz0, hz1, hz2⟩ := info_parts byteInfo
        rcases hk with rfl | rfl | rfl | rfl
        · go_wp2_with fail
          refine (right_at _ _ _ _ _ HR.out _ hv (tabs_alloc hTr _)).mono ?_
          rintro e w1 ⟨rfl, hb1⟩
          have hx1 := box_below (heap_alloc_new wr _) hb1
          have hc1 := box_cells hx1
          have hsz1 := hb1.size
          simp only [World.size_alloc] at hsz1
          have hown1 := own_below (hown.alloc _) hb1
          have hbw1 := (hbw.alloc hsz _).trans (hb1.mono (by simp; omega))
          clear hown hbw hb1
          go_wp2_with (at_builtin; refine wpList_app _ rfl (.tmp 31) (.tmp 32) _ rfl w.heap.size 5 i0 _ 1 1 Tryd.underlying22 hi0 hz0 hz1 hz2 rfl (by omega) _ _ _ _ rfl (hown1.alloc _) _ 1 1 [.int .u8 1] rfl rfl (rds_new _ _ _) (by simp [Value.oneCell']) (by simp only [maxLen]; omega) (by omega) (by simp; omega) ?_; intro A2 c2 w2 hown2 hb2 hg2 _)
          obtain ⟨e3, hown3⟩ := kb_round hi HV.out (bs := [1]) (m := 1) rfl rfl hown2
          have hbw3 := (hbw1.alloc (by omega) _).trans hb2
          have E3 := Lib.hid e3
          clear e3 hown2 hb2 hg2 hown1 hbw1
          go_wp2
          go_roundg (gk - 1)
          case measure => omega
          case rel => exact ⟨i + 1, A2, c2, by omega, by omega, by go_num, by rw [E3.out], hown3, hbw3, HA2⟩
        · go_wp2_with fail
          refine (right_at _ _ _ _ _ HR.out _ hv (tabs_alloc hTr _)).mono ?_
          rintro e w1 ⟨rfl, hb1⟩
          have hx1 := box_below (heap_alloc_new wr _) hb1
          have hc1 := box_cells hx1
          have hsz1 := hb1.size
          simp only [World.size_alloc] at hsz1
          have hown1 := own_below (hown.alloc _) hb1
          have hbw1 := (hbw.alloc hsz _).trans (hb1.mono (by simp; omega))
          clear hown hbw hb1
          go_wp2_with (at_builtin; refine wpList_app _ rfl (.tmp 44) (.tmp 45) _ rfl w.heap.size 5 i0 _ 1 1 Tryd.underlying22 hi0 hz0 hz1 hz2 rfl (by omega) _ _ _ _ rfl (hown1.alloc _) _ 1 1 [.int .u8 3] rfl rfl (rds_new _ _ _) (by simp [Value.oneCell']) (by simp only [maxLen]; omega) (by omega) (by simp; omega) ?_; intro A2 c2 w2 hown2 hb2 hg2 _; have hx2 := box_far (hown1.alloc _) (box_alloc hx1 _) (by decide) hg2; have hc2 := box_cells hx2)
          rw [Lp.xor_up HI.out]
          have HN := Lib.hid (Lp.up_lt HI.out)
          have hkb : Hid (Lp.kb ⟨1, vi, s, vb⟩ = 3 :: Lp.be (Lp.up vi) 8) := rfl
          generalize Lp.up vi = N at *
          have hbw2 := (hbw1.alloc (by omega) _).trans hb2
          have hown2' : w2.ownsRow w.heap.size 5 1 (.slice A2 ((Lp.kbs (l.take i)).length + 1) c2) ((Lp.kbs (l.take i)).length + 1) (bv (Lp.kbs (l.take i)) ++ bv [3]) := hown2
          clear hc2 hx2 hg2 hb2 hown2 hown1 hbw1 hc1 hx1 hsz1 HI q0 q1 q2 q3
          obtain ⟨wo, rfl⟩ : ∃ wo : World, wo = wr := ⟨_, rfl⟩
          go_loopg [4, 9] 9 (fun gj t4 t9 wz => ∃ (j : Nat) (pre : List UInt8) (A3 : Option Addr) (c3 : Nat), j ≤ 8 ∧ gj = j + 1 ∧ t9 = .int .i64 ((j : Int) - 1) ∧ pre.length + j = 8 ∧ Hid (pre ++ Lp.be N j = Lp.be N 8) ∧
            t4 = .slice A3 ((Lp.kbs (l.take i)).length + (1 + pre.length)) c3 ∧ wz.ownsRow w.heap.size 5 1 (.slice A3 ((Lp.kbs (l.take i)).length + (1 + pre.length)) c3) ((Lp.kbs (l.take i)).length + (1 + pre.length)) (bv (Lp.kbs (l.take i)) ++ bv (3 :: pre)) ∧ Below w.heap.size w wz)
          case atStart => exact ⟨8, [], A2, c2, by omega, rfl, rfl, rfl, by rfl, rfl, hown2', hbw2⟩
          case round =>
            obtain ⟨j, pre, A3, c3, hj8, rfl, rfl, hpl, HP, rfl, hown3, hbw3⟩ := hrel
            have hsz3 := hbw3.size
            have hpre : pre.length ≤ 8 := by omega
            rcases j with _ | k
            · have hbs : Lp.kb ⟨1, vi, s, vb⟩ = 3 :: pre := by
                rw [hkb.out, ← HP.out]; simp [Lp.be]
              obtain ⟨e3, hown4⟩ := kb_round hi HV.out (bs := 3 :: pre) (m := 1 + pre.length) hbs (by simp; omega) hown3
              have E3 := Lib.hid e3
              clear e3 hown3 HP hkb hown2' hbs
              go_wp2
              go_roundg (gk - 1)
              case measure => omega
              case rel => exact ⟨i + 1, A3, c3, by omega, by omega, by go_num, by rw [E3.out], hown4, hbw3, HA2⟩
            · have hk7 : k ≤ 7 := by omega
              have ek : ((k + 1 : Nat) : Int) - 1 = (k : Int) := by omega
              rw [ek]
              clear ek
              go_wp2_with (at_builtin; refine wpList_app _ rfl (.tmp 55) (.tmp 61) _ rfl w.heap.size 5 i0 _ 1 1 Tryd.underlying22 hi0 hz0 hz1 hz2 rfl (by omega) _ _ _ _ rfl (hown3.alloc _) _ 1 1 [_] rfl rfl (rds_new _ _ _) (by simp [Value.oneCell']) (by simp only [maxLen]; omega) (by omega) (by simp; omega) ?_; intro A4 c4 w4 hown4 hb4 hg4 _)
              rw [Lp.shr_byte] at hown4
              have HP2 : Hid ((pre ++ [UInt8.ofNat (N / 256 ^ k)]) ++ Lp.be N k = Lp.be N 8) := by
                show _ = _
                rw [← HP.out, Lp.be_succ, List.append_assoc]; rfl
              have hown5 := bytes_next hown4
              have hbw5 := (hbw3.alloc (by omega) _).trans hb4
              clear hown4 hb4 hg4 hown3 hbw3
              go_wp2
              go_roundg (k + 1)
              case measure => omega
              case rel => exact ⟨k, pre ++ [UInt8.ofNat (N / 256 ^ k)], A4, c4, by omega, rfl, rfl, by simp; omega, HP2, by simp [Nat.add_assoc], hown5, hbw5⟩
        · go_wp2_with fail
          refine (right_at _ _ _ _ _ HR.out _ hv (tabs_alloc hTr _)).mono ?_
          rintro e w1 ⟨rfl, hb1⟩
          have hx1 := box_below (heap_alloc_new wr _) hb1
          have hc1 := box_cells hx1
          have hsz1 := hb1.size
          simp only [World.size_alloc] at hsz1
          have hown1 := own_below (hown.alloc _) hb1
          have hbw1 := (hbw.alloc hsz _).trans (hb1.mono (by simp; omega))
          clear hown hbw hb1
          have hs60 := Lp.right_text (v := ⟨2, vi, s, vb⟩) HR.out rfl
          simp only at hs60
          go_wp2_with fail
          go_region_held3 (fun w' => w'.cell? ⟨wr.heap.size, 2, none⟩ = some (.string s))
            (first
              | go_keep
              | exact (box_cells hx2 2)
              | exact (box_cells hx3 2)
              | exact (box_cells hx4 2))
            (first
              | (refine step_app _ rfl (.tmp 21) (.tmp 22) _ rfl w.heap.size 5 i0 _ 1 1 Tryd.underlying22 hi0 hz0 hz1 hz2 rfl (Nat.zero_lt_one) _ _ _ (bv (Lp.kbs (l.take i))) rfl ?_ _ 1 1 [.int .u8 4] rfl rfl ?_ ?_ ?_ ?_ ?_ ?_
                 · exact (own_below hown1 (by repeat (first | exact Below.refl _ _ | apply Below.drew | refine Below.alloc ?_ (by simp) _)))
                 · (first | exact rds_new _ _ _ | exact rds_drew (rds_new _ _ _) | exact rds_blk [.int .u8 4] (box_alloc (heap_alloc_new w1 _) _) | exact rds_blk [.int .u8 4] (heap_new2 w1 _ _))
                 · simp [Value.oneCell']
                 · simp only [maxLen]; omega
                 · omega
                 · simp; omega
                 intro A2 c2 w2 hown2 hb2 hg2 hk2
                 have hx2 := box_far (own_below hown1 (by repeat (first | exact Below.refl _ _ | apply Below.drew | refine Below.alloc ?_ (by simp) _))) (box_below hx1 (by repeat (first | exact Below.refl _ _ | apply Below.drew | refine Below.alloc ?_ (by simp) _))) (by decide) hg2)
              | (refine step_app_str _ rfl (.tmp 23) (.tmp 25) _ _ rfl w.heap.size 5 i0 Tryd.underlying22 Tryd.underlying9 hi0 hz0 hz1 hz2 _ _ _ (bv (Lp.kbs (l.take i)) ++ [.int .u8 4]) rfl ?_ s rfl ?_ ?_ ?_ ?_
                 · exact (own_below hown2 (by repeat (first | exact Below.refl _ _ | apply Below.drew | refine Below.alloc ?_ (by simp) _)))
                 · simp only [maxLen]; omega
                 · omega
                 · have := hb2.size; simp at this ⊢; omega
                 intro A3 c3 w3 hown3 hb3 hg3
                 have hx3 := box_far (own_below hown2 (by repeat (first | exact Below.refl _ _ | apply Below.drew | refine Below.alloc ?_ (by simp) _))) (box_below hx2 (by repeat (first | exact Below.refl _ _ | apply Below.drew | refine Below.alloc ?_ (by simp) _))) (by decide) hg3)
              | (refine step_app _ rfl (.tmp 26) (.tmp 27) _ rfl w.heap.size 5 i0 _ 1 1 Tryd.underlying22 hi0 hz0 hz1 hz2 rfl (Nat.zero_lt_one) _ _ _ (bv (Lp.kbs (l.take i)) ++ [.int .u8 4] ++ Lib.strCells s) rfl ?_ _ 1 1 [.int .u8 0] rfl rfl ?_ ?_ ?_ ?_ ?_ ?_
                 · exact (own_below hown3 (by repeat (first | exact Below.refl _ _ | apply Below.drew | refine Below.alloc ?_ (by simp) _)))
                 · (first | exact rds_new _ _ _ | exact rds_drew (rds_new _ _ _) | exact rds_blk [.int .u8 0] (stays hg3 (heap_alloc_new w2 _) (own_old hown2 (Nat.le_refl _))) | exact rds_blk [.int .u8 0] (stays hg3 (hk2 (w1.heap.size + 1) (.cells #[.int .u8 0] 5 (0, 0)) (heap_new2 w1 _ _) (own_old hown1 (Nat.le_succ _))).1 (hk2 (w1.heap.size + 1) (.cells #[.int .u8 0] 5 (0, 0)) (heap_new2 w1 _ _) (own_old hown1 (Nat.le_succ _))).2) | exact rds_blk [.int .u8 0] (stays hg3 (hk2 w1.heap.size (.cells #[.int .u8 0] 5 (0, 0)) (box_alloc (heap_alloc_new w1 _) _) (own_old hown1 (Nat.le_refl _))).1 (hk2 w1.heap.size (.cells #[.int .u8 0] 5 (0, 0)) (box_alloc (heap_alloc_new w1 _) _) (own_old hown1 (Nat.le_refl _))).2))
                 · simp [Value.oneCell']
                 · simp only [maxLen]; omega
                 · omega
                 · have := hb2.size; have := hb3.size; simp at *; omega
                 intro A4 c4 w4 hown4 hb4 hg4 _
                 have hx4 := box_far (own_below hown3 (by repeat (first | exact Below.refl _ _ | apply Below.drew | refine Below.alloc ?_ (by simp) _))) (box_below hx3 (by repeat (first | exact Below.refl _ _ | apply Below.drew | refine Below.alloc ?_ (by simp) _))) (by decide) hg4))
          all_goals
            have hbA : Below w.heap.size w1 w2 := Below.trans (by repeat (first | exact Below.refl _ _ | apply Below.drew | refine Below.alloc ?_ (by first | omega | (simp; omega)) _)) hb2
            have hbB : Below w.heap.size w2 w3 := Below.trans (by repeat (first | exact Below.refl _ _ | apply Below.drew | refine Below.alloc ?_ (by have := hbA.size; first | omega | (simp; omega)) _)) hb3
            have hbC : Below w.heap.size w3 w4 := Below.trans (by repeat (first | exact Below.refl _ _ | apply Below.drew | refine Below.alloc ?_ (by have := hbA.size; have := hbB.size; first | omega | (simp; omega)) _)) hb4
            obtain ⟨e3, hown5⟩ := text_round hi HV.out hown4
            have E3 := Lib.hid e3
            have hbw5 := ((hbw1.trans hbA).trans hbB).trans hbC
            clear e3 hown4 hb4 hg4 hx4 hown3 hb3 hg3 hx3 hown2 hb2 hg2 hx2 hk2 hown1 hbw1 hbA hbB hbC
            go_wp2
            go_roundg (gk - 1)
            case measure => omega
            case rel => exact ⟨i + 1, A4, c4, by omega, by omega, by go_num, by rw [E3.out], hown5, hbw5, HA2⟩
        · cases vb
          · go_wp2_with fail
            refine (right_at _ _ _ _ _ HR.out _ hv (tabs_alloc hTr _)).mono ?_
            rintro e w1 ⟨rfl, hb1⟩
            have hx1 := box_below (heap_alloc_new wr _) hb1
            have hc1 := box_cells hx1
            have hsz1 := hb1.size
            simp only [World.size_alloc] at hsz1
            have hown1 := own_below (hown.alloc _) hb1
            have hbw1 := (hbw.alloc hsz _).trans (hb1.mono (by simp; omega))
            clear hown hbw hb1
            go_wp2_with (at_builtin; refine wpList_app _ rfl (.tmp 38) (.tmp 40) _ rfl w.heap.size 5 i0 _ 1 1 Tryd.underlying22 hi0 hz0 hz1 hz2 rfl (by omega) _ _ _ _ rfl (hown1.alloc _) _ 2 2 [.int .u8 2, .int .u8 0] rfl rfl (rds_new _ _ _) (by simp [Value.oneCell']) (by simp only [maxLen]; omega) (by omega) (by simp; omega) ?_; intro A2 c2 w2 hown2 hb2 hg2 _)
            obtain ⟨e3, hown3⟩ := kb_round hi HV.out (bs := [2, 0]) (m := 2) rfl rfl hown2
            have hbw3 := (hbw1.alloc (by omega) _).trans hb2
            have E3 := Lib.hid e3
            clear e3 hown2 hb2 hg2 hown1 hbw1
            go_wp2
            go_roundg (gk - 1)
            case measure => omega
            case rel => exact ⟨i + 1, A2, c2, by omega, by omega, by go_num, by rw [E3.out], hown3, hbw3, HA2⟩
          · go_wp2_with fail
            refine (right_at _ _ _ _ _ HR.out _ hv (tabs_alloc hTr _)).mono ?_
            rintro e w1 ⟨rfl, hb1⟩
            have hx1 := box_below (heap_alloc_new wr _) hb1
            have hc1 := box_cells hx1
            have hsz1 := hb1.size
            simp only [World.size_alloc] at hsz1
            have hown1 := own_below (hown.alloc _) hb1
            have hbw1 := (hbw.alloc hsz _).trans (hb1.mono (by simp; omega))
            clear hown hbw hb1
            go_wp2_with (at_builtin; refine wpList_app _ rfl (.tmp 38) (.tmp 40) _ rfl w.heap.size 5 i0 _ 1 1 Tryd.underlying22 hi0 hz0 hz1 hz2 rfl (by omega) _ _ _ _ rfl (hown1.alloc _) _ 2 2 [.int .u8 2, .int .u8 1] rfl rfl (rds_new _ _ _) (by simp [Value.oneCell']) (by simp only [maxLen]; omega) (by omega) (by simp; omega) ?_; intro A2 c2 w2 hown2 hb2 hg2 _)
            obtain ⟨e3, hown3⟩ := kb_round hi HV.out (bs := [2, 1]) (m := 2) rfl rfl hown2
            have hbw3 := (hbw1.alloc (by omega) _).trans hb2
            have E3 := Lib.hid e3
            clear e3 hown2 hb2 hg2 hown1 hbw1
            go_wp2
            go_roundg (gk - 1)
            case measure => omega
            case rel => exact ⟨i + 1, A2, c2, by omega, by omega, by go_num, by rw [E3.out], hown3, hbw3, HA2⟩
    · have hi2 : i = l.length := by omega
      subst hi2
      have HT := Lib.hid (List.take_length (l := l))
      have hown' : OwnB wr w.heap.size A1 c1 (Lp.kbs l) := by rw [HT.out] at hown; exact hown
      have HA' : Hid (l.all Lp.V.right = true) := by have := HA.out; rw [HT.out] at this; exact this
      clear hown HA
      go_wp2
      go_ret2
      exact ⟨hbw, .inl ⟨HA'.out, A1, c1, by rw [HT.out]; rfl, hown'⟩⟩

end Go.Proofs.YthdnphnipfpdkaaDoor
