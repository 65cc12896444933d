/-
  What lapidaryref03.Bytes gives, of any row: its bytes, or the refusal. Conditions: at most 2^30 values, each text no longer than a text can be.
-/
import Derived.Test.YthdnphnipfpdkaaDoorKeyBytes
import Derived.Test.YthdnphnipfpdkaaDoorRef2Right
import Derived.Test.YthdnphnipfpdkaaDoorRowBytes
namespace Go.Proofs.YthdnphnipfpdkaaDoor
open Go.RowKit

/-- A row of the call's own stays where another one grows, whose block is older than all of its own. -/
theorem own_apart {w w' : World} {B1 n1 s1 : Nat} {e1 : TypeId} {v1 v2 : Value} {x1 : List Value} (h1 : w.ownsRow B1 e1 s1 v1 n1 x1) (hlt : ∀ k, v2.ownBlock = some k → k < B1) (hg : w.grownBy w' v2.ownBlock) : w'.ownsRow B1 e1 s1 v1 n1 x1 := by
  refine h1.kept hg ?_
  rcases h1.2 with ⟨rfl, _⟩ | ⟨g, cap, cur, rfl, hb, _⟩
  · exact .inl rfl
  · refine .inr (fun e => ?_)
    have := hlt g e.symm
    omega
theorem up_neg {i : Int} (h : Lp.inR i) (hn : i < 0) : IntKind.u64.wrap (IntKind.u64.wrap i - 9223372036854775808) = ((Lp.up i : Nat) : Int) := by
  unfold Lp.inR at h; unfold Lp.up; rw [IntKind.wrap_u64, IntKind.wrap_u64]; omega
theorem up_pos {i : Int} (h : Lp.inR i) (hn : ¬ i < 0) : IntKind.u64.wrap (IntKind.u64.wrap i + 9223372036854775808) = ((Lp.up i : Nat) : Int) := by
  unfold Lp.inR at h; unfold Lp.up; rw [IntKind.wrap_u64, IntKind.wrap_u64]; omega
theorem be_byte (N j : Nat) : ((N / 256 ^ j : Nat) : Int) % 256 = (((UInt8.ofNat (N / 256 ^ j)).toNat : Nat) : Int) := by simp
theorem be_more {w : World} {B c j N : Nat} {A : Option Addr} (h : w.ownsRow B 5 1 (.slice A (1 + j) c) (1 + j) ([.int .u8 (((UInt8.ofNat (N / 256 ^ j)).toNat : Nat) : Int)] ++ bv (Lp.be N j))) :
    w.ownsRow B 5 1 (.slice A (j + 1) c) (j + 1) (bv (Lp.be N (j + 1))) := by
  have e : 1 + j = j + 1 := by omega
  rw [e] at h; exact h

theorem key_int_round {l : List Lp.V} {i B N : Nat} {v : Lp.V} {w : World} {A : Option Addr} {c : Nat} (h : i < l.length) (hv : l[i] = v) (hb : Lp.kb v = 3 :: Lp.be N 8)
    (ho : w.ownsRow B 5 1 (.slice A ((Lp.kbs (l.take i)).length + 1 + 8) c) ((Lp.kbs (l.take i)).length + 1 + 8) (bv (Lp.kbs (l.take i)) ++ [.int .u8 3] ++ bv (Lp.be N 8))) :
    (Lp.kbs (l.take i)).length + 1 + 8 = (Lp.kbs (l.take (i + 1))).length ∧ OwnB w B A c (Lp.kbs (l.take (i + 1))) := by
  have e2 : bv (Lp.kbs (l.take i)) ++ [.int .u8 3] ++ bv (Lp.be N 8) = bv (Lp.kbs (l.take i)) ++ bv (3 :: Lp.be N 8) := by simp [bv]
  rw [e2] at ho
  exact kb_round (m := 9) h hv hb (by simp [Lp.be_length]) ho
def Bytes3Post (w : World) (l : List Lp.V) (e : Ending) (w' : World) : Prop := BytesPost w l e w'
set_option maxRecDepth 100000 in
set_option maxHeartbeats 4000000 in
theorem bytes3_any (A : Option Addr) (n c : Nat) (l : List Lp.V) (hnl : n = l.length) (w : World) (h : RdsV w A l) (hn : l.length ≤ 1073741824) (hs : ∀ v ∈ l, v.ok) :
    Calls Tryd.prog 32 #[.slice A n c] w (BytesPost w l) := by
  subst hnl
  have HS := Lib.hid hs
  clear hs
  go_enter Tryd.func32, Tryd.ntmps32
  go_wp2_with fail
  go_loopg [4, 6, 7, 8, 11] (l.length + 1) (fun gk s4 _ _ _ s11 wr => ∃ (i : Nat) (A1 : Option Addr) (c1 : Nat), i ≤ l.length ∧ gk = l.length + 1 - i ∧ s11 = .int .i64 i ∧ s4 = .slice A1 (Lp.kbs (l.take i)).length c1 ∧ OwnB wr w.heap.size A1 c1 (Lp.kbs (l.take i)) ∧ Below w.heap.size w wr ∧ Hid ((l.take i).all Lp.V.right = true))
  case atStart => exact ⟨0, none, 0, by omega, by omega, rfl, rfl, World.ownsRow_nil _ _ _ _, Below.refl _ _, by rfl⟩
  case round =>
    obtain ⟨i, A1, c1, hle, rfl, rfl, rfl, hown, hbw, HA⟩ := hrel
    by_cases hi : i < l.length
    · obtain ⟨b, off, rfl, q0, q1, q2, q3⟩ := RdsV.cells (h.below hbw) hi
      have hok := HS.out l[i] (List.getElem_mem hi)
      have hv := hok.1
      have HI := Lib.hid hok.2.1
      clear hok
      generalize hvi : l[i] = v at *
      obtain ⟨k, vi, s, vb⟩ := v
      simp only at q0 q1 q2 q3 hv HI
      have HV := Lib.hid hvi
      have hkl := Lp.kbs_le HA.out
      have hll : (l.take i).length ≤ l.length := List.length_take_le' _ _
      have hsz := hbw.size
      clear hvi
      cases hr : Lp.rightB k vi s vb
      · have HF := Lib.hid (all_false hi HV.out hr)
        have HR := Lib.hid hr
        clear hr
        go_wp2_with fail
        refine (right2_at _ _ _ _ _ HR.out _ hv).mono ?_
        rintro e w1 ⟨rfl, hb1⟩
        go_wp2
        go_ret2
        exact ⟨(hbw.alloc hbw.size _).trans (hb1.mono (by have := hbw.size; simp; omega)), .inr ⟨HF.out, rfl⟩⟩
      · have HA2 := Lib.hid (all_next hi HV.out HA.out hr)
        have HR := Lib.hid hr
        have hk := Lp.right_kinds (v := ⟨k, vi, s, vb⟩) hr
        simp only at hk
        clear hr HA
        obtain ⟨i0, hi0, hz0, hz1, hz2⟩ := info_parts byteInfo
        rcases hk with rfl | rfl | rfl | rfl
        · go_wp2_with fail
          refine (right2_at _ _ _ _ _ HR.out _ hv).mono ?_
          rintro e w1 ⟨rfl, hb1⟩
          have hx1 := box_below (heap_alloc_new wr _) hb1
          have hc1 := box_cells hx1
          have hsz1 := hb1.size
          simp only [World.size_alloc] at hsz1
          have hown1 := own_below (hown.alloc _) hb1
          have hbw1 := (hbw.alloc hsz _).trans (hb1.mono (by simp; omega))
          clear hown hbw hb1
          go_wp2_with (at_builtin; refine wpList_app _ rfl (.tmp 22) (.tmp 23) _ rfl w.heap.size 5 i0 _ 1 1 Tryd.underlying22 hi0 hz0 hz1 hz2 rfl (by omega) _ _ _ _ rfl (hown1.alloc _) _ 1 1 [.int .u8 1] rfl rfl (rds_new _ _ _) (by simp [Value.oneCell']) (by simp only [maxLen]; omega) (by omega) (by simp; omega) ?_; intro A2 c2 w2 hown2 hb2 hg2 _)
          obtain ⟨e3, hown3⟩ := kb_round hi HV.out (bs := [1]) (m := 1) rfl rfl hown2
          have hbw3 := (hbw1.alloc (by omega) _).trans hb2
          have E3 := Lib.hid e3
          clear e3 hown2 hb2 hg2 hown1 hbw1
          go_wp2
          go_roundg (l.length + 1 - (i + 1))
          case measure => omega
          case rel => exact ⟨i + 1, A2, c2, by omega, rfl, by go_num, by rw [E3.out], hown3, hbw3, HA2⟩
        · have hkb : Hid (Lp.kb ⟨1, vi, s, vb⟩ = 3 :: Lp.be (Lp.up vi) 8) := rfl
          have HNU : Hid (vi < 0 → IntKind.u64.wrap (IntKind.u64.wrap vi - 9223372036854775808) = ((Lp.up vi : Nat) : Int)) := Lib.hid fun hn => up_neg HI.out hn
          have HPU : Hid (¬ vi < 0 → IntKind.u64.wrap (IntKind.u64.wrap vi + 9223372036854775808) = ((Lp.up vi : Nat) : Int)) := Lib.hid fun hn => up_pos HI.out hn
          have hNlt := Lp.up_lt HI.out
          go_wp2_with fail
          refine (right2_at _ _ _ _ _ HR.out _ hv).mono ?_
          rintro e w1 ⟨rfl, hb1⟩
          have hx1 := box_below (heap_alloc_new wr _) hb1
          have hc1 := box_cells hx1
          have hsz1 := hb1.size
          simp only [World.size_alloc] at hsz1
          have hown1 := own_below (hown.alloc _) hb1
          have hbw1 := (hbw.alloc hsz _).trans (hb1.mono (by simp; omega))
          clear hown hbw hb1
          have hir : -9223372036854775808 ≤ vi ∧ vi ≤ 9223372036854775807 := by have := HI.out; unfold Lp.inR at this; omega
          obtain ⟨hir1, hir2⟩ := hir
          clear HI
          have hlt0 : Hid (∀ k, Value.ownBlock (.slice A1 (Lp.kbs (l.take i)).length c1) = some k → k < w1.heap.size) := Lib.hid fun k hk => (hown1.lt k hk).2
          have hmul : ∀ (M : Nat), (M : Int) / 256 = ((M / 256 : Nat) : Int) := fun M => by omega
          have HM := Lib.hid hmul
          clear hmul
          rcases Int.lt_or_le vi 0 with hneg | hneg
          all_goals
            go_wp2_with fail
            clear q0 q1 q2 q3 hc1 hx1
            have hN0 : Hid (Lp.up vi / 256 ^ 0 = Lp.up vi) := by show _ = _; simp
            first
              | (have E7 := Lib.hid (HNU.out hneg))
              | (have E7 : Hid (vi + 9223372036854775808 = ((Lp.up vi : Nat) : Int)) := by
                   show _ = _
                   unfold Lp.up; omega)
            clear HNU HPU
            generalize Lp.up vi = N at *
            go_loopg [7, 8, 47] 9 (fun gj s7 s8 s47 wz => ∃ (j M : Nat) (Ad : Option Addr) (cd Bd : Nat), j ≤ 8 ∧ gj = 9 - j ∧ s47 = .int .i64 j ∧ Hid (N / 256 ^ j = M) ∧ M < 18446744073709551616 ∧ s7 = .int .u64 (M : Int) ∧ s8 = .slice Ad j cd ∧
              wz.ownsRow Bd 5 1 (.slice Ad j cd) j (bv (Lp.be N j)) ∧ Bd ≤ wz.heap.size ∧ Hid (∀ k, Value.ownBlock (.slice A1 (Lp.kbs (l.take i)).length c1) = some k → k < Bd) ∧ wz.ownsRow w.heap.size 5 1 (.slice A1 (Lp.kbs (l.take i)).length c1) (Lp.kbs (l.take i)).length (bv (Lp.kbs (l.take i))) ∧ Below w.heap.size w wz)
            case atStart => exact ⟨0, N, none, 0, w1.heap.size, by omega, rfl, rfl, hN0, hNlt, by rw [← E7.out], rfl, World.ownsRow_nil _ _ _ _, Nat.le_refl _, hlt0, hown1, hbw1⟩
            case round =>
              obtain ⟨j, M, Ad, cd, Bd, hj8, rfl, rfl, HMj, hM, rfl, rfl, hd, hBd, HLT, hown3, hbw3⟩ := hrel
              have hsz3 := hbw3.size
              by_cases hlt : j < 8
              · have hMB : Hid ((M : Int) % 256 = (((UInt8.ofNat (N / 256 ^ j)).toNat : Nat) : Int)) := by
                  show _ = _
                  rw [← be_byte, HMj.out]
                have hM2 : Hid (N / 256 ^ (j + 1) = M / 256) := by
                  show _ = _
                  rw [Nat.pow_succ, ← Nat.div_div_eq_div_mul, HMj.out]
                have hM3 : M / 256 < 18446744073709551616 := by omega
                go_wp2_with (at_builtin; refine wpList_app _ rfl (.tmp 52) (.tmp 53) _ rfl wr.heap.size 5 i0 _ 1 1 Tryd.underlying22 hi0 hz0 hz1 hz2 rfl (by omega) _ 1 1 [_] rfl (own_new wr (Nat.le_refl _) [_] 5 1 rfl (by simp [maxLen])) Ad j cd (bv (Lp.be N j)) rfl (by rw [bv_length, Lp.be_length, Nat.mul_one]) ((Rds.own hd).below ((Below.refl _ _).alloc (Nat.le_refl _) _)) (bv_one _) (by simp only [maxLen]; omega) (by omega) (by simp) ?_; intro A4 c4 w4 hown4 hb4 hg4 _)
                have hb34 : Below wr.heap.size wr w4 := ((Below.refl _ _).alloc (Nat.le_refl _) _).trans hb4
                rw [hMB.out] at hown4
                have hd4 := be_more hown4
                have hown5 := own_below hown3 hb34
                have hbw5 := hbw3.trans (hb34.mono hsz3)
                have HLT5 : Hid (∀ k, Value.ownBlock (.slice A1 (Lp.kbs (l.take i)).length c1) = some k → k < wr.heap.size) := Lib.hid fun k hk => (hown3.lt k hk).2
                have hBd4 := hb34.size
                clear hown4 hb4 hg4 hd hown3 hbw3 HMj hMB HLT hb34
                go_wp2
                go_roundg (9 - (j + 1))
                case measure => omega
                case rel => exact ⟨j + 1, M / 256, A4, c4, wr.heap.size, by omega, rfl, by go_num, hM2, hM3, by first | rfl | (rw [HM.out]), by rw [Nat.add_comm 1 j], hd4, hBd4, HLT5, hown5, hbw5⟩
              · obtain rfl : j = 8 := by omega
                go_wp2_with (first
                  | (at_builtin; refine wpList_app _ rfl (.tmp 58) (.tmp 59) _ rfl w.heap.size 5 i0 _ 1 1 Tryd.underlying22 hi0 hz0 hz1 hz2 rfl (by omega) _ _ _ _ rfl (hown3.alloc _) _ 1 1 [.int .u8 3] rfl rfl (rds_new _ _ _) (by simp [Value.oneCell']) (by simp only [maxLen]; omega) (by omega) (by simp; omega) ?_; intro A4 c4 w4 hown4 hb4 hg4 _; have hd4 := own_apart (hd.alloc _) HLT.out hg4; have hsz4 := hb4.size; simp only [World.size_alloc] at hsz4)
                  | (at_builtin; refine wpList_app _ rfl (.tmp 60) (.tmp 61) _ rfl w.heap.size 5 i0 _ 1 1 Tryd.underlying22 hi0 hz0 hz1 hz2 rfl (by omega) _ _ _ _ rfl hown4 Ad 8 cd (bv (Lp.be N 8)) rfl (by rw [bv_length, Lp.be_length]) (Rds.own hd4) (bv_one _) (by simp only [maxLen]; omega) (by omega) (by omega) ?_; intro A5 c5 w5 hown5 hb5 hg5 _))
                obtain ⟨e3, hown6⟩ := key_int_round hi HV.out hkb.out hown5
                have E3 := Lib.hid e3
                have hbw6 := ((hbw3.alloc hsz3 _).trans hb4).trans hb5
                clear e3 hown5 hb5 hg5 hown4 hb4 hg4 hd4 hd hown3 hbw3 HMj HLT
                go_wp2
                go_roundg (l.length + 1 - (i + 1))
                case measure => omega
                case rel => exact ⟨i + 1, A5, c5, by omega, rfl, by go_num, by rw [E3.out], hown6, hbw6, HA2⟩
        · go_wp2_with fail
          refine (right2_at _ _ _ _ _ HR.out _ hv).mono ?_
          rintro e w1 ⟨rfl, hb1⟩
          have hx1 := box_below (heap_alloc_new wr _) hb1
          have hc1 := box_cells hx1
          have hsz1 := hb1.size
          simp only [World.size_alloc] at hsz1
          have hown1 := own_below (hown.alloc _) hb1
          have hbw1 := (hbw.alloc hsz _).trans (hb1.mono (by simp; omega))
          clear hown hbw hb1
          have hs60 := Lp.right_text (v := ⟨2, vi, s, vb⟩) HR.out rfl
          simp only at hs60
          go_wp2_with (first
            | (at_builtin; refine wpList_app _ rfl (.tmp 65) (.tmp 66) _ rfl w.heap.size 5 i0 _ 1 1 Tryd.underlying22 hi0 hz0 hz1 hz2 rfl (by omega) _ _ _ _ rfl (hown1.alloc _) _ 1 1 [.int .u8 4] rfl rfl (rds_new _ _ _) (by simp [Value.oneCell']) (by simp only [maxLen]; omega) (by omega) (by simp; omega) ?_; intro A2 c2 w2 hown2 hb2 hg2 _; have hx2 := box_far (hown1.alloc _) (box_alloc hx1 _) (by decide) hg2; have hc2 := box_cells hx2; have hsz2 := hb2.size; simp only [World.size_alloc] at hsz2)
            | (at_builtin; refine wpList_app_str _ rfl (.tmp 68) (.tmp 70) _ _ rfl w.heap.size 5 i0 Tryd.underlying22 Tryd.underlying9 hi0 hz0 hz1 hz2 _ _ _ _ rfl hown2 s rfl (by simp only [maxLen]; omega) (by omega) (by omega) ?_; intro A3 c3 w3 hown3 hb3 hg3; have hsz3 := hb3.size)
            | (at_builtin; refine wpList_app _ rfl (.tmp 72) (.tmp 73) _ rfl w.heap.size 5 i0 _ 1 1 Tryd.underlying22 hi0 hz0 hz1 hz2 rfl (by omega) _ _ _ _ rfl (hown3.alloc _) _ 1 1 [.int .u8 0] rfl rfl (rds_new _ _ _) (by simp [Value.oneCell']) (by simp only [maxLen]; omega) (by omega) (by simp; omega) ?_; intro A4 c4 w4 hown4 hb4 hg4 _))
          obtain ⟨e3, hown5⟩ := text_round hi HV.out hown4
          have E3 := Lib.hid e3
          have hbw5 := (((hbw1.alloc (by omega) _).trans hb2).trans hb3).trans (((Below.refl _ _).alloc (by omega) _).trans hb4)
          clear e3 hown4 hb4 hg4 hown3 hb3 hg3 hown2 hb2 hg2 hx2 hc2 hown1 hbw1
          go_wp2
          go_roundg (l.length + 1 - (i + 1))
          case measure => omega
          case rel => exact ⟨i + 1, A4, c4, by omega, rfl, by go_num, by rw [E3.out], hown5, hbw5, HA2⟩
        · cases vb
          · go_wp2_with fail
            refine (right2_at _ _ _ _ _ HR.out _ hv).mono ?_
            rintro e w1 ⟨rfl, hb1⟩
            have hx1 := box_below (heap_alloc_new wr _) hb1
            have hc1 := box_cells hx1
            have hsz1 := hb1.size
            simp only [World.size_alloc] at hsz1
            have hown1 := own_below (hown.alloc _) hb1
            have hbw1 := (hbw.alloc hsz _).trans (hb1.mono (by simp; omega))
            clear hown hbw hb1
            go_wp2_with (at_builtin; refine wpList_app _ rfl (.tmp 32) (.tmp 33) _ rfl w.heap.size 5 i0 _ 1 1 Tryd.underlying22 hi0 hz0 hz1 hz2 rfl (by omega) _ _ _ _ rfl (hown1.alloc _) _ 2 2 [.int .u8 2, .int .u8 0] rfl rfl (rds_new _ _ _) (by simp [Value.oneCell']) (by simp only [maxLen]; omega) (by omega) (by simp; omega) ?_; intro A2 c2 w2 hown2 hb2 hg2 _)
            obtain ⟨e3, hown3⟩ := kb_round hi HV.out (bs := [2, 0]) (m := 2) rfl rfl hown2
            have hbw3 := (hbw1.alloc (by omega) _).trans hb2
            have E3 := Lib.hid e3
            clear e3 hown2 hb2 hg2 hown1 hbw1
            go_wp2
            go_roundg (l.length + 1 - (i + 1))
            case measure => omega
            case rel => exact ⟨i + 1, A2, c2, by omega, rfl, by go_num, by rw [E3.out], hown3, hbw3, HA2⟩
          · go_wp2_with fail
            refine (right2_at _ _ _ _ _ HR.out _ hv).mono ?_
            rintro e w1 ⟨rfl, hb1⟩
            have hx1 := box_below (heap_alloc_new wr _) hb1
            have hc1 := box_cells hx1
            have hsz1 := hb1.size
            simp only [World.size_alloc] at hsz1
            have hown1 := own_below (hown.alloc _) hb1
            have hbw1 := (hbw.alloc hsz _).trans (hb1.mono (by simp; omega))
            clear hown hbw hb1
            go_wp2_with (at_builtin; refine wpList_app _ rfl (.tmp 29) (.tmp 30) _ rfl w.heap.size 5 i0 _ 1 1 Tryd.underlying22 hi0 hz0 hz1 hz2 rfl (by omega) _ _ _ _ rfl (hown1.alloc _) _ 2 2 [.int .u8 2, .int .u8 1] rfl rfl (rds_new _ _ _) (by simp [Value.oneCell']) (by simp only [maxLen]; omega) (by omega) (by simp; omega) ?_; intro A2 c2 w2 hown2 hb2 hg2 _)
            obtain ⟨e3, hown3⟩ := kb_round hi HV.out (bs := [2, 1]) (m := 2) rfl rfl hown2
            have hbw3 := (hbw1.alloc (by omega) _).trans hb2
            have E3 := Lib.hid e3
            clear e3 hown2 hb2 hg2 hown1 hbw1
            go_wp2
            go_roundg (l.length + 1 - (i + 1))
            case measure => omega
            case rel => exact ⟨i + 1, A2, c2, by omega, rfl, by go_num, by rw [E3.out], hown3, hbw3, HA2⟩
    · have hi2 : i = l.length := by omega
      subst hi2
      have HT := Lib.hid (List.take_length (l := l))
      have hown' : OwnB wr w.heap.size A1 c1 (Lp.kbs l) := by rw [HT.out] at hown; exact hown
      have HA' : Hid (l.all Lp.V.right = true) := by have := HA.out; rw [HT.out] at this; exact this
      clear hown HA
      go_wp2
      go_ret2
      exact ⟨hbw, .inl ⟨HA'.out, A1, c1, by rw [HT.out]; rfl, hown'⟩⟩
end Go.Proofs.YthdnphnipfpdkaaDoor
