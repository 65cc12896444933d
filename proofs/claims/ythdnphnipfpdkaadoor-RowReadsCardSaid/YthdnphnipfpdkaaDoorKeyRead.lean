/-
  What key.Read gives, of any bytes: the row, or that there is none. Conditions: unicode/utf8's tables as laid; at most 10^6 bytes.
-/
import Derived.Test.YthdnphnipfpdkaaDoorKeyTake
namespace Go.Proofs.YthdnphnipfpdkaaDoor
open Go.RowKit

/-- A row behind a call, or none. -/
def ReadPost (w : World) (o : Option (List Lp.V)) (e : Ending) (w' : World) : Prop :=
  Below w.heap.size w w' ∧ ((∃ L A c, o = some L ∧ e = .returned (.tuple #[.slice A L.length c, .int .i64 0]) ∧ RdsV w' A L ∧ ∀ u ∈ L, u.ok) ∨
    (o = none ∧ e = .returned (.tuple #[.slice none 0 0, .int .i64 3])))

set_option maxRecDepth 100000 in
set_option maxHeartbeats 4000000 in
theorem read_any (A : Option Addr) (n c : Nat) (l : List UInt8) (hnl : n = l.length) (w : World) (h : Rds w A (bv l)) (hc : n ≤ c) (hl : l.length ≤ 1000000) (hT : Tabs w) :
    Calls Tryd.prog 33 #[.slice A n c] w (ReadPost w (Lp.kread l)) := by
  subst hnl
  obtain ⟨iV, hiV, hzV0, hzV1, hzV2⟩ := info_parts valInfo
  go_enter Tryd.func33, Tryd.ntmps33
  go_wp2_with fail
  go_loopg [0, 4, 5, 6, 7] (l.length + 1) (fun gk s0 s4 _ _ _ wr => ∃ (p : List UInt8) (Ap : Option Addr) (cp : Nat) (L : List Lp.V) (A2 : Option Addr) (c2 : Nat), gk = p.length + 1 ∧ s0 = .slice Ap p.length cp ∧ p.length ≤ cp ∧ Rds w Ap (bv p) ∧
    s4 = .slice A2 L.length c2 ∧ wr.ownsRow w.heap.size 36 4 (.slice A2 L.length c2) L.length (Lp.vv L) ∧ L.length + p.length ≤ l.length ∧ Hid (∀ u ∈ L, u.ok) ∧ Hid (Lp.kread l = (Lp.kread p).map (L ++ ·)) ∧ Below w.heap.size w wr)
  case atStart => exact ⟨l, A, c, [], none, 0, rfl, rfl, hc, h, rfl, World.ownsRow_nil _ _ _ _, by simp, (fun u hu => by cases hu), by show _ = _; simp, Below.refl _ _⟩
  case round =>
    obtain ⟨p, Ap, cp, L, A2, c2, rfl, rfl, hcp, hp, rfl, hown, hLl, HOK, HR, hbw⟩ := hrel
    have hsz := hbw.size
    have hTr := tabs_below hT hbw
    rcases p with _ | ⟨x, p⟩
    · have HF : Hid (Lp.kread l = some L) := by show _ = _; rw [HR.out, Lp.kread_nil]; simp
      clear HR
      have rL := Rds.own hown
      go_wp2
      go_ret2
      exact ⟨hbw, .inl ⟨L, A2, c2, HF.out, rfl, rL, HOK.out⟩⟩
    · have hpl : (0 : Int) < ((x :: p).length : Int) := by simp only [List.length_cons]; omega
      go_wp2_with fail
      refine (take_any Ap _ cp x p (by simp) _ (hp.below hbw) (by simpa using hcp) (by simp only [List.length_cons] at hLl ⊢; omega) hTr).mono ?_
      rintro e w1 ⟨hb1, ⟨v, r, A3, c3, ho, rfl, hc3, hr3, hv3, hB3⟩ | ⟨ho, v, y, rfl⟩⟩
      · have HN : Hid (Lp.kread l = (Lp.kread r).map ((L ++ [v]) ++ ·)) := by
          show _ = _
          rw [HR.out, Lp.kread_some ho, Option.map_map]
          congr 1
          funext z
          simp
        have hrl := Lp.ktake_less ho
        have HOK2 : Hid (∀ u ∈ L ++ [v], u.ok) := by
          show ∀ u ∈ L ++ [v], u.ok
          intro u hu
          rcases List.mem_append.1 hu with h1 | h1
          · exact HOK.out u h1
          · have : u = v := by simpa using h1
            rw [this]; exact hv3
        have hown1 := own_below hown hb1
        have hbw1 := hbw.trans (hb1.mono hsz)
        have hsz1 := hbw1.size
        simp only [List.length_cons] at hrl hLl
        have hrw := rds_back hbw1 hp (by simp [bv]) hB3 hr3
        clear ho HR HOK hown hb1 hbw hv3 hr3
        obtain ⟨k, vi, s, vb⟩ := v
        go_wp2_with (at_builtin; refine wpList_app _ rfl (.tmp 19) (.tmp 21) _ rfl w.heap.size 36 iV _ 4 40 Tryd.underlying28 hiV hzV0 hzV1 hzV2 rfl (by omega) _ _ _ _ rfl ((hown1.alloc _).alloc _) _ 1 1 (Lp.vv [⟨k, vi, s, vb⟩]) rfl rfl (rds_blk (Lp.vv [⟨k, vi, s, vb⟩]) (heap_new2 w1 _ _)) (by simp [Value.oneCell', Lp.vv, Lp.V.cells]) (by simp only [maxLen]; omega) (by omega) (by simp; omega) ?_; intro A4 c4 w4 hown4 hb4 hg4 _)
        have hb14 : Below w.heap.size w1 w4 := (((Below.refl _ _).alloc hsz1 _).alloc (by simp; omega) _).trans hb4
        have hbw4 := hbw1.trans hb14
        have hown5 : w4.ownsRow w.heap.size 36 4 (.slice A4 (L ++ [(⟨k, vi, s, vb⟩ : Lp.V)]).length c4) (L ++ [(⟨k, vi, s, vb⟩ : Lp.V)]).length (Lp.vv (L ++ [(⟨k, vi, s, vb⟩ : Lp.V)])) := by
          rw [Lp.vv_append, List.length_append]; exact hown4
        clear hown4 hb4 hg4 hown1 hbw1 hb14
        go_wp2
        go_roundg (r.length + 1)
        case measure => simp only [List.length_cons]; omega
        case rel => exact ⟨r, A3, c3, L ++ [⟨k, vi, s, vb⟩], A4, c4, rfl, rfl, hc3, hrw, by simp, hown5, by simp; omega, HOK2, HN, hbw4⟩
      · have HF : Hid (Lp.kread l = none) := by show _ = _; rw [HR.out, Lp.kread_none (by simp) ho]; rfl
        clear ho HR
        go_wp2
        go_ret2
        exact ⟨(hbw.trans (hb1.mono hsz)).alloc (by have := hb1.size; omega) _, .inr ⟨HF.out, rfl⟩⟩
end Go.Proofs.YthdnphnipfpdkaaDoor
