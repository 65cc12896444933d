/-
  lapidaryref02.valid tells which texts are of whole runes, none of them 0. No conditions but that the text is as long as a text can be.
-/
import Derived.Test.YtpkipleoodcplaaRows
import Derived.Test.YtpkipleoodcplaaPlainValid
import Derived.WalkKit
import Derived.WalkSpells
import Derived.WalkLawsBesides
namespace Go.Proofs.Ytpkipleoodcplaa
open Go.RowKit

set_option maxRecDepth 100000 in
set_option maxHeartbeats 4000000 in
theorem valid2_any (s : ByteArray) (w : World) (hs : s.size ≤ 9223372036854775807) :
    Calls Try.prog 19 #[.string s] w fun e w' => e = .returned (.bool (Lp.textOk s.data.toList)) ∧ w = w' := by
  go_enter Try.func19, Try.ntmps19
  go_wp2
  go_loop [3] (fun i => ∃ k : Nat, k ≤ s.size ∧ i = .int .i64 k ∧ Hid (Lp.textOk s.data.toList = Lp.textOk (s.data.toList.drop k))) (fun i => s.size - (intOf i).toNat)
  case atStart => exact ⟨0, Nat.zero_le _, rfl, by rfl⟩
  case round =>
    obtain ⟨k, hk, rfl, HV⟩ := hrel
    by_cases hlt : k < s.size
    · have hd := Lp.at_drop s k hlt
      obtain ⟨b, hb⟩ : ∃ b, b = s[k]'hlt := ⟨_, rfl⟩
      rw [← hb] at hd
      have hbl := b.toNat_lt
      by_cases c0 : b.toNat = 0
      · have HF : Hid (Lp.textOk s.data.toList = false) := by
          show _ = _
          rw [HV.out, hd]
          have : b = 0 := UInt8.toNat_inj.1 c0
          rw [this]; exact Lp.ok_zero _
        clear HV hd
        have hb' : (s[k]'hlt).toNat = 0 := by rw [← hb]; exact c0
        clear hb
        go_wp2
        go_ret
        exact ⟨by rw [HF.out]; rfl, rfl⟩
      · by_cases c1 : b.toNat < 128
        · have HF : Hid (Lp.textOk s.data.toList = Lp.textOk (s.data.toList.drop (k + 1))) := by
            show _ = _
            rw [HV.out, hd, Lp.ok_ascii b _ c0 c1]
          clear HV hd
          have hb' : (s[k]'hlt).toNat = b.toNat := by rw [← hb]
          clear hb
          generalize b.toNat = bn at *
          go_wp2
          go_round
          case rel => exact ⟨k + 1, by omega, by go_num, HF⟩
          case measure => simp [intOf]; omega
        · by_cases c2 : b.toNat < 192 ∨ 248 ≤ b.toNat
          · have HF : Hid (Lp.textOk s.data.toList = false) := by
              show _ = _
              rw [HV.out, hd]
              exact Lp.ok_bad b _ (by omega)
            clear HV hd
            have hb' : (s[k]'hlt).toNat = b.toNat := by rw [← hb]
            clear hb
            generalize b.toNat = bn at *
            rcases c2 with c2 | c2
            · go_wp2
              go_ret
              exact ⟨by rw [HF.out]; rfl, rfl⟩
            · go_wp2
              go_ret
              exact ⟨by rw [HF.out]; rfl, rfl⟩
          · clear hd
            subst hb
            by_cases c3 : (s[k]'hlt).toNat < 224
            · have HS := Lib.hid (Lp.at2 s k hlt (by omega) (by omega))
              rw [← HV.out] at HS
              clear HV
              by_cases hn : s.size ≤ k + 1
              · have HF := Lib.hid (HS.out.1 hn)
                clear HS
                obtain ⟨bn, hb⟩ : ∃ x, x = (s[k]'hlt).toNat := ⟨_, rfl⟩
                rw [← hb] at hbl c0 c1 c2 c3
                try rw [← hb] at c4
                try rw [← hb] at HY HN
                replace hb := hb.symm
                go_wp2
                go_ret
                exact ⟨by rw [HF.out]; rfl, rfl⟩
              · have HY := Lib.hid (HS.out.2.1 (by omega))
                have HN := Lib.hid (HS.out.2.2 (by omega))
                clear HS
                have hl1 := (s[k + 1]'(by omega)).toNat_lt
                obtain ⟨bn, hb⟩ : ∃ x, x = (s[k]'hlt).toNat := ⟨_, rfl⟩
                rw [← hb] at hbl c0 c1 c2 c3
                try rw [← hb] at c4
                try rw [← hb] at HY HN
                replace hb := hb.symm
                obtain ⟨x1, he1⟩ : ∃ x, x = (s[k + 1]'(by omega)).toNat := ⟨_, rfl⟩
                rw [← he1] at hl1 HY HN
                replace he1 : (s[k + 1]'(by omega)).toNat = x1 := he1.symm
                have hn' : (1 : Int) < (s.size : Int) - k := by omega
                go_wp2
                go_loop [7, 8] (fun r kk => (kk = .int .i64 1 ∧  r = .int .i32 ((bn : Int) - 192)) ∨ (kk = .int .i64 2 ∧ Lp.cont x1 ∧ r = .int .i32 (((bn : Int) - 192) * 64 + ((x1 : Int) - 128)))) (fun r kk => 9 - (intOf kk).toNat)
                case atStart => exact .inl ⟨rfl, rfl⟩
                case round =>
                  rcases hrel with ⟨rfl, rfl⟩ | ⟨rfl, p1, rfl⟩
                  · clear HY
                    by_cases g : Lp.cont x1
                    · obtain ⟨g1, g2⟩ := g
                      clear HN
                      go_wp2
                      go_round
                      case rel => exact .inr (⟨rfl, ⟨g1, g2⟩, rfl⟩)
                      case measure => simp [intOf]
                    · have HF := Lib.hid (HN.out (fun h => g h.1))
                      clear HN
                      have g' : x1 < 128 ∨ 192 ≤ x1 := by unfold Lp.cont at g; omega
                      rcases g' with g' | g'
                      · go_wp2
                        go_ret
                        exact ⟨by rw [HF.out]; rfl, rfl⟩
                      · go_wp2
                        go_ret
                        exact ⟨by rw [HF.out]; rfl, rfl⟩
                  · by_cases g : Lp.inRune (((bn : Int) - 192) * 64 + ((x1 : Int) - 128)) 128
                    · have HF := Lib.hid (HY.out p1 g)
                      clear HY HN
                      obtain ⟨g1, g2, g3⟩ := g
                      obtain ⟨q1, q1'⟩ := p1
                      go_wp2
                      all_goals first | (exfalso; omega) | skip
                      all_goals
                        go_round
                        case rel => exact ⟨k + 2, by omega, by go_num, HF⟩
                        case measure => simp [intOf]; omega
                    · have HF := Lib.hid (HN.out (fun h => g h.2))
                      clear HY HN
                      have g' : (((bn : Int) - 192) * 64 + ((x1 : Int) - 128)) < 128 ∨ 1114111 < (((bn : Int) - 192) * 64 + ((x1 : Int) - 128)) ∨ (55296 ≤ (((bn : Int) - 192) * 64 + ((x1 : Int) - 128)) ∧ (((bn : Int) - 192) * 64 + ((x1 : Int) - 128)) < 57344) := by unfold Lp.inRune at g; omega
                      clear g
                      obtain ⟨q1, q1'⟩ := p1
                      rcases g' with g' | g' | ⟨g', g''⟩
                      · first
                        | (exfalso; omega)
                        | (go_wp2; all_goals first | (exfalso; omega) | (go_ret; exact ⟨by rw [HF.out]; rfl, rfl⟩))
                      · first
                        | (exfalso; omega)
                        | (go_wp2; all_goals first | (exfalso; omega) | (go_ret; exact ⟨by rw [HF.out]; rfl, rfl⟩))
                      · first
                        | (exfalso; omega)
                        | (go_wp2; all_goals first | (exfalso; omega) | (go_ret; exact ⟨by rw [HF.out]; rfl, rfl⟩))
            · by_cases c4 : (s[k]'hlt).toNat < 240
              · have HS := Lib.hid (Lp.at3 s k hlt (by omega) (by omega))
                rw [← HV.out] at HS
                clear HV
                by_cases hn : s.size ≤ k + 2
                · have HF := Lib.hid (HS.out.1 hn)
                  clear HS
                  obtain ⟨bn, hb⟩ : ∃ x, x = (s[k]'hlt).toNat := ⟨_, rfl⟩
                  rw [← hb] at hbl c0 c1 c2 c3
                  try rw [← hb] at c4
                  try rw [← hb] at HY HN
                  replace hb := hb.symm
                  go_wp2
                  go_ret
                  exact ⟨by rw [HF.out]; rfl, rfl⟩
                · have HY := Lib.hid (HS.out.2.1 (by omega))
                  have HN := Lib.hid (HS.out.2.2 (by omega))
                  clear HS
                  have hl1 := (s[k + 1]'(by omega)).toNat_lt
                  have hl2 := (s[k + 2]'(by omega)).toNat_lt
                  obtain ⟨bn, hb⟩ : ∃ x, x = (s[k]'hlt).toNat := ⟨_, rfl⟩
                  rw [← hb] at hbl c0 c1 c2 c3
                  try rw [← hb] at c4
                  try rw [← hb] at HY HN
                  replace hb := hb.symm
                  obtain ⟨x1, he1⟩ : ∃ x, x = (s[k + 1]'(by omega)).toNat := ⟨_, rfl⟩
                  obtain ⟨x2, he2⟩ : ∃ x, x = (s[k + 2]'(by omega)).toNat := ⟨_, rfl⟩
                  rw [← he1] at hl1 HY HN
                  rw [← he2] at hl2 HY HN
                  replace he1 : (s[k + 1]'(by omega)).toNat = x1 := he1.symm
                  replace he2 : (s[k + 2]'(by omega)).toNat = x2 := he2.symm
                  have hn' : (2 : Int) < (s.size : Int) - k := by omega
                  go_wp2
                  go_loop [7, 8] (fun r kk => (kk = .int .i64 1 ∧  r = .int .i32 ((bn : Int) - 224)) ∨ (kk = .int .i64 2 ∧ Lp.cont x1 ∧ r = .int .i32 (((bn : Int) - 224) * 64 + ((x1 : Int) - 128))) ∨ (kk = .int .i64 3 ∧ Lp.cont x1 ∧ Lp.cont x2 ∧ r = .int .i32 ((((bn : Int) - 224) * 64 + ((x1 : Int) - 128)) * 64 + ((x2 : Int) - 128)))) (fun r kk => 9 - (intOf kk).toNat)
                  case atStart => exact .inl ⟨rfl, rfl⟩
                  case round =>
                    rcases hrel with ⟨rfl, rfl⟩ | ⟨rfl, p1, rfl⟩ | ⟨rfl, p1, p2, rfl⟩
                    · clear HY
                      by_cases g : Lp.cont x1
                      · obtain ⟨g1, g2⟩ := g
                        clear HN
                        go_wp2
                        go_round
                        case rel => exact .inr (.inl ⟨rfl, ⟨g1, g2⟩, rfl⟩)
                        case measure => simp [intOf]
                      · have HF := Lib.hid (HN.out (fun h => g h.1))
                        clear HN
                        have g' : x1 < 128 ∨ 192 ≤ x1 := by unfold Lp.cont at g; omega
                        rcases g' with g' | g'
                        · go_wp2
                          go_ret
                          exact ⟨by rw [HF.out]; rfl, rfl⟩
                        · go_wp2
                          go_ret
                          exact ⟨by rw [HF.out]; rfl, rfl⟩
                    · clear HY
                      obtain ⟨q1, q1'⟩ := p1
                      by_cases g : Lp.cont x2
                      · obtain ⟨g1, g2⟩ := g
                        clear HN
                        go_wp2
                        go_round
                        case rel => exact .inr (.inr (⟨rfl, ⟨q1, q1'⟩, ⟨g1, g2⟩, rfl⟩))
                        case measure => simp [intOf]
                      · have HF := Lib.hid (HN.out (fun h => g h.2.1))
                        clear HN
                        have g' : x2 < 128 ∨ 192 ≤ x2 := by unfold Lp.cont at g; omega
                        rcases g' with g' | g'
                        · go_wp2
                          go_ret
                          exact ⟨by rw [HF.out]; rfl, rfl⟩
                        · go_wp2
                          go_ret
                          exact ⟨by rw [HF.out]; rfl, rfl⟩
                    · by_cases g : Lp.inRune ((((bn : Int) - 224) * 64 + ((x1 : Int) - 128)) * 64 + ((x2 : Int) - 128)) 2048
                      · have HF := Lib.hid (HY.out p1 p2 g)
                        clear HY HN
                        obtain ⟨g1, g2, g3⟩ := g
                        obtain ⟨q1, q1'⟩ := p1
                        obtain ⟨q2, q2'⟩ := p2
                        go_wp2
                        all_goals first | (exfalso; omega) | skip
                        all_goals
                          go_round
                          case rel => exact ⟨k + 3, by omega, by go_num, HF⟩
                          case measure => simp [intOf]; omega
                      · have HF := Lib.hid (HN.out (fun h => g h.2.2))
                        clear HY HN
                        have g' : ((((bn : Int) - 224) * 64 + ((x1 : Int) - 128)) * 64 + ((x2 : Int) - 128)) < 2048 ∨ 1114111 < ((((bn : Int) - 224) * 64 + ((x1 : Int) - 128)) * 64 + ((x2 : Int) - 128)) ∨ (55296 ≤ ((((bn : Int) - 224) * 64 + ((x1 : Int) - 128)) * 64 + ((x2 : Int) - 128)) ∧ ((((bn : Int) - 224) * 64 + ((x1 : Int) - 128)) * 64 + ((x2 : Int) - 128)) < 57344) := by unfold Lp.inRune at g; omega
                        clear g
                        obtain ⟨q1, q1'⟩ := p1
                        obtain ⟨q2, q2'⟩ := p2
                        rcases g' with g' | g' | ⟨g', g''⟩
                        · first
                          | (exfalso; omega)
                          | (go_wp2; all_goals first | (exfalso; omega) | (go_ret; exact ⟨by rw [HF.out]; rfl, rfl⟩))
                        · first
                          | (exfalso; omega)
                          | (go_wp2; all_goals first | (exfalso; omega) | (go_ret; exact ⟨by rw [HF.out]; rfl, rfl⟩))
                        · first
                          | (exfalso; omega)
                          | (go_wp2; all_goals first | (exfalso; omega) | (go_ret; exact ⟨by rw [HF.out]; rfl, rfl⟩))
              · have HS := Lib.hid (Lp.at4 s k hlt (by omega) (by omega))
                rw [← HV.out] at HS
                clear HV
                by_cases hn : s.size ≤ k + 3
                · have HF := Lib.hid (HS.out.1 hn)
                  clear HS
                  obtain ⟨bn, hb⟩ : ∃ x, x = (s[k]'hlt).toNat := ⟨_, rfl⟩
                  rw [← hb] at hbl c0 c1 c2 c3
                  try rw [← hb] at c4
                  try rw [← hb] at HY HN
                  replace hb := hb.symm
                  go_wp2
                  go_ret
                  exact ⟨by rw [HF.out]; rfl, rfl⟩
                · have HY := Lib.hid (HS.out.2.1 (by omega))
                  have HN := Lib.hid (HS.out.2.2 (by omega))
                  clear HS
                  have hl1 := (s[k + 1]'(by omega)).toNat_lt
                  have hl2 := (s[k + 2]'(by omega)).toNat_lt
                  have hl3 := (s[k + 3]'(by omega)).toNat_lt
                  obtain ⟨bn, hb⟩ : ∃ x, x = (s[k]'hlt).toNat := ⟨_, rfl⟩
                  rw [← hb] at hbl c0 c1 c2 c3
                  try rw [← hb] at c4
                  try rw [← hb] at HY HN
                  replace hb := hb.symm
                  obtain ⟨x1, he1⟩ : ∃ x, x = (s[k + 1]'(by omega)).toNat := ⟨_, rfl⟩
                  obtain ⟨x2, he2⟩ : ∃ x, x = (s[k + 2]'(by omega)).toNat := ⟨_, rfl⟩
                  obtain ⟨x3, he3⟩ : ∃ x, x = (s[k + 3]'(by omega)).toNat := ⟨_, rfl⟩
                  rw [← he1] at hl1 HY HN
                  rw [← he2] at hl2 HY HN
                  rw [← he3] at hl3 HY HN
                  replace he1 : (s[k + 1]'(by omega)).toNat = x1 := he1.symm
                  replace he2 : (s[k + 2]'(by omega)).toNat = x2 := he2.symm
                  replace he3 : (s[k + 3]'(by omega)).toNat = x3 := he3.symm
                  have hn' : (3 : Int) < (s.size : Int) - k := by omega
                  go_wp2
                  go_loop [7, 8] (fun r kk => (kk = .int .i64 1 ∧  r = .int .i32 ((bn : Int) - 240)) ∨ (kk = .int .i64 2 ∧ Lp.cont x1 ∧ r = .int .i32 (((bn : Int) - 240) * 64 + ((x1 : Int) - 128))) ∨ (kk = .int .i64 3 ∧ Lp.cont x1 ∧ Lp.cont x2 ∧ r = .int .i32 ((((bn : Int) - 240) * 64 + ((x1 : Int) - 128)) * 64 + ((x2 : Int) - 128))) ∨ (kk = .int .i64 4 ∧ Lp.cont x1 ∧ Lp.cont x2 ∧ Lp.cont x3 ∧ r = .int .i32 (((((bn : Int) - 240) * 64 + ((x1 : Int) - 128)) * 64 + ((x2 : Int) - 128)) * 64 + ((x3 : Int) - 128)))) (fun r kk => 9 - (intOf kk).toNat)
                  case atStart => exact .inl ⟨rfl, rfl⟩
                  case round =>
                    rcases hrel with ⟨rfl, rfl⟩ | ⟨rfl, p1, rfl⟩ | ⟨rfl, p1, p2, rfl⟩ | ⟨rfl, p1, p2, p3, rfl⟩
                    · clear HY
                      by_cases g : Lp.cont x1
                      · obtain ⟨g1, g2⟩ := g
                        clear HN
                        go_wp2
                        go_round
                        case rel => exact .inr (.inl ⟨rfl, ⟨g1, g2⟩, rfl⟩)
                        case measure => simp [intOf]
                      · have HF := Lib.hid (HN.out (fun h => g h.1))
                        clear HN
                        have g' : x1 < 128 ∨ 192 ≤ x1 := by unfold Lp.cont at g; omega
                        rcases g' with g' | g'
                        · go_wp2
                          go_ret
                          exact ⟨by rw [HF.out]; rfl, rfl⟩
                        · go_wp2
                          go_ret
                          exact ⟨by rw [HF.out]; rfl, rfl⟩
                    · clear HY
                      obtain ⟨q1, q1'⟩ := p1
                      by_cases g : Lp.cont x2
                      · obtain ⟨g1, g2⟩ := g
                        clear HN
                        go_wp2
                        go_round
                        case rel => exact .inr (.inr (.inl ⟨rfl, ⟨q1, q1'⟩, ⟨g1, g2⟩, rfl⟩))
                        case measure => simp [intOf]
                      · have HF := Lib.hid (HN.out (fun h => g h.2.1))
                        clear HN
                        have g' : x2 < 128 ∨ 192 ≤ x2 := by unfold Lp.cont at g; omega
                        rcases g' with g' | g'
                        · go_wp2
                          go_ret
                          exact ⟨by rw [HF.out]; rfl, rfl⟩
                        · go_wp2
                          go_ret
                          exact ⟨by rw [HF.out]; rfl, rfl⟩
                    · clear HY
                      obtain ⟨q1, q1'⟩ := p1
                      obtain ⟨q2, q2'⟩ := p2
                      by_cases g : Lp.cont x3
                      · obtain ⟨g1, g2⟩ := g
                        clear HN
                        go_wp2
                        go_round
                        case rel => exact .inr (.inr (.inr (⟨rfl, ⟨q1, q1'⟩, ⟨q2, q2'⟩, ⟨g1, g2⟩, rfl⟩)))
                        case measure => simp [intOf]
                      · have HF := Lib.hid (HN.out (fun h => g h.2.2.1))
                        clear HN
                        have g' : x3 < 128 ∨ 192 ≤ x3 := by unfold Lp.cont at g; omega
                        rcases g' with g' | g'
                        · go_wp2
                          go_ret
                          exact ⟨by rw [HF.out]; rfl, rfl⟩
                        · go_wp2
                          go_ret
                          exact ⟨by rw [HF.out]; rfl, rfl⟩
                    · by_cases g : Lp.inRune (((((bn : Int) - 240) * 64 + ((x1 : Int) - 128)) * 64 + ((x2 : Int) - 128)) * 64 + ((x3 : Int) - 128)) 65536
                      · have HF := Lib.hid (HY.out p1 p2 p3 g)
                        clear HY HN
                        obtain ⟨g1, g2, g3⟩ := g
                        obtain ⟨q1, q1'⟩ := p1
                        obtain ⟨q2, q2'⟩ := p2
                        obtain ⟨q3, q3'⟩ := p3
                        go_wp2
                        all_goals first | (exfalso; omega) | skip
                        all_goals
                          go_round
                          case rel => exact ⟨k + 4, by omega, by go_num, HF⟩
                          case measure => simp [intOf]; omega
                      · have HF := Lib.hid (HN.out (fun h => g h.2.2.2))
                        clear HY HN
                        have g' : (((((bn : Int) - 240) * 64 + ((x1 : Int) - 128)) * 64 + ((x2 : Int) - 128)) * 64 + ((x3 : Int) - 128)) < 65536 ∨ 1114111 < (((((bn : Int) - 240) * 64 + ((x1 : Int) - 128)) * 64 + ((x2 : Int) - 128)) * 64 + ((x3 : Int) - 128)) ∨ (55296 ≤ (((((bn : Int) - 240) * 64 + ((x1 : Int) - 128)) * 64 + ((x2 : Int) - 128)) * 64 + ((x3 : Int) - 128)) ∧ (((((bn : Int) - 240) * 64 + ((x1 : Int) - 128)) * 64 + ((x2 : Int) - 128)) * 64 + ((x3 : Int) - 128)) < 57344) := by unfold Lp.inRune at g; omega
                        clear g
                        obtain ⟨q1, q1'⟩ := p1
                        obtain ⟨q2, q2'⟩ := p2
                        obtain ⟨q3, q3'⟩ := p3
                        rcases g' with g' | g' | ⟨g', g''⟩
                        · first
                          | (exfalso; omega)
                          | (go_wp2; all_goals first | (exfalso; omega) | (go_ret; exact ⟨by rw [HF.out]; rfl, rfl⟩))
                        · first
                          | (exfalso; omega)
                          | (go_wp2; all_goals first | (exfalso; omega) | (go_ret; exact ⟨by rw [HF.out]; rfl, rfl⟩))
                        · first
                          | (exfalso; omega)
                          | (go_wp2; all_goals first | (exfalso; omega) | (go_ret; exact ⟨by rw [HF.out]; rfl, rfl⟩))
    · have HF : Hid (Lp.textOk s.data.toList = true) := by
        show _ = _
        rw [HV.out, Lp.no_drop s k (by omega)]; rfl
      clear HV
      go_wp2
      go_ret
      exact ⟨by rw [HF.out]; rfl, rfl⟩

end Go.Proofs.Ytpkipleoodcplaa
