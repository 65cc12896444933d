/-
  Tokens that are joined are split again. Plain. No conditions.
-/
import Derived.Test.YtmdmcfobdbccmaaDoorPlainGood
import Derived.Lib.Join
namespace Go.Proofs.YtmdmcfobdbccmaaDoor.Lp
open Go.RowKit

theorem splA_last {t : Tok} (ht : t.good) (L : List Tok) : splA L (jt t) = (L ++ [t], 0) := by
  obtain ⟨h1, c, r, h2, h3⟩ := ht
  rw [h2] at h1 ⊢
  rw [splA_tok L h3 (by rw [h1]), h1]
  show splA (L ++ [t]) ((c :: r).drop (c :: r).length) = _
  rw [List.drop_length, splA_nil]
theorem says_one {t : Tok} (ht : t.good) : Says (jt t) [t] := fun _ rest hx => splA_good ht [] hx rest
theorem says_join : ∀ (n : Nat) (L : List Tok), L.length = n + 1 → (∀ t ∈ L, t.good) → Says (joinL L) L
  | 0, L, hn, h => by
    match L, hn with
    | [t], _ =>
      have : joinL [t] = jt t := by simp [joinL]
      rw [this]; exact says_one (h t (by simp))
  | n + 1, L, hn, h => by
    obtain ⟨M, t, rfl⟩ : ∃ M t, L = M ++ [t] := ⟨L.dropLast, L.getLast (by intro e; rw [e] at hn; simp at hn), (List.dropLast_concat_getLast _).symm⟩
    have hM : M.length = n + 1 := by simpa using hn
    have ih := says_join n M hM (fun u hu => h u (by simp [hu]))
    have hne : M ≠ [] := by intro e; rw [e] at hM; simp at hM
    rw [joinL_snoc, if_neg hne]
    have := says_more ih (B := [32]) (by decide) (by simp) (h t (by simp))
    simpa using this
theorem toks_join {L : List Tok} (h : ∀ t ∈ L, t.good) (hl : (joinL L).length ≤ 2000) : toks (joinL L) = (L, 0) := by
  rw [toks_short hl]
  rcases Nat.eq_zero_or_pos L.length with h0 | h0
  · have : L = [] := List.eq_nil_of_length_eq_zero h0
    subst this
    exact splA_nil []
  · obtain ⟨M, t, rfl⟩ : ∃ M t, L = M ++ [t] := ⟨L.dropLast, L.getLast (by intro e; rw [e] at h0; simp at h0), (List.dropLast_concat_getLast _).symm⟩
    rw [joinL_snoc]
    by_cases hM : M = []
    · subst hM
      rw [if_pos rfl, splA_last (h t (by simp))]
    · rw [if_neg hM]
      have hs := says_join (M.length - 1) M (by have := List.length_pos_iff.2 hM; omega) (fun u hu => h u (by simp [hu]))
      rw [hs 32 (jt t) (by decide), splA_last (h t (by simp))]
theorem join_is (L : List Tok) : Lib.join (L.map jt) [32] = joinL L := by
  cases L with
  | nil => rfl
  | cons t L =>
    rw [List.map_cons, Lib.join_cons]
    show jt t ++ Lib.joinTail [32] (L.map jt) = jt t ++ L.flatMap fun u => 32 :: jt u
    unfold Lib.joinTail
    rw [List.map_map, List.flatMap_def]
    rfl
theorem joinL_len (L : List Tok) (h : ∀ t ∈ L, t.fit) : (joinL L).length ≤ 3001 * L.length := by
  have key : ∀ M : List Tok, (∀ t ∈ M, t.fit) → (M.flatMap fun u => 32 :: jt u).length ≤ 3001 * M.length := by
    intro M
    induction M with
    | nil => intro _; simp
    | cons t M ih =>
      intro hM
      have h1 := (hM t (by simp)).2.2
      have h2 := ih (fun u hu => hM u (by simp [hu]))
      rw [List.flatMap_cons, List.length_append, List.length_cons, List.length_cons]
      omega
  cases L with
  | nil => simp [joinL]
  | cons t L =>
    have h1 := (h t (by simp)).2.2
    have h2 := key L (fun u hu => h u (by simp [hu]))
    show (jt t ++ _).length ≤ _
    rw [List.length_append, List.length_cons]
    omega
end Go.Proofs.YtmdmcfobdbccmaaDoor.Lp
