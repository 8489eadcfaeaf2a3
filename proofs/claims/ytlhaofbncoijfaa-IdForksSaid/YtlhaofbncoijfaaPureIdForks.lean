/- IdForks, plainly: however often trees are split, from all on, they are whole. -/
import Derived.Test.YtlhaofbncoijfaaX5
import Derived.Test.YtlhaofbncoijfaaWholeMath
namespace Go.Proofs.Ytlhaofbncoijfaa.Pure
set_option linter.unusedVariables false
set_option linter.unusedSimpArgs false
open Go.RowKit Go.Proofs.Ytlhaofbncoijfaa.X Go.Proofs.YtlhaofbncoijfaaW.PrintWords Go.Proofs.YtlhaofbncoijfaaW.PrintLast
open Go.Proofs.Ytlhaofbncoijfaa.Tree Go.Proofs.Ytlhaofbncoijfaa.Tree.T

theorem sum_set (f : T → Nat) (a : T) : ∀ (L : List T) (j : Nat) (h : j < L.length), ((L.set j a).map f).sum + f L[j] = (L.map f).sum + f a
  | [], j, h => by simp at h
  | x :: L, 0, h => by simp; omega
  | x :: L, j + 1, h => by
    have := sum_set f a L j (by simpa using h)
    simp only [List.set_cons_succ, List.map_cons, List.sum_cons, List.getElem_cons_succ]
    omega
theorem arith {n : Nat} {A B C : Bool} (h : n + C.toNat = 1 + A.toNat) (h3 : (A || B) = C) (h4 : ¬ (A = true ∧ B = true)) : n + (B.toNat + 0) = 1 := by
  subst h3
  cases A <;> cases B <;> simp at h h4 ⊢ <;> omega
theorem rd_map (L : List T) (j : Nat) (h : j < L.length) : rd_T24 (L.map toS) (j : Int) = (L[j]).toS := by
  unfold rd_T24
  rw [Int.toNat_natCast, List.getD_eq_getElem?_getD, List.getElem?_map, List.getElem?_eq_getElem h]
  rfl
theorem forks (x0 : List Int) (hx : x0.length ≤ 9223372036854775807) : ∀ (m i k : Nat) (L : List T), i + m = 50 → 0 < L.length → L.length ≤ i + 1 → (∀ t ∈ L, t.right) → (∀ p, p < 2 ^ 32 → cnt L p = 1) → 3 * m + 200 ≤ k →
    pannierlaw04_IdForks.l0 k x0 true (L.map toS) (i : Int) = some true := by
  intro m
  have fin : ∀ (k : Nat) (L : List T) (y : Int), 0 < L.length → L.length ≤ 51 → (∀ t ∈ L, t.right) → (∀ p, p < 2 ^ 32 → cnt L p = 1) → 199 ≤ k → pannierlaw04_IdForks.j1 k x0 true (L.map toS) y false = some true := by
    intro k L y h0 h1 hr hc hk
    obtain ⟨k, rfl⟩ : ∃ j, k = j + 1 := ⟨k - 1, by omega⟩
    rw [pannierlaw04_IdForks.j1, if_neg (by decide), if_pos rfl, Whole_f _ (by rw [List.length_map]; omega) k (by rw [List.length_map]; omega)]
    rw [Option.bind_some, (wholeF_iff (L.map toS) (leaf false) trivial (by simp [depth])).2 ⟨L, rfl, hr, fun p hp => by rw [has_leaf]; simp; exact hc p hp⟩]
    rw [List.length_map, decide_eq_true (by omega)]
    rfl
  induction m with
  | zero =>
    intro i k L hi h0 h1 hr hc hk
    obtain ⟨k, rfl⟩ : ∃ j, k = j + 1 := ⟨k - 1, by omega⟩
    rw [pannierlaw04_IdForks.l0]
    split
    · rw [decide_eq_false (by omega)]
      exact fin k L _ h0 (by omega) hr hc (by omega)
    · exact fin k L _ h0 (by omega) hr hc (by omega)
  | succ m ih =>
    intro i k L hi h0 h1 hr hc hk
    obtain ⟨k, rfl⟩ : ∃ j, k = j + 1 := ⟨k - 1, by omega⟩
    rw [pannierlaw04_IdForks.l0]
    split
    · rename_i hlt
      rw [decide_eq_true (by omega)]
      obtain ⟨k, rfl⟩ : ∃ j, k = j + 1 := ⟨k - 1, by omega⟩
      rw [pannierlaw04_IdForks.j1, if_pos rfl, if_pos (by omega), if_pos hlt, if_neg (by rw [List.length_map]; omega)]
      have step : ∀ (j : Nat), j < L.length → pannierlaw04_IdForks.j2 k x0 true (L.map toS) (i : Int) (j : Int) = some true := by
        intro j hj
        obtain ⟨k, rfl⟩ : ∃ j, k = j + 1 := ⟨k - 1, by omega⟩
        rw [pannierlaw04_IdForks.j2, if_pos (by omega), if_pos (by rw [List.length_map]; omega), rd_map L j hj]
        have hw : wrap64 ((i : Int) + 1) = ((i + 1 : Nat) : Int) := by unfold wrap64; omega
        have hrj := hr L[j] (List.getElem_mem hj)
        by_cases hs : (L[j]).norm.split.1.right ∧ (L[j]).norm.split.2.right
        · rw [Split_f _ k hrj (by omega) hs.1 hs.2, Option.bind_some, if_pos rfl, Option.bind_some, if_pos (by simp; omega), hw]
          have e : (L.map toS).set ((j : Int)).toNat (⟨(L[j]).norm.split.1.toS.f0, (L[j]).norm.split.1.toS.f1⟩ : S24) ++ [(⟨(L[j]).norm.split.2.toS.f0, (L[j]).norm.split.2.toS.f1⟩ : S24)] = (L.set j (L[j]).norm.split.1 ++ [(L[j]).norm.split.2]).map toS := by
            rw [eta24, eta24, Int.toNat_natCast, List.map_append, List.map_set]
            rfl
          show pannierlaw04_IdForks.l0 k x0 true ((L.map toS).set ((j : Int)).toNat (⟨(L[j]).norm.split.1.toS.f0, (L[j]).norm.split.1.toS.f1⟩ : S24) ++ [(⟨(L[j]).norm.split.2.toS.f0, (L[j]).norm.split.2.toS.f1⟩ : S24)]) _ = some true
          rw [e]
          refine ih (i + 1) k _ (by omega) (by simp) (by simp; omega) (fun t ht => ?_) (fun p hp => ?_) (by omega)
          · rcases List.mem_append.1 ht with ht | ht
            · rcases List.mem_or_eq_of_mem_set ht with ht | rfl
              · exact hr t ht
              · exact hs.1
            · rw [List.mem_singleton.1 ht]; exact hs.2
          · have hn := split32 (L[j]).norm (norm_right hrj).1 hs.1.1 hs.2.1 p hp
            rw [has_norm 32 _ p hrj.1] at hn
            have hset := sum_set (fun t => (t.has 32 p).toNat) (L[j]).norm.split.1 L j hj
            have hcp := hc p hp
            simp only [cnt] at hcp
            simp only [cnt, List.map_append, List.sum_append, List.map_cons, List.map_nil, List.sum_cons, List.sum_nil]
            obtain ⟨h3, h4⟩ := hn
            rw [hcp] at hset
            exact arith hset h3 h4
        · rw [Split_deep _ k hrj (by omega) hs, Option.bind_some, if_neg (by decide), if_pos rfl, hw]
          exact ih (i + 1) k L (by omega) h0 (by omega) hr hc (by omega)
      have hml : ((L.map toS).length : Int) = (L.length : Int) := by rw [List.length_map]
      rw [hml]
      have hlt2 : (Int.tmod (rd x0 (i : Int)) (L.length : Int)).natAbs < L.length := by
        rw [Int.natAbs_tmod]
        exact Nat.mod_lt _ h0
      generalize Int.tmod (rd x0 (i : Int)) (L.length : Int) = q at hlt2
      split
      · rename_i hq
        have hwq : wrap64 (-q) = ((q.natAbs : Nat) : Int) := by unfold wrap64; omega
        rw [hwq]
        exact step _ hlt2
      · rename_i hq
        have hwq : q = ((q.natAbs : Nat) : Int) := by omega
        rw [hwq]
        exact step _ hlt2
    · exact fin k L _ h0 (by omega) hr hc (by omega)

theorem IdForks : pannierlaw04_IdForks.Pure := by
  intro l0 hl _ _
  refine ⟨1000, ?_⟩
  unfold pannierlaw04_IdForks.f
  rw [shown_f 1000 (by omega), Option.bind_some]
  exact forks l0 hl 50 0 1000 [leaf true] rfl (by simp) (by simp) (fun t ht => by rw [List.mem_singleton.1 ht]; decide) (fun p hp => by simp [cnt, has_leaf]) (by omega)

end Go.Proofs.Ytlhaofbncoijfaa.Pure
