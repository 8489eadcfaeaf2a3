/- Plain facts: a text's bytes, each 0 followed by 255. -/
import Derived.Lib.Bytealg
namespace Go.Proofs.YtdofoopnjmbmcaaDoor.Math
set_option linter.unusedVariables false
open Go

def escU : List UInt8 → List UInt8
  | [] => []
  | x :: r => if x = 0 then 0 :: 255 :: escU r else x :: escU r

theorem escU_none : ∀ {l : List UInt8}, l.count 0 = 0 → escU l = l
  | [], _ => rfl
  | x :: r, h => by
    have hx : x ≠ 0 := by
      intro e
      subst e
      rw [List.count_cons_self] at h
      omega
    rw [List.count_cons_of_ne hx] at h
    rw [escU, if_neg hx, escU_none h]

theorem escU_length : ∀ l : List UInt8, (escU l).length = l.length + l.count 0
  | [] => rfl
  | x :: r => by
    have ih := escU_length r
    by_cases hx : x = 0
    · subst hx
      rw [escU, if_pos rfl, List.count_cons_self]
      simp only [List.length_cons]
      omega
    · rw [escU, if_neg hx, List.count_cons_of_ne hx]
      simp only [List.length_cons]
      omega

theorem idx_split : ∀ {l : List UInt8}, 0 < l.count 0 → ∃ o : Nat, Lib.indexByte l 0 = (o : Int) ∧ o < l.length ∧ escU l = l.take o ++ [0, 255] ++ escU (l.drop (o + 1)) ∧ (l.drop (o + 1)).count 0 + 1 = l.count 0
  | [], h => by simp at h
  | x :: r, h => by
    by_cases hx : x = 0
    · subst hx
      refine ⟨0, ?_, by simp, ?_, ?_⟩
      · unfold Lib.indexByte
        rw [if_pos (by decide)]
        rfl
      · rw [escU, if_pos rfl]; rfl
      · rw [List.count_cons_self]; rfl
    · rw [List.count_cons_of_ne hx] at h
      obtain ⟨o, h1, h2, h3, h4⟩ := idx_split h
      refine ⟨o + 1, ?_, by simp only [List.length_cons]; omega, ?_, ?_⟩
      · unfold Lib.indexByte
        rw [if_neg (by simpa using hx), h1, if_neg (by simp)]
        omega
      · rw [escU, if_neg hx, h3]
        simp [List.take_succ_cons, List.drop_succ_cons]
      · rw [List.count_cons_of_ne hx, List.drop_succ_cons]
        exact h4
end Go.Proofs.YtdofoopnjmbmcaaDoor.Math
