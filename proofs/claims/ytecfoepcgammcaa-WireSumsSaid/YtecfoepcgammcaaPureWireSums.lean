/- The plain law of WireSums. -/
import Derived.Test.YtecfoepcgammcaaX3
import Derived.Test.YtecfoepcgammcaaMath
namespace Go.Proofs.Ytecfoepcgammcaa.Pure
set_option linter.unusedVariables false
set_option linter.unusedSimpArgs false
open Go.RowKit Go.Proofs.Ytecfoepcgammcaa.X Go.Proofs.YtecfoepcgammcaaW.PrintWords Go.Proofs.YtecfoepcgammcaaW.PrintLast Go.Proofs.YtecfoepcgammcaaW.PrintMore

theorem WireSums : pannierlaw02_WireSums.Pure := by
  intro l hl hl2 hx
  obtain ⟨n, hn, hn0⟩ : ∃ n : Int, mn (l.length : Int) 100000 = n ∧ 0 ≤ n ∧ n ≤ l.length := ⟨_, rfl, by unfold mn; split <;> omega, by unfold mn; split <;> omega⟩
  obtain ⟨S, hS, k1, h1⟩ := Math.refsum_some (l.take n.toNat) (by rw [List.length_take]; omega)
  obtain ⟨k2, h2⟩ := Math.shown_ev
  dsimp only at h1 h2
  refine ⟨max k1 k2, ?_⟩
  unfold pannierlaw02_WireSums.f
  rw [h2 _ (Nat.le_max_right _ _), Option.bind_some, hn, if_pos hn0.1, if_pos hn0.2, if_pos rfl, hS, Option.bind_some, h1 _ (Nat.le_max_left _ _), Option.bind_some]
  simp

end Go.Proofs.Ytecfoepcgammcaa.Pure
