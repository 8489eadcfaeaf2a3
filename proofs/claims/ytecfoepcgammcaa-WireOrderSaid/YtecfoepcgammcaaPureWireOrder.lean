/- The plain law of WireOrder. -/
import Derived.Test.YtecfoepcgammcaaX4
import Derived.Test.YtecfoepcgammcaaNumMath
namespace Go.Proofs.Ytecfoepcgammcaa.Pure
set_option linter.unusedVariables false
set_option linter.unusedSimpArgs false
open Go.RowKit Go.Proofs.Ytecfoepcgammcaa.X Go.Proofs.YtecfoepcgammcaaW.PrintWords Go.Proofs.YtecfoepcgammcaaW.PrintLast Go.Proofs.YtecfoepcgammcaaW.PrintMore

theorem WireOrder : pannierlaw02_WireOrder.Pure := by
  intro a b ha hb
  obtain ⟨a0, a1⟩ := Math.u64_of_wf ha
  obtain ⟨b0, b1⟩ := Math.u64_of_wf hb
  obtain ⟨x, rfl⟩ := Int.eq_ofNat_of_zero_le a0
  obtain ⟨y, rfl⟩ := Int.eq_ofNat_of_zero_le b0
  have hx : x < 18446744073709551616 := by omega
  have hy : y < 18446744073709551616 := by omega
  obtain ⟨k1, h1⟩ := Math.number_some (l := []) hx (by simp)
  obtain ⟨k2, h2⟩ := Math.number_some (l := []) hy (by simp)
  obtain ⟨k3, h3⟩ := Math.shown_ev
  dsimp only at h1 h2 h3
  refine ⟨max k1 (max k2 k3), ?_⟩
  unfold pannierlaw02_WireOrder.f
  rw [h3 _ (by omega), Option.bind_some, h1 _ (by omega), Option.bind_some, h2 _ (by omega), Option.bind_some, if_pos rfl, List.nil_append, List.nil_append, Math.str_bs, Math.str_bs]
  rcases Nat.lt_trichotomy x y with h | h | h
  · have hl := Math.numB_less hx hy h
    have hne : ¬ Math.bs (Math.numB x) = Math.bs (Math.numB y) := fun e => by rw [e, Math.bytesLess_irrefl] at hl; exact absurd hl (by decide)
    rw [hl, decide_eq_true (by omega)]
    rw [if_pos (by decide), beq_eq_false_iff_ne.2 (show ((x : Int)) ≠ (y : Int) by omega), beq_eq_false_iff_ne.2 hne]
    rfl
  · subst h
    rw [Math.bytesLess_irrefl, decide_eq_false (by omega)]
    simp
  · have hl := Math.numB_less hy hx h
    have hne : ¬ Math.bs (Math.numB x) = Math.bs (Math.numB y) := fun e => by rw [e, Math.bytesLess_irrefl] at hl; exact absurd hl (by decide)
    have hl2 : Op.bytesLess (Math.bs (Math.numB x)) (Math.bs (Math.numB y)) = false := by
      cases hc : Op.bytesLess (Math.bs (Math.numB x)) (Math.bs (Math.numB y)) with
      | false => rfl
      | true => exact absurd (Math.bytesLess_asymm _ _ hl) (by rw [hc]; decide)
    rw [hl2, decide_eq_false (by omega)]
    rw [if_pos (by decide), beq_eq_false_iff_ne.2 (show ((x : Int)) ≠ (y : Int) by omega), beq_eq_false_iff_ne.2 hne]
    rfl

end Go.Proofs.Ytecfoepcgammcaa.Pure
