/- The plain law of WireNumbers. -/
import Derived.Test.YtecfoepcgammcaaX5
import Derived.Test.YtecfoepcgammcaaTakeMath
namespace Go.Proofs.Ytecfoepcgammcaa.Pure
set_option linter.unusedVariables false
set_option linter.unusedSimpArgs false
open Go.RowKit Go.Proofs.Ytecfoepcgammcaa.X Go.Proofs.YtecfoepcgammcaaW.PrintWords Go.Proofs.YtecfoepcgammcaaW.PrintLast Go.Proofs.YtecfoepcgammcaaW.PrintMore

theorem WireNumbers : pannierlaw02_WireNumbers.Pure := by
  intro l n p hl hl2 hx hn hp
  have hb := Math.bytes_of_wf hx
  obtain ⟨n0, n1⟩ := Math.u64_of_wf hn
  obtain ⟨v, rfl⟩ := Int.eq_ofNat_of_zero_le n0
  have hv : v < 18446744073709551616 := by omega
  obtain ⟨k1, h1⟩ := Math.number_some (l := l) hv (by omega)
  obtain ⟨k2, h2⟩ := Math.take_ev hb (by omega) p
  obtain ⟨k3, h3⟩ := Math.shown_ev
  obtain ⟨k4, h4⟩ := Math.reftake_ev hb (by omega) p
  dsimp only at h1 h2 h3 h4
  have hr : HandF.pannierref02_Number.f l (v : Int) = some (l ++ Math.numB v) := by
    unfold HandF.pannierref02_Number.f
    rw [if_pos ⟨by omega, by omega, by omega⟩, Int.toNat_natCast]
  refine ⟨max (max k1 k2) (max k3 k4), ?_⟩
  unfold pannierlaw02_WireNumbers.f
  rw [h3 _ (by omega), Option.bind_some, h2 _ (by omega), Option.bind_some, h4 _ (by omega), Option.bind_some, if_pos rfl, h1 _ (by omega), Option.bind_some, hr, Option.bind_some, if_pos rfl, if_pos rfl, if_pos rfl]
  simp

end Go.Proofs.Ytecfoepcgammcaa.Pure
