/- The plain law of WireSeals. -/
import Derived.Test.YtecfoepcgammcaaX7
import Derived.Test.YtecfoepcgammcaaOpenMath
namespace Go.Proofs.Ytecfoepcgammcaa.Math
set_option linter.unusedVariables false
set_option linter.unusedSimpArgs false
open Go.RowKit Go.Proofs.Ytecfoepcgammcaa.X Go.Proofs.Ytecfoepcgammcaa.HandF
open Go.Proofs.YtecfoepcgammcaaW.PrintWords Go.Proofs.YtecfoepcgammcaaW.PrintLast Go.Proofs.YtecfoepcgammcaaW.PrintMore

/-- Both open alike. -/
theorem opens_same (s : ByteArray) (hs : s.size ≤ 140737488351232) (p most : Int) (hm : most ≤ 9223372036854775807) : ∃ r, wire_Open.f s p most = some r ∧ pannierref02_Open.f s p most = some r := by
  unfold wire_Open.f pannierref02_Open.f
  rw [if_pos hs, if_pos hs]
  by_cases c : 0 ≤ p ∧ p < s.size
  · rw [if_pos c, if_pos c]
    obtain ⟨n, rfl⟩ := Int.eq_ofNat_of_zero_le c.1
    rw [Int.toNat_natCast]
    obtain ⟨h1, r, h2⟩ := open_same s hs n (by omega) most hm
    exact ⟨r, by rw [h1]; exact h2, h2⟩
  · rw [if_neg c, if_neg c]
    exact ⟨_, rfl, rfl⟩

theorem mn_10000 (n : Nat) : 0 ≤ mn (n : Int) 10000 ∧ mn (n : Int) 10000 ≤ (n : Int) ∧ mn (n : Int) 10000 ≤ 10000 := by
  unfold mn
  split <;> omega
end Go.Proofs.Ytecfoepcgammcaa.Math
namespace Go.Proofs.Ytecfoepcgammcaa.Pure
open Go.RowKit Go.Proofs.Ytecfoepcgammcaa.X Go.Proofs.YtecfoepcgammcaaW.PrintWords Go.Proofs.YtecfoepcgammcaaW.PrintLast Go.Proofs.Ytecfoepcgammcaa.Math Go.Proofs.Ytecfoepcgammcaa.HandF

theorem WireSeals : pannierlaw02_WireSeals.Pure := by
  intro a0 a1 a2 a3 a4 h0 h1 h2 h3 h4
  obtain ⟨r, r1, r2⟩ := opens_same a2 h2 a3 a4 (i64_of_wf h4).2
  obtain ⟨m0, m1, m2⟩ := mn_10000 a1.size
  have hsz : (a1.extract 0 (mn (a1.size : Int) 10000).toNat).size + 4096 ≤ 140737488355328 := by
    rw [ByteArray.size_extract]
    omega
  obtain ⟨k1, e1⟩ := shown_ev
  obtain ⟨k2, e2⟩ := refseal_ev a0 _ hsz
  refine ⟨max k1 k2, ?_⟩
  have e1' := e1 (max k1 k2) (by omega)
  have e2' := e2 (max k1 k2) (by omega)
  dsimp only at e1' e2'
  unfold pannierlaw02_WireSeals.f
  rw [e1', Option.bind_some, if_pos m0, if_pos m1, r1, Option.bind_some, r2, Option.bind_some, if_pos rfl, seal_some a0 _ hsz, Option.bind_some, e2', Option.bind_some,
    if_pos rfl, if_pos rfl, if_pos rfl, if_pos rfl]
  simp
end Go.Proofs.Ytecfoepcgammcaa.Pure
