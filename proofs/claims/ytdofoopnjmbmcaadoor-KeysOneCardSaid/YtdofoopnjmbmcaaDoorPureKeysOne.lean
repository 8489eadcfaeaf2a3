/- The plain law of KeysOne. -/
import Derived.Test.YtdofoopnjmbmcaaDoorX8
import Derived.Test.YtdofoopnjmbmcaaDoorReadLoop
namespace Go.Proofs.YtdofoopnjmbmcaaDoor.Math
set_option linter.unusedVariables false
set_option linter.unusedSimpArgs false
open Go.RowKit Go.Proofs.YtdofoopnjmbmcaaDoor.X Go.Proofs.YtdofoopnjmbmcaaDoor.HandF
open Go.Proofs.YtdofoopnjmbmcaaDoorW.PrintWords Go.Proofs.YtdofoopnjmbmcaaDoorW.PrintLast Go.Proofs.YtdofoopnjmbmcaaDoorW.PrintMore

theorem KeysOne (s : ByteArray) (hs : s.size ≤ 140737488351232) : ∃ k, pannierlaw03_KeysOne.f k s = some true := by
  obtain ⟨l, e, ⟨K, g1⟩, _, g3⟩ := read_ev s hs
  refine ⟨K, ?_⟩
  have g := g1 K (Nat.le_refl _)
  dsimp only at g
  unfold pannierlaw03_KeysOne.f
  rw [shown_some, Option.bind_some, g, Option.bind_some]
  rcases g3 with ⟨rfl, hr, hl⟩ | ⟨rfl, rfl⟩
  · rw [if_pos rfl, lay_right hr, Option.bind_some, if_pos rfl, if_pos rfl, hl, beq_self_eq_true]
  · rw [if_neg (by decide), if_pos rfl, if_pos rfl]
    rfl

theorem one_walk (a0 : ByteArray) (w : World) (w0 : a0.size ≤ 140737488351232) :
    Calls Tryd.prog 8 #[.string a0] w fun e w' => e = .returned (.bool true) ∧ Below w.heap.size w w' := by
  obtain ⟨k, h⟩ := KeysOne a0 w0
  exact pannierlaw03_KeysOne.calls k a0 true w h
end Go.Proofs.YtdofoopnjmbmcaaDoor.Math
