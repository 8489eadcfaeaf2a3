/- A contract by hand, in the print's form: id.Right. -/
import Derived.Test.YtlhaofbncoijfaaRight
namespace Go.Proofs.Ytlhaofbncoijfaa.HandF
set_option linter.unusedVariables false
open Go.RowKit Go.Proofs.Ytlhaofbncoijfaa.X
open Go.Proofs.YtlhaofbncoijfaaW.PrintWords Go.Proofs.YtlhaofbncoijfaaW.PrintLast Go.Proofs.YtlhaofbncoijfaaW.PrintMore
def id_Right.f (a0_0 : Bool) (l0_1 : List S24) : Option Bool := some (rightB ⟨a0_0, l0_1⟩)
theorem id_Right.calls (a0_0 : Bool) (A0_1 : Option Addr) (c0_1 : Nat) (l0_1 : List S24) (r : Bool) (w : World) (hr0_1 : Kd.C k24 w A0_1 l0_1.length l0_1) (hc0_1 : l0_1.length ≤ c0_1) (h : id_Right.f a0_0 l0_1 = some r) :
    Calls Try.prog 17 #[.agg #[.bool a0_0, .slice A0_1 l0_1.length c0_1]] w fun e w' => e = .returned (.bool r) ∧ Below w.heap.size w w' := by
  obtain rfl : rightB ⟨a0_0, l0_1⟩ = r := by simpa [id_Right.f] using h
  exact right_calls (⟨a0_0, l0_1⟩, A0_1, c0_1) w ⟨hc0_1, hr0_1⟩
end Go.Proofs.Ytlhaofbncoijfaa.HandF
