/- A contract by hand, in the print's form: id.split. -/
import Derived.Test.YtlhaofbncoijfaaSplit
namespace Go.Proofs.Ytlhaofbncoijfaa.HandF
set_option linter.unusedVariables false
open Go.RowKit Go.Proofs.Ytlhaofbncoijfaa.X Go.Proofs.Ytlhaofbncoijfaa.Tree
open Go.Proofs.YtlhaofbncoijfaaW.PrintWords Go.Proofs.YtlhaofbncoijfaaW.PrintLast Go.Proofs.YtlhaofbncoijfaaW.PrintMore
def id_split.f (a0_0 : Bool) (l0_1 : List S24) : Option (Bool × List S24 × Bool × List S24) :=
  (T.ofS ⟨a0_0, l0_1⟩).map fun t => (t.split.1.toS.f0, t.split.1.toS.f1, t.split.2.toS.f0, t.split.2.toS.f1)
theorem id_split.calls (a0_0 : Bool) (P0_1_ : Nat → Prop) (A0_1 : Option Addr) (c0_1 : Nat) (l0_1 : List S24) (r1 : Bool) (r2 : List S24) (r3 : Bool) (r4 : List S24) (w : World) (hs0_1 : Kd.V k24 24 w w.heap.size (fun k_ => P0_1_ k_) (.slice A0_1 l0_1.length c0_1) l0_1) (h : id_split.f a0_0 l0_1 = some (r1, r2, r3, r4)) :
    Calls Try.prog 39 #[.agg #[.bool a0_0, .slice A0_1 l0_1.length c0_1]] w fun e w' => ∃ v1_ v3_ : Value, e = .returned (.tuple #[.agg #[.bool r1, v1_], .agg #[.bool r3, v3_]]) ∧ Kd.V k24 24 w' w.heap.size (fun k_ => (P0_1_ k_ ∨ w.heap.size ≤ k_)) v1_ r2 ∧ Kd.V k24 24 w' w.heap.size (fun k_ => (P0_1_ k_ ∨ w.heap.size ≤ k_)) v3_ r4 ∧ Below w.heap.size w w' := by
  unfold id_split.f at h
  cases ht : T.ofS ⟨a0_0, l0_1⟩ with
  | none => rw [ht] at h; cases h
  | some t =>
    rw [ht] at h
    simp only [Option.map_some, Option.some.injEq, Prod.mk.injEq] at h
    obtain ⟨rfl, rfl, rfl, rfl⟩ := h
    refine (split_calls t (⟨a0_0, l0_1⟩, A0_1, c0_1) w _ (T.ofS_eq.1 ht).symm (Ft.ofV hs0_1)).mono ?_
    rintro e w' ⟨⟨s1, A1, c1⟩, ⟨s2, A2, c2⟩, rfl, h1, h2, f1, f2, hb⟩
    dsimp only at h1 h2
    subst h1 h2
    exact ⟨_, _, rfl, f1.toV, f2.toV, hb⟩
end Go.Proofs.Ytlhaofbncoijfaa.HandF
