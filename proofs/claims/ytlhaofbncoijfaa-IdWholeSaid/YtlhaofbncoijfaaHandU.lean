/- A contract by hand, in the print's form: id.sum. -/
import Derived.Test.YtlhaofbncoijfaaSum
namespace Go.Proofs.Ytlhaofbncoijfaa.HandF
set_option linter.unusedVariables false
open Go.RowKit Go.Proofs.Ytlhaofbncoijfaa.X Go.Proofs.Ytlhaofbncoijfaa.Tree
open Go.Proofs.YtlhaofbncoijfaaW.PrintWords Go.Proofs.YtlhaofbncoijfaaW.PrintLast Go.Proofs.YtlhaofbncoijfaaW.PrintMore
def id_sum.f (a0_0 : Bool) (l0_1 : List S24) (a1_0 : Bool) (l1_1 : List S24) : Option (Bool × List S24 × Bool) :=
  match T.ofS ⟨a0_0, l0_1⟩, T.ofS ⟨a1_0, l1_1⟩ with
  | some a, some b => some ((T.sum a b).1.toS.f0, (T.sum a b).1.toS.f1, (T.sum a b).2)
  | _, _ => none
theorem id_sum.calls (a0_0 : Bool) (P0_1_ : Nat → Prop) (A0_1 : Option Addr) (c0_1 : Nat) (l0_1 : List S24) (a1_0 : Bool) (P1_1_ : Nat → Prop) (A1_1 : Option Addr) (c1_1 : Nat) (l1_1 : List S24) (r1 : Bool) (r2 : List S24) (r3 : Bool) (w : World) (hs0_1 : Kd.V k24 24 w w.heap.size (fun k_ => P0_1_ k_) (.slice A0_1 l0_1.length c0_1) l0_1) (hs1_1 : Kd.V k24 24 w w.heap.size (fun k_ => P1_1_ k_) (.slice A1_1 l1_1.length c1_1) l1_1) (h : id_sum.f a0_0 l0_1 a1_0 l1_1 = some (r1, r2, r3)) :
    Calls Try.prog 43 #[.agg #[.bool a0_0, .slice A0_1 l0_1.length c0_1], .agg #[.bool a1_0, .slice A1_1 l1_1.length c1_1]] w fun e w' => ∃ v1_ : Value, e = .returned (.tuple #[.agg #[.bool r1, v1_], .bool r3]) ∧ Kd.V k24 24 w' w.heap.size (fun k_ => ((P0_1_ k_ ∨ P1_1_ k_) ∨ w.heap.size ≤ k_)) v1_ r2 ∧ Below w.heap.size w w' := by
  unfold id_sum.f at h
  cases ha : T.ofS ⟨a0_0, l0_1⟩ with
  | none => rw [ha] at h; cases h
  | some a =>
    cases hb : T.ofS ⟨a1_0, l1_1⟩ with
    | none => rw [ha, hb] at h; cases h
    | some b =>
      rw [ha, hb] at h
      simp only [Option.some.injEq, Prod.mk.injEq] at h
      obtain ⟨rfl, rfl, rfl⟩ := h
      refine (sum_calls a b (⟨a0_0, l0_1⟩, A0_1, c0_1) (⟨a1_0, l1_1⟩, A1_1, c1_1) w (fun k_ => P0_1_ k_ ∨ P1_1_ k_) (T.ofS_eq.1 ha).symm (T.ofS_eq.1 hb).symm ((Ft.ofV hs0_1).mono (fun _ h => .inl h)) ((Ft.ofV hs1_1).mono (fun _ h => .inr h))).mono ?_
      rintro e w' ⟨⟨s1, A1, c1⟩, rfl, h1, f1, hb⟩
      dsimp only at h1
      subst h1
      exact ⟨_, rfl, f1.toV, hb⟩
end Go.Proofs.Ytlhaofbncoijfaa.HandF
