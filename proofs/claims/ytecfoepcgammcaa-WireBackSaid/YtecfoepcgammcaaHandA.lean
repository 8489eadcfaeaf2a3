/- A contract in the printer's form: slices.Clone of bytes. -/
import Derived.Test.YtecfoepcgammcaaX0
import Derived.Test.YtecfoepcgammcaaBlocks
import Derived.WalkSpells
import Derived.Lib.Hide
namespace Go.Proofs.Ytecfoepcgammcaa.HandF
set_option linter.unusedVariables false
set_option linter.unusedSimpArgs false
open Go.RowKit Go.Proofs.Ytecfoepcgammcaa.X
open Go.Proofs.YtecfoepcgammcaaW.PrintWords Go.Proofs.YtecfoepcgammcaaW.PrintLast Go.Proofs.YtecfoepcgammcaaW.PrintMore

theorem own_empty (W : World) (base : Nat) (h : base ≤ W.heap.size) : (W.alloc (.cells #[] 5)).ownsRow base 5 1 (.slice (some ⟨W.heap.size, 0, none⟩) 0 0) ([] : List Int).length (encs (Value.int .u8) []) :=
  ⟨by simp [encs], .inr ⟨W.heap.size, 0, #[], rfl, h, Blocks.alloc_new W _, Nat.le_refl _, by simp [maxLen], rfl, by simp [encs]⟩⟩

def slices_Clone_byte_byte.f (l0 : List Int) : Option (List Int) := if l0.length ≤ 140737488355328 then some l0 else none

set_option maxHeartbeats 1000000 in
theorem slices_Clone_byte_byte.calls (A0 : Option Addr) (c0 : Nat) (l0 : List Int) (r1 : List Int) (w : World) (hr0 : Kd.C (Kd.int .u8) w A0 l0.length l0) (hc0 : l0.length ≤ c0) (h : slices_Clone_byte_byte.f l0 = some r1) :
    Calls Try.prog 28 #[.slice A0 l0.length c0] w fun e w' => ∃ v0_ : Value, e = .returned v0_ ∧ Kd.R (Kd.int .u8) 5 w' w.heap.size (fun _ => True) v0_ r1 ∧ Below w.heap.size w w' := by
  unfold slices_Clone_byte_byte.f at h
  by_cases hl : l0.length ≤ 140737488355328
  · rw [if_pos hl] at h
    obtain rfl := Option.some.inj h
    cases A0 with
    | none =>
      have h0 : l0 = [] := by
        cases l0 with
        | nil => rfl
        | cons x l => obtain ⟨ad, e, _⟩ := hr0.2.2 (by simp); cases e
      subst h0
      clear hr0 hl
      have he : ∀ W : World, (binOp .eql 22 (.slice none 0 c0) (.slice none 0 0)).run Try.prog W = .ok (.bool true) W := fun W => Lib.run_eql_slice_nil (P := Try.prog) W 22 5 none 0 c0 0 0 Try.underlying22
      simp only [List.length_nil]
      go_enter Try.func28, Try.ntmps28
      go_wp2
      go_ret
      exact ⟨_, rfl, Kd.R_of_own (own_nil _ _ _ _) (fun _ _ => trivial), Below.refl _ _⟩
    | some ad =>
      have he : ∀ W : World, (binOp .eql 22 (.slice (some ad) l0.length c0) (.slice none 0 0)).run Try.prog W = .ok (.bool false) W := fun W => Lib.run_eql_slice_nil (P := Try.prog) W 22 5 (some ad) l0.length c0 0 0 Try.underlying22
      have hr2 := Lib.hid hr0
      clear hr0
      go_enter Try.func28, Try.ntmps28
      go_wp2_with (at_builtin; refine print_append_row_of (w0 := w) (Value.int .u8) 0 w.heap.size rfl _ _ 22 5 (.int .u8 0) 1 rfl Try.underlying22 info5 rfl (by decide) (fun _ => rfl) _ [] l0 (some ad) l0.length c0 rfl rfl (own_empty w _ (Nat.le_refl _)) (Kd.reads_of_C (d := 0) (h1 := fun _ => rfl) (Kd.C_alloc hr2.out _)) ((Below.refl _ _).alloc (Nat.le_refl _) _) (by simp) (by simpa using hl) ?_; intro v1 w1 hown hb _ _)
      go_ret
      exact ⟨_, rfl, Kd.R_of_own hown (fun _ _ => trivial), hb⟩
  · rw [if_neg hl] at h
    cases h
end Go.Proofs.Ytecfoepcgammcaa.HandF
