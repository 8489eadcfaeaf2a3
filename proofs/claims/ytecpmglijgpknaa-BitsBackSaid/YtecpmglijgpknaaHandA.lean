/- Contracts of functions of package bits that the printer does not take: Right, slices.Clone. -/
import Derived.Test.YtecpmglijgpknaaRowPut
import Derived.WalkSpells
namespace Go.Proofs.Ytecpmglijgpknaa.Hand
set_option linter.unusedVariables false
set_option linter.unusedSimpArgs false
open Go.RowKit Go.Proofs.Ytecpmglijgpknaa.Blocks
open Go.Proofs.YtecpmglijgpknaaW.PrintWords Go.Proofs.YtecpmglijgpknaaW.PrintLast Go.Proofs.YtecpmglijgpknaaW.PrintMore

theorem own_empty (W : World) (base : Nat) (h : base ≤ W.heap.size) : (W.alloc (.cells #[] 5)).ownsRow base 5 1 (.slice (some ⟨W.heap.size, 0, none⟩) 0 0) ([] : List Int).length (encs (Value.int .u8) []) :=
  ⟨by simp [encs], .inr ⟨W.heap.size, 0, #[], rfl, h, alloc_new W _, Nat.le_refl _, by simp [maxLen], rfl, by simp [encs]⟩⟩

set_option maxHeartbeats 1000000 in
theorem clone_calls (A : Option Addr) (c : Nat) (l : List Int) (w : World) (hr : Kd.C (Kd.int .u8) w A l.length l) (hl : l.length ≤ 140737488355328) :
    Calls Try.prog 22 #[.slice A l.length c] w fun e w' => ∃ v, e = .returned v ∧ w'.ownsRow w.heap.size 5 1 v l.length (nums .u8 l) ∧ Below w.heap.size w w' := by
  cases A with
  | none =>
    have h0 : l = [] := by
      cases l with
      | nil => rfl
      | cons x l => obtain ⟨ad, e, _⟩ := hr.2.2 (by simp); cases e
    subst h0
    clear hr hl
    have he : ∀ W : World, (binOp .eql 22 (.slice none 0 c) (.slice none 0 0)).run Try.prog W = .ok (.bool true) W := fun W => Lib.run_eql_slice_nil (P := Try.prog) W 22 5 none 0 c 0 0 Try.underlying22
    simp only [List.length_nil]
    go_enter Try.func22, Try.ntmps22
    go_wp2
    go_ret
    exact ⟨_, rfl, own_nil _ _ _ _, Below.refl _ _⟩
  | some ad =>
    have he : ∀ W : World, (binOp .eql 22 (.slice (some ad) l.length c) (.slice none 0 0)).run Try.prog W = .ok (.bool false) W := fun W => Lib.run_eql_slice_nil (P := Try.prog) W 22 5 (some ad) l.length c 0 0 Try.underlying22
    have hr2 := Lib.hid hr
    clear hr
    go_enter Try.func22, Try.ntmps22
    go_wp2_with (at_builtin; refine print_append_row_of (w0 := w) (Value.int .u8) 0 w.heap.size rfl _ _ 22 5 (.int .u8 0) 1 rfl Try.underlying22 info5 rfl (by decide) (fun _ => rfl) _ [] l (some ad) l.length c rfl rfl (own_empty w _ (Nat.le_refl _)) (Kd.reads_of_C (d := 0) (h1 := fun _ => rfl) (Kd.C_alloc hr2.out _)) ((Below.refl _ _).alloc (Nat.le_refl _) _) (by simp) (by simpa using hl) ?_; intro v1 w1 hown hb _ _)
    go_ret
    exact ⟨_, rfl, hown, hb⟩
end Go.Proofs.Ytecpmglijgpknaa.Hand
