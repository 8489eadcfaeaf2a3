/- Plain fact: slices.Equal of bytes tells whether the rows are the same. -/
import Derived.Test.YtecfoepcgammcaaMath
import Derived.Test.YtecfoepcgammcaaX31
namespace Go.Proofs.Ytecfoepcgammcaa.Math
set_option linter.unusedVariables false
set_option linter.unusedSimpArgs false
open Go.RowKit Go.Proofs.Ytecfoepcgammcaa.X Go.Proofs.Ytecfoepcgammcaa.HandF
open Go.Proofs.YtecfoepcgammcaaW.PrintWords Go.Proofs.YtecfoepcgammcaaW.PrintLast Go.Proofs.YtecfoepcgammcaaW.PrintMore

theorem eq_loop {a b : List Int} (hl : a.length = b.length) (hs : a.length ≤ 140737488355328) (d : Nat) : ∀ i, i + d = a.length →
    slices_Equal_byte_byte.l0 (d + 1) a b (a.length : Int) (i : Int) = some (decide (a.drop i = b.drop i)) := by
  induction d with
  | zero =>
    intro i hi
    rw [slices_Equal_byte_byte.l0, if_neg (by omega), List.drop_eq_nil_iff.2 (show a.length ≤ i by omega), List.drop_eq_nil_iff.2 (show b.length ≤ i by omega)]
    simp
  | succ d ih =>
    intro i hi
    have ha : i < a.length := by omega
    have hb : i < b.length := by omega
    have h1 := ih (i + 1) (by omega)
    have ra : rd a (i : Int) = a[i] := by unfold rd; rw [Int.toNat_natCast, List.getD_eq_getElem?_getD, List.getElem?_eq_getElem ha]; rfl
    have rb : rd b (i : Int) = b[i] := by unfold rd; rw [Int.toNat_natCast, List.getD_eq_getElem?_getD, List.getElem?_eq_getElem hb]; rfl
    have c1 : (i : Int) < (a.length : Int) := by omega
    have c2 : (i : Int) < (b.length : Int) := by omega
    have e1 : wrap64 ((i : Int) + 1) = ((i + 1 : Nat) : Int) := by rw [wrap_small (by omega) (by omega)]; omega
    rw [slices_Equal_byte_byte.l0, if_pos c1, if_pos (Int.natCast_nonneg i), if_pos c1, if_pos c2, ra, rb, e1]
    have hda : a.drop i = a[i] :: a.drop (i + 1) := List.drop_eq_getElem_cons ha
    have hdb : b.drop i = b[i] :: b.drop (i + 1) := List.drop_eq_getElem_cons hb
    have hiff : (a.drop i = b.drop i) = (a[i] = b[i] ∧ a.drop (i + 1) = b.drop (i + 1)) := by rw [hda, hdb, List.cons.injEq]
    by_cases he : a[i] = b[i]
    · rw [if_pos he, h1]
      congr 1
      rw [Bool.eq_iff_iff, decide_eq_true_iff, decide_eq_true_iff, hiff]
      exact ⟨fun h => ⟨he, h⟩, fun h => h.2⟩
    · rw [if_neg he, decide_eq_false (by rw [hiff]; exact fun h => he h.1)]

theorem equal_ev (a b : List Int) (hs : a.length ≤ 140737488355328) : Ev (fun k => slices_Equal_byte_byte.f k a b) (decide (a = b)) := by
  by_cases hl : a.length = b.length
  · refine Ev.of (fun k => slices_Equal_byte_byte.mono _ _ k) (k := a.length + 1) ?_
    unfold slices_Equal_byte_byte.f
    rw [if_pos (by omega)]
    exact eq_loop hl hs a.length 0 (by omega)
  · refine ⟨0, fun k _ => ?_⟩
    dsimp only
    unfold slices_Equal_byte_byte.f
    rw [if_neg (by omega), decide_eq_false (fun h => hl (by rw [h]))]
end Go.Proofs.Ytecfoepcgammcaa.Math
