-- Written by a program of this session (xprint.py) out of the translation; Lean checks it.
import Derived.Test.YtecfoepcgammcaaX0
import Derived.Test.YtecfoepcgammcaaX14
import Derived.Test.YtecfoepcgammcaaHandS
import Derived.Test.YtecfoepcgammcaaHandM
namespace Go.Proofs.Ytecfoepcgammcaa.X
open Go.RowKit Go.Proofs.YtecfoepcgammcaaW.PrintWords Go.Proofs.YtecfoepcgammcaaW.PrintLast Go.Proofs.YtecfoepcgammcaaW.PrintMore Go.Proofs.Ytecfoepcgammcaa.HandF
attribute [local go_sem] max2_int min2_int max_two min_two max_three min_three max_four min_four   -- for this text's walks alone
set_option linter.unusedVariables false
set_option linter.unusedSimpArgs false

/-! ### pannierlaw02_shown: function 11 -/
def pannierlaw02_shown.f (k : Nat)  : Option (Bool) := (wire_Sum.f (([49, 50, 51, 52, 53, 54, 55, 56, 57] : List Int))).bind fun t117 => (if t117 = 3421780262 then ((wire_Number.f k ([] : List Int) 300).bind fun t118 => (some ((strOfNums t118).toList == ([129, 44] : List UInt8)))) else (some false))
theorem pannierlaw02_shown.mono : ∀ k, LeO (pannierlaw02_shown.f k ) (pannierlaw02_shown.f (k + 1) ) := by
  intro  k
  unfold pannierlaw02_shown.f
  repeat' first
      | (with_reducible exact wire_Number.mono _ _ _)
      | (with_reducible exact LeO.refl _)
      | (with_reducible exact LeO.none _)
      | (with_reducible refine LeO.ite ?_ ?_)
      | (with_reducible refine LeO.bind ?_ (fun _ => ?_))
      | exact wire_Number.mono _ _ _
      | exact LeO.none _
      | refine LeO.ite ?_ ?_
      | refine LeO.bind ?_ (fun _ => ?_)
set_option maxHeartbeats 8000000 in
set_option maxRecDepth 100000 in
theorem pannierlaw02_shown.calls (k : Nat)  (r : Bool) (w : World) (h : pannierlaw02_shown.f k  = some r) :
    Calls Try.prog 11 #[] w fun e w' => e = .returned (.bool r) ∧ Below w.heap.size w w' := by
  have HB := Aside0.mk (Below.refl w.heap.size w)
  have H : ((wire_Sum.f (([49, 50, 51, 52, 53, 54, 55, 56, 57] : List Int))).bind fun t117 => (if t117 = 3421780262 then ((wire_Number.f k ([] : List Int) 300).bind fun t118 => (some ((strOfNums t118).toList == ([129, 44] : List UInt8)))) else (some false))) = some r := h
  clear h
  obtain ⟨y114, hy114⟩ : ∃ y_ : List Int, y_ = (([49, 50, 51, 52, 53, 54, 55, 56, 57] : List Int)) := ⟨_, rfl⟩
  replace H : ((wire_Sum.f y114).bind fun t117 => (if t117 = 3421780262 then ((wire_Number.f k ([] : List Int) 300).bind fun t118 => (some ((strOfNums t118).toList == ([129, 44] : List UInt8)))) else (some false))) = some r := by first | (rw [hy114]; with_reducible exact H) | (have H2_ := (Option.bind_some _ _).symm.trans H; rw [hy114]; with_reducible exact H2_) | (have H2_ := (Option.bind_some _ _).symm.trans H; with_reducible exact H2_) | with_reducible exact H | (rw [hy114]; exact H) | exact H
  have Ny114 := Aside0.mk hy114
  clear hy114
  replace H := Option.bind_eq_some_iff.mp H
  obtain ⟨t117, A10, H⟩ := H
  replace H : (if t117 = 3421780262 then ((wire_Number.f k ([] : List Int) 300).bind fun t118 => (some ((strOfNums t118).toList == ([129, 44] : List UInt8)))) else (some false)) = some r := H
  have A1 := Aside0.mk A10
  clear A10
  by_cases c2 : t117 = 3421780262
  · rw [if_pos c2] at H
    have c2b0 : (t117 == 3421780262) = true := beq_iff_eq.mpr c2
    have c2b1 : (t117 != 3421780262) = false := bne_eq_false_iff_eq.mpr c2
    clear c2
    replace H := Option.bind_eq_some_iff.mp H
    obtain ⟨t118, A30, H⟩ := H
    replace H : (some ((strOfNums t118).toList == ([129, 44] : List UInt8))) = some r := H
    have A3 := Aside0.mk A30
    clear A30
    obtain rfl := Option.some.inj H
    have A1c : Aside0 (wire_Sum.f [49, 50, 51, 52, 53, 54, 55, 56, 57] = some t117) := ⟨by have := A1.out; rw [Ny114.out] at this; exact this⟩
    have kc := fun (w : World) (C : Array Value) (n c : Nat) => Lib.run_convert_bytes_const (P := Try.prog) w 22 5 C n c Try.underlying22 Try.underlying5
    go_enter Try.func11, Try.ntmps11
    go_wp2_with (first | (go_at_call 12; (refine (sum_lit t117 [49, 50, 51, 52, 53, 54, 55, 56, 57] 9 9 rfl (by decide) (by decide) _ _ rfl w A1c.out).mono ?_); rintro e w7 ⟨rfl, hb⟩; clear HB; have HB := Aside0.mk hb; clear hb) | (go_at_call 14; (refine (wire_Number.calls k _ _ ([] : List Int) 300 t118 _ ?side1 ?side2 A3.out).mono ?_); (case side1 => exact Kd.C_nil _ _); (case side2 => exact Nat.le_refl _); rintro e w8 ⟨v119, rfl, ho0, hb⟩; have HO120 := Aside0.mk ho0; have n2_ := Aside0.mk (below_step HB.out hb); clear HB; have HB := n2_; clear n2_ hb ho0; have hcv9 := own_string (P := Try.prog) Try.underlying22 Try.underlying5 Try.underlying9 (Kd.own_of_R HO120.out)))
    go_ret
    exact ⟨by first | rfl | (simp [errW_none, errW_some] <;> rfl) | (simp [*, errW_none, errW_some] <;> rfl), by repeat (first | (with_reducible first | exact HB.out | apply below_alloc | apply pw_below_drewN | apply below_drew1) | exact HB.out)⟩
  · rw [if_neg c2] at H
    have c2b0 : (t117 == 3421780262) = false := beq_eq_false_iff_ne.mpr c2
    have c2b1 : (t117 != 3421780262) = true := bne_iff_ne.mpr c2
    obtain rfl := Option.some.inj H
    have A1c : Aside0 (wire_Sum.f [49, 50, 51, 52, 53, 54, 55, 56, 57] = some t117) := ⟨by have := A1.out; rw [Ny114.out] at this; exact this⟩
    have kc := fun (w : World) (C : Array Value) (n c : Nat) => Lib.run_convert_bytes_const (P := Try.prog) w 22 5 C n c Try.underlying22 Try.underlying5
    go_enter Try.func11, Try.ntmps11
    go_wp2_with (go_at_call 12; (refine (sum_lit t117 [49, 50, 51, 52, 53, 54, 55, 56, 57] 9 9 rfl (by decide) (by decide) _ _ rfl w A1c.out).mono ?_); rintro e w7 ⟨rfl, hb⟩; clear HB; have HB := Aside0.mk hb; clear hb)
    go_ret
    exact ⟨by first | rfl | (simp [errW_none, errW_some] <;> rfl) | (simp [*, errW_none, errW_some] <;> rfl), by repeat (first | (with_reducible first | exact HB.out | apply below_alloc | apply pw_below_drewN | apply below_drew1) | exact HB.out)⟩

end Go.Proofs.Ytecfoepcgammcaa.X
