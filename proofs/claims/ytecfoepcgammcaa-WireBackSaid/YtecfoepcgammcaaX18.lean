-- Written by a program of this session (xprint.py) out of the translation; Lean checks it.
import Derived.Test.YtecfoepcgammcaaX0
import Derived.Test.YtecfoepcgammcaaX15
namespace Go.Proofs.Ytecfoepcgammcaa.X
open Go.RowKit Go.Proofs.YtecfoepcgammcaaW.PrintWords Go.Proofs.YtecfoepcgammcaaW.PrintLast Go.Proofs.YtecfoepcgammcaaW.PrintMore Go.Proofs.Ytecfoepcgammcaa.HandF
attribute [local go_sem] max2_int min2_int max_two min_two max_three min_three max_four min_four   -- for this text's walks alone
set_option linter.unusedVariables false
set_option linter.unusedSimpArgs false

/-! ### wire_TakeText: function 18 -/
def wire_TakeText.f (k : Nat) (l0 : List Int) (a1 : Int) (a2 : Int) : Option (ByteArray × Int × Int) := (wire_TakeNumber.f k l0 a1).bind fun bt155 => (if bt155.2.2 = 0 then (if a2 < 0 then (some ((⟨#[]⟩ : ByteArray), 0, 20)) else (if bt155.1 > (IntKind.u64.wrap (a2)) then (some ((⟨#[]⟩ : ByteArray), 0, 20)) else (if bt155.1 > (IntKind.u64.wrap (wrap64 ((l0.length : Int) - bt155.2.1))) then (some ((⟨#[]⟩ : ByteArray), 0, 20)) else (if 0 ≤ bt155.2.1 then (if bt155.2.1 ≤ (wrap64 (bt155.2.1 + (wrap64 (bt155.1)))) then (if (wrap64 (bt155.2.1 + (wrap64 (bt155.1)))) ≤ (l0.length : Int) then (some (strOfNums ((l0.take ((wrap64 (bt155.2.1 + (wrap64 (bt155.1)))) : Int).toNat).drop (bt155.2.1 : Int).toNat), wrap64 (bt155.2.1 + (wrap64 (bt155.1))), 0)) else (none)) else (none)) else (none))))) else (some ((⟨#[]⟩ : ByteArray), 0, 20)))
theorem wire_TakeText.mono : ∀ a0 a1 a2 k, LeO (wire_TakeText.f k a0 a1 a2) (wire_TakeText.f (k + 1) a0 a1 a2) := by
  intro a0 a1 a2 k
  unfold wire_TakeText.f
  repeat' first
      | (with_reducible exact wire_TakeNumber.mono _ _ _)
      | (with_reducible exact LeO.refl _)
      | (with_reducible exact LeO.none _)
      | (with_reducible refine LeO.ite ?_ ?_)
      | (with_reducible refine LeO.bind ?_ (fun _ => ?_))
      | exact wire_TakeNumber.mono _ _ _
      | exact LeO.none _
      | refine LeO.ite ?_ ?_
      | refine LeO.bind ?_ (fun _ => ?_)
set_option maxHeartbeats 8000000 in
set_option maxRecDepth 100000 in
theorem wire_TakeText.calls (k : Nat) (A0 : Option Addr) (c0 : Nat) (l0 : List Int) (a1 : Int) (a2 : Int) (r1 : ByteArray) (r2 : Int) (r3 : Int) (w : World) (hr0 : Kd.C (Kd.int .u8) w A0 l0.length l0) (hc0 : l0.length ≤ c0) (h : wire_TakeText.f k l0 a1 a2 = some (r1, r2, r3)) :
    Calls Try.prog 18 #[.slice A0 l0.length c0, .int .i64 a1, .int .i64 a2] w fun e w' => e = .returned (.tuple #[.string r1, .int .i64 r2, .int .i64 r3]) ∧ Below w.heap.size w w' := by
  have HR0 := Aside0.mk hr0
  have HC0 := Aside0.mk hc0
  clear hr0 hc0
  have HB := Aside0.mk (Below.refl w.heap.size w)
  have H : ((wire_TakeNumber.f k l0 a1).bind fun bt155 => (if bt155.2.2 = 0 then (if a2 < 0 then (some ((⟨#[]⟩ : ByteArray), 0, 20)) else (if bt155.1 > (IntKind.u64.wrap (a2)) then (some ((⟨#[]⟩ : ByteArray), 0, 20)) else (if bt155.1 > (IntKind.u64.wrap (wrap64 ((l0.length : Int) - bt155.2.1))) then (some ((⟨#[]⟩ : ByteArray), 0, 20)) else (if 0 ≤ bt155.2.1 then (if bt155.2.1 ≤ (wrap64 (bt155.2.1 + (wrap64 (bt155.1)))) then (if (wrap64 (bt155.2.1 + (wrap64 (bt155.1)))) ≤ (l0.length : Int) then (some (strOfNums ((l0.take ((wrap64 (bt155.2.1 + (wrap64 (bt155.1)))) : Int).toNat).drop (bt155.2.1 : Int).toNat), wrap64 (bt155.2.1 + (wrap64 (bt155.1))), 0)) else (none)) else (none)) else (none))))) else (some ((⟨#[]⟩ : ByteArray), 0, 20)))) = some (r1, r2, r3) := h
  clear h
  replace H := Option.bind_eq_some_iff.mp H
  obtain ⟨⟨t155, t156, t157⟩, A40, H⟩ := H
  replace H : (if t157 = 0 then (if a2 < 0 then (some ((⟨#[]⟩ : ByteArray), 0, 20)) else (if t155 > (IntKind.u64.wrap (a2)) then (some ((⟨#[]⟩ : ByteArray), 0, 20)) else (if t155 > (IntKind.u64.wrap (wrap64 ((l0.length : Int) - t156))) then (some ((⟨#[]⟩ : ByteArray), 0, 20)) else (if 0 ≤ t156 then (if t156 ≤ (wrap64 (t156 + (wrap64 (t155)))) then (if (wrap64 (t156 + (wrap64 (t155)))) ≤ (l0.length : Int) then (some (strOfNums ((l0.take ((wrap64 (t156 + (wrap64 (t155)))) : Int).toNat).drop (t156 : Int).toNat), wrap64 (t156 + (wrap64 (t155))), 0)) else (none)) else (none)) else (none))))) else (some ((⟨#[]⟩ : ByteArray), 0, 20))) = some (r1, r2, r3) := H
  have A4 := Aside0.mk A40
  clear A40
  by_cases c5 : t157 = 0
  · rw [if_pos c5] at H
    have c5b0 : (t157 == 0) = true := beq_iff_eq.mpr c5
    have c5b1 : (t157 != 0) = false := bne_eq_false_iff_eq.mpr c5
    clear c5
    by_cases c6 : a2 < 0
    · rw [if_pos c6] at H
      have c6b0 : decide (a2 < 0) = true := decide_eq_true c6
      clear c6
      simp only [Option.some.injEq, Prod.mk.injEq] at H
      obtain ⟨rfl, rfl, rfl⟩ := H
      go_enter Try.func18, Try.ntmps18
      go_wp2_with (first | ((with_reducible refine gate_callee (f := 15) rfl ?_); refine goesL_ (some 15) rfl rfl Try.func15 (by kernel_rfl) rfl #[.slice A0 l0.length c0, .int .i64 a1] rfl (by (try simp only [List.map_toArray, List.map_cons, List.map_nil]); first | done | rfl | (simp only [List.length_drop, List.length_take]; rfl)) ?_; (with_reducible refine (wire_TakeNumber.calls k _ _ l0 a1 t155 t156 t157 _ ?side1 ?side2 A4.out).mono ?_); (case side1 => repeat (first | exact HR0.out | (with_reducible refine Kd.C_alloc ?_ _) | (with_reducible refine Kd.C_drewN ?_ _) | (with_reducible refine Kd.C_drew ?_))); (case side2 => exact HC0.out); rintro e w7 ⟨rfl, hb⟩; refine ⟨_, rfl, ?_⟩; have n0_ := Aside0.mk (below_step (by repeat (first | (with_reducible first | exact HB.out | apply below_alloc | apply pw_below_drewN | apply below_drew1) | exact HB.out)) hb); clear HB; have HB := n0_; clear n0_; (try clear hb); (try clear hb2); (try clear hk); (try clear hi)))
      go_ret3
      exact ⟨by first | rfl | (simp [errW_none, errW_some] <;> rfl) | (simp [*, errW_none, errW_some] <;> rfl), by repeat (first | (with_reducible first | exact HB.out | apply below_alloc | apply pw_below_drewN | apply below_drew1) | exact HB.out)⟩
    · rw [if_neg c6] at H
      have c6b0 : decide (a2 < 0) = false := decide_eq_false c6
      clear c6
      by_cases c8 : t155 > (IntKind.u64.wrap (a2))
      · rw [if_pos c8] at H
        have c8b0 : decide ((IntKind.u64.wrap (a2)) < t155) = true := decide_eq_true c8
        clear c8
        simp only [Option.some.injEq, Prod.mk.injEq] at H
        obtain ⟨rfl, rfl, rfl⟩ := H
        go_enter Try.func18, Try.ntmps18
        go_wp2_with (first | ((with_reducible refine gate_callee (f := 15) rfl ?_); refine goesL_ (some 15) rfl rfl Try.func15 (by kernel_rfl) rfl #[.slice A0 l0.length c0, .int .i64 a1] rfl (by (try simp only [List.map_toArray, List.map_cons, List.map_nil]); first | done | rfl | (simp only [List.length_drop, List.length_take]; rfl)) ?_; (with_reducible refine (wire_TakeNumber.calls k _ _ l0 a1 t155 t156 t157 _ ?side1 ?side2 A4.out).mono ?_); (case side1 => repeat (first | exact HR0.out | (with_reducible refine Kd.C_alloc ?_ _) | (with_reducible refine Kd.C_drewN ?_ _) | (with_reducible refine Kd.C_drew ?_))); (case side2 => exact HC0.out); rintro e w9 ⟨rfl, hb⟩; refine ⟨_, rfl, ?_⟩; have n0_ := Aside0.mk (below_step (by repeat (first | (with_reducible first | exact HB.out | apply below_alloc | apply pw_below_drewN | apply below_drew1) | exact HB.out)) hb); clear HB; have HB := n0_; clear n0_; (try clear hb); (try clear hb2); (try clear hk); (try clear hi)))
        go_ret3
        exact ⟨by first | rfl | (simp [errW_none, errW_some] <;> rfl) | (simp [*, errW_none, errW_some] <;> rfl), by repeat (first | (with_reducible first | exact HB.out | apply below_alloc | apply pw_below_drewN | apply below_drew1) | exact HB.out)⟩
      · rw [if_neg c8] at H
        have c8b0 : decide ((IntKind.u64.wrap (a2)) < t155) = false := decide_eq_false c8
        clear c8
        by_cases c10 : t155 > (IntKind.u64.wrap (wrap64 ((l0.length : Int) - t156)))
        · rw [if_pos c10] at H
          have c10b0 : decide ((IntKind.u64.wrap (wrap64 ((l0.length : Int) - t156))) < t155) = true := decide_eq_true c10
          clear c10
          simp only [Option.some.injEq, Prod.mk.injEq] at H
          obtain ⟨rfl, rfl, rfl⟩ := H
          go_enter Try.func18, Try.ntmps18
          go_wp2_with (first | ((with_reducible refine gate_callee (f := 15) rfl ?_); refine goesL_ (some 15) rfl rfl Try.func15 (by kernel_rfl) rfl #[.slice A0 l0.length c0, .int .i64 a1] rfl (by (try simp only [List.map_toArray, List.map_cons, List.map_nil]); first | done | rfl | (simp only [List.length_drop, List.length_take]; rfl)) ?_; (with_reducible refine (wire_TakeNumber.calls k _ _ l0 a1 t155 t156 t157 _ ?side1 ?side2 A4.out).mono ?_); (case side1 => repeat (first | exact HR0.out | (with_reducible refine Kd.C_alloc ?_ _) | (with_reducible refine Kd.C_drewN ?_ _) | (with_reducible refine Kd.C_drew ?_))); (case side2 => exact HC0.out); rintro e w11 ⟨rfl, hb⟩; refine ⟨_, rfl, ?_⟩; have n0_ := Aside0.mk (below_step (by repeat (first | (with_reducible first | exact HB.out | apply below_alloc | apply pw_below_drewN | apply below_drew1) | exact HB.out)) hb); clear HB; have HB := n0_; clear n0_; (try clear hb); (try clear hb2); (try clear hk); (try clear hi)))
          go_ret3
          exact ⟨by first | rfl | (simp [errW_none, errW_some] <;> rfl) | (simp [*, errW_none, errW_some] <;> rfl), by repeat (first | (with_reducible first | exact HB.out | apply below_alloc | apply pw_below_drewN | apply below_drew1) | exact HB.out)⟩
        · rw [if_neg c10] at H
          have c10b0 : decide ((IntKind.u64.wrap (wrap64 ((l0.length : Int) - t156))) < t155) = false := decide_eq_false c10
          clear c10
          by_cases c12 : 0 ≤ t156
          · rw [if_pos c12] at H
            have c12b0 := eq_true c12
            have c12b1 : decide (0 ≤ t156) = true := decide_eq_true c12
            clear c12
            by_cases c13 : t156 ≤ (wrap64 (t156 + (wrap64 (t155))))
            · rw [if_pos c13] at H
              have c13b0 := eq_true c13
              have c13b1 : decide (t156 ≤ (wrap64 (t156 + (wrap64 (t155))))) = true := decide_eq_true c13
              by_cases c14 : (wrap64 (t156 + (wrap64 (t155)))) ≤ (l0.length : Int)
              · rw [if_pos c14] at H
                have c14b0 := eq_true c14
                have c14b1 : decide ((wrap64 (t156 + (wrap64 (t155)))) ≤ (l0.length : Int)) = true := decide_eq_true c14
                simp only [Option.some.injEq, Prod.mk.injEq] at H
                obtain ⟨rfl, rfl, rfl⟩ := H
                have HLcv := Aside0.mk (show ((l0.take ((wrap64 (t156 + (wrap64 (t155)))) : Int).toNat).drop (t156 : Int).toNat).length = ((wrap64 (t156 + (wrap64 (t155)))) : Int).toNat - (t156 : Int).toNat from by rw [List.length_drop, List.length_take, Nat.min_eq_left (by omega)])
                go_enter Try.func18, Try.ntmps18
                go_wp2_with (first | ((with_reducible refine gate_callee (f := 15) rfl ?_); refine goesL_ (some 15) rfl rfl Try.func15 (by kernel_rfl) rfl #[.slice A0 l0.length c0, .int .i64 a1] rfl (by (try simp only [List.map_toArray, List.map_cons, List.map_nil]); first | done | rfl | (simp only [List.length_drop, List.length_take]; rfl)) ?_; (with_reducible refine (wire_TakeNumber.calls k _ _ l0 a1 t155 t156 t157 _ ?side1 ?side2 A4.out).mono ?_); (case side1 => repeat (first | exact HR0.out | (with_reducible refine Kd.C_alloc ?_ _) | (with_reducible refine Kd.C_drewN ?_ _) | (with_reducible refine Kd.C_drew ?_))); (case side2 => exact HC0.out); rintro e w15 ⟨rfl, hb⟩; refine ⟨_, rfl, ?_⟩; have n0_ := Aside0.mk (below_step (by repeat (first | (with_reducible first | exact HB.out | apply below_alloc | apply pw_below_drewN | apply below_drew1) | exact HB.out)) hb); clear HB; have HB := n0_; clear n0_; (try clear hb); (try clear hb2); (try clear hk); (try clear hi); obtain ⟨i016, hi016, _, hsz16, _⟩ := info_parts info5; obtain ⟨A16, hcut16, hA16, hC16⟩ := print_mid_of (P := Try.prog) (Value.int .u8) 0 22 5 .i64 .i64 Try.underlying22 hi016 hsz16 A0 c0 l0 t156 (wrap64 (t156 + (wrap64 (t155)))) (of_decide_eq_true (by first | (with_reducible assumption) | assumption)) (by first | omega | exact of_decide_eq_true (by first | (with_reducible assumption) | assumption)) (of_decide_eq_true (by first | (with_reducible assumption) | assumption)) HC0.out; have HR158 := Aside0.mk (Kd.C_of_reads (h1 := fun _ => rfl) (hA16 _ (Kd.reads_of_C HR0.out))); have HC158 := Aside0.mk hC16; clear hA16 hC16 hi016 hsz16; have hcv17 := Kd.C_string (P := Try.prog) (A := A16) (c := (c0 - t156.toNat)) Try.underlying22 Try.underlying5 Try.underlying9 (Kd.C_below HR158.out HB.out); rw [HLcv.out] at hcv17))
                go_ret3
                exact ⟨by first | rfl | (simp [errW_none, errW_some] <;> rfl) | (simp [*, errW_none, errW_some] <;> rfl), by repeat (first | (with_reducible first | exact HB.out | apply below_alloc | apply pw_below_drewN | apply below_drew1) | exact HB.out)⟩
              · rw [if_neg c14] at H
                exact absurd H (by simp)
            · rw [if_neg c13] at H
              exact absurd H (by simp)
          · rw [if_neg c12] at H
            exact absurd H (by simp)
  · rw [if_neg c5] at H
    have c5b0 : (t157 == 0) = false := beq_eq_false_iff_ne.mpr c5
    have c5b1 : (t157 != 0) = true := bne_iff_ne.mpr c5
    simp only [Option.some.injEq, Prod.mk.injEq] at H
    obtain ⟨rfl, rfl, rfl⟩ := H
    go_enter Try.func18, Try.ntmps18
    go_wp2_with (first | ((with_reducible refine gate_callee (f := 15) rfl ?_); refine goesL_ (some 15) rfl rfl Try.func15 (by kernel_rfl) rfl #[.slice A0 l0.length c0, .int .i64 a1] rfl (by (try simp only [List.map_toArray, List.map_cons, List.map_nil]); first | done | rfl | (simp only [List.length_drop, List.length_take]; rfl)) ?_; (with_reducible refine (wire_TakeNumber.calls k _ _ l0 a1 t155 t156 t157 _ ?side1 ?side2 A4.out).mono ?_); (case side1 => repeat (first | exact HR0.out | (with_reducible refine Kd.C_alloc ?_ _) | (with_reducible refine Kd.C_drewN ?_ _) | (with_reducible refine Kd.C_drew ?_))); (case side2 => exact HC0.out); rintro e w18 ⟨rfl, hb⟩; refine ⟨_, rfl, ?_⟩; have n0_ := Aside0.mk (below_step (by repeat (first | (with_reducible first | exact HB.out | apply below_alloc | apply pw_below_drewN | apply below_drew1) | exact HB.out)) hb); clear HB; have HB := n0_; clear n0_; (try clear hb); (try clear hb2); (try clear hk); (try clear hi)))
    go_ret3
    exact ⟨by first | rfl | (simp [errW_none, errW_some] <;> rfl) | (simp [*, errW_none, errW_some] <;> rfl), by repeat (first | (with_reducible first | exact HB.out | apply below_alloc | apply pw_below_drewN | apply below_drew1) | exact HB.out)⟩

end Go.Proofs.Ytecfoepcgammcaa.X
