-- Written by a program of this session (xprint.py) out of the translation; Lean checks it.
import Derived.Test.YtecfoepcgammcaaX0
import Derived.Test.YtecfoepcgammcaaX16
namespace Go.Proofs.Ytecfoepcgammcaa.X
open Go.RowKit Go.Proofs.YtecfoepcgammcaaW.PrintWords Go.Proofs.YtecfoepcgammcaaW.PrintLast Go.Proofs.YtecfoepcgammcaaW.PrintMore Go.Proofs.Ytecfoepcgammcaa.HandF
attribute [local go_sem] max2_int min2_int max_two min_two max_three min_three max_four min_four   -- for this text's walks alone
set_option linter.unusedVariables false
set_option linter.unusedSimpArgs false

/-! ### pannierref02_TakeText: function 19 -/
def pannierref02_TakeText.f (k : Nat) (l0 : List Int) (a1 : Int) (a2 : Int) : Option (ByteArray × Int × Int) := (pannierref02_TakeNumber.f k l0 a1).bind fun bt159 => (if bt159.2.2 = 0 then (if a2 < 0 then (some ((⟨#[]⟩ : ByteArray), 0, 20)) else (if bt159.1 > (IntKind.u64.wrap (a2)) then (some ((⟨#[]⟩ : ByteArray), 0, 20)) else (if bt159.1 > (IntKind.u64.wrap (wrap64 ((l0.length : Int) - bt159.2.1))) then (some ((⟨#[]⟩ : ByteArray), 0, 20)) else (if 0 ≤ bt159.2.1 then (if bt159.2.1 ≤ (wrap64 (bt159.2.1 + (wrap64 (bt159.1)))) then (if (wrap64 (bt159.2.1 + (wrap64 (bt159.1)))) ≤ (l0.length : Int) then (some (strOfNums ((l0.take ((wrap64 (bt159.2.1 + (wrap64 (bt159.1)))) : Int).toNat).drop (bt159.2.1 : Int).toNat), wrap64 (bt159.2.1 + (wrap64 (bt159.1))), 0)) else (none)) else (none)) else (none))))) else (some ((⟨#[]⟩ : ByteArray), 0, 20)))
theorem pannierref02_TakeText.mono : ∀ a0 a1 a2 k, LeO (pannierref02_TakeText.f k a0 a1 a2) (pannierref02_TakeText.f (k + 1) a0 a1 a2) := by
  intro a0 a1 a2 k
  unfold pannierref02_TakeText.f
  repeat' first
      | (with_reducible exact pannierref02_TakeNumber.mono _ _ _)
      | (with_reducible exact LeO.refl _)
      | (with_reducible exact LeO.none _)
      | (with_reducible refine LeO.ite ?_ ?_)
      | (with_reducible refine LeO.bind ?_ (fun _ => ?_))
      | exact pannierref02_TakeNumber.mono _ _ _
      | exact LeO.none _
      | refine LeO.ite ?_ ?_
      | refine LeO.bind ?_ (fun _ => ?_)
set_option maxHeartbeats 8000000 in
set_option maxRecDepth 100000 in
theorem pannierref02_TakeText.calls (k : Nat) (A0 : Option Addr) (c0 : Nat) (l0 : List Int) (a1 : Int) (a2 : Int) (r1 : ByteArray) (r2 : Int) (r3 : Int) (w : World) (hr0 : Kd.C (Kd.int .u8) w A0 l0.length l0) (hc0 : l0.length ≤ c0) (h : pannierref02_TakeText.f k l0 a1 a2 = some (r1, r2, r3)) :
    Calls Try.prog 19 #[.slice A0 l0.length c0, .int .i64 a1, .int .i64 a2] w fun e w' => e = .returned (.tuple #[.string r1, .int .i64 r2, .int .i64 r3]) ∧ Drawn0 w w' := by
  have HR0 := Aside0.mk hr0
  have HC0 := Aside0.mk hc0
  clear hr0 hc0
  have H : ((pannierref02_TakeNumber.f k l0 a1).bind fun bt159 => (if bt159.2.2 = 0 then (if a2 < 0 then (some ((⟨#[]⟩ : ByteArray), 0, 20)) else (if bt159.1 > (IntKind.u64.wrap (a2)) then (some ((⟨#[]⟩ : ByteArray), 0, 20)) else (if bt159.1 > (IntKind.u64.wrap (wrap64 ((l0.length : Int) - bt159.2.1))) then (some ((⟨#[]⟩ : ByteArray), 0, 20)) else (if 0 ≤ bt159.2.1 then (if bt159.2.1 ≤ (wrap64 (bt159.2.1 + (wrap64 (bt159.1)))) then (if (wrap64 (bt159.2.1 + (wrap64 (bt159.1)))) ≤ (l0.length : Int) then (some (strOfNums ((l0.take ((wrap64 (bt159.2.1 + (wrap64 (bt159.1)))) : Int).toNat).drop (bt159.2.1 : Int).toNat), wrap64 (bt159.2.1 + (wrap64 (bt159.1))), 0)) else (none)) else (none)) else (none))))) else (some ((⟨#[]⟩ : ByteArray), 0, 20)))) = some (r1, r2, r3) := h
  clear h
  replace H := Option.bind_eq_some_iff.mp H
  obtain ⟨⟨t159, t160, t161⟩, A40, H⟩ := H
  replace H : (if t161 = 0 then (if a2 < 0 then (some ((⟨#[]⟩ : ByteArray), 0, 20)) else (if t159 > (IntKind.u64.wrap (a2)) then (some ((⟨#[]⟩ : ByteArray), 0, 20)) else (if t159 > (IntKind.u64.wrap (wrap64 ((l0.length : Int) - t160))) then (some ((⟨#[]⟩ : ByteArray), 0, 20)) else (if 0 ≤ t160 then (if t160 ≤ (wrap64 (t160 + (wrap64 (t159)))) then (if (wrap64 (t160 + (wrap64 (t159)))) ≤ (l0.length : Int) then (some (strOfNums ((l0.take ((wrap64 (t160 + (wrap64 (t159)))) : Int).toNat).drop (t160 : Int).toNat), wrap64 (t160 + (wrap64 (t159))), 0)) else (none)) else (none)) else (none))))) else (some ((⟨#[]⟩ : ByteArray), 0, 20))) = some (r1, r2, r3) := H
  have A4 := Aside0.mk A40
  clear A40
  by_cases c5 : t161 = 0
  · rw [if_pos c5] at H
    have c5b0 : (t161 == 0) = true := beq_iff_eq.mpr c5
    have c5b1 : (t161 != 0) = false := bne_eq_false_iff_eq.mpr c5
    clear c5
    by_cases c6 : a2 < 0
    · rw [if_pos c6] at H
      have c6b0 : decide (a2 < 0) = true := decide_eq_true c6
      clear c6
      simp only [Option.some.injEq, Prod.mk.injEq] at H
      obtain ⟨rfl, rfl, rfl⟩ := H
      go_enter Try.func19, Try.ntmps19
      go_wp2_with (first | ((with_reducible refine gate_callee (f := 16) rfl ?_); refine goesL_ (some 15) rfl rfl Try.func16 (by kernel_rfl) rfl #[.slice A0 l0.length c0, .int .i64 a1] rfl (by (try simp only [List.map_toArray, List.map_cons, List.map_nil]); first | done | rfl | (simp only [List.length_drop, List.length_take]; rfl)) ?_; (with_reducible refine (pannierref02_TakeNumber.calls k _ _ l0 a1 t159 t160 t161 _ ?side1 ?side2 A4.out).mono ?_); (case side1 => repeat (first | exact HR0.out | (with_reducible refine Kd.C_alloc ?_ _) | (with_reducible refine Kd.C_drewN ?_ _) | (with_reducible refine Kd.C_drew ?_))); (case side2 => exact HC0.out); rintro e w' ⟨rfl, ⟨nd, rfl⟩⟩; refine ⟨_, rfl, ?_⟩))
      go_ret3
      exact ⟨by first | rfl | (simp; done) | (simp [*]; done), by repeat (first | exact Drawn0.refl _ | apply Drawn0.step)⟩
    · rw [if_neg c6] at H
      have c6b0 : decide (a2 < 0) = false := decide_eq_false c6
      clear c6
      by_cases c7 : t159 > (IntKind.u64.wrap (a2))
      · rw [if_pos c7] at H
        have c7b0 : decide ((IntKind.u64.wrap (a2)) < t159) = true := decide_eq_true c7
        clear c7
        simp only [Option.some.injEq, Prod.mk.injEq] at H
        obtain ⟨rfl, rfl, rfl⟩ := H
        go_enter Try.func19, Try.ntmps19
        go_wp2_with (first | ((with_reducible refine gate_callee (f := 16) rfl ?_); refine goesL_ (some 15) rfl rfl Try.func16 (by kernel_rfl) rfl #[.slice A0 l0.length c0, .int .i64 a1] rfl (by (try simp only [List.map_toArray, List.map_cons, List.map_nil]); first | done | rfl | (simp only [List.length_drop, List.length_take]; rfl)) ?_; (with_reducible refine (pannierref02_TakeNumber.calls k _ _ l0 a1 t159 t160 t161 _ ?side1 ?side2 A4.out).mono ?_); (case side1 => repeat (first | exact HR0.out | (with_reducible refine Kd.C_alloc ?_ _) | (with_reducible refine Kd.C_drewN ?_ _) | (with_reducible refine Kd.C_drew ?_))); (case side2 => exact HC0.out); rintro e w' ⟨rfl, ⟨nd, rfl⟩⟩; refine ⟨_, rfl, ?_⟩))
        go_ret3
        exact ⟨by first | rfl | (simp; done) | (simp [*]; done), by repeat (first | exact Drawn0.refl _ | apply Drawn0.step)⟩
      · rw [if_neg c7] at H
        have c7b0 : decide ((IntKind.u64.wrap (a2)) < t159) = false := decide_eq_false c7
        clear c7
        by_cases c8 : t159 > (IntKind.u64.wrap (wrap64 ((l0.length : Int) - t160)))
        · rw [if_pos c8] at H
          have c8b0 : decide ((IntKind.u64.wrap (wrap64 ((l0.length : Int) - t160))) < t159) = true := decide_eq_true c8
          clear c8
          simp only [Option.some.injEq, Prod.mk.injEq] at H
          obtain ⟨rfl, rfl, rfl⟩ := H
          go_enter Try.func19, Try.ntmps19
          go_wp2_with (first | ((with_reducible refine gate_callee (f := 16) rfl ?_); refine goesL_ (some 15) rfl rfl Try.func16 (by kernel_rfl) rfl #[.slice A0 l0.length c0, .int .i64 a1] rfl (by (try simp only [List.map_toArray, List.map_cons, List.map_nil]); first | done | rfl | (simp only [List.length_drop, List.length_take]; rfl)) ?_; (with_reducible refine (pannierref02_TakeNumber.calls k _ _ l0 a1 t159 t160 t161 _ ?side1 ?side2 A4.out).mono ?_); (case side1 => repeat (first | exact HR0.out | (with_reducible refine Kd.C_alloc ?_ _) | (with_reducible refine Kd.C_drewN ?_ _) | (with_reducible refine Kd.C_drew ?_))); (case side2 => exact HC0.out); rintro e w' ⟨rfl, ⟨nd, rfl⟩⟩; refine ⟨_, rfl, ?_⟩))
          go_ret3
          exact ⟨by first | rfl | (simp; done) | (simp [*]; done), by repeat (first | exact Drawn0.refl _ | apply Drawn0.step)⟩
        · rw [if_neg c8] at H
          have c8b0 : decide ((IntKind.u64.wrap (wrap64 ((l0.length : Int) - t160))) < t159) = false := decide_eq_false c8
          clear c8
          by_cases c9 : 0 ≤ t160
          · rw [if_pos c9] at H
            have c9b0 := eq_true c9
            have c9b1 : decide (0 ≤ t160) = true := decide_eq_true c9
            clear c9
            by_cases c10 : t160 ≤ (wrap64 (t160 + (wrap64 (t159))))
            · rw [if_pos c10] at H
              have c10b0 := eq_true c10
              have c10b1 : decide (t160 ≤ (wrap64 (t160 + (wrap64 (t159))))) = true := decide_eq_true c10
              by_cases c11 : (wrap64 (t160 + (wrap64 (t159)))) ≤ (l0.length : Int)
              · rw [if_pos c11] at H
                have c11b0 := eq_true c11
                have c11b1 : decide ((wrap64 (t160 + (wrap64 (t159)))) ≤ (l0.length : Int)) = true := decide_eq_true c11
                simp only [Option.some.injEq, Prod.mk.injEq] at H
                obtain ⟨rfl, rfl, rfl⟩ := H
                have HLcv := Aside0.mk (show ((l0.take ((wrap64 (t160 + (wrap64 (t159)))) : Int).toNat).drop (t160 : Int).toNat).length = ((wrap64 (t160 + (wrap64 (t159)))) : Int).toNat - (t160 : Int).toNat from by rw [List.length_drop, List.length_take, Nat.min_eq_left (by omega)])
                go_enter Try.func19, Try.ntmps19
                go_wp2_with (first | ((with_reducible refine gate_callee (f := 16) rfl ?_); refine goesL_ (some 15) rfl rfl Try.func16 (by kernel_rfl) rfl #[.slice A0 l0.length c0, .int .i64 a1] rfl (by (try simp only [List.map_toArray, List.map_cons, List.map_nil]); first | done | rfl | (simp only [List.length_drop, List.length_take]; rfl)) ?_; (with_reducible refine (pannierref02_TakeNumber.calls k _ _ l0 a1 t159 t160 t161 _ ?side1 ?side2 A4.out).mono ?_); (case side1 => repeat (first | exact HR0.out | (with_reducible refine Kd.C_alloc ?_ _) | (with_reducible refine Kd.C_drewN ?_ _) | (with_reducible refine Kd.C_drew ?_))); (case side2 => exact HC0.out); rintro e w' ⟨rfl, ⟨nd, rfl⟩⟩; refine ⟨_, rfl, ?_⟩; obtain ⟨i012, hi012, _, hsz12, _⟩ := info_parts info5; obtain ⟨A12, hcut12, hA12, hC12⟩ := print_mid_of (P := Try.prog) (Value.int .u8) 0 22 5 .i64 .i64 Try.underlying22 hi012 hsz12 A0 c0 l0 t160 (wrap64 (t160 + (wrap64 (t159)))) (of_decide_eq_true (by first | (with_reducible assumption) | assumption)) (by first | omega | exact of_decide_eq_true (by first | (with_reducible assumption) | assumption)) (of_decide_eq_true (by first | (with_reducible assumption) | assumption)) HC0.out; have HR162 := Aside0.mk (Kd.C_of_reads (h1 := fun _ => rfl) (hA12 _ (Kd.reads_of_C HR0.out))); have HC162 := Aside0.mk hC12; clear hA12 hC12 hi012 hsz12; have hcv13 := (fun (n_ : Nat) => Kd.C_string (P := Try.prog) (A := A12) (c := (c0 - t160.toNat)) Try.underlying22 Try.underlying5 Try.underlying9 (Kd.C_drewN HR162.out n_)); simp only [HLcv.out] at hcv13))
                go_ret3
                exact ⟨by first | rfl | (simp; done) | (simp [*]; done), by repeat (first | exact Drawn0.refl _ | apply Drawn0.step)⟩
              · rw [if_neg c11] at H
                exact absurd H (by simp)
            · rw [if_neg c10] at H
              exact absurd H (by simp)
          · rw [if_neg c9] at H
            exact absurd H (by simp)
  · rw [if_neg c5] at H
    have c5b0 : (t161 == 0) = false := beq_eq_false_iff_ne.mpr c5
    have c5b1 : (t161 != 0) = true := bne_iff_ne.mpr c5
    simp only [Option.some.injEq, Prod.mk.injEq] at H
    obtain ⟨rfl, rfl, rfl⟩ := H
    go_enter Try.func19, Try.ntmps19
    go_wp2_with (first | ((with_reducible refine gate_callee (f := 16) rfl ?_); refine goesL_ (some 15) rfl rfl Try.func16 (by kernel_rfl) rfl #[.slice A0 l0.length c0, .int .i64 a1] rfl (by (try simp only [List.map_toArray, List.map_cons, List.map_nil]); first | done | rfl | (simp only [List.length_drop, List.length_take]; rfl)) ?_; (with_reducible refine (pannierref02_TakeNumber.calls k _ _ l0 a1 t159 t160 t161 _ ?side1 ?side2 A4.out).mono ?_); (case side1 => repeat (first | exact HR0.out | (with_reducible refine Kd.C_alloc ?_ _) | (with_reducible refine Kd.C_drewN ?_ _) | (with_reducible refine Kd.C_drew ?_))); (case side2 => exact HC0.out); rintro e w' ⟨rfl, ⟨nd, rfl⟩⟩; refine ⟨_, rfl, ?_⟩))
    go_ret3
    exact ⟨by first | rfl | (simp; done) | (simp [*]; done), by repeat (first | exact Drawn0.refl _ | apply Drawn0.step)⟩

end Go.Proofs.Ytecfoepcgammcaa.X
