/- The law IdTexts: both readers of a text, both Show, and the walk of the law. -/
import Derived.Test.YtlhaofbncoijfaaX0
import Derived.Test.YtlhaofbncoijfaaX14
import Derived.Test.YtlhaofbncoijfaaX49
import Derived.Test.YtlhaofbncoijfaaKids
import Derived.Test.YtlhaofbncoijfaaBlocks
import Derived.LoopN
import Derived.Lib.Hide
import Derived.Lib.IndexBytes
import Derived.Test.YtlhaofbncoijfaaHandH
import Derived.Deep.RegionHeld3
import Derived.Deep.RegionWith
import Derived.Test.YtlhaofbncoijfaaX62
import Derived.Test.YtlhaofbncoijfaaRefBase
namespace Go.Proofs.Ytlhaofbncoijfaa.X
open Go.RowKit Go.Proofs.YtlhaofbncoijfaaW.PrintWords Go.Proofs.YtlhaofbncoijfaaW.PrintLast Go.Proofs.YtlhaofbncoijfaaW.PrintMore Go.Proofs.Ytlhaofbncoijfaa.HandF
attribute [local go_sem] max2_int min2_int max_two min_two max_three min_three max_four min_four   -- for this text's walks alone
set_option linter.unusedVariables false
set_option linter.unusedSimpArgs false

/-! ### stringslite_HasPrefix: function 86 -/
def stringslite_HasPrefix.f (a0 : ByteArray) (a1 : ByteArray) : Option (Bool) := if (a0.size : Int) ≥ (a1.size : Int) then (if 0 ≤ (a1.size : Int) then (if (a1.size : Int) ≤ (a0.size : Int) then (some ((a0.extract 0 ((a1.size : Int) : Int).toNat).toList == a1.toList)) else (none)) else (none)) else (some false)
set_option maxHeartbeats 8000000 in
set_option maxRecDepth 100000 in
theorem stringslite_HasPrefix.calls (a0 : ByteArray) (a1 : ByteArray) (r : Bool) (w : World) (h : stringslite_HasPrefix.f a0 a1 = some r) :
    Calls Try.prog 86 #[.string a0, .string a1] w fun e w' => e = .returned (.bool r) ∧ Drawn0 w w' := by
  have H : (if (a0.size : Int) ≥ (a1.size : Int) then (if 0 ≤ (a1.size : Int) then (if (a1.size : Int) ≤ (a0.size : Int) then (some ((a0.extract 0 ((a1.size : Int) : Int).toNat).toList == a1.toList)) else (none)) else (none)) else (some false)) = some r := h
  clear h
  by_cases c3 : (a0.size : Int) ≥ (a1.size : Int)
  · rw [if_pos c3] at H
    have c3b0 : decide ((a1.size : Int) ≤ (a0.size : Int)) = true := decide_eq_true c3
    have c3b1 : decide (a1.size ≤ a0.size) = true := decide_eq_true (Int.ofNat_le.mp c3)
    clear c3
    by_cases c4 : 0 ≤ (a1.size : Int)
    · rw [if_pos c4] at H
      have c4b0 := eq_true c4
      have c4b1 : decide (0 ≤ (a1.size : Int)) = true := decide_eq_true c4
      clear c4
      by_cases c5 : (a1.size : Int) ≤ (a0.size : Int)
      · rw [if_pos c5] at H
        have c5b0 := eq_true c5
        have c5b1 : decide ((a1.size : Int) ≤ (a0.size : Int)) = true := decide_eq_true c5
        clear c5
        obtain rfl := Option.some.inj H
        go_enter Try.func86, Try.ntmps86
        go_wp2
        go_ret
        exact ⟨by first | rfl | (simp; done) | (simp [*]; done), by repeat (first | exact Drawn0.refl _ | apply Drawn0.step)⟩
      · rw [if_neg c5] at H
        exact absurd H (by simp)
    · rw [if_neg c4] at H
      exact absurd H (by simp)
  · rw [if_neg c3] at H
    have c3b0 : decide ((a1.size : Int) ≤ (a0.size : Int)) = false := decide_eq_false c3
    have c3b1 : decide (a1.size ≤ a0.size) = false := decide_eq_false (fun h => c3 (Int.ofNat_le.mpr h))
    clear c3
    obtain rfl := Option.some.inj H
    go_enter Try.func86, Try.ntmps86
    go_wp2
    go_ret
    exact ⟨by first | rfl | (simp; done) | (simp [*]; done), by repeat (first | exact Drawn0.refl _ | apply Drawn0.step)⟩

end Go.Proofs.Ytlhaofbncoijfaa.X
namespace Go.Proofs.Ytlhaofbncoijfaa.X
open Go.RowKit Go.Proofs.YtlhaofbncoijfaaW.PrintWords Go.Proofs.YtlhaofbncoijfaaW.PrintLast Go.Proofs.YtlhaofbncoijfaaW.PrintMore Go.Proofs.Ytlhaofbncoijfaa.HandF
attribute [local go_sem] max2_int min2_int max_two min_two max_three min_three max_four min_four   -- for this text's walks alone
set_option linter.unusedVariables false
set_option linter.unusedSimpArgs false

/-! ### stringslite_CutPrefix: function 84 -/
def stringslite_CutPrefix.f (a0 : ByteArray) (a1 : ByteArray) : Option (ByteArray × Bool) := (stringslite_HasPrefix.f a0 a1).bind fun t251 => (if t251 = true then (if 0 ≤ (a1.size : Int) then (if (a1.size : Int) ≤ (a0.size : Int) then (some (a0.extract ((a1.size : Int) : Int).toNat a0.size, true)) else (none)) else (none)) else (some (a0, false)))
set_option maxHeartbeats 8000000 in
set_option maxRecDepth 100000 in
theorem stringslite_CutPrefix.calls (a0 : ByteArray) (a1 : ByteArray) (r1 : ByteArray) (r2 : Bool) (w : World) (h : stringslite_CutPrefix.f a0 a1 = some (r1, r2)) :
    Calls Try.prog 84 #[.string a0, .string a1] w fun e w' => e = .returned (.tuple #[.string r1, .bool r2]) ∧ Drawn0 w w' := by
  have H : ((stringslite_HasPrefix.f a0 a1).bind fun t251 => (if t251 = true then (if 0 ≤ (a1.size : Int) then (if (a1.size : Int) ≤ (a0.size : Int) then (some (a0.extract ((a1.size : Int) : Int).toNat a0.size, true)) else (none)) else (none)) else (some (a0, false)))) = some (r1, r2) := h
  clear h
  replace H := Option.bind_eq_some_iff.mp H
  obtain ⟨t251, A30, H⟩ := H
  replace H : (if t251 = true then (if 0 ≤ (a1.size : Int) then (if (a1.size : Int) ≤ (a0.size : Int) then (some (a0.extract ((a1.size : Int) : Int).toNat a0.size, true)) else (none)) else (none)) else (some (a0, false))) = some (r1, r2) := H
  have A3 := Aside0.mk A30
  clear A30
  by_cases c4 : t251 = true
  · subst c4
    have H1 : (if 0 ≤ (a1.size : Int) then (if (a1.size : Int) ≤ (a0.size : Int) then (some (a0.extract ((a1.size : Int) : Int).toNat a0.size, true)) else (none)) else (none)) = some (r1, r2) := by rw [if_pos rfl] at H; exact H
    clear H
    have H := H1
    clear H1
    by_cases c5 : 0 ≤ (a1.size : Int)
    · rw [if_pos c5] at H
      have c5b0 := eq_true c5
      have c5b1 : decide (0 ≤ (a1.size : Int)) = true := decide_eq_true c5
      clear c5
      by_cases c6 : (a1.size : Int) ≤ (a0.size : Int)
      · rw [if_pos c6] at H
        have c6b0 := eq_true c6
        have c6b1 : decide ((a1.size : Int) ≤ (a0.size : Int)) = true := decide_eq_true c6
        clear c6
        simp only [Option.some.injEq, Prod.mk.injEq] at H
        obtain ⟨rfl, rfl⟩ := H
        go_enter Try.func84, Try.ntmps84
        go_wp2_with (first | ((with_reducible refine gate_callee (f := 86) rfl ?_); refine goesL_ (some 8) rfl rfl Try.func86 (by kernel_rfl) rfl #[.string a0, .string a1] rfl (by (try simp only [List.map_toArray, List.map_cons, List.map_nil]); first | done | rfl | (simp only [List.length_drop, List.length_take]; rfl)) ?_; (with_reducible refine (stringslite_HasPrefix.calls a0 a1 true _ A3.out).mono ?_); rintro e w' ⟨rfl, ⟨nd, rfl⟩⟩; refine ⟨_, rfl, ?_⟩))
        go_ret2
        exact ⟨by first | rfl | (simp; done) | (simp [*]; done), by repeat (first | exact Drawn0.refl _ | apply Drawn0.step)⟩
      · rw [if_neg c6] at H
        exact absurd H (by simp)
    · rw [if_neg c5] at H
      exact absurd H (by simp)
  · replace c4 := Bool.eq_false_iff.mpr c4
    subst c4
    have H1 : (some (a0, false)) = some (r1, r2) := by rw [if_neg (show ¬ (false = true) by decide)] at H; exact H
    clear H
    have H := H1
    clear H1
    simp only [Option.some.injEq, Prod.mk.injEq] at H
    obtain ⟨rfl, rfl⟩ := H
    go_enter Try.func84, Try.ntmps84
    go_wp2_with (first | ((with_reducible refine gate_callee (f := 86) rfl ?_); refine goesL_ (some 8) rfl rfl Try.func86 (by kernel_rfl) rfl #[.string a0, .string a1] rfl (by (try simp only [List.map_toArray, List.map_cons, List.map_nil]); first | done | rfl | (simp only [List.length_drop, List.length_take]; rfl)) ?_; (with_reducible refine (stringslite_HasPrefix.calls a0 a1 false _ A3.out).mono ?_); rintro e w' ⟨rfl, ⟨nd, rfl⟩⟩; refine ⟨_, rfl, ?_⟩))
    go_ret2
    exact ⟨by first | rfl | (simp; done) | (simp [*]; done), by repeat (first | exact Drawn0.refl _ | apply Drawn0.step)⟩

end Go.Proofs.Ytlhaofbncoijfaa.X
namespace Go.Proofs.Ytlhaofbncoijfaa.X
open Go.RowKit Go.Proofs.YtlhaofbncoijfaaW.PrintWords Go.Proofs.YtlhaofbncoijfaaW.PrintLast Go.Proofs.YtlhaofbncoijfaaW.PrintMore Go.Proofs.Ytlhaofbncoijfaa.HandF
attribute [local go_sem] max2_int min2_int max_two min_two max_three min_three max_four min_four   -- for this text's walks alone
set_option linter.unusedVariables false
set_option linter.unusedSimpArgs false

/-! ### strings_CutPrefix: function 78 -/
def strings_CutPrefix.f (a0 : ByteArray) (a1 : ByteArray) : Option (ByteArray × Bool) := (stringslite_CutPrefix.f a0 a1).bind fun bt252 => (some (bt252.1, bt252.2))
set_option maxHeartbeats 8000000 in
set_option maxRecDepth 100000 in
theorem strings_CutPrefix.calls (a0 : ByteArray) (a1 : ByteArray) (r1 : ByteArray) (r2 : Bool) (w : World) (h : strings_CutPrefix.f a0 a1 = some (r1, r2)) :
    Calls Try.prog 78 #[.string a0, .string a1] w fun e w' => e = .returned (.tuple #[.string r1, .bool r2]) ∧ Drawn0 w w' := by
  have H : ((stringslite_CutPrefix.f a0 a1).bind fun bt252 => (some (bt252.1, bt252.2))) = some (r1, r2) := h
  clear h
  replace H := Option.bind_eq_some_iff.mp H
  obtain ⟨⟨t252, t253⟩, A30, H⟩ := H
  replace H : (some (t252, t253)) = some (r1, r2) := H
  have A3 := Aside0.mk A30
  clear A30
  simp only [Option.some.injEq, Prod.mk.injEq] at H
  obtain ⟨rfl, rfl⟩ := H
  go_enter Try.func78, Try.ntmps78
  go_wp2_with (first | ((with_reducible refine gate_callee (f := 84) rfl ?_); refine goesL_ (some 8) rfl rfl Try.func84 (by kernel_rfl) rfl #[.string a0, .string a1] rfl (by (try simp only [List.map_toArray, List.map_cons, List.map_nil]); first | done | rfl | (simp only [List.length_drop, List.length_take]; rfl)) ?_; (with_reducible refine (stringslite_CutPrefix.calls a0 a1 t252 t253 _ A3.out).mono ?_); rintro e w' ⟨rfl, ⟨nd, rfl⟩⟩; refine ⟨_, rfl, ?_⟩))
  go_ret2
  exact ⟨by first | rfl | (simp; done) | (simp [*]; done), by repeat (first | exact Drawn0.refl _ | apply Drawn0.step)⟩

end Go.Proofs.Ytlhaofbncoijfaa.X
namespace Go.Proofs.Ytlhaofbncoijfaa.X
open Go.RowKit Go.Proofs.YtlhaofbncoijfaaW.PrintWords Go.Proofs.YtlhaofbncoijfaaW.PrintLast Go.Proofs.YtlhaofbncoijfaaW.PrintMore Go.Proofs.Ytlhaofbncoijfaa.HandF
attribute [local go_sem] max2_int min2_int max_two min_two max_three min_three max_four min_four   -- for this text's walks alone
set_option linter.unusedVariables false
set_option linter.unusedSimpArgs false

/-! ### pannierref04_Show: function 29 -/
def pannierref04_Show.f (k : Nat) (a0_0 : Bool) (l0_1 : List (S24)) : Option (ByteArray × Int) := (pannierref04_Norm.f k a0_0 l0_1).bind fun bt244 => (if bt244.2.2 = 0 then ((pannierref04_text.f k bt244.1 bt244.2.1).bind fun t250 => (some (t250, 0))) else (some ((⟨#[]⟩ : ByteArray), bt244.2.2)))
theorem pannierref04_Show.mono : ∀ a0 a1 k, LeO (pannierref04_Show.f k a0 a1) (pannierref04_Show.f (k + 1) a0 a1) := by
  intro a0 a1 k
  unfold pannierref04_Show.f
  repeat' first
      | (with_reducible exact pannierref04_Norm.mono _ _ _)
      | (with_reducible exact pannierref04_text.mono _ _ _)
      | (with_reducible exact LeO.refl _)
      | (with_reducible exact LeO.none _)
      | (with_reducible refine LeO.ite ?_ ?_)
      | (with_reducible refine LeO.bind ?_ (fun _ => ?_))
      | exact pannierref04_Norm.mono _ _ _
      | exact pannierref04_text.mono _ _ _
      | exact LeO.none _
      | refine LeO.ite ?_ ?_
      | refine LeO.bind ?_ (fun _ => ?_)
set_option maxHeartbeats 8000000 in
set_option maxRecDepth 100000 in
theorem pannierref04_Show.calls (k : Nat) (a0_0 : Bool) (A0_1 : Option Addr) (c0_1 : Nat) (l0_1 : List (S24)) (r1 : ByteArray) (r2 : Int) (w : World) (hr0_1 : Kd.C k24 w A0_1 l0_1.length l0_1) (hc0_1 : l0_1.length ≤ c0_1) (h : pannierref04_Show.f k a0_0 l0_1 = some (r1, r2)) :
    Calls Try.prog 29 #[.agg #[.bool a0_0, .slice A0_1 l0_1.length c0_1]] w fun e w' => e = .returned (.tuple #[.string r1, .int .i64 r2]) ∧ Below w.heap.size w w' := by
  have hu24 := Try.underlying24
  have HR0_1 := Aside0.mk hr0_1
  have HC0_1 := Aside0.mk hc0_1
  clear hr0_1 hc0_1
  have HB := Aside0.mk (Below.refl w.heap.size w)
  have H : ((pannierref04_Norm.f k a0_0 l0_1).bind fun bt244 => (if bt244.2.2 = 0 then ((pannierref04_text.f k bt244.1 bt244.2.1).bind fun t250 => (some (t250, 0))) else (some ((⟨#[]⟩ : ByteArray), bt244.2.2)))) = some (r1, r2) := h
  clear h
  replace H := Option.bind_eq_some_iff.mp H
  obtain ⟨⟨t244, t245, t248⟩, A20, H⟩ := H
  replace H : (if t248 = 0 then ((pannierref04_text.f k t244 t245).bind fun t250 => (some (t250, 0))) else (some ((⟨#[]⟩ : ByteArray), t248))) = some (r1, r2) := H
  have A2 := Aside0.mk A20
  clear A20
  by_cases c3 : t248 = 0
  · rw [if_pos c3] at H
    have c3b0 : (t248 == 0) = true := beq_iff_eq.mpr c3
    have c3b1 : (t248 != 0) = false := bne_eq_false_iff_eq.mpr c3
    clear c3
    replace H := Option.bind_eq_some_iff.mp H
    obtain ⟨t250, A40, H⟩ := H
    replace H : (some (t250, 0)) = some (r1, r2) := H
    have A4 := Aside0.mk A40
    clear A40
    simp only [Option.some.injEq, Prod.mk.injEq] at H
    obtain ⟨rfl, rfl⟩ := H
    go_enter Try.func29, Try.ntmps29
    go_wp2_with (first | ((with_reducible refine gate_dst (N := 1) rfl ?_); refine box_event ?hg (N := 1) ?hd (cs := #[.bool a0_0, .slice A0_1 l0_1.length c0_1]) (t := 24) ?hr ?_; (case hd => rfl); (case hg => rfl); (case hr => first | (go_simp; done) | (go_simp; rfl)); intro gb243 hg w5 hbox hb; have n0_ := Aside0.mk (below_step (by repeat (first | (with_reducible first | exact HB.out | apply below_alloc | apply pw_below_drewN | apply below_drew1) | exact HB.out)) hb); have n1_ := Aside0.mk (hbox); have n2_ := Aside0.mk ((by rw [hg]; exact (below_size (by repeat (first | (with_reducible first | exact HB.out | apply below_alloc | apply pw_below_drewN | apply below_drew1) | exact HB.out))) : w.heap.size ≤ gb243)); have n3_ := Aside0.mk ((by rw [hg]; exact (below_size (by repeat (first | (with_reducible first | exact HB.out | apply below_alloc | apply pw_below_drewN | apply below_drew1) | exact HB.out))) : w.heap.size ≤ gb243)); clear HB; have HB := n0_; have BK243 := n1_; have GW243 := n2_; have GE243 := n3_; clear n0_ n1_ n2_ n3_; clear hb hbox hg; have hcz6_0 : w5.cell? ⟨gb243, 0, none⟩ = some (.bool a0_0) := (blk_cell BK243.out 0).trans rfl; have hcz6_1 : w5.cell? ⟨gb243, 1, none⟩ = some (.slice A0_1 l0_1.length c0_1) := (blk_cell BK243.out 1).trans rfl; have hfz6_0 := blk_frozen BK243.out 0; have hfz6_1 := blk_frozen BK243.out 1) | ((with_reducible refine gate_callee (f := 14) rfl ?_); refine goesL_ (some 8) rfl rfl Try.func14 (by kernel_rfl) rfl #[.agg #[.bool a0_0, .slice A0_1 l0_1.length c0_1]] rfl (by (try simp only [List.map_toArray, List.map_cons, List.map_nil]); first | done | rfl | (simp only [List.length_drop, List.length_take]; rfl)) ?_; (with_reducible refine (pannierref04_Norm.calls k a0_0 _ _ l0_1 t244 t245 t248 _ ?side1 ?side2 A2.out).mono ?_); (case side1 => repeat (first | exact (Kd.C_below HR0_1.out HB.out) | (with_reducible refine Kd.C_alloc ?_ _) | (with_reducible refine Kd.C_drewN ?_ _) | (with_reducible refine Kd.C_drew ?_))); (case side2 => exact HC0_1.out); rintro e w7 ⟨v246, rfl, ho0, hb⟩; refine ⟨_, rfl, ?_⟩; have n0_ := Aside0.mk (Kd.V_lower (Kd.V_mono (ok' := fun k_ => k_ ≠ gb243) ho0 (fun k_ hk_ => (Kd.freshB (g := gb243) (o := .cells #[.bool a0_0, .slice A0_1 l0_1.length c0_1] 24 (0, 0)) (by (with_reducible repeat (first | refine blk_drewN ?_ _ | refine blk_drew ?_ | refine blk_alloc ?_ _)); exact BK243.out) k_ hk_))) (below_size (by repeat (first | (with_reducible first | exact HB.out | apply below_alloc | apply pw_below_drewN | apply below_drew1 | refine below_set ?_ GE243.out) | exact HB.out)))); have n1_ := Aside0.mk (blk_below (g := gb243) (o := .cells #[.bool a0_0, .slice A0_1 l0_1.length c0_1] 24 (0, 0)) (by (with_reducible repeat (first | refine blk_drewN ?_ _ | refine blk_drew ?_ | refine blk_alloc ?_ _)); exact BK243.out) hb); have n2_ := Aside0.mk (below_step (by repeat (first | (with_reducible first | exact HB.out | apply below_alloc | apply pw_below_drewN | apply below_drew1 | refine below_set ?_ GE243.out) | exact HB.out)) hb); clear BK243; clear HB; have HO247 := n0_; have BK243 := n1_; have HB := n2_; clear n0_ n1_ n2_; (try clear hb); (try clear hb2); (try clear hk); (try clear hi); (try clear ho0)) | ((with_reducible refine gate_dst (N := 4) rfl ?_); refine box_event ?hg (N := 4) ?hd (cs := #[.bool false, .slice none 0 0]) (t := 24) ?hr ?_; (case hd => rfl); (case hg => rfl); (case hr => first | (go_simp; done) | (go_simp; rfl)); intro gb249 hg w8 hbox hb; have n0_ := Aside0.mk (Kd.V_below (Kd.V_elderB (by (with_reducible repeat (first | apply Kd.V_alloc | apply Kd.V_drewN | apply Kd.V_drew)); exact HO247.out) gb249 (Nat.le_of_eq hg.symm)) hb); have n1_ := Aside0.mk (blk_below (g := gb243) (o := .cells #[.bool a0_0, .slice A0_1 l0_1.length c0_1] 24 (0, 0)) (by (with_reducible repeat (first | refine blk_drewN ?_ _ | refine blk_drew ?_ | refine blk_alloc ?_ _)); exact BK243.out) hb); have n2_ := Aside0.mk (below_step (by repeat (first | (with_reducible first | exact HB.out | apply below_alloc | apply pw_below_drewN | apply below_drew1 | refine below_set ?_ GE243.out) | exact HB.out)) hb); have n3_ := Aside0.mk (hbox); have n4_ := Aside0.mk ((by rw [hg]; exact (below_size (by repeat (first | (with_reducible first | exact HB.out | apply below_alloc | apply pw_below_drewN | apply below_drew1 | refine below_set ?_ GE243.out) | exact HB.out))) : w.heap.size ≤ gb249)); have n5_ := Aside0.mk ((by rw [hg]; exact (below_size (by repeat (first | (with_reducible first | exact HB.out | apply below_alloc | apply pw_below_drewN | apply below_drew1 | refine below_set ?_ GE243.out) | exact HB.out))) : w.heap.size ≤ gb249)); have n6_ := Aside0.mk ((by rw [hg]; exact Nat.ne_of_lt (blk_lt (g := gb243) (o := .cells #[.bool a0_0, .slice A0_1 l0_1.length c0_1] 24 (0, 0)) (by (with_reducible repeat (first | refine blk_drewN ?_ _ | refine blk_drew ?_ | refine blk_alloc ?_ _)); exact BK243.out)) : gb243 ≠ gb249)); have n7_ := Aside0.mk ((by rw [hg]; exact Nat.ne_of_gt (blk_lt (g := gb243) (o := .cells #[.bool a0_0, .slice A0_1 l0_1.length c0_1] 24 (0, 0)) (by (with_reducible repeat (first | refine blk_drewN ?_ _ | refine blk_drew ?_ | refine blk_alloc ?_ _)); exact BK243.out)) : gb249 ≠ gb243)); clear HO247; clear BK243; clear HB; have HO247 := n0_; have BK243 := n1_; have HB := n2_; have BK249 := n3_; have GW249 := n4_; have GE249 := n5_; have NB243_249 := n6_; have NB249_243 := n7_; clear n0_ n1_ n2_ n3_ n4_ n5_ n6_ n7_; clear hb hbox hg; have hnb9 := NB249_243.out; have hnc9 := NB243_249.out; have hcz10_0 : w8.cell? ⟨gb249, 0, none⟩ = some (.bool false) := (blk_cell BK249.out 0).trans rfl; have hcz10_1 : w8.cell? ⟨gb249, 1, none⟩ = some (.slice none 0 0) := (blk_cell BK249.out 1).trans rfl; have hfz10_0 := blk_frozen BK249.out 0; have hfz10_1 := blk_frozen BK249.out 1; obtain ⟨Ao11, co11, eo11⟩ := Kd.V_slice HO247.out; subst eo11) | ((with_reducible refine gate_callee (f := 49) rfl ?_); refine goesL_ (some 15) rfl rfl Try.func49 (by kernel_rfl) rfl #[.agg #[.bool t244, .slice Ao11 t245.length co11]] rfl (by (try simp only [List.map_toArray, List.map_cons, List.map_nil]); first | done | rfl | (simp only [List.length_drop, List.length_take]; rfl)) ?_; (with_reducible refine (pannierref04_text.calls k t244 _ _ t245 t250 _ ?side1 ?side2 A4.out).mono ?_); (case side1 => refine (Kd.V_reads' (e := 24) (base := w.heap.size) (ok := fun k_ => (k_ ≠ gb243 ∧ k_ ≠ gb249)) (n := t245.length) (c := co11) ?_).2.2; exact (by (with_reducible repeat (first | apply Kd.V_alloc | apply Kd.V_drewN | apply Kd.V_drew)); exact (Kd.V_mono (Kd.V_far (p := ⟨gb249, 1, none⟩) (Kd.V_far (p := ⟨gb249, 0, none⟩) (Kd.V_mono HO247.out (fun k_ hk => (⟨hk, hk.2⟩ : _ ∧ k_ ≠ gb249))) (fun _ hk => hk.2) (.bool t244)) (fun _ hk => hk.2) (.slice Ao11 t245.length co11)) (fun _ h_ => h_.1)))); (case side2 => exact (Kd.V_reads' HO247.out).2.1); rintro e w12 ⟨rfl, hb⟩; refine ⟨_, rfl, ?_⟩; have n0_ := Aside0.mk (Kd.V_below (by (with_reducible repeat (first | apply Kd.V_alloc | apply Kd.V_drewN | apply Kd.V_drew)); exact (Kd.V_mono (Kd.V_far (p := ⟨gb249, 1, none⟩) (Kd.V_far (p := ⟨gb249, 0, none⟩) (Kd.V_mono HO247.out (fun k_ hk => (⟨hk, hk.2⟩ : _ ∧ k_ ≠ gb249))) (fun _ hk => hk.2) (.bool t244)) (fun _ hk => hk.2) (.slice Ao11 t245.length co11)) (fun _ h_ => h_.1))) hb); have n1_ := Aside0.mk (blk_below (g := gb243) (o := .cells #[.bool a0_0, .slice A0_1 l0_1.length c0_1] 24 (0, 0)) (by (with_reducible repeat (first | refine blk_drewN ?_ _ | refine blk_drew ?_ | refine blk_alloc ?_ _)); refine blk_far ?_ NB243_249.out _; (with_reducible repeat (first | refine blk_drewN ?_ _ | refine blk_drew ?_ | refine blk_alloc ?_ _)); refine blk_far ?_ NB243_249.out _; (with_reducible repeat (first | refine blk_drewN ?_ _ | refine blk_drew ?_ | refine blk_alloc ?_ _)); exact BK243.out) hb); have n2_ := Aside0.mk (blk_below (g := gb249) (o := .cells #[.bool t244, .slice Ao11 t245.length co11] 24 (0, 0)) (by (with_reducible repeat (first | refine blk_drewN ?_ _ | refine blk_drew ?_ | refine blk_alloc ?_ _)); refine blk_put (cs := #[.bool t244, .slice none 0 0]) ?_ 1 _ rfl; (with_reducible repeat (first | refine blk_drewN ?_ _ | refine blk_drew ?_ | refine blk_alloc ?_ _)); refine blk_put (cs := #[.bool false, .slice none 0 0]) ?_ 0 _ rfl; (with_reducible repeat (first | refine blk_drewN ?_ _ | refine blk_drew ?_ | refine blk_alloc ?_ _)); exact BK249.out) hb); have n3_ := Aside0.mk (below_step (by repeat (first | (with_reducible first | exact HB.out | apply below_alloc | apply pw_below_drewN | apply below_drew1 | refine below_set ?_ GE243.out | refine below_set ?_ GE249.out) | exact HB.out)) hb); clear HO247; clear BK243; clear BK249; clear HB; have HO247 := n0_; have BK243 := n1_; have BK249 := n2_; have HB := n3_; clear n0_ n1_ n2_ n3_; (try clear hb); (try clear hb2); (try clear hk); (try clear hi)))
    go_ret2
    exact ⟨by first | rfl | (simp [errW_none, errW_some] <;> rfl) | (simp [*, errW_none, errW_some] <;> rfl), by repeat (first | (with_reducible first | exact HB.out | apply below_alloc | apply pw_below_drewN | apply below_drew1 | refine below_set ?_ GE243.out | refine below_set ?_ GE249.out) | exact HB.out)⟩
  · rw [if_neg c3] at H
    have c3b0 : (t248 == 0) = false := beq_eq_false_iff_ne.mpr c3
    have c3b1 : (t248 != 0) = true := bne_iff_ne.mpr c3
    simp only [Option.some.injEq, Prod.mk.injEq] at H
    obtain ⟨rfl, rfl⟩ := H
    go_enter Try.func29, Try.ntmps29
    go_wp2_with (first | ((with_reducible refine gate_dst (N := 1) rfl ?_); refine box_event ?hg (N := 1) ?hd (cs := #[.bool a0_0, .slice A0_1 l0_1.length c0_1]) (t := 24) ?hr ?_; (case hd => rfl); (case hg => rfl); (case hr => first | (go_simp; done) | (go_simp; rfl)); intro gb243 hg w13 hbox hb; have n0_ := Aside0.mk (below_step (by repeat (first | (with_reducible first | exact HB.out | apply below_alloc | apply pw_below_drewN | apply below_drew1) | exact HB.out)) hb); have n1_ := Aside0.mk (hbox); have n2_ := Aside0.mk ((by rw [hg]; exact (below_size (by repeat (first | (with_reducible first | exact HB.out | apply below_alloc | apply pw_below_drewN | apply below_drew1) | exact HB.out))) : w.heap.size ≤ gb243)); have n3_ := Aside0.mk ((by rw [hg]; exact (below_size (by repeat (first | (with_reducible first | exact HB.out | apply below_alloc | apply pw_below_drewN | apply below_drew1) | exact HB.out))) : w.heap.size ≤ gb243)); clear HB; have HB := n0_; have BK243 := n1_; have GW243 := n2_; have GE243 := n3_; clear n0_ n1_ n2_ n3_; clear hb hbox hg; have hcz14_0 : w13.cell? ⟨gb243, 0, none⟩ = some (.bool a0_0) := (blk_cell BK243.out 0).trans rfl; have hcz14_1 : w13.cell? ⟨gb243, 1, none⟩ = some (.slice A0_1 l0_1.length c0_1) := (blk_cell BK243.out 1).trans rfl; have hfz14_0 := blk_frozen BK243.out 0; have hfz14_1 := blk_frozen BK243.out 1) | ((with_reducible refine gate_callee (f := 14) rfl ?_); refine goesL_ (some 8) rfl rfl Try.func14 (by kernel_rfl) rfl #[.agg #[.bool a0_0, .slice A0_1 l0_1.length c0_1]] rfl (by (try simp only [List.map_toArray, List.map_cons, List.map_nil]); first | done | rfl | (simp only [List.length_drop, List.length_take]; rfl)) ?_; (with_reducible refine (pannierref04_Norm.calls k a0_0 _ _ l0_1 t244 t245 t248 _ ?side1 ?side2 A2.out).mono ?_); (case side1 => repeat (first | exact (Kd.C_below HR0_1.out HB.out) | (with_reducible refine Kd.C_alloc ?_ _) | (with_reducible refine Kd.C_drewN ?_ _) | (with_reducible refine Kd.C_drew ?_))); (case side2 => exact HC0_1.out); rintro e w15 ⟨v246, rfl, ho0, hb⟩; refine ⟨_, rfl, ?_⟩; have n0_ := Aside0.mk (Kd.V_lower (Kd.V_mono (ok' := fun k_ => k_ ≠ gb243) ho0 (fun k_ hk_ => (Kd.freshB (g := gb243) (o := .cells #[.bool a0_0, .slice A0_1 l0_1.length c0_1] 24 (0, 0)) (by (with_reducible repeat (first | refine blk_drewN ?_ _ | refine blk_drew ?_ | refine blk_alloc ?_ _)); exact BK243.out) k_ hk_))) (below_size (by repeat (first | (with_reducible first | exact HB.out | apply below_alloc | apply pw_below_drewN | apply below_drew1 | refine below_set ?_ GE243.out) | exact HB.out)))); have n1_ := Aside0.mk (blk_below (g := gb243) (o := .cells #[.bool a0_0, .slice A0_1 l0_1.length c0_1] 24 (0, 0)) (by (with_reducible repeat (first | refine blk_drewN ?_ _ | refine blk_drew ?_ | refine blk_alloc ?_ _)); exact BK243.out) hb); have n2_ := Aside0.mk (below_step (by repeat (first | (with_reducible first | exact HB.out | apply below_alloc | apply pw_below_drewN | apply below_drew1 | refine below_set ?_ GE243.out) | exact HB.out)) hb); clear BK243; clear HB; have HO247 := n0_; have BK243 := n1_; have HB := n2_; clear n0_ n1_ n2_; (try clear hb); (try clear hb2); (try clear hk); (try clear hi); (try clear ho0)) | ((with_reducible refine gate_dst (N := 4) rfl ?_); refine box_event ?hg (N := 4) ?hd (cs := #[.bool false, .slice none 0 0]) (t := 24) ?hr ?_; (case hd => rfl); (case hg => rfl); (case hr => first | (go_simp; done) | (go_simp; rfl)); intro gb249 hg w16 hbox hb; have n0_ := Aside0.mk (Kd.V_below (Kd.V_elderB (by (with_reducible repeat (first | apply Kd.V_alloc | apply Kd.V_drewN | apply Kd.V_drew)); exact HO247.out) gb249 (Nat.le_of_eq hg.symm)) hb); have n1_ := Aside0.mk (blk_below (g := gb243) (o := .cells #[.bool a0_0, .slice A0_1 l0_1.length c0_1] 24 (0, 0)) (by (with_reducible repeat (first | refine blk_drewN ?_ _ | refine blk_drew ?_ | refine blk_alloc ?_ _)); exact BK243.out) hb); have n2_ := Aside0.mk (below_step (by repeat (first | (with_reducible first | exact HB.out | apply below_alloc | apply pw_below_drewN | apply below_drew1 | refine below_set ?_ GE243.out) | exact HB.out)) hb); have n3_ := Aside0.mk (hbox); have n4_ := Aside0.mk ((by rw [hg]; exact (below_size (by repeat (first | (with_reducible first | exact HB.out | apply below_alloc | apply pw_below_drewN | apply below_drew1 | refine below_set ?_ GE243.out) | exact HB.out))) : w.heap.size ≤ gb249)); have n5_ := Aside0.mk ((by rw [hg]; exact (below_size (by repeat (first | (with_reducible first | exact HB.out | apply below_alloc | apply pw_below_drewN | apply below_drew1 | refine below_set ?_ GE243.out) | exact HB.out))) : w.heap.size ≤ gb249)); have n6_ := Aside0.mk ((by rw [hg]; exact Nat.ne_of_lt (blk_lt (g := gb243) (o := .cells #[.bool a0_0, .slice A0_1 l0_1.length c0_1] 24 (0, 0)) (by (with_reducible repeat (first | refine blk_drewN ?_ _ | refine blk_drew ?_ | refine blk_alloc ?_ _)); exact BK243.out)) : gb243 ≠ gb249)); have n7_ := Aside0.mk ((by rw [hg]; exact Nat.ne_of_gt (blk_lt (g := gb243) (o := .cells #[.bool a0_0, .slice A0_1 l0_1.length c0_1] 24 (0, 0)) (by (with_reducible repeat (first | refine blk_drewN ?_ _ | refine blk_drew ?_ | refine blk_alloc ?_ _)); exact BK243.out)) : gb249 ≠ gb243)); clear HO247; clear BK243; clear HB; have HO247 := n0_; have BK243 := n1_; have HB := n2_; have BK249 := n3_; have GW249 := n4_; have GE249 := n5_; have NB243_249 := n6_; have NB249_243 := n7_; clear n0_ n1_ n2_ n3_ n4_ n5_ n6_ n7_; clear hb hbox hg; have hnb17 := NB249_243.out; have hnc17 := NB243_249.out; have hcz18_0 : w16.cell? ⟨gb249, 0, none⟩ = some (.bool false) := (blk_cell BK249.out 0).trans rfl; have hcz18_1 : w16.cell? ⟨gb249, 1, none⟩ = some (.slice none 0 0) := (blk_cell BK249.out 1).trans rfl; have hfz18_0 := blk_frozen BK249.out 0; have hfz18_1 := blk_frozen BK249.out 1; obtain ⟨Ao19, co19, eo19⟩ := Kd.V_slice HO247.out; subst eo19))
    go_ret2
    exact ⟨by first | rfl | (simp [errW_none, errW_some] <;> rfl) | (simp [*, errW_none, errW_some] <;> rfl), by repeat (first | (with_reducible first | exact HB.out | apply below_alloc | apply pw_below_drewN | apply below_drew1 | refine below_set ?_ GE243.out | refine below_set ?_ GE249.out) | exact HB.out)⟩

end Go.Proofs.Ytlhaofbncoijfaa.X
namespace Go.Proofs.Ytlhaofbncoijfaa.HandF
set_option linter.unusedVariables false
set_option linter.unusedSimpArgs false
open Go.RowKit Go.Proofs.Ytlhaofbncoijfaa.X Go.Proofs.Ytlhaofbncoijfaa.Tree Go.Proofs.Ytlhaofbncoijfaa.Blocks
open Go.Proofs.YtlhaofbncoijfaaW.PrintWords Go.Proofs.YtlhaofbncoijfaaW.PrintLast Go.Proofs.YtlhaofbncoijfaaW.PrintMore

/-- What slices.EqualFunc tells of two trees' kids. -/
def kidsEq : T → T → Bool
  | .leaf _, .leaf _ => true
  | .node a b, .node c d => T.eqb a c && T.eqb b d
  | _, _ => false
set_option maxRecDepth 100000 in
set_option maxHeartbeats 40000000 in
theorem eqf_empty (A B : Option Addr) (c d : Nat) (w : World) :
    Calls Try.prog 68 #[.slice A 0 c, .slice B 0 d, .func (.func 46) #[] #[]] w fun e w' => e = .returned (.bool true) ∧ Below w.heap.size w w' := by
  go_enter Try.func68, Try.ntmps68
  go_wp2_with fail
  refine wp_loop_rounds 1 ?_
  rw [rounds_succ]
  go_wp2_with fail
  go_ret
  exact ⟨rfl, Below.refl _ _⟩
set_option maxRecDepth 100000 in
set_option maxHeartbeats 40000000 in
theorem eqf_differ (A B : Option Addr) (m n c d : Nat) (h : m ≠ n) (w : World) :
    Calls Try.prog 68 #[.slice A m c, .slice B n d, .func (.func 46) #[] #[]] w fun e w' => e = .returned (.bool false) ∧ Below w.heap.size w w' := by
  have e1 : ((m : Int) != (n : Int)) = true := bne_iff_ne.2 (by omega)
  have e2 : (m != n) = true := bne_iff_ne.2 h
  go_enter Try.func68, Try.ntmps68
  go_wp2_with fail
  go_ret
  exact ⟨rfl, Below.refl _ _⟩
set_option maxRecDepth 100000 in
set_option maxHeartbeats 40000000 in
theorem eqf_two (a b a' b' : T)
    (ih1 : ∀ (k m : Kd2) (w : World) (ok : Nat → Prop), k.1 = a.toS → m.1 = a'.toS → Ft w ok k → Ft w ok m → Calls Try.prog 46 #[kv k, kv m] w fun e w' => e = .returned (.bool (T.eqb a a')) ∧ Below w.heap.size w w')
    (ih2 : ∀ (k m : Kd2) (w : World) (ok : Nat → Prop), k.1 = b.toS → m.1 = b'.toS → Ft w ok k → Ft w ok m → Calls Try.prog 46 #[kv k, kv m] w fun e w' => e = .returned (.bool (T.eqb b b')) ∧ Below w.heap.size w w')
    (k m : Kd2) (w : World) (ok : Nat → Prop) (hk : k.1 = (T.node a b).toS) (hm : m.1 = (T.node a' b').toS) (fk : Ft w ok k) (fm : Ft w ok m) :
    Calls Try.prog 68 #[.slice k.2.1 2 k.2.2, .slice m.2.1 2 m.2.2, .func (.func 46) #[] #[]] w fun e w' => e = .returned (.bool (T.eqb a a' && T.eqb b b')) ∧ Below w.heap.size w w' := by
  obtain ⟨ad, p0, p1, hA, hp0, hp1, fp0, fp1, x0, x1, x2, x3⟩ := fk.kids hk
  obtain ⟨bd, q0, q1, hB, hq0, hq1, fq0, fq1, y0, y1, y2, y3⟩ := fm.kids hm
  rw [hA, hB]
  have IH1 := Lib.hid ih1
  have IH2 := Lib.hid ih2
  have HP0 := Lib.hid hp0
  have HP1 := Lib.hid hp1
  have HQ0 := Lib.hid hq0
  have HQ1 := Lib.hid hq1
  have FP0 := Lib.hid fp0
  have FP1 := Lib.hid fp1
  have FQ0 := Lib.hid fq0
  have FQ1 := Lib.hid fq1
  have X2 := Lib.hid x2
  have X3 := Lib.hid x3
  have Y2 := Lib.hid y2
  have Y3 := Lib.hid y3
  have hB1 : Below w.heap.size w (w.alloc (.cells #[.bool p0.1.f0, .slice p0.2.1 p0.1.f1.length p0.2.2] 24)) := (Below.refl _ _).alloc (Nat.le_refl _) _
  have y0' := kcell hB1 y0
  have y1' := kcell hB1 y1
  have g1 := blk_new w (.cells #[.bool p0.1.f0, .slice p0.2.1 p0.1.f1.length p0.2.2] 24)
  have g1' := blk_alloc g1 (.cells #[.bool q0.1.f0, .slice q0.2.1 q0.1.f1.length q0.2.2] 24)
  have v0 := cell0 g1'
  have v1 := cell1 g1'
  have HB2 := Lib.hid (hB1.alloc (by rw [World.size_alloc]; omega) (.cells #[.bool q0.1.f0, .slice q0.2.1 q0.1.f1.length q0.2.2] 24))
  clear ih1 ih2 hk hm fk fm hA hB hp0 hp1 hq0 hq1 fp0 fp1 fq0 fq1 x2 x3 y2 y3 hB1 g1 g1'
  have hu24 := Try.underlying24
  have hu22 := Try.underlying22
  go_enter Try.func68, Try.ntmps68
  go_wp2_with fail
  refine wp_loop_rounds 3 ?_
  rw [rounds_succ]
  go_wp2_with fail
  refine (IH1.out p0 q0 _ _ HP0.out HQ0.out (FP0.out.below HB2.out) (FQ0.out.below HB2.out)).mono ?_
  rintro e w3 ⟨rfl, hb3⟩
  have HB3 := Lib.hid (HB2.out.trans (hb3.mono HB2.out.size))
  clear hb3 y0' y1' v0 v1 x0 x1 y0 y1
  cases he : T.eqb a a'
  · go_wp2_with fail
    go_ret
    exact ⟨by rw [he]; rfl, HB3.out⟩
  · have z2 := kcell HB3.out X2.out
    have z3 := kcell HB3.out X3.out
    have hB4 : Below w3.heap.size w3 (w3.alloc (.cells #[.bool p1.1.f0, .slice p1.2.1 p1.1.f1.length p1.2.2] 24)) := (Below.refl _ _).alloc (Nat.le_refl _) _
    have u2 := kcell (HB3.out.trans (hB4.mono HB3.out.size)) Y2.out
    have u3 := kcell (HB3.out.trans (hB4.mono HB3.out.size)) Y3.out
    have g1 := blk_new w3 (.cells #[.bool p1.1.f0, .slice p1.2.1 p1.1.f1.length p1.2.2] 24)
    have g1' := blk_alloc g1 (.cells #[.bool q1.1.f0, .slice q1.2.1 q1.1.f1.length q1.2.2] 24)
    have v0 := cell0 g1'
    have v1 := cell1 g1'
    have HB5 := Lib.hid (hB4.alloc (by rw [World.size_alloc]; omega) (.cells #[.bool q1.1.f0, .slice q1.2.1 q1.1.f1.length q1.2.2] 24))
    clear hB4 g1 g1'
    go_wp2_with fail
    rw [rounds_succ]
    go_wp2_with fail
    refine (IH2.out p1 q1 _ _ HP1.out HQ1.out (FP1.out.below (HB3.out.trans (HB5.out.mono HB3.out.size))) (FQ1.out.below (HB3.out.trans (HB5.out.mono HB3.out.size)))).mono ?_
    rintro e w6 ⟨rfl, hb6⟩
    have HB6 := Lib.hid ((HB3.out.trans (HB5.out.mono HB3.out.size)).trans (hb6.mono (HB3.out.trans (HB5.out.mono HB3.out.size)).size))
    clear hb6 z2 z3 u2 u3 v0 v1
    cases he2 : T.eqb b b'
    · go_wp2_with fail
      go_ret
      exact ⟨by rw [he, he2]; rfl, HB6.out⟩
    · go_wp2_with fail
      rw [rounds_succ]
      go_wp2_with fail
      go_ret
      exact ⟨by rw [he, he2]; rfl, HB6.out⟩
set_option maxRecDepth 100000 in
set_option maxHeartbeats 40000000 in
theorem equal_step (a b : T) (k m : Kd2) (w : World) (ok : Nat → Prop) (hk : k.1 = a.toS) (hm : m.1 = b.toS) (fk : Ft w ok k) (fm : Ft w ok m)
    (h68 : ∀ W, Below w.heap.size w W → Calls Try.prog 68 #[.slice k.2.1 k.1.f1.length k.2.2, .slice m.2.1 m.1.f1.length m.2.2, .func (.func 46) #[] #[]] W fun e w' => e = .returned (.bool (kidsEq a b)) ∧ Below W.heap.size W w') :
    Calls Try.prog 46 #[kv k, kv m] w fun e w' => e = .returned (.bool (T.eqb a b)) ∧ Below w.heap.size w w' := by
  have hu24 := Try.underlying24
  have hu22 := Try.underlying22
  have HK := Lib.hid hk
  have HM := Lib.hid hm
  have H := Lib.hid h68
  have hb2 : Below w.heap.size w ((w.alloc (.cells #[.bool k.1.f0, .slice k.2.1 k.1.f1.length k.2.2] 24)).alloc (.cells #[.bool m.1.f0, .slice m.2.1 m.1.f1.length m.2.2] 24)) := ((Below.refl _ _).alloc (Nat.le_refl _) _).alloc (by simp) _
  have HB2 := Lib.hid hb2
  clear hk hm h68 fk fm hb2
  cases hf : (k.1.f0 == m.1.f0)
  · have he : T.eqb a b = false := by
      cases h : T.eqb a b
      · rfl
      · have := T.eqb_iff.1 h
        rw [HK.out, HM.out, this] at hf
        simp at hf
    rw [he]
    go_enter Try.func46, Try.ntmps46
    go_wp2_with fail
    go_ret
    exact ⟨rfl, HB2.out⟩
  · have he : T.eqb a b = kidsEq a b := by
      rw [HK.out, HM.out] at hf
      cases a with
      | leaf x => cases b with
        | leaf y => simpa [T.eqb, kidsEq, T.toS] using hf
        | node c d => rfl
      | node c d => cases b <;> rfl
    rw [he]
    go_enter Try.func46, Try.ntmps46
    go_wp2_with fail
    refine (H.out _ HB2.out).mono ?_
    rintro e w3 ⟨rfl, hb3⟩
    have HB3 := Lib.hid (HB2.out.trans (hb3.mono HB2.out.size))
    clear hb3
    go_wp2_with fail
    go_ret
    exact ⟨rfl, HB3.out⟩
theorem equal_calls : ∀ (a b : T) (k m : Kd2) (w : World) (ok : Nat → Prop), k.1 = a.toS → m.1 = b.toS → Ft w ok k → Ft w ok m →
    Calls Try.prog 46 #[kv k, kv m] w fun e w' => e = .returned (.bool (T.eqb a b)) ∧ Below w.heap.size w w'
  | .leaf x, .leaf y, k, m, w, ok, hk, hm, fk, fm => equal_step _ _ k m w ok hk hm fk fm (fun W _ => by rw [hk, hm]; exact eqf_empty _ _ _ _ W)
  | .leaf x, .node c d, k, m, w, ok, hk, hm, fk, fm => equal_step _ _ k m w ok hk hm fk fm (fun W _ => by rw [hk, hm]; exact eqf_differ _ _ _ _ _ _ (by simp [T.toS]) W)
  | .node a b, .leaf y, k, m, w, ok, hk, hm, fk, fm => equal_step _ _ k m w ok hk hm fk fm (fun W _ => by rw [hk, hm]; exact eqf_differ _ _ _ _ _ _ (by simp [T.toS]) W)
  | .node a b, .node c d, k, m, w, ok, hk, hm, fk, fm => equal_step _ _ k m w ok hk hm fk fm (fun W hW => by
      have := eqf_two a b c d (equal_calls a c) (equal_calls b d) k m W ok hk hm (fk.below hW) (fm.below hW)
      rw [hk, hm]
      exact this)

def id_equal.f (a0_0 : Bool) (l0_1 : List S24) (a1_0 : Bool) (l1_1 : List S24) : Option Bool :=
  match T.ofS ⟨a0_0, l0_1⟩, T.ofS ⟨a1_0, l1_1⟩ with
  | some a, some b => some (T.eqb a b)
  | _, _ => none
theorem id_equal.calls (a0_0 : Bool) (A0_1 : Option Addr) (c0_1 : Nat) (l0_1 : List S24) (a1_0 : Bool) (A1_1 : Option Addr) (c1_1 : Nat) (l1_1 : List S24) (r : Bool) (w : World) (hr0_1 : Kd.C k24 w A0_1 l0_1.length l0_1) (hc0_1 : l0_1.length ≤ c0_1) (hr1_1 : Kd.C k24 w A1_1 l1_1.length l1_1) (hc1_1 : l1_1.length ≤ c1_1) (h : id_equal.f a0_0 l0_1 a1_0 l1_1 = some r) :
    Calls Try.prog 46 #[.agg #[.bool a0_0, .slice A0_1 l0_1.length c0_1], .agg #[.bool a1_0, .slice A1_1 l1_1.length c1_1]] w fun e w' => e = .returned (.bool r) ∧ Below w.heap.size w w' := by
  unfold id_equal.f at h
  cases ha : T.ofS ⟨a0_0, l0_1⟩ with
  | none => rw [ha] at h; cases h
  | some a =>
    cases hb : T.ofS ⟨a1_0, l1_1⟩ with
    | none => rw [ha, hb] at h; cases h
    | some b =>
      rw [ha, hb] at h
      obtain rfl : T.eqb a b = r := by simpa using h
      exact equal_calls a b (⟨a0_0, l0_1⟩, A0_1, c0_1) (⟨a1_0, l1_1⟩, A1_1, c1_1) w _ (T.ofS_eq.1 ha).symm (T.ofS_eq.1 hb).symm (Ft.all hc0_1 hr0_1) (Ft.all hc1_1 hr1_1)
end Go.Proofs.Ytlhaofbncoijfaa.HandF
namespace Go.Proofs.Ytlhaofbncoijfaa.Tree
set_option linter.unusedVariables false
open Go.Proofs.Ytlhaofbncoijfaa.X
/-- A sign is taken, if it stands next. -/
def take1 (c : UInt8) : List UInt8 → Bool × List UInt8
  | [] => (false, [])
  | x :: r => if x = c then (true, r) else (false, x :: r)
theorem take1_false {c : UInt8} {l r : List UInt8} (h : take1 c l = (false, r)) : r = l := by
  cases l with
  | nil => simp [take1] at h; exact h
  | cons x t =>
    simp only [take1] at h
    split at h
    · cases h
    · cases h; rfl
theorem take1_true {c : UInt8} {l r : List UInt8} (h : take1 c l = (true, r)) : l = c :: r := by
  cases l with
  | nil => simp [take1] at h
  | cons x t =>
    simp only [take1] at h
    split at h
    · rename_i e; cases h; rw [e]
    · cases h
def sepT (c : UInt8) (l : List UInt8) (bad : Bool) : List UInt8 × Bool := if bad = true then (l, true) else ((take1 c l).2, !(take1 c l).1)
/-- The tree that is read, what is left, and whether it is bad; n: the depth and one. -/
def readT : Nat → List UInt8 → Bool → T × List UInt8 × Bool
  | 0, l, _ => (.leaf false, l, true)
  | n + 1, l, bad =>
    if bad = true then (.leaf false, l, true)
    else if (take1 49 l).1 = true then (.leaf true, (take1 49 l).2, false)
    else if (take1 48 l).1 = true then (.leaf false, (take1 48 l).2, false)
    else if (take1 40 l).1 = true then
      let x := readT n (take1 40 l).2 false
      let y := sepT 44 x.2.1 x.2.2
      let z := readT n y.1 y.2
      let u := sepT 41 z.2.1 z.2.2
      (.node x.1 z.1, u.1, u.2)
    else (.leaf false, l, true)
theorem take_f (l : List UInt8) (c : UInt8) : strings_CutPrefix.f ⟨l.toArray⟩ ⟨#[c]⟩ = some (⟨(take1 c l).2.toArray⟩, (take1 c l).1) := by
  have hs : (⟨l.toArray⟩ : ByteArray).size = l.length := by simp [ByteArray.size]
  have h1 : (⟨#[c]⟩ : ByteArray).size = 1 := rfl
  have hc1 : (⟨#[c]⟩ : ByteArray).toList = [c] := by rw [Lib.toList_data]
  unfold strings_CutPrefix.f stringslite_CutPrefix.f stringslite_HasPrefix.f
  rw [hs, h1, hc1]
  cases l with
  | nil => rfl
  | cons x r =>
    have e0 : (((1 : Nat) : Int) : Int).toNat = 1 := rfl
    have e1 : ((⟨(x :: r).toArray⟩ : ByteArray).extract 0 1).toList = [x] := by
      have : ((⟨(x :: r).toArray⟩ : ByteArray).extract 0 1) = ⟨#[x]⟩ := by
        apply ByteArray.ext
        simp [ByteArray.data_extract]
      rw [this, Lib.toList_data]
    have e2 : (⟨(x :: r).toArray⟩ : ByteArray).extract 1 (x :: r).length = ⟨r.toArray⟩ := by
      apply ByteArray.ext
      simp [ByteArray.data_extract]
    have h2 : ((x :: r).length : Int) ≥ ((1 : Nat) : Int) := by simp only [List.length_cons]; omega
    have h3 : ((1 : Nat) : Int) ≤ ((x :: r).length : Int) := by simp only [List.length_cons]; omega
    rw [e0, e1, e2, if_pos h2, if_pos (by decide), if_pos h3, Option.bind_some]
    by_cases hx : x = c
    · subst hx
      have : ([x] == [x]) = true := by simp
      rw [this, if_pos rfl, if_pos (by decide), if_pos h3]
      simp [take1]
    · have : ([x] == [c]) = false := by simp [hx]
      rw [this, if_neg (by decide)]
      simp [take1, hx]
end Go.Proofs.Ytlhaofbncoijfaa.Tree
namespace Go.Proofs.Ytlhaofbncoijfaa.HandF
set_option linter.unusedVariables false
set_option linter.unusedSimpArgs false
open Go.RowKit Go.Proofs.Ytlhaofbncoijfaa.X Go.Proofs.Ytlhaofbncoijfaa.Tree Go.Proofs.Ytlhaofbncoijfaa.Blocks
open Go.Proofs.YtlhaofbncoijfaaW.PrintWords Go.Proofs.YtlhaofbncoijfaaW.PrintLast Go.Proofs.YtlhaofbncoijfaaW.PrintMore
/-- The reader at block g: what is left, and whether it is bad. -/
def IsR (W : World) (g : Nat) (l : List UInt8) (b : Bool) : Prop := W.heap[g]? = some (.cells #[.string ⟨l.toArray⟩, .bool b] 73 (0, 0))
set_option maxRecDepth 100000 in
theorem rtake_calls (c : UInt8) (g : Nat) (l : List UInt8) (b : Bool) (w : World) (h : IsR w g l b) :
    Calls Try.prog 70 #[.pointer (some ⟨g, 0, none⟩), .string ⟨#[c]⟩] w fun e w' => e = .returned (.bool (take1 c l).1) ∧ IsR w' g (take1 c l).2 b ∧ KeepBut w w' g none ∧ (∀ n, n ≤ g → n ≤ w.heap.size → Below n w w') := by
  have H := Lib.hid h
  have hc0 := cell0 h
  have hc1 := cell1 h
  have hf := free2 h
  clear h
  go_enter Try.func70, Try.ntmps70
  go_wp2_with fail
  refine (strings_CutPrefix.calls _ _ _ _ _ (take_f l c)).mono ?_
  rintro e w1 ⟨rfl, ⟨nd, rfl⟩⟩
  have hc0' : (w.drewN nd).cell? ⟨g, 0, none⟩ = _ := hc0
  have hc1' : (w.drewN nd).cell? ⟨g, 1, none⟩ = _ := hc1
  have hf' : ∀ o, (w.drewN nd).frozen? ⟨g, o, none⟩ = false := hf
  have H' : Hid (IsR (w.drewN nd) g l b) := H
  clear hc0 hc1 hf
  go_wp2_with fail
  go_ret
  refine ⟨rfl, set0 H'.out, ?_, ?_⟩
  · exact KeepBut.set_ ⟨Nat.le_refl _, fun _ _ _ _ => rfl⟩ _ _
  · intro n hn hn2
    exact (pw_below_drewN (Below.refl n w) nd).setCell hn _
theorem Ft.but {W W' : World} {ok : Nat → Prop} {k : Kd2} {g : Nat} (h : Ft W ok k) (hk : KeepBut W W' g none) (ho : ∀ j, ok j → j ≠ g) : Ft W' ok k :=
  (h.bound.move (fun j hj => hk.2 j hj.2 (ho j hj.1) (by simp))).mono (fun _ hj => hj.1)
/-- What the reader's tree keeps: the reader, the out, all else. -/
structure RdI (n : Nat) (w W : World) (g : Nat) (l : List UInt8) (b : Bool) : Prop where
  at_ : IsR W g l b
  below : Below n w W
  keep : KeepBut w W g none
  out : W.heap[w.heap.size]? = some (.cells #[.bool false, .slice none 0 0] 24 (0, 0))
  lt : g < w.heap.size
  le : n ≤ g
theorem RdI.step {n : Nat} {w W W' : World} {g : Nat} {l : List UInt8} {b : Bool} (h : RdI n w W g l b) (hb : Below W.heap.size W W') : RdI n w W' g l b :=
  ⟨blk_below h.at_ hb, h.below.trans (hb.mono (Nat.le_trans h.le (Nat.le_of_lt (Nat.lt_of_lt_of_le h.lt h.below.size)))), h.keep.trans (KeepBut.of_below hb g none) (.inl rfl), blk_below h.out hb, h.lt, h.le⟩
theorem RdI.call {n : Nat} {w W W' : World} {g : Nat} {l l' : List UInt8} {b b' : Bool} (h : RdI n w W g l b) (h1 : IsR W' g l' b') (h2 : KeepBut W W' g none) (h3 : Below n W W') : RdI n w W' g l' b' :=
  ⟨h1, h.below.trans h3, h.keep.trans h2 (.inl rfl), h2.blk h.out (Nat.ne_of_gt h.lt) (by simp), h.lt, h.le⟩
theorem RdI.bad {n : Nat} {w W : World} {g : Nat} {l : List UInt8} {b : Bool} (h : RdI n w W g l b) (x : Bool) : RdI n w (W.setCell ⟨g, 1, none⟩ (.bool x)) g l x :=
  ⟨set1 h.at_, h.below.setCell h.le _, h.keep.set_ _ _, (set_other (by show w.heap.size ≠ g; exact Nat.ne_of_gt h.lt)).trans h.out, h.lt, h.le⟩
theorem RdI.big {n : Nat} {w W : World} {g : Nat} {l : List UInt8} {b : Bool} (h : RdI n w W g l b) : w.heap.size ≤ W.heap.size := h.keep.1
theorem RdI.size {n : Nat} {w W : World} {g : Nat} {l : List UInt8} {b : Bool} (h : RdI n w W g l b) : n ≤ W.heap.size := Nat.le_trans h.le (Nat.le_of_lt (Nat.lt_of_lt_of_le h.lt h.below.size))
/-- How it is left. -/
theorem rtree_out {n : Nat} {w W : World} {g : Nat} {l : List UInt8} {b : Bool} {R : Ending → World → Prop} {tmps : Array Value} (k : Kd2) (h : RdI n w W g l b)
    (h2 : tmps.getD 4 undef = .pointer (some ⟨w.heap.size, 0, none⟩))
    (hR : ∀ W', IsR W' g l b → Below n w W' → KeepBut w W' g none → (∀ j, j ≠ w.heap.size → W'.heap[j]? = W.heap[j]?) → R (.returned (kv k)) W') :
    bodyPost Try.prog Try.f50 R .ret { tmps := tmps, defers := [] } ((W.setCell ⟨w.heap.size, 0, none⟩ (.bool k.1.f0)).setCell ⟨w.heap.size, 1, none⟩ (.slice k.2.1 k.1.f1.length k.2.2)) := by
  have hs := set1 (u := .slice k.2.1 k.1.f1.length k.2.2) (set0 (u := .bool k.1.f0) h.out)
  refine bodyPost_ret (results_cell_row rfl _ _ w.heap.size 24 _ (0, 0) _ h2 hs Try.underlying24 rfl (by kernel_rfl)) rfl ?_
  have ho : ∀ j, j ≠ w.heap.size → ((W.setCell ⟨w.heap.size, 0, none⟩ (.bool k.1.f0)).setCell ⟨w.heap.size, 1, none⟩ (.slice k.2.1 k.1.f1.length k.2.2)).heap[j]? = W.heap[j]? := fun j hj => by
    rw [set_other (by simpa using hj), set_other (by simpa using hj)]
  refine hR _ ((ho g (Nat.ne_of_lt h.lt)).trans h.at_) ((h.below.setCell (Nat.le_trans h.le (Nat.le_of_lt h.lt)) _).setCell (Nat.le_trans h.le (Nat.le_of_lt h.lt)) _) ⟨?_, fun i hi hig hn => ?_⟩ ho
  · rw [World.size_setCell, World.size_setCell]; exact h.keep.1
  · rw [ho i (Nat.ne_of_lt hi)]; exact h.keep.2 i hi hig hn
set_option maxRecDepth 100000 in
set_option maxHeartbeats 40000000 in
theorem rtree_calls : ∀ (m : Nat) (d : Int) (n g : Nat) (l : List UInt8) (b : Bool) (w : World), m ≤ 33 → d = (m : Int) - 1 → IsR w g l b → n ≤ g →
    Calls Try.prog 50 #[.pointer (some ⟨g, 0, none⟩), .int .i64 d] w fun e w' => ∃ k : Kd2, e = .returned (kv k) ∧ k.1 = (readT m l b).1.toS ∧ Ft w' (fun j => w.heap.size ≤ j) k ∧ IsR w' g (readT m l b).2.1 (readT m l b).2.2 ∧ Below n w w' ∧ KeepBut w w' g none
  | 0, d, n, g, l, b, w, hm, hd, h, hn => by
    subst hd
    have h0 : RdI n w (w.alloc (.cells #[.bool false, .slice none 0 0] 24)) g l b :=
      ⟨blk_alloc h _, (Below.refl n w).alloc (Nat.le_trans hn (Nat.le_of_lt (blk_lt h))) _, keep_alloc (KeepBut.refl w g none) _, blk_new _ _, blk_lt h, hn⟩
    have HI := Lib.hid h0
    have c0 := cell0 h0.at_
    have c1 := cell1 h0.at_
    have cf := free2 h0.at_
    have o0 := cell0 (h0.bad true).out
    have o1 := cell1 (h0.bad true).out
    have of := free2 (h0.bad true).out
    have hu24 := Try.underlying24
    have hu22 := Try.underlying22
    have hu73 := Try.underlying73
    clear h h0
    cases b
    all_goals
      go_enter Try.func50, Try.ntmps50
      go_wp2_with fail
      refine rtree_out (⟨false, []⟩, none, 0) (HI.out.bad true) rfl ?_
      intro W' h1 h2 h3 h4
      exact ⟨_, rfl, rfl, Ft.leaf _ _ _, h1, h2, h3⟩
  | m + 1, d, n, g, l, b, w, hm, hd, h, hn => by
    obtain rfl : d = (m : Int) := by omega
    clear hd
    have h0 : RdI n w (w.alloc (.cells #[.bool false, .slice none 0 0] 24)) g l b :=
      ⟨blk_alloc h _, (Below.refl n w).alloc (Nat.le_trans hn (Nat.le_of_lt (blk_lt h))) _, keep_alloc (KeepBut.refl w g none) _, blk_new _ _, blk_lt h, hn⟩
    have HI := Lib.hid h0
    have HM : Hid (m ≤ 33) := Lib.hid (by omega)
    have hu24 := Try.underlying24
    have hu22 := Try.underlying22
    have hu73 := Try.underlying73
    have hw : IntKind.i64.wrap ((m : Int) - 1) = (m : Int) - 1 := by rw [IntKind.wrap_i64]; omega
    have hlt : decide ((m : Int) < 0) = false := decide_eq_false (by omega)
    clear h h0 hm hn
    have c0 := cell0 HI.out.at_
    have c1 := cell1 HI.out.at_
    have cf := free2 HI.out.at_
    cases b
    · go_enter Try.func50, Try.ntmps50
      go_wp2_with fail
      refine (rtake_calls 49 g l false _ HI.out.at_).mono ?_
      rintro e w1 ⟨rfl, h1, h2, h3⟩
      obtain ⟨hit, r1, hr49⟩ : ∃ hit r, take1 49 l = (hit, r) := ⟨_, _, rfl⟩
      rw [hr49] at h1 ⊢
      have HI1 := Lib.hid (HI.out.call h1 h2 (h3 n HI.out.le HI.out.size))
      have HR49 := Lib.hid hr49
      clear h1 h2 h3 hr49
      clear c0 c1 cf
      have c0 := cell0 HI1.out.at_
      have c1 := cell1 HI1.out.at_
      have cf := free2 HI1.out.at_
      have o0 := cell0 HI1.out.out
      have o1 := cell1 HI1.out.out
      have of := free2 HI1.out.out
      cases hit
      · have e1 := take1_false HR49.out
        subst e1
        go_wp2_with fail
        refine (rtake_calls 48 g r1 false _ HI1.out.at_).mono ?_
        rintro e w2 ⟨rfl, h1, h2, h3⟩
        obtain ⟨hit, r2, hr48⟩ : ∃ hit r, take1 48 r1 = (hit, r) := ⟨_, _, rfl⟩
        rw [hr48] at h1 ⊢
        have HI2 := Lib.hid (HI1.out.call h1 h2 (h3 n HI1.out.le HI1.out.size))
        have HR48 := Lib.hid hr48
        clear h1 h2 h3 hr48
        clear c0 c1 cf o0 o1 of
        have c0 := cell0 HI2.out.at_
        have c1 := cell1 HI2.out.at_
        have cf := free2 HI2.out.at_
        have o0 := cell0 HI2.out.out
        have o1 := cell1 HI2.out.out
        have of := free2 HI2.out.out
        cases hit
        · have e2 := take1_false HR48.out
          subst e2
          go_wp2_with fail
          refine (rtake_calls 40 g r2 false _ HI2.out.at_).mono ?_
          rintro e w3 ⟨rfl, h1, h2, h3⟩
          obtain ⟨hit, r3, hr40⟩ : ∃ hit r, take1 40 r2 = (hit, r) := ⟨_, _, rfl⟩
          rw [hr40] at h1 ⊢
          have HI3 := Lib.hid (HI2.out.call h1 h2 (h3 n HI2.out.le HI2.out.size))
          have HR40 := Lib.hid hr40
          clear h1 h2 h3 hr40
          clear c0 c1 cf o0 o1 of
          cases hit
          · have e3 := take1_false HR40.out
            subst e3
            have c0 := cell0 HI3.out.at_
            have c1 := cell1 HI3.out.at_
            have cf := free2 HI3.out.at_
            have o0 := cell0 (HI3.out.bad true).out
            have o1 := cell1 (HI3.out.bad true).out
            have of := free2 (HI3.out.bad true).out
            go_wp2_with fail
            refine rtree_out (⟨false, []⟩, none, 0) (HI3.out.bad true) rfl ?_
            intro W' h1 h2 h3 h4
            have hT : readT (m + 1) r3 false = (.leaf false, r3, true) := by simp [readT, HR49.out, HR48.out, HR40.out]
            rw [hT]
            exact ⟨_, rfl, rfl, Ft.leaf _ _ _, h1, h2, h3⟩
          · go_wp2_with fail
            refine (rtree_calls m ((m : Int) - 1) n g r3 false _ HM.out rfl HI3.out.at_ HI3.out.le).mono ?_
            obtain ⟨ta, la, ba, hra⟩ : ∃ ta la ba, readT m r3 false = (ta, la, ba) := ⟨_, _, _, rfl⟩
            rw [hra]
            rintro e w4 ⟨ka, rfl, hka, fa, h1, h2, h3⟩
            dsimp only at hka h1
            have HI4 := Lib.hid (HI3.out.call h1 h3 h2)
            have HRA := Lib.hid hra
            have HKA := Lib.hid hka
            have FA4 : Hid (Ft w4 (fun j => w.heap.size < j) ka) := Lib.hid (fa.mono (fun j hj => Nat.lt_of_lt_of_le (Array.getElem?_eq_some_iff.1 HI3.out.out).1 hj))
            clear h1 h2 h3 hra hka fa
            have hI5 := HI4.out.step ((Below.refl _ _).alloc (Nat.le_refl _) (.cells #[.bool ka.1.f0, .slice ka.2.1 ka.1.f1.length ka.2.2] 24))
            have HI5 := Lib.hid hI5
            have G5 := Lib.hid (blk_new w4 (.cells #[.bool ka.1.f0, .slice ka.2.1 ka.1.f1.length ka.2.2] 24))
            have FA5 := Lib.hid (FA4.out.below ((Below.refl _ _).alloc (Nat.le_refl _) (.cells #[.bool ka.1.f0, .slice ka.2.1 ka.1.f1.length ka.2.2] 24)))
            have c0 := cell0 hI5.at_
            have c1 := cell1 hI5.at_
            have cf := free2 hI5.at_
            have NE4 : Hid (g ≠ w4.heap.size) := Lib.hid (Nat.ne_of_lt (Nat.lt_of_lt_of_le HI4.out.lt HI4.out.big))
            have NEW : Hid (∀ j, w.heap.size < j → j ≠ g) := Lib.hid (fun j hj => Nat.ne_of_gt (Nat.lt_trans HI4.out.lt hj))
            clear hI5
            cases ba
            case' true =>
              go_wp2_with fail
              obtain ⟨w6, hw6⟩ : ∃ W, (w4.alloc (.cells #[.bool ka.1.f0, .slice ka.2.1 ka.1.f1.length ka.2.2] 24)).setCell ⟨g, 1, none⟩ (.bool true) = W := ⟨_, rfl⟩
              rw [hw6]
              obtain ⟨ly, bd, hsa⟩ : ∃ ly bd, sepT 44 la true = (ly, bd) := ⟨_, _, rfl⟩
              have HI6 : Hid (RdI n w w6 g ly bd) := Lib.hid (by cases hsa; rw [← hw6]; exact HI5.out.bad true)
              have G6 : Hid (w6.heap[w4.heap.size]? = some (.cells #[.bool ka.1.f0, .slice ka.2.1 ka.1.f1.length ka.2.2] 24 (0, 0))) := Lib.hid (by rw [← hw6]; exact (set_other (Ne.symm NE4.out)).trans G5.out)
              have FA6 : Hid (Ft w6 (fun j => w.heap.size < j) ka) := Lib.hid (by rw [← hw6]; exact FA5.out.but ((KeepBut.refl _ g none).set_ _ _) NEW.out)
              have HSA := Lib.hid hsa
              clear hw6 hsa c0 c1 cf HI5 G5 FA5
            case' false =>
              go_wp2_with fail
              refine (rtake_calls 44 g la false _ HI5.out.at_).mono ?_
              rintro e w5 ⟨rfl, h1, h2, h3⟩
              obtain ⟨hit, r4, hr4⟩ : ∃ hit r, take1 44 la = (hit, r) := ⟨_, _, rfl⟩
              rw [hr4] at h1 ⊢
              have hI5 := HI5.out.call h1 h2 (h3 n HI5.out.le HI5.out.size)
              have HI55 := Lib.hid hI5
              have H2 := Lib.hid h2
              clear c0 c1 cf h1 h2 h3
              have c0 := cell0 hI5.at_
              have c1 := cell1 hI5.at_
              have cf := free2 hI5.at_
              clear hI5
              go_wp2_with fail
              obtain ⟨w6, hw6⟩ : ∃ W, w5.setCell ⟨g, 1, none⟩ (.bool !hit) = W := ⟨_, rfl⟩
              rw [hw6]
              obtain ⟨ly, bd, hsa⟩ : ∃ ly bd, sepT 44 la false = (ly, bd) := ⟨_, _, rfl⟩
              have HI6 : Hid (RdI n w w6 g ly bd) := Lib.hid (by simp only [sepT, hr4] at hsa; cases hsa; rw [← hw6]; exact HI55.out.bad _)
              have G6 : Hid (w6.heap[w4.heap.size]? = some (.cells #[.bool ka.1.f0, .slice ka.2.1 ka.1.f1.length ka.2.2] 24 (0, 0))) := Lib.hid (by rw [← hw6]; exact (set_other (Ne.symm NE4.out)).trans (H2.out.blk G5.out (Ne.symm NE4.out) (by simp)))
              have FA6 : Hid (Ft w6 (fun j => w.heap.size < j) ka) := Lib.hid (by rw [← hw6]; exact FA5.out.but (H2.out.set_ _ _) NEW.out)
              have HSA := Lib.hid hsa
              clear hw6 hsa hr4 c0 c1 cf HI5 G5 FA5 HI55 H2
            all_goals
              refine (rtree_calls m ((m : Int) - 1) n g ly bd _ HM.out rfl HI6.out.at_ HI6.out.le).mono ?_
              obtain ⟨tb, lb, bb, hrb⟩ : ∃ tb lb bb, readT m ly bd = (tb, lb, bb) := ⟨_, _, _, rfl⟩
              rw [hrb]
              rintro e w7 ⟨kb, rfl, hkb, fb, h1, h2, h3⟩
              dsimp only at hkb h1
              have HI7 := Lib.hid (HI6.out.call h1 h3 h2)
              have HRB := Lib.hid hrb
              have HKB := Lib.hid hkb
              have FA7 := Lib.hid (FA6.out.but h3 NEW.out)
              have LT7 : Hid (w4.heap.size < w7.heap.size) := Lib.hid (Nat.lt_of_lt_of_le (Array.getElem?_eq_some_iff.1 G6.out).1 h3.1)
              have FB7 : Hid (Ft w7 (fun j => w.heap.size < j) kb) := Lib.hid (fb.mono (fun j hj => Nat.lt_of_lt_of_le (Array.getElem?_eq_some_iff.1 HI6.out.out).1 hj))
              have G7 := Lib.hid (h3.blk G6.out (Ne.symm NE4.out) (by simp))
              clear h1 h2 h3 hrb hkb fb
              have hI8 := HI7.out.step ((Below.refl _ _).alloc (Nat.le_refl _) (.cells #[.bool kb.1.f0, .slice kb.2.1 kb.1.f1.length kb.2.2] 24))
              have HI8 := Lib.hid hI8
              have GA8 := Lib.hid (blk_alloc G7.out (.cells #[.bool kb.1.f0, .slice kb.2.1 kb.1.f1.length kb.2.2] 24))
              have GB8 := Lib.hid (blk_new w7 (.cells #[.bool kb.1.f0, .slice kb.2.1 kb.1.f1.length kb.2.2] 24))
              have FA8 := Lib.hid (FA7.out.below ((Below.refl _ _).alloc (Nat.le_refl _) (.cells #[.bool kb.1.f0, .slice kb.2.1 kb.1.f1.length kb.2.2] 24)))
              have FB8 := Lib.hid (FB7.out.below ((Below.refl _ _).alloc (Nat.le_refl _) (.cells #[.bool kb.1.f0, .slice kb.2.1 kb.1.f1.length kb.2.2] 24)))
              have LT8 : Hid ((w7.alloc (.cells #[.bool kb.1.f0, .slice kb.2.1 kb.1.f1.length kb.2.2] 24)).heap.size = w7.heap.size + 1) := Lib.hid (World.size_alloc _ _)
              have NE7 : Hid (g ≠ w7.heap.size) := Lib.hid (Nat.ne_of_lt (Nat.lt_of_lt_of_le HI7.out.lt HI7.out.big))
              have c0 := cell0 hI8.at_
              have c1 := cell1 hI8.at_
              have cf := free2 hI8.at_
              have n1 := NE4.out
              have n2 := NE7.out
              have n3 := Ne.symm NE4.out
              have n4 := Ne.symm NE7.out
              clear hI8 HI7 G7 FA7 FB7
              obtain ⟨lz, bz, hsb⟩ : ∃ lz bz, sepT 41 lb bb = (lz, bz) := ⟨_, _, rfl⟩
              have HSB := Lib.hid hsb
              cases bb
              · clear hsb
                go_wp2_with fail
                refine (rtake_calls 41 g lb false _ HI8.out.at_).mono ?_
                rintro e w9 ⟨rfl, h1, h2, h3⟩
                obtain ⟨hit, r5, hr5⟩ : ∃ hit r, take1 41 lb = (hit, r) := ⟨_, _, rfl⟩
                rw [hr5] at h1 ⊢
                have hI9 := HI8.out.call h1 h2 (h3 n HI8.out.le HI8.out.size)
                have HIX : Hid (RdI n w (w9.setCell ⟨g, 1, none⟩ (.bool !hit)) g lz bz) := Lib.hid (by have hsb := HSB.out; simp only [sepT, hr5] at hsb; cases hsb; exact hI9.bad _)
                have GA9 := h2.blk GA8.out (Ne.symm NE4.out) (by simp)
                have GB9 := h2.blk GB8.out (Ne.symm NE7.out) (by simp)
                have GAX : Hid ((w9.setCell ⟨g, 1, none⟩ (.bool !hit)).heap[w4.heap.size]? = _) := Lib.hid ((set_other (Ne.symm NE4.out)).trans GA9)
                have GBX : Hid ((w9.setCell ⟨g, 1, none⟩ (.bool !hit)).heap[w7.heap.size]? = _) := Lib.hid ((set_other (Ne.symm NE7.out)).trans GB9)
                have FAX : Hid (Ft (w9.setCell ⟨g, 1, none⟩ (.bool !hit)) (fun j => w.heap.size < j) ka) := Lib.hid (FA8.out.but (h2.set_ _ _) NEW.out)
                have FBX : Hid (Ft (w9.setCell ⟨g, 1, none⟩ (.bool !hit)) (fun j => w.heap.size < j) kb) := Lib.hid (FB8.out.but (h2.set_ _ _) NEW.out)
                have SZX : Hid ((w9.setCell ⟨g, 1, none⟩ (.bool !hit)).heap.size = w9.heap.size) := Lib.hid (World.size_setCell _ _ _)
                clear c0 c1 cf
                have a2 := cell0 GA9
                have a3 := cell1 GA9
                have b2 := cell0 GB9
                have b3 := cell1 GB9
                have c0 := cell0 hI9.at_
                have c1 := cell1 hI9.at_
                have cf := free2 hI9.at_
                have LT9 := Lib.hid h2.1
                clear h1 h2 h3 hI9 GA9 GB9 hr5
                have a0 := cell0 GAX.out
                have a1 := cell1 GAX.out
                have b0 := cell0 GBX.out
                have b1 := cell1 GBX.out
                have o0 := (fun ob => cell0 (HIX.out.step ((Below.refl _ _).alloc (Nat.le_refl _) ob)).out)
                have o1 := (fun ob => cell1 (HIX.out.step ((Below.refl _ _).alloc (Nat.le_refl _) ob)).out)
                have of := (fun ob => free2 (HIX.out.step ((Below.refl _ _).alloc (Nat.le_refl _) ob)).out)
                go_wp2_with fail
                refine rtree_out (⟨false, [ka.1, kb.1]⟩, some ⟨w9.heap.size, 0, none⟩, 2) (HIX.out.step ((Below.refl _ _).alloc (Nat.le_refl _) (.cells #[.bool ka.1.f0, .slice ka.2.1 ka.1.f1.length ka.2.2, .bool kb.1.f0, .slice kb.2.1 kb.1.f1.length kb.2.2] 24))) rfl ?_
                intro W' h1 h2 h3 h4
                have hlw : w.heap.size < w9.heap.size := by have := (Array.getElem?_eq_some_iff.1 HI8.out.out).1; have := LT9.out; omega
                have hrow : W'.heap[w9.heap.size]? = some (.cells #[.bool ka.1.f0, .slice ka.2.1 ka.1.f1.length ka.2.2, .bool kb.1.f0, .slice kb.2.1 kb.1.f1.length kb.2.2] 24 (0, 0)) := (h4 _ (Nat.ne_of_gt hlw)).trans (by rw [← SZX.out]; exact blk_new _ _)
                have hT : readT (m + 1) r2 false = (.node ta tb, lz, bz) := by simp [readT, HR49.out, HR48.out, HR40.out, HRA.out, HSA.out, HRB.out, HSB.out]
                rw [hT]
                refine ⟨_, rfl, by rw [HKA.out, HKB.out]; rfl, ?_, h1, h2, h3⟩
                have ma := ((FAX.out.below ((Below.refl _ _).alloc (Nat.le_refl _) (.cells #[.bool ka.1.f0, .slice ka.2.1 ka.1.f1.length ka.2.2, .bool kb.1.f0, .slice kb.2.1 kb.1.f1.length kb.2.2] 24))).move (W' := W') (fun j hj => h4 j (Nat.ne_of_gt hj))).mono (fun j (hj : w.heap.size < j) => Nat.le_of_lt hj)
                have mb := ((FBX.out.below ((Below.refl _ _).alloc (Nat.le_refl _) (.cells #[.bool ka.1.f0, .slice ka.2.1 ka.1.f1.length ka.2.2, .bool kb.1.f0, .slice kb.2.1 kb.1.f1.length kb.2.2] 24))).move (W' := W') (fun j hj => h4 j (Nat.ne_of_gt hj))).mono (fun j (hj : w.heap.size < j) => Nat.le_of_lt hj)
                exact Ft.two ma mb (Nat.le_of_lt hlw) false hrow
              · have HIX : Hid (RdI n w ((w7.alloc (.cells #[.bool kb.1.f0, .slice kb.2.1 kb.1.f1.length kb.2.2] 24)).setCell ⟨g, 1, none⟩ (.bool true)) g lz bz) := Lib.hid (by cases hsb; exact HI8.out.bad true)
                have GAX : Hid (((w7.alloc (.cells #[.bool kb.1.f0, .slice kb.2.1 kb.1.f1.length kb.2.2] 24)).setCell ⟨g, 1, none⟩ (.bool true)).heap[w4.heap.size]? = _) := Lib.hid ((set_other (Ne.symm NE4.out)).trans GA8.out)
                have GBX : Hid (((w7.alloc (.cells #[.bool kb.1.f0, .slice kb.2.1 kb.1.f1.length kb.2.2] 24)).setCell ⟨g, 1, none⟩ (.bool true)).heap[w7.heap.size]? = _) := Lib.hid ((set_other (Ne.symm NE7.out)).trans GB8.out)
                have FAX : Hid (Ft ((w7.alloc (.cells #[.bool kb.1.f0, .slice kb.2.1 kb.1.f1.length kb.2.2] 24)).setCell ⟨g, 1, none⟩ (.bool true)) (fun j => w.heap.size < j) ka) := Lib.hid (FA8.out.but ((KeepBut.refl _ g none).set_ _ _) NEW.out)
                have FBX : Hid (Ft ((w7.alloc (.cells #[.bool kb.1.f0, .slice kb.2.1 kb.1.f1.length kb.2.2] 24)).setCell ⟨g, 1, none⟩ (.bool true)) (fun j => w.heap.size < j) kb) := Lib.hid (FB8.out.but ((KeepBut.refl _ g none).set_ _ _) NEW.out)
                have SZX : Hid (((w7.alloc (.cells #[.bool kb.1.f0, .slice kb.2.1 kb.1.f1.length kb.2.2] 24)).setCell ⟨g, 1, none⟩ (.bool true)).heap.size = w7.heap.size + 1) := Lib.hid (by rw [World.size_setCell, World.size_alloc])
                have a2 := cell0 GA8.out
                have a3 := cell1 GA8.out
                have b2 := cell0 GB8.out
                have b3 := cell1 GB8.out
                clear hsb
                have a0 := cell0 GAX.out
                have a1 := cell1 GAX.out
                have b0 := cell0 GBX.out
                have b1 := cell1 GBX.out
                have o0 := (fun ob => cell0 (HIX.out.step ((Below.refl _ _).alloc (Nat.le_refl _) ob)).out)
                have o1 := (fun ob => cell1 (HIX.out.step ((Below.refl _ _).alloc (Nat.le_refl _) ob)).out)
                have of := (fun ob => free2 (HIX.out.step ((Below.refl _ _).alloc (Nat.le_refl _) ob)).out)
                go_wp2_with fail
                refine rtree_out (⟨false, [ka.1, kb.1]⟩, some ⟨(w7.heap.size + 1), 0, none⟩, 2) (HIX.out.step ((Below.refl _ _).alloc (Nat.le_refl _) (.cells #[.bool ka.1.f0, .slice ka.2.1 ka.1.f1.length ka.2.2, .bool kb.1.f0, .slice kb.2.1 kb.1.f1.length kb.2.2] 24))) rfl ?_
                intro W' h1 h2 h3 h4
                have hlw : w.heap.size < (w7.heap.size + 1) := by have := (Array.getElem?_eq_some_iff.1 HI8.out.out).1; have := LT8.out; omega
                have hrow : W'.heap[(w7.heap.size + 1)]? = some (.cells #[.bool ka.1.f0, .slice ka.2.1 ka.1.f1.length ka.2.2, .bool kb.1.f0, .slice kb.2.1 kb.1.f1.length kb.2.2] 24 (0, 0)) := (h4 _ (Nat.ne_of_gt hlw)).trans (by rw [← SZX.out]; exact blk_new _ _)
                have hT : readT (m + 1) r2 false = (.node ta tb, lz, bz) := by simp [readT, HR49.out, HR48.out, HR40.out, HRA.out, HSA.out, HRB.out, HSB.out]
                rw [hT]
                refine ⟨_, rfl, by rw [HKA.out, HKB.out]; rfl, ?_, h1, h2, h3⟩
                have ma := ((FAX.out.below ((Below.refl _ _).alloc (Nat.le_refl _) (.cells #[.bool ka.1.f0, .slice ka.2.1 ka.1.f1.length ka.2.2, .bool kb.1.f0, .slice kb.2.1 kb.1.f1.length kb.2.2] 24))).move (W' := W') (fun j hj => h4 j (Nat.ne_of_gt hj))).mono (fun j (hj : w.heap.size < j) => Nat.le_of_lt hj)
                have mb := ((FBX.out.below ((Below.refl _ _).alloc (Nat.le_refl _) (.cells #[.bool ka.1.f0, .slice ka.2.1 ka.1.f1.length ka.2.2, .bool kb.1.f0, .slice kb.2.1 kb.1.f1.length kb.2.2] 24))).move (W' := W') (fun j hj => h4 j (Nat.ne_of_gt hj))).mono (fun j (hj : w.heap.size < j) => Nat.le_of_lt hj)
                exact Ft.two ma mb (Nat.le_of_lt hlw) false hrow
        · go_wp2_with fail
          refine rtree_out (⟨false, []⟩, none, 0) HI2.out rfl ?_
          intro W' h1 h2 h3 h4
          have hT : readT (m + 1) r1 false = (.leaf false, r2, false) := by simp [readT, HR49.out, HR48.out]
          rw [hT]
          exact ⟨_, rfl, rfl, Ft.leaf _ _ _, h1, h2, h3⟩
      · go_wp2_with fail
        refine rtree_out (⟨true, []⟩, none, 0) HI1.out rfl ?_
        intro W' h1 h2 h3 h4
        have hT : readT (m + 1) l false = (.leaf true, r1, false) := by simp [readT, HR49.out]
        rw [hT]
        exact ⟨_, rfl, rfl, Ft.leaf _ _ _, h1, h2, h3⟩
    · have o0 := cell0 (HI.out.bad true).out
      have o1 := cell1 (HI.out.bad true).out
      have of := free2 (HI.out.bad true).out
      go_enter Try.func50, Try.ntmps50
      go_wp2_with fail
      refine rtree_out (⟨false, []⟩, none, 0) (HI.out.bad true) rfl ?_
      intro W' h1 h2 h3 h4
      exact ⟨_, rfl, rfl, Ft.leaf _ _ _, h1, h2, h3⟩
end Go.Proofs.Ytlhaofbncoijfaa.HandF
namespace Go.Proofs.Ytlhaofbncoijfaa.HandF
set_option linter.unusedVariables false
set_option linter.unusedSimpArgs false
open Go.RowKit Go.Proofs.Ytlhaofbncoijfaa.X Go.Proofs.Ytlhaofbncoijfaa.Tree Go.Proofs.Ytlhaofbncoijfaa.Blocks
open Go.Proofs.YtlhaofbncoijfaaW.PrintWords Go.Proofs.YtlhaofbncoijfaaW.PrintLast Go.Proofs.YtlhaofbncoijfaaW.PrintMore
def box24' (W : World) (g : Nat) (k : Kd2) : Prop := W.heap[g]? = some (.cells #[.bool k.1.f0, .slice k.2.1 k.1.f1.length k.2.2] 24 (0, 0))
theorem Ft.len0 {W : World} {ok : Nat → Prop} {k : Kd2} (h : Ft W ok k) : k.1.f1.length ≤ k.2.2 := h.1
/-- What Parse keeps: the out, the reader. -/
structure PaR (w W : World) (l : List UInt8) (b : Bool) : Prop where
  below : Below w.heap.size w W
  out : W.heap[w.heap.size]? = some (.cells #[.bool false, .slice none 0 0] 24 (0, 0))
  rd : IsR W (w.heap.size + 1) l b
theorem PaR.step {w W W' : World} {l : List UInt8} {b : Bool} (h : PaR w W l b) (hb : Below W.heap.size W W') : PaR w W' l b :=
  ⟨h.below.trans (hb.mono h.below.size), blk_below h.out hb, blk_below h.rd hb⟩
theorem PaR.fin {w W : World} {l : List UInt8} {b : Bool} (h : PaR w W l b) (u v : Value) : Below w.heap.size w ((W.setCell ⟨w.heap.size, 0, none⟩ u).setCell ⟨w.heap.size, 1, none⟩ v) := (h.below.setCell (Nat.le_refl _) _).setCell (Nat.le_refl _) _
theorem PaR.call {w W W' : World} {l l' : List UInt8} {b b' : Bool} (h : PaR w W l b) (h1 : IsR W' (w.heap.size + 1) l' b') (h2 : Below w.heap.size W W') (h3 : KeepBut W W' (w.heap.size + 1) none) : PaR w W' l' b' :=
  ⟨h.below.trans h2, h3.blk h.out (by omega) (by simp), h1⟩
theorem PaR.mk0 (w : World) (l : List UInt8) : PaR w ((w.alloc (.cells #[.bool false, .slice none 0 0] 24)).alloc (.cells #[.string ⟨l.toArray⟩, .bool false] 73)) l false := by
  refine ⟨((Below.refl _ _).alloc (Nat.le_refl _) _).alloc (by simp) _, blk_alloc (blk_new _ _) _, ?_⟩
  have := blk_new (w.alloc (.cells #[.bool false, .slice none 0 0] 24)) (.cells #[.string ⟨l.toArray⟩, .bool false] 73)
  rwa [World.size_alloc] at this
theorem Right17p (k : Kd2) (t : T) (w : World) (hk : k.1 = t.toS) (ok : Nat → Prop) (h : Ft w ok k) :
    Calls Try.prog 17 #[.agg #[.bool k.1.f0, .slice k.2.1 k.1.f1.length k.2.2]] w fun e w' => e = .returned (.bool (decide t.right)) ∧ Below w.heap.size w w' := by
  have := right_calls k w ⟨h.1, h.now⟩
  rwa [hk, right_T, ← hk] at this
set_option maxRecDepth 100000 in
set_option maxHeartbeats 40000000 in
theorem Parse30_bad (l : List UInt8) (w : World) (t : T) (lr : List UInt8) (bd : Bool) (hx : readT 33 l false = (t, lr, bd)) (hb : bd = true) :
    Calls Try.prog 30 #[.string ⟨l.toArray⟩] w fun e w' => ∃ k : Kd2, e = .returned (.tuple #[kv k, .int .i64 40]) ∧ k.1 = ⟨false, []⟩ ∧ Ft w' (fun j => w.heap.size ≤ j) k ∧ Below w.heap.size w w' := by
  have HX := Lib.hid hx
  clear hx
  have hu24 := Try.underlying24
  have hu22 := Try.underlying22
  have hu73 := Try.underlying73
  have hu26 := Try.underlying26
  go_enter Try.func30, Try.ntmps30
  go_wp2_with fail
  have h0 := PaR.mk0 w l
  obtain ⟨W0, hW0⟩ : ∃ W0, (w.alloc (.cells #[.bool false, .slice none 0 0] 24)).alloc (.cells #[.string ⟨l.toArray⟩, .bool false] 73) = W0 := ⟨_, rfl⟩
  rw [hW0] at h0 ⊢
  have HI := Lib.hid h0
  clear h0 hW0
  refine (rtree_calls 33 32 w.heap.size (w.heap.size + 1) l false W0 (Nat.le_refl _) rfl HI.out.rd (Nat.le_succ _)).mono ?_
  rw [HX.out]
  rintro e w1 ⟨k, rfl, hk, fk, h1, h2, h3⟩
  dsimp only at hk h1
  have HK := Lib.hid hk
  have HI1 := Lib.hid (HI.out.call h1 h2 h3)
  have FK : Hid (Ft w1 (fun j => w.heap.size < j) k) := Lib.hid (fk.mono (fun j hj => Nat.lt_of_lt_of_le (Array.getElem?_eq_some_iff.1 HI.out.out).1 hj))
  clear hk fk h1 h2 h3
  have hb2 : Below w1.heap.size w1 (w1.alloc (.cells #[.bool k.1.f0, .slice k.2.1 k.1.f1.length k.2.2] 24)) := (Below.refl _ _).alloc (Nat.le_refl _) _
  have g2 : box24' (w1.alloc (.cells #[.bool k.1.f0, .slice k.2.1 k.1.f1.length k.2.2] 24)) w1.heap.size k := blk_new _ _
  go_wp2_with fail
  obtain ⟨W2, hW2⟩ : ∃ W, w1.alloc (.cells #[.bool k.1.f0, .slice k.2.1 k.1.f1.length k.2.2] 24) = W := ⟨_, rfl⟩
  rw [hW2] at hb2 g2 ⊢
  have HI2 := Lib.hid (HI1.out.step hb2)
  have FK2 := Lib.hid (FK.out.below hb2)
  have G2 := Lib.hid g2
  have ID2 : Hid (PaR w W2.drew lr bd) := Lib.hid (HI2.out.step (W' := W2.drew) (Below.refl _ _).drew)
  have GD2 : Hid (box24' W2.drew w1.heap.size k) := G2
  have FD2 : Hid (Ft W2.drew (fun j => w.heap.size < j) k) := Lib.hid (FK2.out.below (W' := W2.drew) (Below.refl _ _).drew)
  clear hb2 g2 hW2
  subst hb
  have G9 := GD2
  have c0 : W2.drew.cell? ⟨w.heap.size + 1, 0, none⟩ = _ := cell0 ID2.out.rd
  have c1 : W2.drew.cell? ⟨w.heap.size + 1, 1, none⟩ = _ := cell1 ID2.out.rd
  have c2 : W2.drew.cell? ⟨w1.heap.size, 0, none⟩ = _ := cell0 GD2.out
  have c3 : W2.drew.cell? ⟨w1.heap.size, 1, none⟩ = _ := cell1 GD2.out
  have d0 := cell0 HI2.out.rd
  have d1 := cell1 HI2.out.rd
  have d2 := cell0 G2.out
  have d3 := cell1 G2.out
  first | (go_region_with (first | fail)) | fail
  all_goals clear c0 c1 c2 c3 d0 d1 d2 d3
  all_goals
    have n0 := cell0 HI2.out.out
    have m0 := cell1 HI2.out.out
    have f0 := free2 HI2.out.out
    have q0 := cell0 G9.out
    have q1 := cell1 G9.out
    go_wp2_with fail
    refine bodyPost_ret (results_ct rfl _ _ w.heap.size 24 _ (0, 0) _ rfl (set1 (set0 HI2.out.out)) hu24 rfl (by kernel_rfl)) rfl ?_
    exact ⟨(⟨false, []⟩, none, 0), rfl, rfl, Ft.leaf _ _ _, (HI2.out.fin _ _).drew⟩
set_option maxRecDepth 100000 in
set_option maxHeartbeats 40000000 in
theorem Parse30_rest (l : List UInt8) (w : World) (t : T) (lr : List UInt8) (bd : Bool) (hx : readT 33 l false = (t, lr, bd)) (hb : bd = false) (hl : lr ≠ []) :
    Calls Try.prog 30 #[.string ⟨l.toArray⟩] w fun e w' => ∃ k : Kd2, e = .returned (.tuple #[kv k, .int .i64 40]) ∧ k.1 = ⟨false, []⟩ ∧ Ft w' (fun j => w.heap.size ≤ j) k ∧ Below w.heap.size w w' := by
  have HX := Lib.hid hx
  clear hx
  have hu24 := Try.underlying24
  have hu22 := Try.underlying22
  have hu73 := Try.underlying73
  have hu26 := Try.underlying26
  go_enter Try.func30, Try.ntmps30
  go_wp2_with fail
  have h0 := PaR.mk0 w l
  obtain ⟨W0, hW0⟩ : ∃ W0, (w.alloc (.cells #[.bool false, .slice none 0 0] 24)).alloc (.cells #[.string ⟨l.toArray⟩, .bool false] 73) = W0 := ⟨_, rfl⟩
  rw [hW0] at h0 ⊢
  have HI := Lib.hid h0
  clear h0 hW0
  refine (rtree_calls 33 32 w.heap.size (w.heap.size + 1) l false W0 (Nat.le_refl _) rfl HI.out.rd (Nat.le_succ _)).mono ?_
  rw [HX.out]
  rintro e w1 ⟨k, rfl, hk, fk, h1, h2, h3⟩
  dsimp only at hk h1
  have HK := Lib.hid hk
  have HI1 := Lib.hid (HI.out.call h1 h2 h3)
  have FK : Hid (Ft w1 (fun j => w.heap.size < j) k) := Lib.hid (fk.mono (fun j hj => Nat.lt_of_lt_of_le (Array.getElem?_eq_some_iff.1 HI.out.out).1 hj))
  clear hk fk h1 h2 h3
  have hb2 : Below w1.heap.size w1 (w1.alloc (.cells #[.bool k.1.f0, .slice k.2.1 k.1.f1.length k.2.2] 24)) := (Below.refl _ _).alloc (Nat.le_refl _) _
  have g2 : box24' (w1.alloc (.cells #[.bool k.1.f0, .slice k.2.1 k.1.f1.length k.2.2] 24)) w1.heap.size k := blk_new _ _
  go_wp2_with fail
  obtain ⟨W2, hW2⟩ : ∃ W, w1.alloc (.cells #[.bool k.1.f0, .slice k.2.1 k.1.f1.length k.2.2] 24) = W := ⟨_, rfl⟩
  rw [hW2] at hb2 g2 ⊢
  have HI2 := Lib.hid (HI1.out.step hb2)
  have FK2 := Lib.hid (FK.out.below hb2)
  have G2 := Lib.hid g2
  have ID2 : Hid (PaR w W2.drew lr bd) := Lib.hid (HI2.out.step (W' := W2.drew) (Below.refl _ _).drew)
  have GD2 : Hid (box24' W2.drew w1.heap.size k) := G2
  have FD2 : Hid (Ft W2.drew (fun j => w.heap.size < j) k) := Lib.hid (FK2.out.below (W' := W2.drew) (Below.refl _ _).drew)
  clear hb2 g2 hW2
  subst hb
  have G9 := GD2
  have hne : ((⟨lr.toArray⟩ : ByteArray).toList == (⟨#[]⟩ : ByteArray).toList) = false := by rw [Lib.toList_data, Lib.toList_data]; simpa using hl
  have c0 : W2.drew.cell? ⟨w.heap.size + 1, 0, none⟩ = _ := cell0 ID2.out.rd
  have c1 : W2.drew.cell? ⟨w.heap.size + 1, 1, none⟩ = _ := cell1 ID2.out.rd
  have c2 : W2.drew.cell? ⟨w1.heap.size, 0, none⟩ = _ := cell0 GD2.out
  have c3 : W2.drew.cell? ⟨w1.heap.size, 1, none⟩ = _ := cell1 GD2.out
  have d0 := cell0 HI2.out.rd
  have d1 := cell1 HI2.out.rd
  have d2 := cell0 G2.out
  have d3 := cell1 G2.out
  first | (go_region_with (first | fail)) | fail
  all_goals clear c0 c1 c2 c3 d0 d1 d2 d3
  all_goals
    have n0 := cell0 HI2.out.out
    have m0 := cell1 HI2.out.out
    have f0 := free2 HI2.out.out
    have q0 := cell0 G9.out
    have q1 := cell1 G9.out
    go_wp2_with fail
    refine bodyPost_ret (results_ct rfl _ _ w.heap.size 24 _ (0, 0) _ rfl (set1 (set0 HI2.out.out)) hu24 rfl (by kernel_rfl)) rfl ?_
    exact ⟨(⟨false, []⟩, none, 0), rfl, rfl, Ft.leaf _ _ _, (HI2.out.fin _ _).drew⟩
set_option maxRecDepth 100000 in
set_option maxHeartbeats 40000000 in
theorem Parse30_wrong (l : List UInt8) (w : World) (t : T) (lr : List UInt8) (bd : Bool) (hx : readT 33 l false = (t, lr, bd)) (hb : bd = false) (hl : lr = []) (hr : ¬ t.right) :
    Calls Try.prog 30 #[.string ⟨l.toArray⟩] w fun e w' => ∃ k : Kd2, e = .returned (.tuple #[kv k, .int .i64 40]) ∧ k.1 = ⟨false, []⟩ ∧ Ft w' (fun j => w.heap.size ≤ j) k ∧ Below w.heap.size w w' := by
  have HX := Lib.hid hx
  clear hx
  have hu24 := Try.underlying24
  have hu22 := Try.underlying22
  have hu73 := Try.underlying73
  have hu26 := Try.underlying26
  go_enter Try.func30, Try.ntmps30
  go_wp2_with fail
  have h0 := PaR.mk0 w l
  obtain ⟨W0, hW0⟩ : ∃ W0, (w.alloc (.cells #[.bool false, .slice none 0 0] 24)).alloc (.cells #[.string ⟨l.toArray⟩, .bool false] 73) = W0 := ⟨_, rfl⟩
  rw [hW0] at h0 ⊢
  have HI := Lib.hid h0
  clear h0 hW0
  refine (rtree_calls 33 32 w.heap.size (w.heap.size + 1) l false W0 (Nat.le_refl _) rfl HI.out.rd (Nat.le_succ _)).mono ?_
  rw [HX.out]
  rintro e w1 ⟨k, rfl, hk, fk, h1, h2, h3⟩
  dsimp only at hk h1
  have HK := Lib.hid hk
  have HI1 := Lib.hid (HI.out.call h1 h2 h3)
  have FK : Hid (Ft w1 (fun j => w.heap.size < j) k) := Lib.hid (fk.mono (fun j hj => Nat.lt_of_lt_of_le (Array.getElem?_eq_some_iff.1 HI.out.out).1 hj))
  clear hk fk h1 h2 h3
  have hb2 : Below w1.heap.size w1 (w1.alloc (.cells #[.bool k.1.f0, .slice k.2.1 k.1.f1.length k.2.2] 24)) := (Below.refl _ _).alloc (Nat.le_refl _) _
  have g2 : box24' (w1.alloc (.cells #[.bool k.1.f0, .slice k.2.1 k.1.f1.length k.2.2] 24)) w1.heap.size k := blk_new _ _
  go_wp2_with fail
  obtain ⟨W2, hW2⟩ : ∃ W, w1.alloc (.cells #[.bool k.1.f0, .slice k.2.1 k.1.f1.length k.2.2] 24) = W := ⟨_, rfl⟩
  rw [hW2] at hb2 g2 ⊢
  have HI2 := Lib.hid (HI1.out.step hb2)
  have FK2 := Lib.hid (FK.out.below hb2)
  have G2 := Lib.hid g2
  have ID2 : Hid (PaR w W2.drew lr bd) := Lib.hid (HI2.out.step (W' := W2.drew) (Below.refl _ _).drew)
  have GD2 : Hid (box24' W2.drew w1.heap.size k) := G2
  have FD2 : Hid (Ft W2.drew (fun j => w.heap.size < j) k) := Lib.hid (FK2.out.below (W' := W2.drew) (Below.refl _ _).drew)
  clear hb2 g2 hW2
  subst hb hl
  have hne : ((⟨([] : List UInt8).toArray⟩ : ByteArray).toList == (⟨#[]⟩ : ByteArray).toList) = true := beq_self_eq_true _
  have RT : Hid (decide t.right = false) := Lib.hid (decide_eq_false hr)
  have c0 : W2.drew.cell? ⟨w.heap.size + 1, 0, none⟩ = _ := cell0 ID2.out.rd
  have c1 : W2.drew.cell? ⟨w.heap.size + 1, 1, none⟩ = _ := cell1 ID2.out.rd
  have c2 : W2.drew.cell? ⟨w1.heap.size, 0, none⟩ = _ := cell0 GD2.out
  have c3 : W2.drew.cell? ⟨w1.heap.size, 1, none⟩ = _ := cell1 GD2.out
  have d0 := cell0 HI2.out.rd
  have d1 := cell1 HI2.out.rd
  have d2 := cell0 G2.out
  have d3 := cell1 G2.out
  first | (go_region_with (first
    | (go_at_call 17; (with_reducible refine (Right17p k t _ HK.out _ FD2.out).mono ?_); rintro e w5 ⟨rfl, hb5⟩; have HI5 := Lib.hid (ID2.out.step hb5); have G9 : Hid (box24' w5 w1.heap.size k) := Lib.hid (blk_below GD2.out hb5); rw [RT.out]; clear hb5))) | fail
  all_goals clear c0 c1 c2 c3 d0 d1 d2 d3
  all_goals
    have n0 := cell0 HI5.out.out
    have m0 := cell1 HI5.out.out
    have f0 := free2 HI5.out.out
    have q0 := cell0 G9.out
    have q1 := cell1 G9.out
    go_wp2_with fail
    refine bodyPost_ret (results_ct rfl _ _ w.heap.size 24 _ (0, 0) _ rfl (set1 (set0 HI5.out.out)) hu24 rfl (by kernel_rfl)) rfl ?_
    exact ⟨(⟨false, []⟩, none, 0), rfl, rfl, Ft.leaf _ _ _, HI5.out.fin _ _⟩
theorem PaS {w w1 W : World} {lr : List UInt8} {bd : Bool} {k : Kd2} (h : PaR w W lr bd) (g : box24' W w1.heap.size k) : W.cell? ⟨w.heap.size + 1, 0, none⟩ = some (.string ⟨lr.toArray⟩) ∧ W.cell? ⟨w.heap.size + 1, 1, none⟩ = some (.bool bd) ∧ W.cell? ⟨w1.heap.size, 0, none⟩ = some (.bool k.1.f0) ∧ W.cell? ⟨w1.heap.size, 1, none⟩ = some (.slice k.2.1 k.1.f1.length k.2.2) :=
  ⟨cell0 h.rd, cell1 h.rd, cell0 g, cell1 g⟩
set_option maxRecDepth 100000 in
set_option maxHeartbeats 40000000 in
theorem Parse30_other (l : List UInt8) (w : World) (t : T) (lr : List UInt8) (bd : Bool) (hx : readT 33 l false = (t, lr, bd)) (hb : bd = false) (hl : lr = []) (hr : t.right) (he : T.eqb t t.norm = false) :
    Calls Try.prog 30 #[.string ⟨l.toArray⟩] w fun e w' => ∃ k : Kd2, e = .returned (.tuple #[kv k, .int .i64 40]) ∧ k.1 = ⟨false, []⟩ ∧ Ft w' (fun j => w.heap.size ≤ j) k ∧ Below w.heap.size w w' := by
  have HX := Lib.hid hx
  clear hx
  have hu24 := Try.underlying24
  have hu22 := Try.underlying22
  have hu73 := Try.underlying73
  have hu26 := Try.underlying26
  go_enter Try.func30, Try.ntmps30
  go_wp2_with fail
  have h0 := PaR.mk0 w l
  obtain ⟨W0, hW0⟩ : ∃ W0, (w.alloc (.cells #[.bool false, .slice none 0 0] 24)).alloc (.cells #[.string ⟨l.toArray⟩, .bool false] 73) = W0 := ⟨_, rfl⟩
  rw [hW0] at h0 ⊢
  have HI := Lib.hid h0
  clear h0 hW0
  refine (rtree_calls 33 32 w.heap.size (w.heap.size + 1) l false W0 (Nat.le_refl _) rfl HI.out.rd (Nat.le_succ _)).mono ?_
  rw [HX.out]
  rintro e w1 ⟨k, rfl, hk, fk, h1, h2, h3⟩
  dsimp only at hk h1
  have HK := Lib.hid hk
  have HI1 := Lib.hid (HI.out.call h1 h2 h3)
  have FK : Hid (Ft w1 (fun j => w.heap.size < j) k) := Lib.hid (fk.mono (fun j hj => Nat.lt_of_lt_of_le (Array.getElem?_eq_some_iff.1 HI.out.out).1 hj))
  clear hk fk h1 h2 h3
  have hb2 : Below w1.heap.size w1 (w1.alloc (.cells #[.bool k.1.f0, .slice k.2.1 k.1.f1.length k.2.2] 24)) := (Below.refl _ _).alloc (Nat.le_refl _) _
  have g2 : box24' (w1.alloc (.cells #[.bool k.1.f0, .slice k.2.1 k.1.f1.length k.2.2] 24)) w1.heap.size k := blk_new _ _
  go_wp2_with fail
  obtain ⟨W2, hW2⟩ : ∃ W, w1.alloc (.cells #[.bool k.1.f0, .slice k.2.1 k.1.f1.length k.2.2] 24) = W := ⟨_, rfl⟩
  rw [hW2] at hb2 g2 ⊢
  have HI2 := Lib.hid (HI1.out.step hb2)
  have FK2 := Lib.hid (FK.out.below hb2)
  have G2 := Lib.hid g2
  have ID2 : Hid (PaR w W2.drew lr bd) := Lib.hid (HI2.out.step (W' := W2.drew) (Below.refl _ _).drew)
  have GD2 : Hid (box24' W2.drew w1.heap.size k) := G2
  have FD2 : Hid (Ft W2.drew (fun j => w.heap.size < j) k) := Lib.hid (FK2.out.below (W' := W2.drew) (Below.refl _ _).drew)
  clear hb2 g2 hW2
  subst hb hl
  have hne : ((⟨([] : List UInt8).toArray⟩ : ByteArray).toList == (⟨#[]⟩ : ByteArray).toList) = true := beq_self_eq_true _
  have RT : Hid (decide t.right = true) := Lib.hid (decide_eq_true hr)
  have HE := Lib.hid he
  go_region_held3 (fun W => W.cell? ⟨w.heap.size + 1, 0, none⟩ = some (.string ⟨([] : List UInt8).toArray⟩) ∧ W.cell? ⟨w.heap.size + 1, 1, none⟩ = some (.bool false) ∧ W.cell? ⟨w1.heap.size, 0, none⟩ = some (.bool k.1.f0) ∧ W.cell? ⟨w1.heap.size, 1, none⟩ = some (.slice k.2.1 k.1.f1.length k.2.2))
    (with_reducible first | exact PaS ID2.out GD2.out | exact PaS HI2.out G2.out | exact PaS HI5.out G5.out | exact PaS HI6.out G6.out | exact PaS HI7.out G9.out)
    (first
      | (go_at_call 46; (with_reducible refine (equal_calls t t.norm k nk _ (fun _ => True) HK.out HNK.out F6T.out FN6.out).mono ?_); rintro e w7 ⟨rfl, hb7⟩; have HI7 := Lib.hid (HI6.out.step hb7); have G9 : Hid (box24' w7 w1.heap.size k) := Lib.hid (blk_below G6.out hb7); have F9 := Lib.hid (F6.out.below hb7); rw [HE.out]; clear hb7)
      | (go_at_call 36; (with_reducible refine (norm_calls k t _ HK.out (Ft.len0 F5.out) F5.out.now).mono ?_); rintro e w6 ⟨nk, rfl, hnk, fnk, hb6⟩; have HI6 := Lib.hid (HI5.out.step hb6); have G6 : Hid (box24' w6 w1.heap.size k) := Lib.hid (blk_below G5.out hb6); have F6 := Lib.hid (F5.out.below hb6); have F6T : Hid (Ft w6 (fun _ => True) k) := Lib.hid (F6.out.mono (fun _ _ => trivial)); have HNK := Lib.hid hnk; have FN6 : Hid (Ft w6 (fun _ => True) nk) := Lib.hid (fnk.mono (fun _ _ => trivial)); clear hnk fnk hb6)
      | (go_at_call 17; (with_reducible refine (Right17p k t _ HK.out _ FD2.out).mono ?_); rintro e w5 ⟨rfl, hb5⟩; have HI5 := Lib.hid (ID2.out.step hb5); have G5 : Hid (box24' w5 w1.heap.size k) := Lib.hid (blk_below GD2.out hb5); have F5 := Lib.hid (FD2.out.below hb5); rw [RT.out]; clear hb5))
  all_goals
    rename_i hHeld
    clear hHeld
  all_goals
    have n0 := cell0 HI7.out.out
    have m0 := cell1 HI7.out.out
    have f0 := free2 HI7.out.out
    have q0 := cell0 G9.out
    have q1 := cell1 G9.out
    go_wp2_with fail
    refine bodyPost_ret (results_ct rfl _ _ w.heap.size 24 _ (0, 0) _ rfl (set1 (set0 HI7.out.out)) hu24 rfl (by kernel_rfl)) rfl ?_
    exact ⟨(⟨false, []⟩, none, 0), rfl, rfl, Ft.leaf _ _ _, HI7.out.fin _ _⟩
set_option maxRecDepth 100000 in
set_option maxHeartbeats 40000000 in
theorem Parse30_good (l : List UInt8) (w : World) (t : T) (lr : List UInt8) (bd : Bool) (hx : readT 33 l false = (t, lr, bd)) (hb : bd = false) (hl : lr = []) (hr : t.right) (he : T.eqb t t.norm = true) :
    Calls Try.prog 30 #[.string ⟨l.toArray⟩] w fun e w' => ∃ k : Kd2, e = .returned (.tuple #[kv k, .int .i64 0]) ∧ k.1 = t.toS ∧ Ft w' (fun j => w.heap.size ≤ j) k ∧ Below w.heap.size w w' := by
  have HX := Lib.hid hx
  clear hx
  have hu24 := Try.underlying24
  have hu22 := Try.underlying22
  have hu73 := Try.underlying73
  have hu26 := Try.underlying26
  go_enter Try.func30, Try.ntmps30
  go_wp2_with fail
  have h0 := PaR.mk0 w l
  obtain ⟨W0, hW0⟩ : ∃ W0, (w.alloc (.cells #[.bool false, .slice none 0 0] 24)).alloc (.cells #[.string ⟨l.toArray⟩, .bool false] 73) = W0 := ⟨_, rfl⟩
  rw [hW0] at h0 ⊢
  have HI := Lib.hid h0
  clear h0 hW0
  refine (rtree_calls 33 32 w.heap.size (w.heap.size + 1) l false W0 (Nat.le_refl _) rfl HI.out.rd (Nat.le_succ _)).mono ?_
  rw [HX.out]
  rintro e w1 ⟨k, rfl, hk, fk, h1, h2, h3⟩
  dsimp only at hk h1
  have HK := Lib.hid hk
  have HI1 := Lib.hid (HI.out.call h1 h2 h3)
  have FK : Hid (Ft w1 (fun j => w.heap.size < j) k) := Lib.hid (fk.mono (fun j hj => Nat.lt_of_lt_of_le (Array.getElem?_eq_some_iff.1 HI.out.out).1 hj))
  clear hk fk h1 h2 h3
  have hb2 : Below w1.heap.size w1 (w1.alloc (.cells #[.bool k.1.f0, .slice k.2.1 k.1.f1.length k.2.2] 24)) := (Below.refl _ _).alloc (Nat.le_refl _) _
  have g2 : box24' (w1.alloc (.cells #[.bool k.1.f0, .slice k.2.1 k.1.f1.length k.2.2] 24)) w1.heap.size k := blk_new _ _
  go_wp2_with fail
  obtain ⟨W2, hW2⟩ : ∃ W, w1.alloc (.cells #[.bool k.1.f0, .slice k.2.1 k.1.f1.length k.2.2] 24) = W := ⟨_, rfl⟩
  rw [hW2] at hb2 g2 ⊢
  have HI2 := Lib.hid (HI1.out.step hb2)
  have FK2 := Lib.hid (FK.out.below hb2)
  have G2 := Lib.hid g2
  have ID2 : Hid (PaR w W2.drew lr bd) := Lib.hid (HI2.out.step (W' := W2.drew) (Below.refl _ _).drew)
  have GD2 : Hid (box24' W2.drew w1.heap.size k) := G2
  have FD2 : Hid (Ft W2.drew (fun j => w.heap.size < j) k) := Lib.hid (FK2.out.below (W' := W2.drew) (Below.refl _ _).drew)
  clear hb2 g2 hW2
  subst hb hl
  have hne : ((⟨([] : List UInt8).toArray⟩ : ByteArray).toList == (⟨#[]⟩ : ByteArray).toList) = true := beq_self_eq_true _
  have RT : Hid (decide t.right = true) := Lib.hid (decide_eq_true hr)
  have HE := Lib.hid he
  go_region_held3 (fun W => W.cell? ⟨w.heap.size + 1, 0, none⟩ = some (.string ⟨([] : List UInt8).toArray⟩) ∧ W.cell? ⟨w.heap.size + 1, 1, none⟩ = some (.bool false) ∧ W.cell? ⟨w1.heap.size, 0, none⟩ = some (.bool k.1.f0) ∧ W.cell? ⟨w1.heap.size, 1, none⟩ = some (.slice k.2.1 k.1.f1.length k.2.2))
    (with_reducible first | exact PaS ID2.out GD2.out | exact PaS HI2.out G2.out | exact PaS HI5.out G5.out | exact PaS HI6.out G6.out | exact PaS HI7.out G9.out)
    (first
      | (go_at_call 46; (with_reducible refine (equal_calls t t.norm k nk _ (fun _ => True) HK.out HNK.out F6T.out FN6.out).mono ?_); rintro e w7 ⟨rfl, hb7⟩; have HI7 := Lib.hid (HI6.out.step hb7); have G9 : Hid (box24' w7 w1.heap.size k) := Lib.hid (blk_below G6.out hb7); have F9 := Lib.hid (F6.out.below hb7); rw [HE.out]; clear hb7)
      | (go_at_call 36; (with_reducible refine (norm_calls k t _ HK.out (Ft.len0 F5.out) F5.out.now).mono ?_); rintro e w6 ⟨nk, rfl, hnk, fnk, hb6⟩; have HI6 := Lib.hid (HI5.out.step hb6); have G6 : Hid (box24' w6 w1.heap.size k) := Lib.hid (blk_below G5.out hb6); have F6 := Lib.hid (F5.out.below hb6); have F6T : Hid (Ft w6 (fun _ => True) k) := Lib.hid (F6.out.mono (fun _ _ => trivial)); have HNK := Lib.hid hnk; have FN6 : Hid (Ft w6 (fun _ => True) nk) := Lib.hid (fnk.mono (fun _ _ => trivial)); clear hnk fnk hb6)
      | (go_at_call 17; (with_reducible refine (Right17p k t _ HK.out _ FD2.out).mono ?_); rintro e w5 ⟨rfl, hb5⟩; have HI5 := Lib.hid (ID2.out.step hb5); have G5 : Hid (box24' w5 w1.heap.size k) := Lib.hid (blk_below GD2.out hb5); have F5 := Lib.hid (FD2.out.below hb5); rw [RT.out]; clear hb5))
  all_goals
    rename_i hHeld
    clear hHeld
  all_goals
    have n0 := cell0 HI7.out.out
    have m0 := cell1 HI7.out.out
    have f0 := free2 HI7.out.out
    have q0 := cell0 G9.out
    have q1 := cell1 G9.out
    go_wp2_with fail
    refine bodyPost_ret (results_ct rfl _ _ w.heap.size 24 _ (0, 0) _ rfl (set1 (set0 HI7.out.out)) hu24 rfl (by kernel_rfl)) rfl ?_
    refine ⟨k, rfl, HK.out, (F9.out.move (fun j (hj : w.heap.size < j) => ?_)).mono (fun j (hj : w.heap.size < j) => Nat.le_of_lt hj), HI7.out.fin _ _⟩
    rw [set_other (by simpa using Nat.ne_of_gt hj), set_other (by simpa using Nat.ne_of_gt hj)]
/-- What Parse hands back. -/
def parseOf (x : T × List UInt8 × Bool) : T × Int := if x.2.2 = false ∧ x.2.1 = [] ∧ x.1.right ∧ T.eqb x.1 x.1.norm = true then (x.1, 0) else (.leaf false, 40)
def ParseT (l : List UInt8) : T × Int := parseOf (readT 33 l false)
theorem parseOf_eq (t : T) (lr : List UInt8) (bd : Bool) : parseOf (t, lr, bd) = if bd = false ∧ lr = [] ∧ t.right ∧ T.eqb t t.norm = true then (t, 0) else (.leaf false, 40) := rfl
theorem Parse30 (l : List UInt8) (w : World) :
    Calls Try.prog 30 #[.string ⟨l.toArray⟩] w fun e w' => ∃ k : Kd2, e = .returned (.tuple #[kv k, .int .i64 (ParseT l).2]) ∧ k.1 = (ParseT l).1.toS ∧ Ft w' (fun j => w.heap.size ≤ j) k ∧ Below w.heap.size w w' := by
  obtain ⟨x, hx⟩ : ∃ x, readT 33 l false = x := ⟨_, rfl⟩
  obtain ⟨t, lr, bd⟩ := x
  have hP : ParseT l = if bd = false ∧ lr = [] ∧ t.right ∧ T.eqb t t.norm = true then (t, 0) else (.leaf false, 40) := (congrArg parseOf hx).trans (parseOf_eq t lr bd)
  rw [hP]
  by_cases hb : bd = true
  · rw [if_neg (by rw [hb]; simp)]
    exact Parse30_bad l w t lr bd hx hb
  · have hb : bd = false := by simpa using hb
    by_cases hl : lr = []
    · by_cases hr : t.right
      · cases he : T.eqb t t.norm
        · rw [if_neg (by simp)]
          exact Parse30_other l w t lr bd hx hb hl hr he
        · rw [if_pos ⟨hb, hl, hr, rfl⟩]
          exact Parse30_good l w t lr bd hx hb hl hr he
      · rw [if_neg (fun h => hr h.2.2.1)]
        exact Parse30_wrong l w t lr bd hx hb hl hr
    · rw [if_neg (fun h => hl h.2.1)]
      exact Parse30_rest l w t lr bd hx hb hl
end Go.Proofs.Ytlhaofbncoijfaa.HandF
namespace Go.Proofs.Ytlhaofbncoijfaa.Tree
set_option linter.unusedVariables false
set_option linter.unusedSimpArgs false
open Go.Proofs.Ytlhaofbncoijfaa.X
/-- The tree that stands at the beginning, and what is left; n: the depth and one. -/
def readU : Nat → List UInt8 → Option (T × List UInt8)
  | 0, _ => none
  | n + 1, [] => none
  | n + 1, c :: r =>
    if c = 48 then some (.leaf false, r)
    else if c = 49 then some (.leaf true, r)
    else if c = 40 then
      (match readU n r with
      | none => none
      | some x => match x.2 with
        | [] => none
        | c2 :: r2 => if c2 = 44 then
            (match readU n r2 with
            | none => none
            | some y => match y.2 with
              | [] => none
              | c3 :: r3 => if c3 = 41 then some (.node x.1 y.1, r3) else none)
          else none)
    else none
theorem readT_bad (n : Nat) (l : List UInt8) : (readT n l true).2.2 = true := by
  cases n with
  | zero => rfl
  | succ n => simp [readT]
theorem readU_text : ∀ (n : Nat) {l r : List UInt8} {t : T}, readU n l = some (t, r) → l = t.text ++ r
  | 0, l, r, t, h => by simp [readU] at h
  | n + 1, [], r, t, h => by simp [readU] at h
  | n + 1, c :: q, r, t, h => by
    rw [readU] at h
    by_cases h0 : c = 48
    · rw [if_pos h0] at h
      simp only [Option.some.injEq, Prod.mk.injEq] at h
      obtain ⟨rfl, rfl⟩ := h
      subst h0
      rfl
    rw [if_neg h0] at h
    by_cases h1 : c = 49
    · rw [if_pos h1] at h
      simp only [Option.some.injEq, Prod.mk.injEq] at h
      obtain ⟨rfl, rfl⟩ := h
      subst h1
      rfl
    rw [if_neg h1] at h
    by_cases h2 : c = 40
    · rw [if_pos h2] at h
      subst h2
      cases hx : readU n q with
      | none => rw [hx] at h; simp at h
      | some x =>
        obtain ⟨a, ra⟩ := x
        rw [hx] at h
        dsimp only at h
        have ea := readU_text n hx
        cases ra with
        | nil => simp at h
        | cons c2 r2 =>
          dsimp only at h
          by_cases h3 : c2 = 44
          · rw [if_pos h3] at h
            subst h3
            cases hy : readU n r2 with
            | none => rw [hy] at h; simp at h
            | some y =>
              obtain ⟨b, rb⟩ := y
              rw [hy] at h
              dsimp only at h
              have eb := readU_text n hy
              cases rb with
              | nil => simp at h
              | cons c3 r3 =>
                dsimp only at h
                by_cases h4 : c3 = 41
                · rw [if_pos h4] at h
                  subst h4
                  simp only [Option.some.injEq, Prod.mk.injEq] at h
                  obtain ⟨rfl, rfl⟩ := h
                  rw [ea, eb]
                  simp [T.text]
                · rw [if_neg h4] at h; simp at h
          · rw [if_neg h3] at h; simp at h
    · rw [if_neg h2] at h; simp at h
theorem sepT_bad (c : UInt8) (l : List UInt8) : sepT c l true = (l, true) := rfl
theorem readT_false (n : Nat) (l : List UInt8) : readT (n + 1) l false =
    if (take1 49 l).1 = true then (.leaf true, (take1 49 l).2, false)
    else if (take1 48 l).1 = true then (.leaf false, (take1 48 l).2, false)
    else if (take1 40 l).1 = true then
      (.node (readT n (take1 40 l).2 false).1 (readT n (sepT 44 (readT n (take1 40 l).2 false).2.1 (readT n (take1 40 l).2 false).2.2).1 (sepT 44 (readT n (take1 40 l).2 false).2.1 (readT n (take1 40 l).2 false).2.2).2).1,
       sepT 41 (readT n (sepT 44 (readT n (take1 40 l).2 false).2.1 (readT n (take1 40 l).2 false).2.2).1 (sepT 44 (readT n (take1 40 l).2 false).2.1 (readT n (take1 40 l).2 false).2.2).2).2.1 (readT n (sepT 44 (readT n (take1 40 l).2 false).2.1 (readT n (take1 40 l).2 false).2.2).1 (sepT 44 (readT n (take1 40 l).2 false).2.1 (readT n (take1 40 l).2 false).2.2).2).2.2)
    else (.leaf false, l, true) := by
  simp only [readT, Bool.false_eq_true, if_false]
theorem readT_U : ∀ (n : Nat) (l : List UInt8), (∀ t r, readU n l = some (t, r) → readT n l false = (t, r, false)) ∧ (readU n l = none → (readT n l false).2.2 = true)
  | 0, l => ⟨fun t r h => by simp [readU] at h, fun _ => rfl⟩
  | n + 1, [] => ⟨fun t r h => by simp [readU] at h, fun _ => by simp [readT, take1]⟩
  | n + 1, c :: q => by
    have ih := readT_U n
    by_cases h0 : c = 48
    · subst h0
      exact ⟨fun t r h => by simp [readU] at h; obtain ⟨rfl, rfl⟩ := h; simp [readT, take1], fun h => by simp [readU] at h⟩
    by_cases h1 : c = 49
    · subst h1
      exact ⟨fun t r h => by simp [readU] at h; obtain ⟨rfl, rfl⟩ := h; simp [readT, take1], fun h => by simp [readU] at h⟩
    rw [readU, readT_false]
    have t1 : take1 49 (c :: q) = (false, c :: q) := by simp [take1, h1]
    have t0 : take1 48 (c :: q) = (false, c :: q) := by simp [take1, h0]
    rw [if_neg h0, if_neg h1, t1, t0, if_neg Bool.false_ne_true, if_neg Bool.false_ne_true]
    by_cases h2 : c = 40
    · subst h2
      have t2 : take1 40 (40 :: q) = (true, q) := by simp [take1]
      rw [if_pos rfl, t2, if_pos rfl]
      dsimp only
      cases hx : readU n q with
      | none =>
        have hb := (ih q).2 hx
        refine ⟨fun t r h => (by cases h), fun _ => ?_⟩
        rw [hb, sepT_bad]
        dsimp only
        rw [readT_bad, sepT_bad]
      | some x =>
        obtain ⟨a, ra⟩ := x
        have ha := (ih q).1 a ra hx
        rw [ha]
        dsimp only
        cases ra with
        | nil =>
          refine ⟨fun t r h => (by cases h), fun _ => ?_⟩
          have : sepT 44 [] false = ([], true) := rfl
          rw [this]
          dsimp only
          rw [readT_bad, sepT_bad]
        | cons c2 r2 =>
          dsimp only
          by_cases h3 : c2 = 44
          · subst h3
            have : sepT 44 (44 :: r2) false = (r2, false) := by simp [sepT, take1]
            rw [if_pos rfl, this]
            dsimp only
            cases hy : readU n r2 with
            | none =>
              have hb := (ih r2).2 hy
              refine ⟨fun t r h => (by cases h), fun _ => ?_⟩
              rw [hb, sepT_bad]
            | some y =>
              obtain ⟨b, rb⟩ := y
              have hb := (ih r2).1 b rb hy
              rw [hb]
              dsimp only
              cases rb with
              | nil => exact ⟨fun t r h => (by cases h), fun _ => rfl⟩
              | cons c3 r3 =>
                dsimp only
                by_cases h4 : c3 = 41
                · subst h4
                  have : sepT 41 (41 :: r3) false = (r3, false) := by simp [sepT, take1]
                  rw [if_pos rfl, this]
                  exact ⟨fun t r h => (by cases h; rfl), fun h => (by cases h)⟩
                · have : sepT 41 (c3 :: r3) false = (c3 :: r3, true) := by simp [sepT, take1, h4]
                  rw [if_neg h4, this]
                  exact ⟨fun t r h => (by cases h), fun _ => rfl⟩
          · have : sepT 44 (c2 :: r2) false = (c2 :: r2, true) := by simp [sepT, take1, h3]
            rw [if_neg h3, this]
            refine ⟨fun t r h => (by cases h), fun _ => ?_⟩
            dsimp only
            rw [readT_bad, sepT_bad]
    · have t2 : take1 40 (c :: q) = (false, c :: q) := by simp [take1, h2]
      rw [if_neg h2, t2, if_neg Bool.false_ne_true]
      exact ⟨fun t r h => (by cases h), fun _ => rfl⟩
end Go.Proofs.Ytlhaofbncoijfaa.Tree
namespace Go.Proofs.Ytlhaofbncoijfaa.HandF
set_option linter.unusedVariables false
set_option linter.unusedSimpArgs false
open Go.RowKit Go.Proofs.Ytlhaofbncoijfaa.X Go.Proofs.Ytlhaofbncoijfaa.Tree Go.Proofs.Ytlhaofbncoijfaa.Blocks
open Go.Proofs.YtlhaofbncoijfaaW.PrintWords Go.Proofs.YtlhaofbncoijfaaW.PrintLast Go.Proofs.YtlhaofbncoijfaaW.PrintMore
/-- What read hands back at place i. -/
def readP (n : Nat) (l : List UInt8) (i : Nat) : T × Int := match readU n (l.drop i) with
  | some x => (x.1, ((i + x.1.text.length : Nat) : Int))
  | none => (.leaf false, -1)
def rdB (w W : World) (c : Array Value) : Prop := Below w.heap.size w W ∧ W.heap[w.heap.size]? = some (.cells c 24 (0, 0))
theorem rdB.step {w W W' : World} {c : Array Value} (h : rdB w W c) (hb : Below W.heap.size W W') : rdB w W' c := ⟨h.1.trans (hb.mono h.1.size), blk_below h.2 hb⟩
theorem rdB.mk0 (w : World) : rdB w (w.alloc (.cells #[.bool false, .slice none 0 0] 24)) #[.bool false, .slice none 0 0] := ⟨(Below.refl _ _).alloc (Nat.le_refl _) _, blk_new _ _⟩
/-- How it is left. -/
theorem read_out {w W : World} {R : Ending → World → Prop} {tmps : Array Value} (k : Kd2) (r : Int) (h : rdB w W #[.bool false, .slice none 0 0])
    (h2 : tmps.getD 6 undef = .pointer (some ⟨w.heap.size, 0, none⟩)) (h3 : tmps.getD 7 undef = .int .i64 r)
    (hR : ∀ W', Below w.heap.size w W' → (∀ j, j ≠ w.heap.size → W'.heap[j]? = W.heap[j]?) → R (.returned (.tuple #[kv k, .int .i64 r])) W') :
    bodyPost Try.prog Try.f51 R .ret { tmps := tmps, defers := [] } ((W.setCell ⟨w.heap.size, 0, none⟩ (.bool k.1.f0)).setCell ⟨w.heap.size, 1, none⟩ (.slice k.2.1 k.1.f1.length k.2.2)) := by
  have hs := set1 (u := .slice k.2.1 k.1.f1.length k.2.2) (set0 (u := .bool k.1.f0) h.2)
  have hr := results_ct (P := Try.prog) (fn := Try.f51) rfl tmps _ w.heap.size 24 _ (0, 0) _ h2 hs Try.underlying24 rfl (by kernel_rfl)
  rw [h3] at hr
  refine bodyPost_ret hr rfl ?_
  refine hR _ ((h.1.setCell (Nat.le_refl _) _).setCell (Nat.le_refl _) _) (fun j hj => ?_)
  rw [set_other (by simpa using hj), set_other (by simpa using hj)]
/-- How it is left, where nothing was called. -/
theorem read_out0 {w : World} {R : Ending → World → Prop} {tmps : Array Value} (k : Kd2) (r : Int)
    (h2 : tmps.getD 6 undef = .pointer (some ⟨w.heap.size, 0, none⟩)) (h3 : tmps.getD 7 undef = .int .i64 r)
    (hR : R (.returned (.tuple #[kv k, .int .i64 r])) (w.alloc (.cells #[.bool k.1.f0, .slice k.2.1 k.1.f1.length k.2.2] 24))) :
    bodyPost Try.prog Try.f51 R .ret { tmps := tmps, defers := [] } (w.alloc (.cells #[.bool k.1.f0, .slice k.2.1 k.1.f1.length k.2.2] 24)) := by
  have hr := results_ct (P := Try.prog) (fn := Try.f51) rfl tmps _ w.heap.size 24 _ (0, 0) _ h2 (blk_new w (.cells #[.bool k.1.f0, .slice k.2.1 k.1.f1.length k.2.2] 24)) Try.underlying24 rfl (by kernel_rfl)
  rw [h3] at hr
  exact bodyPost_ret hr rfl hR
theorem readP_nil {n : Nat} {l : List UInt8} {i : Nat} (h : l.drop i = []) : readP (n + 1) l i = (.leaf false, -1) := by unfold readP; rw [h]; rfl
theorem readP_some {n : Nat} {l : List UInt8} {i : Nat} {t : T} {r : List UInt8} (h : readU n (l.drop i) = some (t, r)) : readP n l i = (t, ((i + t.text.length : Nat) : Int)) := by unfold readP; rw [h]
theorem readP_none {n : Nat} {l : List UInt8} {i : Nat} (h : readU n (l.drop i) = none) : readP n l i = (.leaf false, -1) := by unfold readP; rw [h]
theorem at_byte {l : List UInt8} {i : Nat} {c : UInt8} (h : l[i]? = some c) (hi : i < (⟨l.toArray⟩ : ByteArray).size) : (⟨l.toArray⟩ : ByteArray)[i]'hi = c := by
  have h1 : i < l.length := (List.getElem?_eq_some_iff.1 h).1
  have h2 := (List.getElem?_eq_some_iff.1 h).2
  rw [← h2]
  rfl
theorem byte_eq (c d : UInt8) : ((c.toNat : Int) == (d.toNat : Int)) = decide (c = d) := by
  by_cases h : c = d
  · subst h; simp
  · rw [decide_eq_false h]
    refine beq_eq_false_iff_ne.2 (fun e => h (UInt8.toNat_inj.1 (by omega)))
theorem byte_ne {c d : UInt8} (h : c ≠ d) : ((c.toNat : Int) == (d.toNat : Int)) = false := by rw [byte_eq]; exact decide_eq_false h
theorem byte_bne {c d : UInt8} (h : c ≠ d) : ((c.toNat : Int) != (d.toNat : Int)) = true := by rw [bne, byte_ne h]; rfl
theorem at_drop {l r : List UInt8} {c : UInt8} {i : Nat} (h : l.drop i = c :: r) : i < l.length ∧ l[i]? = some c ∧ l.drop (i + 1) = r := by
  have hi : i < l.length := by
    rcases Nat.lt_or_ge i l.length with h' | h'
    · exact h'
    · rw [List.drop_eq_nil_of_le h'] at h; cases h
  rw [List.drop_eq_getElem_cons hi] at h
  injection h with h1 h2
  exact ⟨hi, by rw [List.getElem?_eq_getElem hi, h1], h2⟩
theorem leaf62_calls (b : Bool) (w : World) : Calls Try.prog 62 #[.bool b] w fun e w' => e = .returned (.agg #[.bool b, .slice none 0 0]) ∧ Below w.heap.size w w' := by
  have hu24 := Try.underlying24
  have hu22 := Try.underlying22
  have g := blk_new w (.cells #[.bool b] 24)
  have g := blk_new w (.cells #[.bool b, .slice none 0 0] 24)
  go_enter Try.func62, Try.ntmps62
  go_wp2_with fail
  refine bodyPost_ret (results_cell_row rfl _ _ w.heap.size 24 _ (0, 0) _ rfl g hu24 rfl (by kernel_rfl)) rfl ?_
  exact ⟨rfl, (Below.refl _ _).alloc (Nat.le_refl _) _⟩
set_option maxRecDepth 100000 in
set_option maxHeartbeats 40000000 in
theorem read_nil (n i : Nat) (l : List UInt8) (w : World) (hn : n ≤ 32) (hl : l.length ≤ 140737488355328) (hq : l.drop i = []) :
    Calls Try.prog 51 #[.string ⟨l.toArray⟩, .int .i64 (i : Int), .int .i64 (n : Int)] w fun e w' => ∃ k : Kd2, e = .returned (.tuple #[kv k, .int .i64 (readP (n + 1) l i).2]) ∧ k.1 = (readP (n + 1) l i).1.toS ∧ Ft w' (fun j => w.heap.size ≤ j) k ∧ Below w.heap.size w w' := by
  have HI := Lib.hid (rdB.mk0 w)
  have HN := Lib.hid hn
  have HL := Lib.hid hl
  have hu24 := Try.underlying24
  have hu22 := Try.underlying22
  have hw : IntKind.i64.wrap ((n : Int) - 1) = (n : Int) - 1 := by rw [IntKind.wrap_i64]; omega
  have hlt : decide ((n : Int) < 0) = false := decide_eq_false (by omega)
  have hsz : (⟨l.toArray⟩ : ByteArray).size = l.length := by simp [ByteArray.size]
  have o0 := cell0 HI.out.2
  have o1 := cell1 HI.out.2
  have of := free2 HI.out.2
  have hge : decide (l.length ≤ i) = true := decide_eq_true (List.drop_eq_nil_iff.1 hq)
  rw [readP_nil hq]
  clear hn hl hq
  go_enter Try.func51, Try.ntmps51
  go_wp2_with fail
  refine read_out0 (⟨false, []⟩, none, 0) (-1) rfl rfl ?_
  exact ⟨_, rfl, rfl, Ft.leaf _ _ _, HI.out.1⟩
set_option maxRecDepth 100000 in
set_option maxHeartbeats 40000000 in
theorem read_sign (n i : Nat) (l : List UInt8) (w : World) (hn : n ≤ 32) (hl : l.length ≤ 140737488355328) (r : List UInt8) (b : Bool) (c : UInt8) (hb : c = if b = true then 49 else 48) (hq : l.drop i = c :: r) :
    Calls Try.prog 51 #[.string ⟨l.toArray⟩, .int .i64 (i : Int), .int .i64 (n : Int)] w fun e w' => ∃ k : Kd2, e = .returned (.tuple #[kv k, .int .i64 (readP (n + 1) l i).2]) ∧ k.1 = (readP (n + 1) l i).1.toS ∧ Ft w' (fun j => w.heap.size ≤ j) k ∧ Below w.heap.size w w' := by
  have HI := Lib.hid (rdB.mk0 w)
  have HN := Lib.hid hn
  have HL := Lib.hid hl
  have hu24 := Try.underlying24
  have hu22 := Try.underlying22
  have hw : IntKind.i64.wrap ((n : Int) - 1) = (n : Int) - 1 := by rw [IntKind.wrap_i64]; omega
  have hlt : decide ((n : Int) < 0) = false := decide_eq_false (by omega)
  have hsz : (⟨l.toArray⟩ : ByteArray).size = l.length := by simp [ByteArray.size]
  have o0 := cell0 HI.out.2
  have o1 := cell1 HI.out.2
  have of := free2 HI.out.2
  obtain ⟨hi', hc, hr⟩ := at_drop hq
  have hge : decide (l.length ≤ i) = false := decide_eq_false (by omega)
  have hw1 : IntKind.i64.wrap ((i : Int) + 1) = (i : Int) + 1 := by rw [IntKind.wrap_i64]; omega
  have hgt := at_byte hc (by rw [hsz]; exact hi')
  have e1 : ((c.toNat : Int) == 49) = b := by subst hb; cases b <;> rfl
  have e0 : ((c.toNat : Int) == 48) = !b := by subst hb; cases b <;> rfl
  have hP : readP (n + 1) l i = (.leaf b, ((i + (T.leaf b).text.length : Nat) : Int)) := readP_some (r := r) (by rw [hq]; subst hb; cases b <;> rfl)
  have hlen : ((i + (T.leaf b).text.length : Nat) : Int) = (i : Int) + 1 := by cases b <;> rfl
  rw [hP]
  rw [hlen]
  have HG := Lib.hid hlen
  clear hP hn hl hc hr hb hq hlen
  cases b
  · go_enter Try.func51, Try.ntmps51
    go_wp2_with fail
    refine (leaf62_calls false _).mono ?_
    rintro e w1 ⟨rfl, hb1⟩
    have HI1 := Lib.hid (HI.out.step hb1)
    clear hb1 o0 o1 of
    have o0 := cell0 HI1.out.2
    have o1 := cell1 HI1.out.2
    have of := free2 HI1.out.2
    go_wp2_with fail
    refine read_out (⟨false, []⟩, none, 0) _ HI1.out rfl rfl ?_
    intro W' h1 h2
    exact ⟨_, rfl, rfl, Ft.leaf _ _ _, h1⟩
  · go_enter Try.func51, Try.ntmps51
    go_wp2_with fail
    refine (leaf62_calls true _).mono ?_
    rintro e w1 ⟨rfl, hb1⟩
    have HI1 := Lib.hid (HI.out.step hb1)
    clear hb1 o0 o1 of
    have o0 := cell0 HI1.out.2
    have o1 := cell1 HI1.out.2
    have of := free2 HI1.out.2
    go_wp2_with fail
    refine read_out (⟨true, []⟩, none, 0) _ HI1.out rfl rfl ?_
    intro W' h1 h2
    exact ⟨_, rfl, rfl, Ft.leaf _ _ _, h1⟩
set_option maxRecDepth 100000 in
set_option maxHeartbeats 40000000 in
theorem read_bad (n i : Nat) (l : List UInt8) (w : World) (hn : n ≤ 32) (hl : l.length ≤ 140737488355328) (r : List UInt8) (c : UInt8) (h0 : c ≠ 48) (h1 : c ≠ 49) (h2 : c ≠ 40) (hq : l.drop i = c :: r) :
    Calls Try.prog 51 #[.string ⟨l.toArray⟩, .int .i64 (i : Int), .int .i64 (n : Int)] w fun e w' => ∃ k : Kd2, e = .returned (.tuple #[kv k, .int .i64 (readP (n + 1) l i).2]) ∧ k.1 = (readP (n + 1) l i).1.toS ∧ Ft w' (fun j => w.heap.size ≤ j) k ∧ Below w.heap.size w w' := by
  have HI := Lib.hid (rdB.mk0 w)
  have HN := Lib.hid hn
  have HL := Lib.hid hl
  have hu24 := Try.underlying24
  have hu22 := Try.underlying22
  have hw : IntKind.i64.wrap ((n : Int) - 1) = (n : Int) - 1 := by rw [IntKind.wrap_i64]; omega
  have hlt : decide ((n : Int) < 0) = false := decide_eq_false (by omega)
  have hsz : (⟨l.toArray⟩ : ByteArray).size = l.length := by simp [ByteArray.size]
  have o0 := cell0 HI.out.2
  have o1 := cell1 HI.out.2
  have of := free2 HI.out.2
  obtain ⟨hi', hc, hr⟩ := at_drop hq
  have hge : decide (l.length ≤ i) = false := decide_eq_false (by omega)
  have hw1 : IntKind.i64.wrap ((i : Int) + 1) = (i : Int) + 1 := by rw [IntKind.wrap_i64]; omega
  have hgt := at_byte hc (by rw [hsz]; exact hi')
  have e0 : ((c.toNat : Int) == 48) = false := byte_ne h0
  have e1 : ((c.toNat : Int) == 49) = false := byte_ne h1
  have e2 : ((c.toNat : Int) != 40) = true := byte_bne h2
  have hP : readP (n + 1) l i = (.leaf false, -1) := readP_none (by rw [hq, readU, if_neg h0, if_neg h1, if_neg h2])
  rw [hP]
  clear hP hn hl hc hr hq h0 h1 h2
  go_enter Try.func51, Try.ntmps51
  go_wp2_with fail
  refine read_out0 (⟨false, []⟩, none, 0) (-1) rfl rfl ?_
  exact ⟨_, rfl, rfl, Ft.leaf _ _ _, HI.out.1⟩
set_option maxRecDepth 100000 in
set_option maxHeartbeats 40000000 in
theorem read_node (n i : Nat) (l : List UInt8) (w : World) (hn : n ≤ 32) (hl : l.length ≤ 140737488355328) (r : List UInt8) (c : UInt8) (h2 : c = 40) (hq : l.drop i = c :: r) (ih : ∀ (j : Nat) (jj : Int) (w : World), jj = (j : Int) → j ≤ l.length → Calls Try.prog 51 #[.string ⟨l.toArray⟩, .int .i64 jj, .int .i64 ((n : Int) - 1)] w fun e w' => ∃ k : Kd2, e = .returned (.tuple #[kv k, .int .i64 (readP n l j).2]) ∧ k.1 = (readP n l j).1.toS ∧ Ft w' (fun j => w.heap.size ≤ j) k ∧ Below w.heap.size w w') :
    Calls Try.prog 51 #[.string ⟨l.toArray⟩, .int .i64 (i : Int), .int .i64 (n : Int)] w fun e w' => ∃ k : Kd2, e = .returned (.tuple #[kv k, .int .i64 (readP (n + 1) l i).2]) ∧ k.1 = (readP (n + 1) l i).1.toS ∧ Ft w' (fun j => w.heap.size ≤ j) k ∧ Below w.heap.size w w' := by
  have HI := Lib.hid (rdB.mk0 w)
  have HN := Lib.hid hn
  have HL := Lib.hid hl
  have hu24 := Try.underlying24
  have hu22 := Try.underlying22
  have hw : IntKind.i64.wrap ((n : Int) - 1) = (n : Int) - 1 := by rw [IntKind.wrap_i64]; omega
  have hlt : decide ((n : Int) < 0) = false := decide_eq_false (by omega)
  have hsz : (⟨l.toArray⟩ : ByteArray).size = l.length := by simp [ByteArray.size]
  have o0 := cell0 HI.out.2
  have o1 := cell1 HI.out.2
  have of := free2 HI.out.2
  obtain ⟨hi', hc, hr⟩ := at_drop hq
  have hge : decide (l.length ≤ i) = false := decide_eq_false (by omega)
  have hw1 : IntKind.i64.wrap ((i : Int) + 1) = (i : Int) + 1 := by rw [IntKind.wrap_i64]; omega
  have hgt := at_byte hc (by rw [hsz]; exact hi')
  have e0 : ((c.toNat : Int) == 48) = false := by subst h2; rfl
  have e1 : ((c.toNat : Int) == 49) = false := by subst h2; rfl
  have e2 : ((c.toNat : Int) != 40) = false := by subst h2; rfl
  have HR : Hid (l.drop (i + 1) = r) := Lib.hid hr
  have HU : Hid (readU (n + 1) (l.drop i) = match readU n r with
      | none => none
      | some x => match x.2 with
        | [] => none
        | c2 :: r2 => if c2 = 44 then
            (match readU n r2 with
            | none => none
            | some y => match y.2 with
              | [] => none
              | c3 :: r3 => if c3 = 41 then some (.node x.1 y.1, r3) else none)
          else none) := Lib.hid (by rw [hq, readU, if_neg (by subst h2; decide), if_neg (by subst h2; decide), if_pos h2])
  have IH := Lib.hid ih
  have HII : Hid (i + 1 ≤ l.length) := Lib.hid hi'
  clear hn hl hc hr hq h2 ih
  go_enter Try.func51, Try.ntmps51
  go_wp2_with fail
  refine (IH.out (i + 1) ((i : Int) + 1) _ (by push_cast; rfl) HII.out).mono ?_
  rintro e w1 ⟨ka, rfl, hka, fa, hb⟩
  have hI1 := HI.out.step hb
  have HI1 := Lib.hid hI1
  have HI2 := Lib.hid (hI1.step ((Below.refl _ _).alloc (Nat.le_refl _) (.cells #[.bool ka.1.f0, .slice ka.2.1 ka.1.f1.length ka.2.2] 24)))
  have LT1 := Lib.hid (Array.getElem?_eq_some_iff.1 hI1.2).1
  have FA2 := Lib.hid ((fa.mono (fun j hj => Nat.lt_of_lt_of_le (Array.getElem?_eq_some_iff.1 HI.out.2).1 hj) : Ft w1 (fun j => w.heap.size < j) ka).below ((Below.refl _ _).alloc (Nat.le_refl _) (.cells #[.bool ka.1.f0, .slice ka.2.1 ka.1.f1.length ka.2.2] 24)))
  have G2 := Lib.hid (blk_new w1 (.cells #[.bool ka.1.f0, .slice ka.2.1 ka.1.f1.length ka.2.2] 24))
  clear hb o0 o1 of hI1 hw1
  have o0 := cell0 HI2.out.2
  have o1 := cell1 HI2.out.2
  have of := free2 HI2.out.2
  cases hx : readU n r with
  | none =>
    have hP : readP (n + 1) l i = (.leaf false, -1) := readP_none (by rw [HU.out, hx])
    have hQ : readP n l (i + 1) = (.leaf false, -1) := readP_none (by rw [HR.out, hx])
    rw [hQ]
    dsimp only
    have HPX := Lib.hid hP
    clear hP hQ hka fa hx
    go_wp2_with fail
    refine read_out (⟨false, []⟩, none, 0) (-1) HI2.out rfl rfl ?_
    intro W' h1 h2
    rw [HPX.out]
    exact ⟨_, rfl, rfl, Ft.leaf _ _ _, h1⟩
  | some x =>
    obtain ⟨ta, r2⟩ := x
    have hQ := readP_some (n := n) (i := i + 1) (by rw [HR.out, hx])
    rw [hQ] at hka ⊢
    dsimp only at hka ⊢
    obtain ⟨p, hp⟩ : ∃ p, i + 1 + ta.text.length = p := ⟨_, rfl⟩
    rw [hp]
    have htx := readU_text n hx
    have hdp : l.drop p = r2 := by rw [← hp, ← List.drop_drop, HR.out, htx, List.drop_left]
    have hple : p ≤ l.length := by
      have h1 := congrArg List.length htx
      have h2 := congrArg List.length HR.out
      rw [List.length_append] at h1
      rw [List.length_drop] at h2
      have := HII.out
      omega
    have HTX := Lib.hid hx
    have HKA := Lib.hid hka
    have HPP := Lib.hid hp
    have hp0 : decide ((p : Int) < 0) = false := decide_eq_false (by omega)
    clear hx hQ hka fa htx hp
    cases r2 with
    | nil =>
      have hP : readP (n + 1) l i = (.leaf false, -1) := readP_none (by rw [HU.out, HTX.out])
      have HPX := Lib.hid hP
      have hpl : decide (l.length ≤ p) = true := decide_eq_true (List.drop_eq_nil_iff.1 hdp)
      clear hP
      go_wp2_with fail
      refine read_out (⟨false, []⟩, none, 0) (-1) HI2.out rfl rfl ?_
      intro W' h1 h2
      rw [HPX.out]
      exact ⟨_, rfl, rfl, Ft.leaf _ _ _, h1⟩
    | cons c2 r3 =>
      obtain ⟨hpi, hpc, hpr⟩ := at_drop hdp
      have hpl : decide (l.length ≤ p) = false := decide_eq_false (by omega)
      have hgp := at_byte hpc (by rw [hsz]; exact hpi)
      by_cases h3 : c2 = 44
      · have e3 : ((c2.toNat : Int) != 44) = false := by subst h3; rfl
        have hwp : IntKind.i64.wrap ((p : Int) + 1) = (p : Int) + 1 := by have := HL.out; rw [IntKind.wrap_i64]; omega
        have HPI : Hid (p + 1 ≤ l.length) := Lib.hid hpi
        have HPR := Lib.hid hpr
        clear hdp hple hpc hpr
        go_wp2_with fail
        refine (IH.out (p + 1) ((p : Int) + 1) _ (by push_cast; rfl) HPI.out).mono ?_
        rintro e w3 ⟨kb, rfl, hkb, fb, hb⟩
        have hI3 := HI2.out.step hb
        have HI4 := Lib.hid (hI3.step ((Below.refl _ _).alloc (Nat.le_refl _) (.cells #[.bool kb.1.f0, .slice kb.2.1 kb.1.f1.length kb.2.2] 24)))
        have GA4 := Lib.hid (blk_alloc (blk_below G2.out hb) (.cells #[.bool kb.1.f0, .slice kb.2.1 kb.1.f1.length kb.2.2] 24))
        have GB4 := Lib.hid (blk_new w3 (.cells #[.bool kb.1.f0, .slice kb.2.1 kb.1.f1.length kb.2.2] 24))
        have FA4 := Lib.hid ((FA2.out.below hb).below ((Below.refl _ _).alloc (Nat.le_refl _) (.cells #[.bool kb.1.f0, .slice kb.2.1 kb.1.f1.length kb.2.2] 24)))
        have FB4 := Lib.hid ((fb.mono (fun j hj => Nat.lt_of_lt_of_le (Array.getElem?_eq_some_iff.1 HI2.out.2).1 hj) : Ft w3 (fun j => w.heap.size < j) kb).below ((Below.refl _ _).alloc (Nat.le_refl _) (.cells #[.bool kb.1.f0, .slice kb.2.1 kb.1.f1.length kb.2.2] 24)))
        have LT3 := Lib.hid (Array.getElem?_eq_some_iff.1 hI3.2).1
        have SZ4 : Hid ((w3.alloc (.cells #[.bool kb.1.f0, .slice kb.2.1 kb.1.f1.length kb.2.2] 24)).heap.size = w3.heap.size + 1) := Lib.hid (World.size_alloc _ _)
        clear hb o0 o1 of hI3 hwp fb
        have o0 := cell0 HI4.out.2
        have o1 := cell1 HI4.out.2
        have of := free2 HI4.out.2
        cases hy : readU n r3 with
        | none =>
          have hP : readP (n + 1) l i = (.leaf false, -1) := readP_none (by rw [HU.out, HTX.out]; dsimp only; rw [if_pos h3, hy])
          have hQ : readP n l (p + 1) = (.leaf false, -1) := readP_none (by rw [HPR.out, hy])
          rw [hQ]
          dsimp only
          have HPX := Lib.hid hP
          clear hP hQ hkb hy
          go_wp2_with fail
          refine read_out (⟨false, []⟩, none, 0) (-1) HI4.out rfl rfl ?_
          intro W' h1 h2
          rw [HPX.out]
          exact ⟨_, rfl, rfl, Ft.leaf _ _ _, h1⟩
        | some y =>
          obtain ⟨tb, r4⟩ := y
          have hQ := readP_some (n := n) (i := p + 1) (by rw [HPR.out, hy])
          rw [hQ] at hkb ⊢
          dsimp only at hkb ⊢
          obtain ⟨q, hq⟩ : ∃ q, p + 1 + tb.text.length = q := ⟨_, rfl⟩
          rw [hq]
          have htx := readU_text n hy
          have hdq : l.drop q = r4 := by rw [← hq, ← List.drop_drop, HPR.out, htx, List.drop_left]
          have hqle : q ≤ l.length := by
            have h1 := congrArg List.length htx
            have h2 := congrArg List.length HPR.out
            rw [List.length_append] at h1
            rw [List.length_drop] at h2
            have := HPI.out
            omega
          have HTY := Lib.hid hy
          have HKB := Lib.hid hkb
          have HQQ := Lib.hid hq
          have hq0 : decide ((q : Int) < 0) = false := decide_eq_false (by omega)
          clear hy hQ hkb htx hq
          cases r4 with
          | nil =>
            have hP : readP (n + 1) l i = (.leaf false, -1) := readP_none (by rw [HU.out, HTX.out]; dsimp only; rw [if_pos h3, HTY.out])
            have HPX := Lib.hid hP
            have hql : decide (l.length ≤ q) = true := decide_eq_true (List.drop_eq_nil_iff.1 hdq)
            clear hP
            go_wp2_with fail
            refine read_out (⟨false, []⟩, none, 0) (-1) HI4.out rfl rfl ?_
            intro W' h1 h2
            rw [HPX.out]
            exact ⟨_, rfl, rfl, Ft.leaf _ _ _, h1⟩
          | cons c3 r5 =>
            obtain ⟨hqi, hqc, hqr⟩ := at_drop hdq
            have hql : decide (l.length ≤ q) = false := decide_eq_false (by omega)
            have hgq := at_byte hqc (by rw [hsz]; exact hqi)
            by_cases h4 : c3 = 41
            · have e4 : ((c3.toNat : Int) != 41) = false := by subst h4; rfl
              have hwq : IntKind.i64.wrap ((q : Int) + 1) = ((q + 1 : Nat) : Int) := by have := HL.out; rw [IntKind.wrap_i64]; push_cast; omega
              have hP : readP (n + 1) l i = (.node ta tb, ((q + 1 : Nat) : Int)) := by
                rw [readP_some (r := r5) (t := .node ta tb) (by rw [HU.out, HTX.out]; dsimp only; rw [if_pos h3, HTY.out]; dsimp only; rw [if_pos h4])]
                have e1 := HPP.out
                have e2 := HQQ.out
                have : i + (T.node ta tb).text.length = q + 1 := by simp [T.text]; omega
                rw [this]
              have HPX := Lib.hid hP
              clear hdq hqle hqc hqr hP o0 o1 of
              have a0 := cell0 GA4.out
              have a1 := cell1 GA4.out
              have b0 := cell0 GB4.out
              have b1 := cell1 GB4.out
              have o0 := (fun ob => cell0 (HI4.out.step ((Below.refl _ _).alloc (Nat.le_refl _) ob)).2)
              have o1 := (fun ob => cell1 (HI4.out.step ((Below.refl _ _).alloc (Nat.le_refl _) ob)).2)
              have of := (fun ob => free2 (HI4.out.step ((Below.refl _ _).alloc (Nat.le_refl _) ob)).2)
              go_wp2_with fail
              refine read_out (⟨false, [ka.1, kb.1]⟩, some ⟨w3.heap.size + 1, 0, none⟩, 2) _ (HI4.out.step ((Below.refl _ _).alloc (Nat.le_refl _) (.cells #[.bool ka.1.f0, .slice ka.2.1 ka.1.f1.length ka.2.2, .bool kb.1.f0, .slice kb.2.1 kb.1.f1.length kb.2.2] 24))) rfl rfl ?_
              intro W' h1 h2
              rw [HPX.out]
              have hlw : w.heap.size < w3.heap.size + 1 := by have := LT3.out; omega
              have hrow : W'.heap[w3.heap.size + 1]? = some (.cells #[.bool ka.1.f0, .slice ka.2.1 ka.1.f1.length ka.2.2, .bool kb.1.f0, .slice kb.2.1 kb.1.f1.length kb.2.2] 24 (0, 0)) := (h2 _ (Nat.ne_of_gt hlw)).trans (by rw [← SZ4.out]; exact blk_new _ _)
              refine ⟨_, rfl, by rw [HKA.out, HKB.out]; rfl, ?_, h1⟩
              have ma := ((FA4.out.below ((Below.refl _ _).alloc (Nat.le_refl _) (.cells #[.bool ka.1.f0, .slice ka.2.1 ka.1.f1.length ka.2.2, .bool kb.1.f0, .slice kb.2.1 kb.1.f1.length kb.2.2] 24))).move (W' := W') (fun j hj => h2 j (Nat.ne_of_gt hj))).mono (fun j (hj : w.heap.size < j) => Nat.le_of_lt hj)
              have mb := ((FB4.out.below ((Below.refl _ _).alloc (Nat.le_refl _) (.cells #[.bool ka.1.f0, .slice ka.2.1 ka.1.f1.length ka.2.2, .bool kb.1.f0, .slice kb.2.1 kb.1.f1.length kb.2.2] 24))).move (W' := W') (fun j hj => h2 j (Nat.ne_of_gt hj))).mono (fun j (hj : w.heap.size < j) => Nat.le_of_lt hj)
              exact Ft.two ma mb (Nat.le_of_lt hlw) false hrow
            · have e4 : ((c3.toNat : Int) != 41) = true := byte_bne h4
              have hP : readP (n + 1) l i = (.leaf false, -1) := readP_none (by rw [HU.out, HTX.out]; dsimp only; rw [if_pos h3, HTY.out]; dsimp only; rw [if_neg h4])
              have HPX := Lib.hid hP
              clear hdq hqle hqc hqr hP
              go_wp2_with fail
              refine read_out (⟨false, []⟩, none, 0) (-1) HI4.out rfl rfl ?_
              intro W' h1 h2
              rw [HPX.out]
              exact ⟨_, rfl, rfl, Ft.leaf _ _ _, h1⟩
      · have e3 : ((c2.toNat : Int) != 44) = true := byte_bne h3
        have hP : readP (n + 1) l i = (.leaf false, -1) := readP_none (by rw [HU.out, HTX.out]; dsimp only; rw [if_neg h3])
        have HPX := Lib.hid hP
        clear hdp hple hpc hpr hP
        go_wp2_with fail
        refine read_out (⟨false, []⟩, none, 0) (-1) HI2.out rfl rfl ?_
        intro W' h1 h2
        rw [HPX.out]
        exact ⟨_, rfl, rfl, Ft.leaf _ _ _, h1⟩
set_option maxRecDepth 100000 in
set_option maxHeartbeats 40000000 in
theorem read_zero (i : Nat) (l : List UInt8) (w : World) :
    Calls Try.prog 51 #[.string ⟨l.toArray⟩, .int .i64 (i : Int), .int .i64 (-1)] w fun e w' => ∃ k : Kd2, e = .returned (.tuple #[kv k, .int .i64 (readP 0 l i).2]) ∧ k.1 = (readP 0 l i).1.toS ∧ Ft w' (fun j => w.heap.size ≤ j) k ∧ Below w.heap.size w w' := by
  have HI := Lib.hid (rdB.mk0 w)
  have o0 := cell0 HI.out.2
  have o1 := cell1 HI.out.2
  have of := free2 HI.out.2
  have hu24 := Try.underlying24
  have hu22 := Try.underlying22
  have hsz : (⟨l.toArray⟩ : ByteArray).size = l.length := by simp [ByteArray.size]
  have hP : readP 0 l i = (.leaf false, -1) := rfl
  rw [hP]
  clear hP
  obtain ⟨g, hg⟩ : ∃ g, decide (l.length ≤ i) = g := ⟨_, rfl⟩
  cases g
  all_goals
    go_enter Try.func51, Try.ntmps51
    go_wp2_with fail
    refine read_out0 (⟨false, []⟩, none, 0) (-1) rfl rfl ?_
    exact ⟨_, rfl, rfl, Ft.leaf _ _ _, HI.out.1⟩
theorem read_calls : ∀ (n : Nat) (d : Int) (i : Nat) (l : List UInt8) (w : World), n ≤ 33 → d = (n : Int) - 1 → i ≤ l.length → l.length ≤ 140737488355328 →
    Calls Try.prog 51 #[.string ⟨l.toArray⟩, .int .i64 (i : Int), .int .i64 d] w fun e w' => ∃ k : Kd2, e = .returned (.tuple #[kv k, .int .i64 (readP n l i).2]) ∧ k.1 = (readP n l i).1.toS ∧ Ft w' (fun j => w.heap.size ≤ j) k ∧ Below w.heap.size w w'
  | 0, d, i, l, w, hn, hd, hi, hl => by
    subst hd
    exact read_zero i l w
  | n + 1, d, i, l, w, hn, hd, hi, hl => by
    obtain rfl : d = (n : Int) := by omega
    cases hq : l.drop i with
    | nil => exact read_nil n i l w (by omega) hl hq
    | cons c r =>
      by_cases h0 : c = 48
      · exact read_sign n i l w (by omega) hl r false c h0 hq
      · by_cases h1 : c = 49
        · exact read_sign n i l w (by omega) hl r true c h1 hq
        · by_cases h2 : c = 40
          · refine read_node n i l w (by omega) hl r c h2 hq (fun j jj w hjj hj => ?_)
            subst hjj
            exact read_calls n _ j l w (by omega) rfl hj hl
          · exact read_bad n i l w (by omega) hl r c h0 h1 h2 hq
end Go.Proofs.Ytlhaofbncoijfaa.HandF
namespace Go.Proofs.Ytlhaofbncoijfaa.Tree
set_option linter.unusedVariables false
set_option linter.unusedSimpArgs false
open Go.RowKit Go.Proofs.Ytlhaofbncoijfaa.X Go.Proofs.Ytlhaofbncoijfaa.Tree.T Go.Proofs.Ytlhaofbncoijfaa.HandF
open Go.Proofs.YtlhaofbncoijfaaW.PrintWords Go.Proofs.YtlhaofbncoijfaaW.PrintLast Go.Proofs.YtlhaofbncoijfaaW.PrintMore
theorem bytes_app (a b : List UInt8) : (⟨a.toArray⟩ : ByteArray) ++ (⟨b.toArray⟩ : ByteArray) = ⟨(a ++ b).toArray⟩ := by
  apply ByteArray.ext
  simp
theorem bytes_size (a : List UInt8) : (⟨a.toArray⟩ : ByteArray).size = a.length := by simp [ByteArray.size]
theorem text_f : ∀ (t : T) (k : Nat), t.depth < k → t.text.length ≤ 140737488355328 → pannierref04_text.f k t.toS.f0 t.toS.f1 = some ⟨t.text.toArray⟩
  | .leaf b, k + 1, hk, hl => by
    cases b <;> rfl
  | .node a b, k + 1, hk, hl => by
    have hd : a.depth < k ∧ b.depth < k := by simp [T.depth] at hk; omega
    have hlen : a.text.length + b.text.length + 3 = (T.node a b).text.length := by simp [T.text]; omega
    have ha := text_f a k hd.1 (by omega)
    have hb := text_f b k hd.2 (by omega)
    have e0 : rd_T24 (T.node a b).toS.f1 0 = a.toS := rfl
    have e1 : rd_T24 (T.node a b).toS.f1 1 = b.toS := rfl
    have c40 : (⟨#[40]⟩ : ByteArray) = ⟨[40].toArray⟩ := rfl
    have c44 : (⟨#[44]⟩ : ByteArray) = ⟨[44].toArray⟩ := rfl
    have c41 : (⟨#[41]⟩ : ByteArray) = ⟨[41].toArray⟩ := rfl
    rw [pannierref04_text.f, e0, e1, ha, hb, Option.bind_some, Option.bind_some, c40, c44, c41, bytes_app, bytes_app, bytes_app, bytes_app, bytes_size, bytes_size, bytes_size, bytes_size, bytes_size]
    rw [if_pos (show ((T.node a b).toS.f1.length : Int) = 2 from rfl), if_pos (show (0 : Int) < ((T.node a b).toS.f1.length : Int) from (by decide : (0 : Int) < ((2 : Nat) : Int))), if_pos (by omega), if_pos (by simp; omega), if_pos (show (1 : Int) < ((T.node a b).toS.f1.length : Int) from (by decide : (1 : Int) < ((2 : Nat) : Int))), if_pos (by simp; omega), if_pos (by simp; omega)]
    rfl
theorem text_inj : ∀ (a b : T) (r r' : List UInt8), a.text ++ r = b.text ++ r' → a = b ∧ r = r'
  | .leaf x, .leaf y, r, r', h => by
    cases x <;> cases y <;> simp [T.text] at h <;> simp [h]
  | .leaf x, .node c d, r, r', h => by
    cases x <;> simp [T.text] at h
  | .node a b, .leaf y, r, r', h => by
    cases y <;> simp [T.text] at h
  | .node a b, .node c d, r, r', h => by
    simp only [T.text, List.append_assoc, List.cons_append, List.nil_append, List.cons.injEq, true_and] at h
    obtain ⟨e1, h1⟩ := text_inj a c _ _ h
    simp only [List.cons.injEq, true_and] at h1
    obtain ⟨e2, h2⟩ := text_inj b d _ _ h1
    simp only [List.cons.injEq, true_and] at h2
    exact ⟨by rw [e1, e2], h2⟩
/-- What Show hands back. -/
def ShowS (s : S24) : List UInt8 × Int := if rightB s = true then (match T.ofS s with | some t => (t.norm.text, 0) | none => ([], 2)) else ([], 2)
theorem ShowS_right (t : T) (h : t.right) : ShowS t.toS = (t.norm.text, 0) := by
  unfold ShowS
  rw [right_T, decide_eq_true h, if_pos rfl, T.of_toS]
theorem ShowS_bad (s : S24) (h : rightB s = false) : ShowS s = ([], 2) := by
  unfold ShowS
  rw [h, if_neg (by decide)]
theorem show_f (s : S24) : id_Show.f s.f0 s.f1 = some (⟨(ShowS s).1.toArray⟩, (ShowS s).2) := by
  unfold id_Show.f
  rw [S24_eta]
  cases hr : rightB s
  · rw [if_neg (by decide), ShowS_bad s hr]
  · obtain ⟨t, rfl, ht⟩ := (right_iff s).1 hr
    rw [if_pos rfl, T.of_toS, ShowS_right t ht]
    rfl
theorem refShow_f (s : S24) : pannierref04_Show.f 1000000 s.f0 s.f1 = some (⟨(ShowS s).1.toArray⟩, (ShowS s).2) := by
  unfold pannierref04_Show.f
  rw [refNorm_f s 1000000 (Nat.le_refl _), Option.bind_some]
  dsimp only
  cases hr : rightB s
  · rw [NormS_bad s hr, if_neg (by decide), ShowS_bad s hr]
  · obtain ⟨t, rfl, ht⟩ := (right_iff s).1 hr
    have hn := norm_right ht
    have h1 := text_length t.norm
    have h2 := hn.2
    have h3 := hn.1
    rw [NormS_right t ht, if_pos rfl, text_f t.norm 1000000 (by omega) (by omega), Option.bind_some, ShowS_right t ht]
/-- What the reference's Parse hands back. -/
def RefParseT (l : List UInt8) : T × Int := match readU 33 l with
  | some x => if x.2 = [] ∧ (ShowS x.1.toS).2 = 0 ∧ (ShowS x.1.toS).1 = l then (x.1, 0) else (.leaf false, 40)
  | none => (.leaf false, 40)
theorem refParse_none {l : List UInt8} (h : readU 33 l = none) : RefParseT l = (.leaf false, 40) := by unfold RefParseT; rw [h]
theorem refParse_some {l r : List UInt8} {t : T} (h : readU 33 l = some (t, r)) : RefParseT l = if r = [] ∧ (ShowS t.toS).2 = 0 ∧ (ShowS t.toS).1 = l then (t, 0) else (.leaf false, 40) := by unfold RefParseT; rw [h]
theorem parse_eq (l : List UInt8) : RefParseT l = ParseT l := by
  obtain ⟨x, hx⟩ : ∃ x, readU 33 l = x := ⟨_, rfl⟩
  cases x with
  | none =>
    have hb := (readT_U 33 l).2 hx
    obtain ⟨y, hy⟩ : ∃ y, readT 33 l false = y := ⟨_, rfl⟩
    obtain ⟨t, r, b⟩ := y
    rw [hy] at hb
    dsimp only at hb
    subst hb
    rw [refParse_none hx, show ParseT l = parseOf (t, r, true) from congrArg parseOf hy, parseOf_eq, if_neg (by simp)]
  | some x =>
    obtain ⟨t, r⟩ := x
    have hy := (readT_U 33 l).1 t r hx
    have htx := readU_text 33 hx
    rw [refParse_some hx, show ParseT l = parseOf (t, r, false) from congrArg parseOf hy, parseOf_eq]
    by_cases hr : r = []
    · subst hr
      rw [List.append_nil] at htx
      subst htx
      by_cases ht : t.right
      · rw [ShowS_right t ht]
        dsimp only
        by_cases he : T.eqb t t.norm = true
        · have e := T.eqb_iff.1 he
          rw [if_pos ⟨rfl, rfl, by rw [← e]⟩, if_pos ⟨rfl, rfl, ht, he⟩]
        · rw [if_neg (fun h => he (T.eqb_iff.2 (text_inj t t.norm [] [] (by rw [h.2.2])).1)), if_neg (fun h => he h.2.2.2)]
      · have hb : rightB t.toS = false := by rw [right_T]; exact decide_eq_false ht
        rw [ShowS_bad _ hb, if_neg (fun h => absurd h.2.1 (show ¬ ((2 : Int) = 0) by decide)), if_neg (fun h => ht h.2.2.1)]
    · rw [if_neg (fun h => hr h.1), if_neg (fun h => hr h.2.1)]
theorem parse_tree (l : List UInt8) : (ParseT l).2 = 0 → (ParseT l).1.right := by
  obtain ⟨y, hy⟩ : ∃ y, readT 33 l false = y := ⟨_, rfl⟩
  obtain ⟨t, r, b⟩ := y
  rw [show ParseT l = parseOf (t, r, b) from congrArg parseOf hy, parseOf_eq]
  split
  · rename_i h; exact fun _ => h.2.2.1
  · intro h; cases h
end Go.Proofs.Ytlhaofbncoijfaa.Tree
namespace Go.Proofs.Ytlhaofbncoijfaa.HandF
set_option linter.unusedVariables false
set_option linter.unusedSimpArgs false
open Go.RowKit Go.Proofs.Ytlhaofbncoijfaa.X Go.Proofs.Ytlhaofbncoijfaa.Tree Go.Proofs.Ytlhaofbncoijfaa.Blocks
open Go.Proofs.YtlhaofbncoijfaaW.PrintWords Go.Proofs.YtlhaofbncoijfaaW.PrintLast Go.Proofs.YtlhaofbncoijfaaW.PrintMore
theorem Show28t (k : Kd2) (w : World) (hl : k.1.f1.length ≤ k.2.2) (hC : Kd.C k24 w k.2.1 k.1.f1.length k.1.f1) :
    Calls Try.prog 28 #[kv k] w fun e w' => e = .returned (.tuple #[.string ⟨(ShowS k.1).1.toArray⟩, .int .i64 (ShowS k.1).2]) ∧ Below w.heap.size w w' := by
  obtain ⟨⟨b, l⟩, A, c⟩ := k
  exact id_Show.calls b A c l _ _ w hC hl (show_f ⟨b, l⟩)
theorem Show29t (k : Kd2) (w : World) (hl : k.1.f1.length ≤ k.2.2) (hC : Kd.C k24 w k.2.1 k.1.f1.length k.1.f1) :
    Calls Try.prog 29 #[kv k] w fun e w' => e = .returned (.tuple #[.string ⟨(ShowS k.1).1.toArray⟩, .int .i64 (ShowS k.1).2]) ∧ Below w.heap.size w w' := by
  obtain ⟨⟨b, l⟩, A, c⟩ := k
  exact pannierref04_Show.calls 1000000 b A c l _ _ w hC hl (refShow_f ⟨b, l⟩)
/-- How the reference's Parse is left. -/
theorem p31_out {w W : World} {R : Ending → World → Prop} {tmps : Array Value} (k : Kd2) (r : Int) (h : rdB w W #[.bool false, .slice none 0 0])
    (h2 : tmps.getD 2 undef = .pointer (some ⟨w.heap.size, 0, none⟩)) (h3 : tmps.getD 3 undef = .int .i64 r)
    (hR : ∀ W', Below w.heap.size w W' → (∀ j, j ≠ w.heap.size → W'.heap[j]? = W.heap[j]?) → R (.returned (.tuple #[kv k, .int .i64 r])) W') :
    bodyPost Try.prog Try.f31 R .ret { tmps := tmps, defers := [] } ((W.setCell ⟨w.heap.size, 0, none⟩ (.bool k.1.f0)).setCell ⟨w.heap.size, 1, none⟩ (.slice k.2.1 k.1.f1.length k.2.2)) := by
  have hs := Blocks.set1 (u := .slice k.2.1 k.1.f1.length k.2.2) (set0 (u := .bool k.1.f0) h.2)
  have hr := results_ct (P := Try.prog) (fn := Try.f31) rfl tmps _ w.heap.size 24 _ (0, 0) _ h2 hs Try.underlying24 rfl (by kernel_rfl)
  rw [h3] at hr
  refine bodyPost_ret hr rfl ?_
  refine hR _ ((h.1.setCell (Nat.le_refl _) _).setCell (Nat.le_refl _) _) (fun j hj => ?_)
  rw [set_other (by simpa using hj), set_other (by simpa using hj)]
set_option maxRecDepth 100000 in
set_option maxHeartbeats 40000000 in
theorem Parse31 (l : List UInt8) (w : World) (hl : l.length ≤ 140737488355328) :
    Calls Try.prog 31 #[.string ⟨l.toArray⟩] w fun e w' => ∃ k : Kd2, e = .returned (.tuple #[kv k, .int .i64 (RefParseT l).2]) ∧ k.1 = (RefParseT l).1.toS ∧ Ft w' (fun j => w.heap.size ≤ j) k ∧ Below w.heap.size w w' := by
  have HI := Lib.hid (rdB.mk0 w)
  have HL := Lib.hid hl
  have hu24 := Try.underlying24
  have hu22 := Try.underlying22
  have hu26 := Try.underlying26
  have hsz : (⟨l.toArray⟩ : ByteArray).size = l.length := bytes_size l
  clear hl
  go_enter Try.func31, Try.ntmps31
  go_wp2_with fail
  refine (read_calls 33 32 0 l _ (Nat.le_refl _) rfl (Nat.zero_le _) HL.out).mono ?_
  rintro e w1 ⟨k, rfl, hk, fk, hb⟩
  have hI1 := HI.out.step hb
  have HI2 := Lib.hid (hI1.step ((Below.refl _ _).alloc (Nat.le_refl _) (.cells #[.bool k.1.f0, .slice k.2.1 k.1.f1.length k.2.2] 24)))
  have FK := Lib.hid ((fk.mono (fun j hj => Nat.lt_of_lt_of_le (Array.getElem?_eq_some_iff.1 HI.out.2).1 hj) : Ft w1 (fun j => w.heap.size < j) k).below ((Below.refl _ _).alloc (Nat.le_refl _) (.cells #[.bool k.1.f0, .slice k.2.1 k.1.f1.length k.2.2] 24)))
  have G2 := Lib.hid (blk_new w1 (.cells #[.bool k.1.f0, .slice k.2.1 k.1.f1.length k.2.2] 24))
  have o0 := cell0 HI2.out.2
  have o1 := cell1 HI2.out.2
  have of := free2 HI2.out.2
  clear hb hI1 fk
  obtain ⟨x, hx⟩ : ∃ x, readU 33 l = x := ⟨_, rfl⟩
  cases x with
  | none =>
    have HP := Lib.hid (refParse_none hx)
    have hQ : readP 33 l 0 = (.leaf false, -1) := readP_none (by rw [List.drop_zero]; exact hx)
    rw [hQ]
    dsimp only
    have h1 : ((-1 : Int) != (l.length : Int)) = true := bne_iff_ne.2 (by omega)
    clear hQ hk hx
    go_wp2_with fail
    refine p31_out (⟨false, []⟩, none, 0) 40 HI2.out rfl rfl ?_
    intro W' h1 h2
    rw [HP.out]
    exact ⟨_, rfl, rfl, Ft.leaf _ _ _, h1⟩
  | some x =>
    obtain ⟨t, r⟩ := x
    have HP := Lib.hid (refParse_some hx)
    have hQ := readP_some (n := 33) (i := 0) (l := l) (by rw [List.drop_zero]; exact hx)
    rw [hQ] at hk ⊢
    dsimp only at hk ⊢
    obtain ⟨p, hp⟩ : ∃ p, 0 + t.text.length = p := ⟨_, rfl⟩
    rw [hp]
    have htx := readU_text 33 hx
    have hlen := congrArg List.length htx
    rw [List.length_append] at hlen
    have HK := Lib.hid hk
    clear hQ hk hx
    by_cases hr : r = []
    · subst hr
      have hpl : p = l.length := by rw [← hp, hlen]; simp
      subst hpl
      obtain ⟨e1, he1⟩ : ∃ e, (ShowS k.1).2 = e := ⟨_, rfl⟩
      have HE := Lib.hid he1
      clear hp htx hlen he1
      go_wp2_with fail
      refine (Show29t k _ FK.out.1 FK.out.now).mono ?_
      rintro e w3 ⟨rfl, hb⟩
      have HI3 := Lib.hid (HI2.out.step hb)
      have FK3 := Lib.hid (FK.out.below hb)
      have g3 := blk_below G2.out hb
      have a0 := cell0 g3
      have a1 := cell1 g3
      clear hb o0 o1 of g3
      have o0 := cell0 HI3.out.2
      have o1 := cell1 HI3.out.2
      have of := free2 HI3.out.2
      rw [HE.out]
      by_cases h0 : e1 = 0
      · have b0 : (e1 != 0) = false := bne_eq_false_iff_eq.2 h0
        by_cases hs : (ShowS k.1).1 = l
        · have c0 : ((⟨(ShowS k.1).1.toArray⟩ : ByteArray).toList != (⟨l.toArray⟩ : ByteArray).toList) = false := by rw [hs]; simp
          have c1 : ((⟨(ShowS k.1).1.toArray⟩ : ByteArray).toList == (⟨l.toArray⟩ : ByteArray).toList) = true := by rw [hs]; simp
          have c2 : ((ShowS k.1).1 == l) = true := by simpa using hs
          have HS := Lib.hid hs
          clear hs
          go_wp2_with fail
          refine p31_out k 0 HI3.out rfl rfl ?_
          intro W' h1 h2
          rw [HP.out, ← HK.out, if_pos (by refine ⟨by first | rfl | trivial, by first | (rw [HE.out, h0]) | exact h0, HS.out⟩)]
          exact ⟨k, rfl, HK.out, (FK3.out.move (fun j hj => h2 j (Nat.ne_of_gt hj))).mono (fun j (hj : w.heap.size < j) => Nat.le_of_lt hj), h1⟩
        · have c0 : ((⟨(ShowS k.1).1.toArray⟩ : ByteArray).toList != (⟨l.toArray⟩ : ByteArray).toList) = true := by rw [Lib.toList_data, Lib.toList_data]; simpa using hs
          have c1 : ((⟨(ShowS k.1).1.toArray⟩ : ByteArray).toList == (⟨l.toArray⟩ : ByteArray).toList) = false := by rw [Lib.toList_data, Lib.toList_data]; simpa using hs
          have c2 : ((ShowS k.1).1 == l) = false := by simpa using hs
          have HS := Lib.hid hs
          clear hs
          go_wp2_with fail
          refine p31_out (⟨false, []⟩, none, 0) 40 HI3.out rfl rfl ?_
          intro W' h1 h2
          rw [HP.out, ← HK.out, if_neg (fun h => HS.out h.2.2)]
          exact ⟨_, rfl, rfl, Ft.leaf _ _ _, h1⟩
      · have b0 : (e1 != 0) = true := bne_iff_ne.2 h0
        go_wp2_with fail
        refine p31_out (⟨false, []⟩, none, 0) 40 HI3.out rfl rfl ?_
        intro W' h1 h2
        rw [HP.out, ← HK.out, if_neg (fun h => h0 (by rw [← HE.out]; exact h.2.1))]
        exact ⟨_, rfl, rfl, Ft.leaf _ _ _, h1⟩
    · have hne : p ≠ l.length := by
        have : 0 < r.length := List.length_pos_iff.2 hr
        omega
      have h1 : ((p : Int) != (l.length : Int)) = true := bne_iff_ne.2 (by omega)
      have h2 : (p != l.length) = true := bne_iff_ne.2 hne
      clear hp htx hlen hne
      go_wp2_with fail
      refine p31_out (⟨false, []⟩, none, 0) 40 HI2.out rfl rfl ?_
      intro W' h1 h2
      rw [HP.out, if_neg (fun h => hr h.1)]
      exact ⟨_, rfl, rfl, Ft.leaf _ _ _, h1⟩
end Go.Proofs.Ytlhaofbncoijfaa.HandF
namespace Go.Proofs.Ytlhaofbncoijfaa.HandF
set_option linter.unusedVariables false
set_option linter.unusedSimpArgs false
open Go.RowKit Go.Proofs.Ytlhaofbncoijfaa.X Go.Proofs.Ytlhaofbncoijfaa.Tree Go.Proofs.Ytlhaofbncoijfaa.Blocks
open Go.Proofs.YtlhaofbncoijfaaW.PrintWords Go.Proofs.YtlhaofbncoijfaaW.PrintLast Go.Proofs.YtlhaofbncoijfaaW.PrintMore
set_option maxRecDepth 100000 in
set_option maxHeartbeats 40000000 in
theorem Texts9l (k : Kd2) (l : List UInt8) (w : World) (hk : k.1.f1.length ≤ k.2.2) (hkC : Kd.C k24 w k.2.1 k.1.f1.length k.1.f1) (hl : l.length ≤ 140737488355328) :
    Calls Try.prog 9 #[kv k, .string ⟨l.toArray⟩] w fun e w' => e = .returned (.bool true) ∧ Below w.heap.size w w' := by
  have LK := Lib.hid hk
  have CK := Lib.hid hkC
  have HL := Lib.hid hl
  obtain ⟨sl, hsl⟩ : ∃ e, (ShowS k.1).1 = e := ⟨_, rfl⟩
  obtain ⟨e1, he1⟩ : ∃ e, (ShowS k.1).2 = e := ⟨_, rfl⟩
  obtain ⟨e2, he2⟩ : ∃ e, (ParseT l).2 = e := ⟨_, rfl⟩
  obtain ⟨tx, htx⟩ : ∃ t, (ParseT l).1 = t := ⟨_, rfl⟩
  have SL := Lib.hid hsl
  have E1 := Lib.hid he1
  have E2 := Lib.hid he2
  have TT := Lib.hid htx
  clear hk hkC hl hsl he1 he2 htx
  have hu24 := Try.underlying24
  have hu22 := Try.underlying22
  have hu26 := Try.underlying26
  go_enter Try.func9, Try.ntmps9
  go_wp2_with fail
  have B0 : Hid (Below w.heap.size w (w.alloc (.cells #[.bool k.1.f0, .slice k.2.1 k.1.f1.length k.2.2] 24))) := Lib.hid ((Below.refl _ _).alloc (Nat.le_refl _) _)
  have A0 := Lib.hid (box24.new w k)
  refine (pannierlaw04_shown.calls true _ rfl).mono ?_
  rintro e w1 ⟨rfl, hb1⟩
  have A1 := Lib.hid (A0.out.below hb1)
  have B1 := Lib.hid (B0.out.trans (hb1.mono B0.out.size))
  clear hb1 A0
  have a0 := A1.out.c0
  have a1 := A1.out.c1
  go_wp2_with fail
  clear a0 a1
  refine (Show28t k _ LK.out (Kd.C_below CK.out B1.out)).mono ?_
  rintro e w2 ⟨rfl, hb⟩
  rw [SL.out, E1.out]
  have A2 := Lib.hid (A1.out.below hb)
  have B2 := Lib.hid (B1.out.trans (hb.mono B1.out.size))
  clear hb A1
  have a0 := A2.out.c0
  have a1 := A2.out.c1
  go_wp2_with fail
  clear a0 a1
  refine (Show29t k _ LK.out (Kd.C_below CK.out B2.out)).mono ?_
  rintro e w3 ⟨rfl, hb⟩
  rw [SL.out, E1.out]
  have B3 := Lib.hid (B2.out.trans (hb.mono B2.out.size))
  clear hb A2
  go_wp2_with fail
  refine (Parse30 l _).mono ?_
  rintro e w4 ⟨x, rfl, hx, fx, hb⟩
  rw [E2.out]
  have HX := Lib.hid hx
  have B4 := Lib.hid (B3.out.trans (hb.mono B3.out.size))
  have FX4 := Lib.hid fx
  clear hb hx fx
  go_wp2_with fail
  obtain ⟨W5, hW5⟩ : ∃ W, w4.alloc (.cells #[.bool x.1.f0, .slice x.2.1 x.1.f1.length x.2.2] 24) = W := ⟨_, rfl⟩
  have hb5 : Below w4.heap.size w4 W5 := by rw [← hW5]; exact (Below.refl _ _).alloc (Nat.le_refl _) _
  have gx : box24 W5 w4.heap.size x := by rw [← hW5]; exact box24.new _ _
  rw [hW5]
  have X5 := Lib.hid gx
  have FX5 := Lib.hid (FX4.out.below hb5)
  have B5 := Lib.hid (B4.out.trans (hb5.mono B4.out.size))
  clear gx hb5 hW5 FX4
  refine (Parse31 l _ HL.out).mono ?_
  rintro e w6 ⟨y, rfl, hy, fy, hb⟩
  rw [parse_eq] at hy ⊢
  rw [E2.out]
  have HY := Lib.hid hy
  have X6 := Lib.hid (X5.out.below hb)
  have FX6 := Lib.hid (FX5.out.below hb)
  have FY6 := Lib.hid fy
  have B6 := Lib.hid (B5.out.trans (hb.mono B5.out.size))
  clear hb hy fy X5 FX5
  have TX : Hid (x.1 = tx.toS) := Lib.hid (by rw [HX.out, TT.out])
  have TY : Hid (y.1 = tx.toS) := Lib.hid (by rw [HY.out, TT.out])
  have EQ : Hid (T.eqb tx tx = true) := Lib.hid (eqb_self _)
  have e11 : (e1 == e1) = true := by simp
  have e22 : (e2 == e2) = true := by simp
  have ess : (sl == sl) = true := by simp
  have hb7 : Below w6.heap.size w6 (w6.alloc (.cells #[.bool y.1.f0, .slice y.2.1 y.1.f1.length y.2.2] 24)) := (Below.refl _ _).alloc (Nat.le_refl _) _
  have FX7 := Lib.hid (FX6.out.below hb7)
  have FY7 := Lib.hid (FY6.out.below hb7)
  have B7 := Lib.hid (B6.out.trans (hb7.mono B6.out.size))
  have a0 := (X6.out.alloc (ob := (.cells #[.bool y.1.f0, .slice y.2.1 y.1.f1.length y.2.2] 24))).c0
  have a1 := (X6.out.alloc (ob := (.cells #[.bool y.1.f0, .slice y.2.1 y.1.f1.length y.2.2] 24))).c1
  clear hb7
  go_wp2_with fail
  refine (Equal19 x y tx tx _ TX.out TY.out FX7.out.len FX7.out.now FY7.out.len FY7.out.now).mono ?_
  rintro e w8 ⟨rfl, hb8⟩
  have B8 := Lib.hid (B7.out.trans (hb8.mono B7.out.size))
  clear hb8
  rw [EQ.out]
  go_wp2_with fail
  go_ret
  exact ⟨rfl, B8.out⟩
theorem Texts9 (k : Kd2) (a : ByteArray) (w : World) (hk : k.1.f1.length ≤ k.2.2) (hkC : Kd.C k24 w k.2.1 k.1.f1.length k.1.f1) (ha : a.size ≤ 140737488351232) :
    Calls Try.prog 9 #[kv k, .string a] w fun e w' => e = .returned (.bool true) ∧ Below w.heap.size w w' := by
  have e : a = ⟨a.data.toList.toArray⟩ := by cases a; simp
  have hl : a.data.toList.length ≤ 140737488355328 := by
    have : a.data.toList.length = a.size := by rw [Array.length_toList]; rfl
    omega
  rw [e]
  exact Texts9l k _ w hk hkC hl
end Go.Proofs.Ytlhaofbncoijfaa.HandF
