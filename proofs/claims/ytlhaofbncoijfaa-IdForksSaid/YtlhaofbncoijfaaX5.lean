-- Written by a program of this session (xprint.py) out of the translation; Lean checks it.
import Derived.Test.YtlhaofbncoijfaaX0
import Derived.Test.YtlhaofbncoijfaaX12
import Derived.Test.YtlhaofbncoijfaaX15
import Derived.Test.YtlhaofbncoijfaaX20
namespace Go.Proofs.Ytlhaofbncoijfaa.X
open Go.RowKit Go.Proofs.YtlhaofbncoijfaaW.PrintWords Go.Proofs.YtlhaofbncoijfaaW.PrintLast Go.Proofs.YtlhaofbncoijfaaW.PrintMore Go.Proofs.Ytlhaofbncoijfaa.HandF
attribute [local go_sem] max2_int min2_int max_two min_two max_three min_three max_four min_four   -- for this text's walks alone
set_option linter.unusedVariables false
set_option linter.unusedSimpArgs false

/-! ### pannierlaw04_IdForks: function 5 -/
mutual
def pannierlaw04_IdForks.l0 : Nat → List Int → Bool → List (S24) → Int → Option (Bool)
  | 0, _, _, _, _ => none
  | k + 1, x0, x3, x4, x5 => if x5 < (x0.length : Int) then (pannierlaw04_IdForks.j1 k x0 x3 x4 x5 (decide (x5 < 50))) else (pannierlaw04_IdForks.j1 k x0 x3 x4 x5 false)
def pannierlaw04_IdForks.j1 : Nat → List Int → Bool → List (S24) → Int → Bool → Option (Bool)
  | 0, _, _, _, _, _ => none
  | k + 1, x0, x3, x4, x5, x20 => if x20 = true then (if 0 ≤ x5 then (if x5 < (x0.length : Int) then (if (x4.length : Int) = 0 then (none) else (if (Int.tmod (rd x0 x5) (x4.length : Int)) < 0 then (pannierlaw04_IdForks.j2 k x0 x3 x4 x5 (wrap64 (-(Int.tmod (rd x0 x5) (x4.length : Int))))) else (pannierlaw04_IdForks.j2 k x0 x3 x4 x5 (Int.tmod (rd x0 x5) (x4.length : Int))))) else (none)) else (none)) else (if x3 = true then ((id_Whole.f k x4).bind fun t641 => (some t641)) else (some false))
def pannierlaw04_IdForks.j2 : Nat → List Int → Bool → List (S24) → Int → Int → Option (Bool)
  | 0, _, _, _, _, _ => none
  | k + 1, x0, x3, x4, x5, x6 => if 0 ≤ x6 then (if x6 < (x4.length : Int) then ((id_Split.f k ((rd_T24 x4 x6).f0) ((rd_T24 x4 x6).f1)).bind fun bt644 => (if bt644.2.2.2.2 = 0 then ((some (x4.set (x6 : Int).toNat (⟨bt644.1, bt644.2.1⟩ : S24) : List (S24))).bind fun y655 => (if y655.length < 4398046511104 then (pannierlaw04_IdForks.l0 k x0 x3 (y655 ++ [(⟨bt644.2.2.1, bt644.2.2.2.1⟩ : S24)]) (wrap64 (x5 + 1))) else (none))) else (if bt644.2.2.2.2 = 41 then (pannierlaw04_IdForks.l0 k x0 x3 x4 (wrap64 (x5 + 1))) else (some false)))) else (none)) else (none)
end
def pannierlaw04_IdForks.f (k : Nat) (l0 : List Int) : Option (Bool) := (pannierlaw04_shown.f k).bind fun t637 => (pannierlaw04_IdForks.l0 k l0 t637 (([(⟨true, ([] : List (S24))⟩ : S24)] : List (S24))) 0)
theorem pannierlaw04_IdForks.mono_l : ∀ k, (∀ y0 y1 y2 y3, LeO (pannierlaw04_IdForks.l0 k y0 y1 y2 y3) (pannierlaw04_IdForks.l0 (k + 1) y0 y1 y2 y3)) ∧ (∀ y0 y1 y2 y3 y4, LeO (pannierlaw04_IdForks.j1 k y0 y1 y2 y3 y4) (pannierlaw04_IdForks.j1 (k + 1) y0 y1 y2 y3 y4)) ∧ (∀ y0 y1 y2 y3 y4, LeO (pannierlaw04_IdForks.j2 k y0 y1 y2 y3 y4) (pannierlaw04_IdForks.j2 (k + 1) y0 y1 y2 y3 y4))
  | 0 => ⟨fun _ _ _ _ r h => by simp [pannierlaw04_IdForks.l0] at h, fun _ _ _ _ _ r h => by simp [pannierlaw04_IdForks.j1] at h, fun _ _ _ _ _ r h => by simp [pannierlaw04_IdForks.j2] at h⟩
  | k + 1 => by
    obtain ⟨ih0, ih1, ih2⟩ := pannierlaw04_IdForks.mono_l k
    refine ⟨?_, ?_, ?_⟩
    · intro y0 y1 y2 y3
      unfold pannierlaw04_IdForks.l0
      repeat' first
      | (with_reducible exact ih0 _ _ _ _)
      | (with_reducible exact ih1 _ _ _ _ _)
      | (with_reducible exact ih2 _ _ _ _ _)
      | (with_reducible exact id_Split.mono _ _ _)
      | (with_reducible exact id_Whole.mono _ _)
      | (with_reducible exact pannierlaw04_shown.mono _)
      | (with_reducible exact LeO.refl _)
      | (with_reducible exact LeO.none _)
      | (with_reducible refine LeO.ite ?_ ?_)
      | (with_reducible refine LeO.bind ?_ (fun _ => ?_))
      | exact ih0 _ _ _ _
      | exact ih1 _ _ _ _ _
      | exact ih2 _ _ _ _ _
      | exact id_Split.mono _ _ _
      | exact id_Whole.mono _ _
      | exact pannierlaw04_shown.mono _
      | exact LeO.none _
      | refine LeO.ite ?_ ?_
      | refine LeO.bind ?_ (fun _ => ?_)
    · intro y0 y1 y2 y3 y4
      unfold pannierlaw04_IdForks.j1
      repeat' first
      | (with_reducible exact ih0 _ _ _ _)
      | (with_reducible exact ih1 _ _ _ _ _)
      | (with_reducible exact ih2 _ _ _ _ _)
      | (with_reducible exact id_Split.mono _ _ _)
      | (with_reducible exact id_Whole.mono _ _)
      | (with_reducible exact pannierlaw04_shown.mono _)
      | (with_reducible exact LeO.refl _)
      | (with_reducible exact LeO.none _)
      | (with_reducible refine LeO.ite ?_ ?_)
      | (with_reducible refine LeO.bind ?_ (fun _ => ?_))
      | exact ih0 _ _ _ _
      | exact ih1 _ _ _ _ _
      | exact ih2 _ _ _ _ _
      | exact id_Split.mono _ _ _
      | exact id_Whole.mono _ _
      | exact pannierlaw04_shown.mono _
      | exact LeO.none _
      | refine LeO.ite ?_ ?_
      | refine LeO.bind ?_ (fun _ => ?_)
    · intro y0 y1 y2 y3 y4
      unfold pannierlaw04_IdForks.j2
      repeat' first
      | (with_reducible exact ih0 _ _ _ _)
      | (with_reducible exact ih1 _ _ _ _ _)
      | (with_reducible exact ih2 _ _ _ _ _)
      | (with_reducible exact id_Split.mono _ _ _)
      | (with_reducible exact id_Whole.mono _ _)
      | (with_reducible exact pannierlaw04_shown.mono _)
      | (with_reducible exact LeO.refl _)
      | (with_reducible exact LeO.none _)
      | (with_reducible refine LeO.ite ?_ ?_)
      | (with_reducible refine LeO.bind ?_ (fun _ => ?_))
      | exact ih0 _ _ _ _
      | exact ih1 _ _ _ _ _
      | exact ih2 _ _ _ _ _
      | exact id_Split.mono _ _ _
      | exact id_Whole.mono _ _
      | exact pannierlaw04_shown.mono _
      | exact LeO.none _
      | refine LeO.ite ?_ ?_
      | refine LeO.bind ?_ (fun _ => ?_)
theorem pannierlaw04_IdForks.mono : ∀ a0 k, LeO (pannierlaw04_IdForks.f k a0) (pannierlaw04_IdForks.f (k + 1) a0) := by
  intro a0 k
  obtain ⟨ih0, ih1, ih2⟩ := pannierlaw04_IdForks.mono_l k
  unfold pannierlaw04_IdForks.f
  repeat' first
      | (with_reducible exact ih0 _ _ _ _)
      | (with_reducible exact ih1 _ _ _ _ _)
      | (with_reducible exact ih2 _ _ _ _ _)
      | (with_reducible exact id_Split.mono _ _ _)
      | (with_reducible exact id_Whole.mono _ _)
      | (with_reducible exact pannierlaw04_shown.mono _)
      | (with_reducible exact LeO.refl _)
      | (with_reducible exact LeO.none _)
      | (with_reducible refine LeO.ite ?_ ?_)
      | (with_reducible refine LeO.bind ?_ (fun _ => ?_))
      | exact ih0 _ _ _ _
      | exact ih1 _ _ _ _ _
      | exact ih2 _ _ _ _ _
      | exact id_Split.mono _ _ _
      | exact id_Whole.mono _ _
      | exact pannierlaw04_shown.mono _
      | exact LeO.none _
      | refine LeO.ite ?_ ?_
      | refine LeO.bind ?_ (fun _ => ?_)
set_option maxHeartbeats 8000000 in
set_option maxRecDepth 100000 in
theorem pannierlaw04_IdForks.calls (k : Nat) (A0 : Option Addr) (c0 : Nat) (l0 : List Int) (r : Bool) (w : World) (hr0 : Kd.C (Kd.int .i64) w A0 l0.length l0) (hc0 : l0.length ≤ c0) (h : pannierlaw04_IdForks.f k l0 = some r) :
    Calls Try.prog 5 #[.slice A0 l0.length c0] w fun e w' => e = .returned (.bool r) ∧ Below w.heap.size w w' := by
  have hu24 := Try.underlying24
  have HR0 := Aside0.mk hr0
  have HC0 := Aside0.mk hc0
  clear hr0 hc0
  have HB := Aside0.mk (Below.refl w.heap.size w)
  have H : ((pannierlaw04_shown.f k).bind fun t637 => (pannierlaw04_IdForks.l0 k l0 t637 (([(⟨true, ([] : List (S24))⟩ : S24)] : List (S24))) 0)) = some r := h
  clear h
  replace H := Option.bind_eq_some_iff.mp H
  obtain ⟨t637, A20, H⟩ := H
  replace H : (pannierlaw04_IdForks.l0 k l0 t637 (([(⟨true, ([] : List (S24))⟩ : S24)] : List (S24))) 0) = some r := H
  have A2 := Aside0.mk A20
  clear A20
  obtain ⟨y638, hy638⟩ : ∃ y_ : List (S24), y_ = (([(⟨true, ([] : List (S24))⟩ : S24)] : List (S24))) := ⟨_, rfl⟩
  replace H : (pannierlaw04_IdForks.l0 k l0 t637 y638 0) = some r := by first | (rw [hy638]; with_reducible exact H) | (have H2_ := (Option.bind_some _ _).symm.trans H; rw [hy638]; with_reducible exact H2_) | (have H2_ := (Option.bind_some _ _).symm.trans H; with_reducible exact H2_) | with_reducible exact H | (rw [hy638]; exact H) | exact H
  have Ny638 := Aside0.mk hy638
  clear hy638
  have H' := Aside0.mk H
  clear H
  go_enter Try.func5, Try.ntmps5
  go_wp2_with (first | ((with_reducible refine gate_callee (f := 12) rfl ?_); refine goesL_ (some 10) rfl rfl Try.func12 (by kernel_rfl) rfl #[] rfl (by (try simp only [List.map_toArray, List.map_cons, List.map_nil]); first | done | rfl | (simp only [List.length_drop, List.length_take]; rfl)) ?_; (with_reducible refine (pannierlaw04_shown.calls k  t637 _ A2.out).mono ?_); rintro e w3 ⟨rfl, hb⟩; refine ⟨_, rfl, ?_⟩; have n0_ := Aside0.mk (below_step (by repeat (first | (with_reducible first | exact HB.out | apply below_alloc | apply pw_below_drewN | apply below_drew1) | exact HB.out)) hb); clear HB; have HB := n0_; clear n0_; (try clear hb); (try clear hb2); (try clear hk); (try clear hi)) | ((with_reducible refine gate_dst (N := 12) rfl ?_); refine Kd.N_lit k24 _ 24 ?hg (N' := 12) ?hd (xs := ([(⟨true, ([] : List (S24))⟩ : S24)] : List (S24))) (inner := [.bool true, .slice none 0 0]) (ok := (fun _ => True)) (okp := (fun _ => True)) ?hr ?hp (fun _ hk => hk) ((show ∀ k_, w3.heap.size ≤ k_ → (fun _ => True) k_ from fun k_ hk => trivial) _ (Nat.le_refl _)) (Below.refl _ _) (Nat.le_refl _) (by simp) ?_; (case hd => rfl); (case hg => rfl); (case hr => first | (go_simp; done) | (go_simp; rfl)); (case hp => exact (Reps.c2 (show Kd.FK k24 _ _ (⟨true, ([] : List (S24))⟩ : S24) [.bool true, .slice none 0 0] from (k24_mkF _ _ (⟨true, ([] : List (S24))⟩ : S24) (Nat.le_refl _) (Kd.F_nil _ _ _))) (Reps.none _ _))); intro v639 w4 ho5 hb hg_ hnew_; clear hg_ hnew_; (first | rw [← Ny638.out] at ho5 | (simp only [Int.reduceToNat] at ho5; rw [← Ny638.out] at ho5)); have n0_ := Aside0.mk (Kd.N_lower ho5 (below_size (by repeat (first | (with_reducible first | exact HB.out | apply below_alloc | apply pw_below_drewN | apply below_drew1) | exact HB.out)))); have n1_ := Aside0.mk (below_step (by repeat (first | (with_reducible first | exact HB.out | apply below_alloc | apply pw_below_drewN | apply below_drew1) | exact HB.out)) hb); clear HB; have HO640 := n0_; have HB := n1_; clear n0_ n1_; clear hb ho5))
  go_loopg [4, 5] k (fun kq v4 v5 w' => ∃ (x4_1 : List (S24)) (x5_1 : Int), v5 = .int .i64 x5_1 ∧ Aside0 (pannierlaw04_IdForks.l0 kq l0 t637 x4_1 x5_1 = some r) ∧ Aside0 (kq ≤ k) ∧ Aside0 (Kd.N k24 24 w' w.heap.size (fun _ => True) v4 x4_1) ∧ Aside0 (Below w.heap.size w w'))
  case atStart => exact ⟨(y638), (0), (by first | rfl | (simp; done) | (simp [*]; done)), H', ⟨Nat.le_refl _⟩, ⟨by (with_reducible repeat (first | apply Kd.N_alloc | apply Kd.N_drewN | apply Kd.N_drew)); exact HO640.out⟩, ⟨by repeat (first | (with_reducible first | exact HB.out | apply below_alloc | apply pw_below_drewN | apply below_drew1) | exact HB.out)⟩⟩
  case round =>
    clear H'
    try clear c1
    try clear c2
    try clear p2
    try clear c5
    obtain ⟨x4_1, x5_1, rfl, HA, HK1, HO_4, HB⟩ := hrel
    cases gk with
    | zero => exact absurd HA.out (by simp [pannierlaw04_IdForks.l0])
    | succ k1 =>
      have H := HA.out
      clear HA
      simp only [pannierlaw04_IdForks.l0] at H
      have HC6 := Aside0.mk H
      clear H
      go_upto_region 4 with (fail)
      go_cut [20] (fun v20 wc => ∃ (kq : Nat) (x20_5 : Bool), v20 = .bool x20_5 ∧ Aside0 (pannierlaw04_IdForks.j1 kq l0 t637 x4_1 x5_1 x20_5 = some r) ∧ Aside0 (kq ≤ k1) ∧ Aside0 (Kd.N k24 24 wc w.heap.size (fun _ => True) u4 x4_1) ∧ Aside0 (Below w.heap.size w wc))
      case first =>
        have H := HC6.out
        clear HC6
        by_cases c7 : x5_1 < (l0.length : Int)
        · rw [if_pos c7] at H
          have c7b0 : decide (x5_1 < (l0.length : Int)) = true := decide_eq_true c7
          clear c7
          (first | rw [c7b0] | (simp only [i64_w, i32_w]; rw [c7b0]) | skip)
          have H' := Aside0.mk H
          clear H
          go_wp2
          go_meet
          case rel => exact ⟨_, (decide (x5_1 < 50)), (by first | rfl | (simp; done) | (simp [*]; done)), H', ⟨by have := HK1.out; first | omega | exact Nat.le_refl _⟩, ⟨by (with_reducible repeat (first | apply Kd.N_alloc | apply Kd.N_drewN | apply Kd.N_drew)); exact HO_4.out⟩, ⟨by repeat (first | (with_reducible first | exact HB.out | apply below_alloc | apply pw_below_drewN | apply below_drew1) | exact HB.out)⟩⟩
        · rw [if_neg c7] at H
          have c7b0 : decide (x5_1 < (l0.length : Int)) = false := decide_eq_false c7
          clear c7
          (first | rw [c7b0] | (simp only [i64_w, i32_w]; rw [c7b0]) | skip)
          have H' := Aside0.mk H
          clear H
          go_wp2
          go_meet
          case rel => exact ⟨_, (false), (by first | rfl | (simp; done) | (simp [*]; done)), H', ⟨by have := HK1.out; first | omega | exact Nat.le_refl _⟩, ⟨by (with_reducible repeat (first | apply Kd.N_alloc | apply Kd.N_drewN | apply Kd.N_drew)); exact HO_4.out⟩, ⟨by repeat (first | (with_reducible first | exact HB.out | apply below_alloc | apply pw_below_drewN | apply below_drew1) | exact HB.out)⟩⟩
      case rest =>
        clear HC6
        try clear c1
        try clear c2
        try clear p2
        try clear c5
        try clear c7
        try clear c7b0
        try clear p2
        obtain ⟨kq, x20_5, rfl, HA, HJ5, HO_4, HB⟩ := hcut
        cases kq with
        | zero => exact absurd HA.out (by simp [pannierlaw04_IdForks.j1])
        | succ kj5 =>
          have H := HA.out
          clear HA
          simp only [pannierlaw04_IdForks.j1] at H
          by_cases c8 : x20_5 = true
          · subst c8
            have H1 : (if 0 ≤ x5_1 then (if x5_1 < (l0.length : Int) then (if (x4_1.length : Int) = 0 then (none) else (if (Int.tmod (rd l0 x5_1) (x4_1.length : Int)) < 0 then (pannierlaw04_IdForks.j2 kj5 l0 t637 x4_1 x5_1 (wrap64 (-(Int.tmod (rd l0 x5_1) (x4_1.length : Int))))) else (pannierlaw04_IdForks.j2 kj5 l0 t637 x4_1 x5_1 (Int.tmod (rd l0 x5_1) (x4_1.length : Int))))) else (none)) else (none)) = some r := by rw [if_pos rfl] at H; exact H
            clear H
            have H := H1
            clear H1
            by_cases c9 : 0 ≤ x5_1
            · rw [if_pos c9] at H
              have c9b0 : decide (0 ≤ x5_1) = true := decide_eq_true c9
              clear c9
              by_cases c10 : x5_1 < (l0.length : Int)
              · rw [if_pos c10] at H
                have c10b0 : decide (x5_1 < (l0.length : Int)) = true := decide_eq_true c10
                clear c10
                by_cases c11 : (x4_1.length : Int) = 0
                · rw [if_pos c11] at H
                  exact absurd H (by simp)
                · rw [if_neg c11] at H
                  have c11b0 : ((x4_1.length : Int) == 0) = false := beq_eq_false_iff_ne.mpr c11
                  have c11b1 : ((x4_1.length : Int) != 0) = true := bne_iff_ne.mpr c11
                  have c11b2 : ¬ (x4_1 = []) := fun h_ => c11 (by rw [h_]; rfl)
                  have HC12 := Aside0.mk H
                  clear H
                  have p642 : 0 ≤ (x5_1 : Int) := of_decide_eq_true (by first | (with_reducible assumption) | assumption)
                  have q642 : x5_1 < (l0.length : Int) := of_decide_eq_true (by first | (with_reducible assumption) | assumption)
                  obtain ⟨ad642, e642, hx642_0⟩ := Kd.at_int HR0.out x5_1 p642 q642
                  cases e642
                  replace hx642_0 := (HB.out.cell (World.block_lt_of_cell? w _ hx642_0)).trans hx642_0
                  replace p642 := eq_true p642
                  replace q642 := eq_true q642
                  obtain ⟨Ao13, co13, eo13⟩ := Kd.N_slice HO_4.out
                  subst eo13
                  go_upto_if 31 with (fail)
                  go_cut [6] (fun v6 wc => ∃ (kq : Nat) (x6_11 : Int), v6 = .int .i64 x6_11 ∧ Aside0 (pannierlaw04_IdForks.j2 kq l0 t637 x4_1 x5_1 x6_11 = some r) ∧ Aside0 (kq ≤ kj5) ∧ Aside0 (Kd.N k24 24 wc w.heap.size (fun _ => True) (.slice Ao13 x4_1.length co13) x4_1) ∧ Aside0 (Below w.heap.size w wc))
                  case first =>
                    have H := HC12.out
                    clear HC12
                    by_cases c14 : (Int.tmod (rd l0 x5_1) (x4_1.length : Int)) < 0
                    · rw [if_pos c14] at H
                      have c14b0 : decide ((Int.tmod (rd l0 x5_1) (x4_1.length : Int)) < 0) = true := decide_eq_true c14
                      clear c14
                      (first | rw [c14b0] | (simp only [i64_w, i32_w]; rw [c14b0]) | skip)
                      have H' := Aside0.mk H
                      clear H
                      go_wp2
                      go_meet
                      case rel => exact ⟨_, (wrap64 (-(Int.tmod (rd l0 x5_1) (x4_1.length : Int)))), (by first | rfl | (simp; done) | (simp [*]; done)), H', ⟨by have := HK1.out; have := HJ5.out; first | omega | exact Nat.le_refl _⟩, ⟨by (with_reducible repeat (first | apply Kd.N_alloc | apply Kd.N_drewN | apply Kd.N_drew)); exact HO_4.out⟩, ⟨by repeat (first | (with_reducible first | exact HB.out | apply below_alloc | apply pw_below_drewN | apply below_drew1) | exact HB.out)⟩⟩
                    · rw [if_neg c14] at H
                      have c14b0 : decide ((Int.tmod (rd l0 x5_1) (x4_1.length : Int)) < 0) = false := decide_eq_false c14
                      clear c14
                      (first | rw [c14b0] | (simp only [i64_w, i32_w]; rw [c14b0]) | skip)
                      have H' := Aside0.mk H
                      clear H
                      go_wp2
                      go_meet
                      case rel => exact ⟨_, (Int.tmod (rd l0 x5_1) (x4_1.length : Int)), (by first | rfl | (simp; done) | (simp [*]; done)), H', ⟨by have := HK1.out; have := HJ5.out; first | omega | exact Nat.le_refl _⟩, ⟨by (with_reducible repeat (first | apply Kd.N_alloc | apply Kd.N_drewN | apply Kd.N_drew)); exact HO_4.out⟩, ⟨by repeat (first | (with_reducible first | exact HB.out | apply below_alloc | apply pw_below_drewN | apply below_drew1) | exact HB.out)⟩⟩
                  case rest =>
                    clear HC12
                    try clear c1
                    try clear c2
                    try clear p2
                    try clear c5
                    try clear p6
                    try clear q6
                    try clear hx6
                    try clear c7
                    try clear c7b0
                    try clear c8
                    try clear c9
                    try clear c9b0
                    try clear c10
                    try clear c10b0
                    try clear c11
                    try clear c11b0
                    try clear c11b1
                    try clear c11b2
                    try clear c12
                    try clear c14
                    try clear c14b0
                    try clear hx642_0
                    try clear p2
                    try clear p642
                    try clear q642
                    obtain ⟨kq, x6_11, rfl, HA, HJ11, HO_4, HB⟩ := hcut
                    cases kq with
                    | zero => exact absurd HA.out (by simp [pannierlaw04_IdForks.j2])
                    | succ kj11 =>
                      have H := HA.out
                      clear HA
                      simp only [pannierlaw04_IdForks.j2] at H
                      by_cases c15 : 0 ≤ x6_11
                      · rw [if_pos c15] at H
                        have c15b0 : decide (0 ≤ x6_11) = true := decide_eq_true c15
                        clear c15
                        by_cases c16 : x6_11 < (x4_1.length : Int)
                        · rw [if_pos c16] at H
                          have c16b0 : decide (x6_11 < (x4_1.length : Int)) = true := decide_eq_true c16
                          clear c16
                          replace H := Option.bind_eq_some_iff.mp H
                          obtain ⟨⟨t644, t645, t648, t649, t652⟩, A170, H⟩ := H
                          replace H : (if t652 = 0 then ((some (x4_1.set (x6_11 : Int).toNat (⟨t644, t645⟩ : S24) : List (S24))).bind fun y655 => (if y655.length < 4398046511104 then (pannierlaw04_IdForks.l0 kj11 l0 t637 (y655 ++ [(⟨t648, t649⟩ : S24)]) (wrap64 (x5_1 + 1))) else (none))) else (if t652 = 41 then (pannierlaw04_IdForks.l0 kj11 l0 t637 x4_1 (wrap64 (x5_1 + 1))) else (some false))) = some r := H
                          have A17 := Aside0.mk A170
                          clear A170
                          by_cases c18 : t652 = 0
                          · rw [if_pos c18] at H
                            have c18b0 : (t652 == 0) = true := beq_iff_eq.mpr c18
                            have c18b1 : (t652 != 0) = false := bne_eq_false_iff_eq.mpr c18
                            clear c18
                            obtain ⟨y655, hy655⟩ : ∃ y_ : List (S24), y_ = (x4_1.set (x6_11 : Int).toNat (⟨t644, t645⟩ : S24)) := ⟨_, rfl⟩
                            replace H : (if y655.length < 4398046511104 then (pannierlaw04_IdForks.l0 kj11 l0 t637 (y655 ++ [(⟨t648, t649⟩ : S24)]) (wrap64 (x5_1 + 1))) else (none)) = some r := by first | (rw [hy655]; with_reducible exact H) | (have H2_ := (Option.bind_some _ _).symm.trans H; rw [hy655]; with_reducible exact H2_) | (have H2_ := (Option.bind_some _ _).symm.trans H; with_reducible exact H2_) | with_reducible exact H | (rw [hy655]; exact H) | exact H
                            have Ny655 := Aside0.mk hy655
                            clear hy655
                            by_cases c20 : y655.length < 4398046511104
                            · rw [if_pos c20] at H
                              have LMc20 := Aside0.mk c20
                              clear c20
                              obtain ⟨y656, hy656⟩ : ∃ y_ : List (S24), y_ = (y655 ++ [(⟨t648, t649⟩ : S24)]) := ⟨_, rfl⟩
                              replace H : (pannierlaw04_IdForks.l0 kj11 l0 t637 y656 (wrap64 (x5_1 + 1))) = some r := by first | (rw [hy656]; with_reducible exact H) | (have H2_ := (Option.bind_some _ _).symm.trans H; rw [hy656]; with_reducible exact H2_) | (have H2_ := (Option.bind_some _ _).symm.trans H; with_reducible exact H2_) | with_reducible exact H | (rw [hy656]; exact H) | exact H
                              have Ny656 := Aside0.mk hy656
                              clear hy656
                              have H' := Aside0.mk H
                              clear H
                              have p643 : 0 ≤ (x6_11 : Int) := of_decide_eq_true (by first | (with_reducible assumption) | assumption)
                              have q643 : x6_11 < (x4_1.length : Int) := of_decide_eq_true (by first | (with_reducible assumption) | assumption)
                              obtain ⟨ad643, A643_1, c643_1, e643, hx643_0, hx643_1, hl643_1, hi643_1⟩ := at_T24 (Kd.N_reads' HO_4.out).2.2 x6_11 p643 q643
                              cases e643
                              obtain ⟨ce643, hce643, hMe643, hcc643⟩ := Kd.N_get HO_4.out z24 x6_11 p643 (by first | exact q643 | exact of_decide_eq_true (by first | (with_reducible assumption) | assumption) | (have e_ := (Kd.N_reads' HO_4.out).1; omega))
                              obtain ⟨ua643_1, uc643_1, rfl, ul643_1, ge643_1⟩ := k24_openF hMe643
                              have hv643_1 := hcc643 1 _ rfl
                              rw [add_field _ _ 1 (by omega)] at hv643_1
                              replace hv643_1 := Option.some.inj (hv643_1.symm.trans hx643_1)
                              injection hv643_1 with hva_ hvn_ hvc_
                              rw [hva_] at ge643_1
                              rw [hvc_] at ul643_1
                              have HL643_1 := Aside0.mk (show Kd.V k24 24 _ w.heap.size _ _ ((rd_T24 x4_1 x6_11).f1) from Kd.V_mk ul643_1 ge643_1)
                              clear hva_ hvn_ hvc_ ge643_1 ul643_1
                              clear hcc643 hce643
                              have HR643_1 := Aside0.mk hi643_1
                              have HC643_1 := Aside0.mk hl643_1
                              clear hi643_1 hl643_1
                              replace p643 := eq_true p643
                              replace q643 := eq_true q643
                              go_wp2_with (first | ((with_reducible refine gate_callee (f := 15) rfl ?_); refine goesL_ (some 39) rfl rfl Try.func15 (by kernel_rfl) rfl #[.agg #[.bool ((rd_T24 x4_1 x6_11).f0), .slice A643_1 ((rd_T24 x4_1 x6_11).f1).length c643_1]] rfl (by (try simp only [List.map_toArray, List.map_cons, List.map_nil]); first | done | rfl | (simp only [List.length_drop, List.length_take]; rfl)) ?_; (with_reducible refine (id_Split.calls kj11 ((rd_T24 x4_1 x6_11).f0) _ _ ((rd_T24 x4_1 x6_11).f1) t644 t645 t648 t649 t652 _ ?side1 ?side2 A17.out).mono ?_); (case side1 => repeat (first | exact (by repeat (first | (with_reducible exact HR643_1.out) | (with_reducible refine Kd.C_alloc ?_ _) | (with_reducible refine Kd.C_drewN ?_ _) | (with_reducible refine Kd.C_drew ?_) | exact HR643_1.out)) | (with_reducible refine Kd.C_alloc ?_ _) | (with_reducible refine Kd.C_drewN ?_ _) | (with_reducible refine Kd.C_drew ?_))); (case side2 => exact HC643_1.out); rintro e w21 ⟨v646, v650, rfl, ho0, ho1, hb⟩; refine ⟨_, rfl, ?_⟩; have n0_ := Aside0.mk (Kd.N_below (by (with_reducible repeat (first | apply Kd.N_alloc | apply Kd.N_drewN | apply Kd.N_drew)); exact HO_4.out) hb); have n1_ := Aside0.mk (Kd.V_below (by (with_reducible repeat (first | apply Kd.V_alloc | apply Kd.V_drewN | apply Kd.V_drew)); exact HL643_1.out) hb); have n2_ := Aside0.mk (Kd.V_lower (Kd.V_mono (ok' := fun k_ => some k_ ≠ (.slice (some ad643) x4_1.length co13 : Value).ownBlock) ho0 (fun k_ hk_ => (Kd.fresh' (Kd.N_lt (by (with_reducible repeat (first | apply Kd.N_alloc | apply Kd.N_drewN | apply Kd.N_drew)); exact HO_4.out)) k_ hk_))) (below_size (by repeat (first | (with_reducible first | exact HB.out | apply below_alloc | apply pw_below_drewN | apply below_drew1) | exact HB.out)))); have n3_ := Aside0.mk (Kd.V_lower (Kd.V_mono (ok' := fun k_ => some k_ ≠ (.slice (some ad643) x4_1.length co13 : Value).ownBlock) ho1 (fun k_ hk_ => (Kd.fresh' (Kd.N_lt (by (with_reducible repeat (first | apply Kd.N_alloc | apply Kd.N_drewN | apply Kd.N_drew)); exact HO_4.out)) k_ hk_))) (below_size (by repeat (first | (with_reducible first | exact HB.out | apply below_alloc | apply pw_below_drewN | apply below_drew1) | exact HB.out)))); have n4_ := Aside0.mk (Kd.C_below (by repeat (first | (with_reducible exact HR643_1.out) | (with_reducible refine Kd.C_alloc ?_ _) | (with_reducible refine Kd.C_drewN ?_ _) | (with_reducible refine Kd.C_drew ?_) | exact HR643_1.out)) hb); have n5_ := Aside0.mk (below_step (by repeat (first | (with_reducible first | exact HB.out | apply below_alloc | apply pw_below_drewN | apply below_drew1) | exact HB.out)) hb); clear HO_4; clear HL643_1; clear HR643_1; clear HB; have HO_4 := n0_; have HL643_1 := n1_; have HO647 := n2_; have HO651 := n3_; have HR643_1 := n4_; have HB := n5_; clear n0_ n1_ n2_ n3_ n4_ n5_; (try clear hb); (try clear hb2); (try clear hk); (try clear hi); (try clear ho0); (try clear ho1)) | ((with_reducible refine gate_dst (N := 7) rfl ?_); refine box_event ?hg (N := 7) ?hd (cs := #[.bool false, .slice none 0 0]) (t := 24) ?hr ?_; (case hd => rfl); (case hg => rfl); (case hr => first | (go_simp; done) | (go_simp; rfl)); intro gb653 hg w22 hbox hb; have n0_ := Aside0.mk (Kd.N_below (Kd.N_elderB (by (with_reducible repeat (first | apply Kd.N_alloc | apply Kd.N_drewN | apply Kd.N_drew)); exact HO_4.out) gb653 (Nat.le_of_eq hg.symm)) hb); have n1_ := Aside0.mk (Kd.V_below (Kd.V_elderB (by (with_reducible repeat (first | apply Kd.V_alloc | apply Kd.V_drewN | apply Kd.V_drew)); exact HL643_1.out) gb653 (Nat.le_of_eq hg.symm)) hb); have n2_ := Aside0.mk (Kd.V_below (Kd.V_elderB (by (with_reducible repeat (first | apply Kd.V_alloc | apply Kd.V_drewN | apply Kd.V_drew)); exact HO647.out) gb653 (Nat.le_of_eq hg.symm)) hb); have n3_ := Aside0.mk (Kd.V_below (Kd.V_elderB (by (with_reducible repeat (first | apply Kd.V_alloc | apply Kd.V_drewN | apply Kd.V_drew)); exact HO651.out) gb653 (Nat.le_of_eq hg.symm)) hb); have n4_ := Aside0.mk (Kd.C_below (by repeat (first | (with_reducible exact HR643_1.out) | (with_reducible refine Kd.C_alloc ?_ _) | (with_reducible refine Kd.C_drewN ?_ _) | (with_reducible refine Kd.C_drew ?_) | exact HR643_1.out)) hb); have n5_ := Aside0.mk (below_step (by repeat (first | (with_reducible first | exact HB.out | apply below_alloc | apply pw_below_drewN | apply below_drew1) | exact HB.out)) hb); have n6_ := Aside0.mk (hbox); have n7_ := Aside0.mk ((by rw [hg]; exact (below_size (by repeat (first | (with_reducible first | exact HB.out | apply below_alloc | apply pw_below_drewN | apply below_drew1) | exact HB.out))) : w.heap.size ≤ gb653)); have n8_ := Aside0.mk ((by rw [hg]; exact (below_size (by repeat (first | (with_reducible first | exact HB.out | apply below_alloc | apply pw_below_drewN | apply below_drew1) | exact HB.out))) : w.heap.size ≤ gb653)); clear HO_4; clear HL643_1; clear HO647; clear HO651; clear HR643_1; clear HB; have HO_4 := n0_; have HL643_1 := n1_; have HO647 := n2_; have HO651 := n3_; have HR643_1 := n4_; have HB := n5_; have BK653 := n6_; have GW653 := n7_; have GE653 := n8_; clear n0_ n1_ n2_ n3_ n4_ n5_ n6_ n7_ n8_; clear hb hbox hg) | ((with_reducible refine gate_dst (N := 8) rfl ?_); refine box_event ?hg (N := 8) ?hd (cs := #[.bool false, .slice none 0 0]) (t := 24) ?hr ?_; (case hd => rfl); (case hg => rfl); (case hr => first | (go_simp; done) | (go_simp; rfl)); intro gb654 hg w23 hbox hb; have n0_ := Aside0.mk (Kd.N_below (Kd.N_elderB (by (with_reducible repeat (first | apply Kd.N_alloc | apply Kd.N_drewN | apply Kd.N_drew)); exact HO_4.out) gb654 (Nat.le_of_eq hg.symm)) hb); have n1_ := Aside0.mk (Kd.V_below (Kd.V_elderB (by (with_reducible repeat (first | apply Kd.V_alloc | apply Kd.V_drewN | apply Kd.V_drew)); exact HL643_1.out) gb654 (Nat.le_of_eq hg.symm)) hb); have n2_ := Aside0.mk (Kd.V_below (Kd.V_elderB (by (with_reducible repeat (first | apply Kd.V_alloc | apply Kd.V_drewN | apply Kd.V_drew)); exact HO647.out) gb654 (Nat.le_of_eq hg.symm)) hb); have n3_ := Aside0.mk (Kd.V_below (Kd.V_elderB (by (with_reducible repeat (first | apply Kd.V_alloc | apply Kd.V_drewN | apply Kd.V_drew)); exact HO651.out) gb654 (Nat.le_of_eq hg.symm)) hb); have n4_ := Aside0.mk (Kd.C_below (by repeat (first | (with_reducible exact HR643_1.out) | (with_reducible refine Kd.C_alloc ?_ _) | (with_reducible refine Kd.C_drewN ?_ _) | (with_reducible refine Kd.C_drew ?_) | exact HR643_1.out)) hb); have n5_ := Aside0.mk (blk_below (g := gb653) (o := .cells #[.bool false, .slice none 0 0] 24 (0, 0)) (by (with_reducible repeat (first | refine blk_drewN ?_ _ | refine blk_drew ?_ | refine blk_alloc ?_ _)); exact BK653.out) hb); have n6_ := Aside0.mk (below_step (by repeat (first | (with_reducible first | exact HB.out | apply below_alloc | apply pw_below_drewN | apply below_drew1 | refine below_set ?_ GE653.out) | exact HB.out)) hb); have n7_ := Aside0.mk (hbox); have n8_ := Aside0.mk ((by rw [hg]; exact (below_size (by repeat (first | (with_reducible first | exact HB.out | apply below_alloc | apply pw_below_drewN | apply below_drew1 | refine below_set ?_ GE653.out) | exact HB.out))) : w.heap.size ≤ gb654)); have n9_ := Aside0.mk ((by rw [hg]; exact (below_size (by repeat (first | (with_reducible first | exact HB.out | apply below_alloc | apply pw_below_drewN | apply below_drew1 | refine below_set ?_ GE653.out) | exact HB.out))) : w.heap.size ≤ gb654)); have n10_ := Aside0.mk ((by rw [hg]; exact Nat.ne_of_lt (blk_lt (g := gb653) (o := .cells #[.bool false, .slice none 0 0] 24 (0, 0)) (by (with_reducible repeat (first | refine blk_drewN ?_ _ | refine blk_drew ?_ | refine blk_alloc ?_ _)); exact BK653.out)) : gb653 ≠ gb654)); have n11_ := Aside0.mk ((by rw [hg]; exact Nat.ne_of_gt (blk_lt (g := gb653) (o := .cells #[.bool false, .slice none 0 0] 24 (0, 0)) (by (with_reducible repeat (first | refine blk_drewN ?_ _ | refine blk_drew ?_ | refine blk_alloc ?_ _)); exact BK653.out)) : gb654 ≠ gb653)); clear HO_4; clear HL643_1; clear HO647; clear HO651; clear HR643_1; clear BK653; clear HB; have HO_4 := n0_; have HL643_1 := n1_; have HO647 := n2_; have HO651 := n3_; have HR643_1 := n4_; have BK653 := n5_; have HB := n6_; have BK654 := n7_; have GW654 := n8_; have GE654 := n9_; have NB653_654 := n10_; have NB654_653 := n11_; clear n0_ n1_ n2_ n3_ n4_ n5_ n6_ n7_ n8_ n9_ n10_ n11_; clear hb hbox hg; have hnb24 := NB653_654.out; have hnc24 := NB654_653.out; have hcz25_0 : w23.cell? ⟨gb653, 0, none⟩ = some (.bool false) := (blk_cell BK653.out 0).trans rfl; have hcz25_1 : w23.cell? ⟨gb653, 1, none⟩ = some (.slice none 0 0) := (blk_cell BK653.out 1).trans rfl; have hfz25_0 := blk_frozen BK653.out 0; have hfz25_1 := blk_frozen BK653.out 1; obtain ⟨Ao26, co26, eo26⟩ := Kd.V_slice HO647.out; subst eo26) | ((with_reducible refine gate_store (t := 24) (p := 7) rfl ?_); refine store_event (t := 24) (p := 7) (v := ?vo_w27) (w1 := ((w23.setCell ⟨gb653, 0, none⟩ (.bool t644)).setCell ⟨gb653, 1, none⟩ (.slice Ao26 t645.length co26))) ?hg ?ho ?hn ?hr ?_; (case ho => rfl); (case hg => rfl); (case hn => rfl); (case hr => first | (go_simp; done) | (go_simp; rfl)); intro w27 hw; have n0_ : Aside0 (Kd.N k24 24 w27 w.heap.size (fun k_ => k_ ≠ gb653 ∧ k_ ≠ gb654) (.slice (some ad643) x4_1.length co13) x4_1) := ⟨(by rw [hw]; exact (by (with_reducible repeat (first | apply Kd.N_alloc | apply Kd.N_drewN | apply Kd.N_drew)); exact Kd.N_mono (Kd.N_far (p := ⟨gb653, 1, none⟩) (Kd.N_far (p := ⟨gb653, 0, none⟩) (Kd.N_mono HO_4.out (fun k_ hk => (⟨hk, hk.1.2⟩ : _ ∧ k_ ≠ gb653))) (fun _ hk => hk.2) (.bool t644)) (fun _ hk => hk.2) (.slice Ao26 t645.length co26)) (fun _ hk => ⟨hk.1.1.2, hk.1.2⟩)))⟩; have n1_ : Aside0 (Kd.V k24 24 w27 w.heap.size (fun k_ => some k_ ≠ (.slice (some ad643) x4_1.length co13 : Value).ownBlock ∧ k_ ≠ gb653 ∧ k_ ≠ gb654) (.slice A643_1 ((rd_T24 x4_1 x6_11).f1).length c643_1) ((rd_T24 x4_1 x6_11).f1)) := ⟨(by rw [hw]; exact (by (with_reducible repeat (first | apply Kd.V_alloc | apply Kd.V_drewN | apply Kd.V_drew)); exact Kd.V_mono (Kd.V_far (p := ⟨gb653, 1, none⟩) (Kd.V_far (p := ⟨gb653, 0, none⟩) (Kd.V_mono HL643_1.out (fun k_ hk => (⟨hk, hk.1.2⟩ : _ ∧ k_ ≠ gb653))) (fun _ hk => hk.2) (.bool t644)) (fun _ hk => hk.2) (.slice Ao26 t645.length co26)) (fun _ hk => ⟨hk.1.1.1.2, ⟨hk.1.1.2, hk.1.2⟩⟩)))⟩; have n2_ : Aside0 (Kd.V k24 24 w27 w.heap.size (fun k_ => some k_ ≠ (.slice (some ad643) x4_1.length co13 : Value).ownBlock ∧ k_ ≠ gb653 ∧ k_ ≠ gb654) (.slice Ao26 t645.length co26) t645) := ⟨(by rw [hw]; exact (by (with_reducible repeat (first | apply Kd.V_alloc | apply Kd.V_drewN | apply Kd.V_drew)); exact Kd.V_mono (Kd.V_far (p := ⟨gb653, 1, none⟩) (Kd.V_far (p := ⟨gb653, 0, none⟩) (Kd.V_mono HO647.out (fun k_ hk => (⟨hk, hk.1.2⟩ : _ ∧ k_ ≠ gb653))) (fun _ hk => hk.2) (.bool t644)) (fun _ hk => hk.2) (.slice Ao26 t645.length co26)) (fun _ hk => ⟨hk.1.1.1, ⟨hk.1.1.2, hk.1.2⟩⟩)))⟩; have n3_ : Aside0 (Kd.V k24 24 w27 w.heap.size (fun k_ => some k_ ≠ (.slice (some ad643) x4_1.length co13 : Value).ownBlock ∧ k_ ≠ gb653 ∧ k_ ≠ gb654) v650 t649) := ⟨(by rw [hw]; exact (by (with_reducible repeat (first | apply Kd.V_alloc | apply Kd.V_drewN | apply Kd.V_drew)); exact Kd.V_mono (Kd.V_far (p := ⟨gb653, 1, none⟩) (Kd.V_far (p := ⟨gb653, 0, none⟩) (Kd.V_mono HO651.out (fun k_ hk => (⟨hk, hk.1.2⟩ : _ ∧ k_ ≠ gb653))) (fun _ hk => hk.2) (.bool t644)) (fun _ hk => hk.2) (.slice Ao26 t645.length co26)) (fun _ hk => ⟨hk.1.1.1, ⟨hk.1.1.2, hk.1.2⟩⟩)))⟩; have n4_ : Aside0 (w27.heap[gb653]? = some (.cells #[.bool t644, .slice Ao26 t645.length co26] 24 (0, 0))) := ⟨(by rw [hw]; exact (by (with_reducible repeat (first | refine blk_drewN ?_ _ | refine blk_drew ?_ | refine blk_alloc ?_ _)); refine blk_put (cs := #[.bool t644, .slice none 0 0]) ?_ 1 _ rfl; (with_reducible repeat (first | refine blk_drewN ?_ _ | refine blk_drew ?_ | refine blk_alloc ?_ _)); refine blk_put (cs := #[.bool false, .slice none 0 0]) ?_ 0 _ rfl; (with_reducible repeat (first | refine blk_drewN ?_ _ | refine blk_drew ?_ | refine blk_alloc ?_ _)); exact BK653.out))⟩; have n5_ : Aside0 (w27.heap[gb654]? = some (.cells #[.bool false, .slice none 0 0] 24 (0, 0))) := ⟨(by rw [hw]; exact (by (with_reducible repeat (first | refine blk_drewN ?_ _ | refine blk_drew ?_ | refine blk_alloc ?_ _)); refine blk_far ?_ NB654_653.out _; (with_reducible repeat (first | refine blk_drewN ?_ _ | refine blk_drew ?_ | refine blk_alloc ?_ _)); refine blk_far ?_ NB654_653.out _; (with_reducible repeat (first | refine blk_drewN ?_ _ | refine blk_drew ?_ | refine blk_alloc ?_ _)); exact BK654.out))⟩; have n6_ : Aside0 (Below w.heap.size w w27) := ⟨(by rw [hw]; exact (by repeat (first | (with_reducible first | exact HB.out | apply below_alloc | apply pw_below_drewN | apply below_drew1 | refine below_set ?_ GE653.out | refine below_set ?_ GE654.out) | exact HB.out)))⟩; clear hw; clear HO_4; clear HL643_1; clear HO647; clear HO651; clear BK653; clear BK654; clear HB; have HO_4 := n0_; have HL643_1 := n1_; have HO647 := n2_; have HO651 := n3_; have BK653 := n4_; have BK654 := n5_; have HB := n6_; clear n0_ n1_ n2_ n3_ n4_ n5_ n6_; have hcz28_0 : w27.cell? ⟨gb654, 0, none⟩ = some (.bool false) := (blk_cell BK654.out 0).trans rfl; have hcz28_1 : w27.cell? ⟨gb654, 1, none⟩ = some (.slice none 0 0) := (blk_cell BK654.out 1).trans rfl; have hfz28_0 := blk_frozen BK654.out 0; have hfz28_1 := blk_frozen BK654.out 1; obtain ⟨Ao29, co29, eo29⟩ := Kd.V_slice HO651.out; subst eo29) | ((with_reducible refine gate_store (t := 24) (p := 8) rfl ?_); refine store_event (t := 24) (p := 8) (v := ?vo_w30) (w1 := ((w27.setCell ⟨gb654, 0, none⟩ (.bool t648)).setCell ⟨gb654, 1, none⟩ (.slice Ao29 t649.length co29))) ?hg ?ho ?hn ?hr ?_; (case ho => rfl); (case hg => rfl); (case hn => rfl); (case hr => first | (go_simp; done) | (go_simp; rfl)); intro w30 hw; have n0_ : Aside0 (Kd.N k24 24 w30 w.heap.size (fun k_ => k_ ≠ gb653 ∧ k_ ≠ gb654) (.slice (some ad643) x4_1.length co13) x4_1) := ⟨(by rw [hw]; exact (by (with_reducible repeat (first | apply Kd.N_alloc | apply Kd.N_drewN | apply Kd.N_drew)); exact Kd.N_mono (Kd.N_far (p := ⟨gb654, 1, none⟩) (Kd.N_far (p := ⟨gb654, 0, none⟩) (Kd.N_mono HO_4.out (fun k_ hk => (⟨hk, hk.2⟩ : _ ∧ k_ ≠ gb654))) (fun _ hk => hk.2) (.bool t648)) (fun _ hk => hk.2) (.slice Ao29 t649.length co29)) (fun _ hk => ⟨hk.1.1, hk.1.2⟩)))⟩; have n1_ : Aside0 (Kd.V k24 24 w30 w.heap.size (fun k_ => some k_ ≠ (.slice (some ad643) x4_1.length co13 : Value).ownBlock ∧ k_ ≠ gb653 ∧ k_ ≠ gb654) (.slice A643_1 ((rd_T24 x4_1 x6_11).f1).length c643_1) ((rd_T24 x4_1 x6_11).f1)) := ⟨(by rw [hw]; exact (by (with_reducible repeat (first | apply Kd.V_alloc | apply Kd.V_drewN | apply Kd.V_drew)); exact Kd.V_mono (Kd.V_far (p := ⟨gb654, 1, none⟩) (Kd.V_far (p := ⟨gb654, 0, none⟩) (Kd.V_mono HL643_1.out (fun k_ hk => (⟨hk, hk.2.2⟩ : _ ∧ k_ ≠ gb654))) (fun _ hk => hk.2) (.bool t648)) (fun _ hk => hk.2) (.slice Ao29 t649.length co29)) (fun _ hk => ⟨hk.1.1, ⟨hk.1.2.1, hk.1.2.2⟩⟩)))⟩; have n2_ : Aside0 (Kd.V k24 24 w30 w.heap.size (fun k_ => some k_ ≠ (.slice (some ad643) x4_1.length co13 : Value).ownBlock ∧ k_ ≠ gb653 ∧ k_ ≠ gb654) (.slice Ao26 t645.length co26) t645) := ⟨(by rw [hw]; exact (by (with_reducible repeat (first | apply Kd.V_alloc | apply Kd.V_drewN | apply Kd.V_drew)); exact Kd.V_mono (Kd.V_far (p := ⟨gb654, 1, none⟩) (Kd.V_far (p := ⟨gb654, 0, none⟩) (Kd.V_mono HO647.out (fun k_ hk => (⟨hk, hk.2.2⟩ : _ ∧ k_ ≠ gb654))) (fun _ hk => hk.2) (.bool t648)) (fun _ hk => hk.2) (.slice Ao29 t649.length co29)) (fun _ hk => ⟨hk.1.1, ⟨hk.1.2.1, hk.1.2.2⟩⟩)))⟩; have n3_ : Aside0 (Kd.V k24 24 w30 w.heap.size (fun k_ => some k_ ≠ (.slice (some ad643) x4_1.length co13 : Value).ownBlock ∧ k_ ≠ gb653 ∧ k_ ≠ gb654) (.slice Ao29 t649.length co29) t649) := ⟨(by rw [hw]; exact (by (with_reducible repeat (first | apply Kd.V_alloc | apply Kd.V_drewN | apply Kd.V_drew)); exact Kd.V_mono (Kd.V_far (p := ⟨gb654, 1, none⟩) (Kd.V_far (p := ⟨gb654, 0, none⟩) (Kd.V_mono HO651.out (fun k_ hk => (⟨hk, hk.2.2⟩ : _ ∧ k_ ≠ gb654))) (fun _ hk => hk.2) (.bool t648)) (fun _ hk => hk.2) (.slice Ao29 t649.length co29)) (fun _ hk => ⟨hk.1.1, ⟨hk.1.2.1, hk.1.2.2⟩⟩)))⟩; have n4_ : Aside0 (w30.heap[gb653]? = some (.cells #[.bool t644, .slice Ao26 t645.length co26] 24 (0, 0))) := ⟨(by rw [hw]; exact (by (with_reducible repeat (first | refine blk_drewN ?_ _ | refine blk_drew ?_ | refine blk_alloc ?_ _)); refine blk_far ?_ NB653_654.out _; (with_reducible repeat (first | refine blk_drewN ?_ _ | refine blk_drew ?_ | refine blk_alloc ?_ _)); refine blk_far ?_ NB653_654.out _; (with_reducible repeat (first | refine blk_drewN ?_ _ | refine blk_drew ?_ | refine blk_alloc ?_ _)); exact BK653.out))⟩; have n5_ : Aside0 (w30.heap[gb654]? = some (.cells #[.bool t648, .slice Ao29 t649.length co29] 24 (0, 0))) := ⟨(by rw [hw]; exact (by (with_reducible repeat (first | refine blk_drewN ?_ _ | refine blk_drew ?_ | refine blk_alloc ?_ _)); refine blk_put (cs := #[.bool t648, .slice none 0 0]) ?_ 1 _ rfl; (with_reducible repeat (first | refine blk_drewN ?_ _ | refine blk_drew ?_ | refine blk_alloc ?_ _)); refine blk_put (cs := #[.bool false, .slice none 0 0]) ?_ 0 _ rfl; (with_reducible repeat (first | refine blk_drewN ?_ _ | refine blk_drew ?_ | refine blk_alloc ?_ _)); exact BK654.out))⟩; have n6_ : Aside0 (Below w.heap.size w w30) := ⟨(by rw [hw]; exact (by repeat (first | (with_reducible first | exact HB.out | apply below_alloc | apply pw_below_drewN | apply below_drew1 | refine below_set ?_ GE653.out | refine below_set ?_ GE654.out) | exact HB.out)))⟩; clear hw; clear HO_4; clear HL643_1; clear HO647; clear HO651; clear BK653; clear BK654; clear HB; have HO_4 := n0_; have HL643_1 := n1_; have HO647 := n2_; have HO651 := n3_; have BK653 := n4_; have BK654 := n5_; have HB := n6_; clear n0_ n1_ n2_ n3_ n4_ n5_ n6_; have hcz31_0 : w30.cell? ⟨gb653, 0, none⟩ = some (.bool t644) := (blk_cell BK653.out 0).trans rfl; have hcz31_1 : w30.cell? ⟨gb653, 1, none⟩ = some (.slice Ao26 t645.length co26) := (blk_cell BK653.out 1).trans rfl; have hfz31_0 := blk_frozen BK653.out 0; have hfz31_1 := blk_frozen BK653.out 1; have p19 : 0 ≤ (x6_11 : Int) := of_decide_eq_true (by first | (with_reducible assumption) | assumption); have q19 : (x6_11 : Int) < ((x4_1.length : Int) : Int) := of_decide_eq_true (by first | (with_reducible assumption) | assumption); obtain ⟨go19, co19, eo19, gb19, gl19, cl19, HG19⟩ := Kd.N_form HO_4.out (by omega); (first | cases eo19 | (injection eo19 with ea_ en_ ec_; (first | subst ea_ | (injection ea_ with ea_; subst ea_)); subst ec_; clear en_)); have GB19 := Aside0.mk gb19; have GG19 := Aside0.mk HG19; clear gb19 gl19 HG19; (first | simp only [add_plain] at hx643_0 | skip); (first | simp only [add_plain] at hx643_1 | skip); obtain ⟨ce19, hcl19, hM19, hcc19, hfr19⟩ := Kd.N_elem HO_4.out z24 (x6_11 : Int) p19 q19; obtain ⟨ua19_1, uc19_1, rfl, ul19_1, ge19_1⟩ := k24_openF hM19; have hx19_0 : w30.cell? ⟨go19, (x6_11 : Int).toNat * 2, none⟩ = some (.bool ((rd_T24 x4_1 x6_11).f0)) := hcc19 0 _ rfl; have hx19_1 : w30.cell? ⟨go19, (x6_11 : Int).toNat * 2 + 1, none⟩ = some (.slice ua19_1 ((rd_T24 x4_1 x6_11).f1).length uc19_1) := hcc19 1 _ rfl; have hf19_0 : w30.frozen? ⟨go19, (x6_11 : Int).toNat * 2, none⟩ = false := hfr19 0; have hf19_1 : w30.frozen? ⟨go19, (x6_11 : Int).toNat * 2 + 1, none⟩ = false := hfr19 1; clear hcl19 hcc19 hfr19 hM19; replace p19 := eq_true p19; replace q19 := eq_true q19; have HX32 := Aside0.mk (show Kd.N k24 24 w30 w.heap.size (fun k_ => k_ ≠ gb653 ∧ k_ ≠ gb654) (.slice (some ⟨go19, 0, none⟩) x4_1.length co13) x4_1 from (by (with_reducible repeat (first | apply Kd.N_alloc | apply Kd.N_drewN | apply Kd.N_drew)); exact HO_4.out)); obtain ⟨ce32, hcl32, hM32, hcc32, hfr32⟩ := Kd.N_elem HX32.out z24 (x6_11 : Int) (of_decide_eq_true (by first | (with_reducible assumption) | assumption)) (by have h_ : (x6_11 : Int) < ((x4_1.length : Int) : Int) := of_decide_eq_true (by first | (with_reducible assumption) | assumption); first | exact h_ | (have e_ := (Kd.N_reads' HO_4.out).1; omega) | simpa using h_); obtain ⟨ua32_1, uc32_1, rfl, ul32_1, ge32_1⟩ := k24_openF hM32; have HP32 := Kd.N_seg HX32.out (x6_11 : Int) (of_decide_eq_true (by first | (with_reducible assumption) | assumption)) (by have h_ : (x6_11 : Int) < ((x4_1.length : Int) : Int) := of_decide_eq_true (by first | (with_reducible assumption) | assumption); first | exact h_ | (have e_ := (Kd.N_reads' HO_4.out).1; omega) | simpa using h_) (seg := [.bool t644, .slice Ao26 t645.length co26]) (j := 0) hcl32 hcc32 (show 2 ≤ 2 from by decide) (x' := (⟨t644, t645⟩ : S24)) (k24_mkF _ _ (⟨t644, t645⟩ : S24) (Kd.V_reads' (Kd.V_mono (ok' := (fun k_ => ((fun k_ => k_ ≠ gb653 ∧ k_ ≠ gb654)) k_ ∧ k_ ≠ go19)) (HO647.out) (fun k_ hk => ⟨⟨hk.2.1, hk.2.2⟩, fun e_ => (hk.1) (by rw [e_]; rfl)⟩))).2.1 (Kd.V_F (Kd.V_mono (ok' := (fun k_ => ((fun k_ => k_ ≠ gb653 ∧ k_ ≠ gb654)) k_ ∧ k_ ≠ go19)) (HO647.out) (fun k_ hk => ⟨⟨hk.2.1, hk.2.2⟩, fun e_ => (hk.1) (by rw [e_]; rfl)⟩)))) (fun _ hk => hk); have hx32_0 := hcc32 0 _ rfl; (try simp only [show (k24).sz = 2 from rfl, Nat.mul_one, Nat.add_zero] at hx32_0); have hf32_0 := hfr32 0; (try simp only [show (k24).sz = 2 from rfl, Nat.mul_one, Nat.add_zero] at hf32_0); have hx32_1 := hcc32 1 _ rfl; (try simp only [show (k24).sz = 2 from rfl, Nat.mul_one, Nat.add_zero] at hx32_1); have hf32_1 := hfr32 1; (try simp only [show (k24).sz = 2 from rfl, Nat.mul_one, Nat.add_zero] at hf32_1); clear hcl32 hcc32 hfr32 hM32) | ((with_reducible refine gate_store (t := 24) (p := 50) rfl ?_); refine store_event (t := 24) (p := 50) (v := ?vo_w33) (w1 := ((w30.setCell ⟨go19, (x6_11 : Int).toNat * 2, none⟩ (.bool t644)).setCell ⟨go19, (x6_11 : Int).toNat * 2 + 1, none⟩ (.slice Ao26 t645.length co26))) ?hg ?ho ?hn ?hr ?_; (case ho => rfl); (case hg => rfl); (case hn => rfl); (case hr => first | (go_simp; done) | (go_simp; rfl)); intro w33 hw; have hg : w30.grownBy w33 (some go19) := (by rw [hw]; exact HP32.2); have hp_ : Kd.N k24 24 w33 w.heap.size (fun k_ => k_ ≠ gb653 ∧ k_ ≠ gb654) (.slice (some ⟨go19, 0, none⟩) x4_1.length co13) y655 := (by rw [hw, Ny655.out]; exact HP32.1); clear HP32; have n0_ := Aside0.mk (hp_); have n1_ := Aside0.mk (Kd.V_afterv (v := (.slice (some ⟨go19, 0, none⟩) x4_1.length co13)) (v1 := (.slice (some ⟨go19, 0, none⟩) x4_1.length co13)) (ok := (fun k_ => k_ ≠ gb653 ∧ k_ ≠ gb654)) (by (with_reducible repeat (first | apply Kd.V_alloc | apply Kd.V_drewN | apply Kd.V_drew)); exact Kd.V_mono HL643_1.out (fun _ hk => ⟨⟨hk.2.1, hk.2.2⟩, hk.1⟩)) hg (.inl rfl)); have n2_ := Aside0.mk (Kd.V_afterv (v := (.slice (some ⟨go19, 0, none⟩) x4_1.length co13)) (v1 := (.slice (some ⟨go19, 0, none⟩) x4_1.length co13)) (ok := (fun k_ => k_ ≠ gb653 ∧ k_ ≠ gb654)) (by (with_reducible repeat (first | apply Kd.V_alloc | apply Kd.V_drewN | apply Kd.V_drew)); exact Kd.V_mono HO647.out (fun _ hk => ⟨⟨hk.2.1, hk.2.2⟩, hk.1⟩)) hg (.inl rfl)); have n3_ := Aside0.mk (Kd.V_afterv (v := (.slice (some ⟨go19, 0, none⟩) x4_1.length co13)) (v1 := (.slice (some ⟨go19, 0, none⟩) x4_1.length co13)) (ok := (fun k_ => k_ ≠ gb653 ∧ k_ ≠ gb654)) (by (with_reducible repeat (first | apply Kd.V_alloc | apply Kd.V_drewN | apply Kd.V_drew)); exact Kd.V_mono HO651.out (fun _ hk => ⟨⟨hk.2.1, hk.2.2⟩, hk.1⟩)) hg (.inl rfl)); have n4_ := Aside0.mk (blk_grown (g := gb653) (o := .cells #[.bool t644, .slice Ao26 t645.length co26] 24 (0, 0)) (by (with_reducible repeat (first | refine blk_drewN ?_ _ | refine blk_drew ?_ | refine blk_alloc ?_ _)); exact BK653.out) hg (Kd.N_away HO_4.out (fun _ hk => hk.1))); have n5_ := Aside0.mk (blk_grown (g := gb654) (o := .cells #[.bool t648, .slice Ao29 t649.length co29] 24 (0, 0)) (by (with_reducible repeat (first | refine blk_drewN ?_ _ | refine blk_drew ?_ | refine blk_alloc ?_ _)); exact BK654.out) hg (Kd.N_away HO_4.out (fun _ hk => hk.2))); have n6_ := Aside0.mk ((by rw [hw]; exact below_set (below_set (HB.out) GB19.out) GB19.out : Below w.heap.size w w33)); clear HO_4; clear HL643_1; clear HO647; clear HO651; clear BK653; clear BK654; clear HB; have HO_4 := n0_; have HL643_1 := n1_; have HO647 := n2_; have HO651 := n3_; have BK653 := n4_; have BK654 := n5_; have HB := n6_; clear n0_ n1_ n2_ n3_ n4_ n5_ n6_; clear hg hw hp_; have hcz34_0 : w33.cell? ⟨gb654, 0, none⟩ = some (.bool t648) := (blk_cell BK654.out 0).trans rfl; have hcz34_1 : w33.cell? ⟨gb654, 1, none⟩ = some (.slice Ao29 t649.length co29) := (blk_cell BK654.out 1).trans rfl; have hfz34_0 := blk_frozen BK654.out 0; have hfz34_1 := blk_frozen BK654.out 1) | ((with_reducible refine gate_builtin (b := .append) (xs := #[.tmp 51, .tmp 53]) rfl ?_); at_builtin; refine Kd.N_append k24 (w0 := w) w.heap.size rfl (.tmp 51) (.tmp 53) 22 24 (.agg #[(.bool false), (.slice none 0 0)]) 32 rfl Try.underlying22 info24 rfl (by decide) (by omega) (.slice (some ⟨go19, 0, none⟩) x4_1.length co13) y655 (⟨t648, t649⟩ : S24) [.bool t648, .slice Ao29 t649.length co29] (fun k_ => k_ ≠ gb653 ∧ k_ ≠ gb654) (fun k_ => ((fun k_ => k_ ≠ gb653 ∧ k_ ≠ gb654)) k_ ∧ some k_ ≠ (.slice (some ⟨go19, 0, none⟩) x4_1.length co13 : Value).ownBlock) rfl rfl ?aP (fun _ hk => hk) ?aF ?aO ?aB ?aS ?aL ?_; (case aP => exact (k24_mkF _ _ (⟨t648, t649⟩ : S24) (Kd.V_reads' (Kd.V_mono (ok' := (fun k_ => ((fun k_ => k_ ≠ gb653 ∧ k_ ≠ gb654)) k_ ∧ some k_ ≠ (.slice (some ⟨go19, 0, none⟩) x4_1.length co13 : Value).ownBlock)) (HO651.out) (fun k_ hk => ⟨⟨hk.1.1, hk.1.2⟩, hk.2⟩))).2.1 (Kd.V_F (Kd.V_mono (ok' := (fun k_ => ((fun k_ => k_ ≠ gb653 ∧ k_ ≠ gb654)) k_ ∧ some k_ ≠ (.slice (some ⟨go19, 0, none⟩) x4_1.length co13 : Value).ownBlock)) (HO651.out) (fun k_ hk => ⟨⟨hk.1.1, hk.1.2⟩, hk.2⟩))))); (case aB => exact (by repeat (first | (with_reducible first | exact HB.out | apply below_alloc | apply pw_below_drewN | apply below_drew1 | refine below_set ?_ GE653.out | refine below_set ?_ GE654.out) | exact HB.out))); (case aF => exact (fun k_ hk => ⟨Kd.freshB (g := gb653) (o := .cells #[.bool t644, .slice Ao26 t645.length co26] 24 (0, 0)) (by (with_reducible repeat (first | refine blk_drewN ?_ _ | refine blk_drew ?_ | refine blk_alloc ?_ _)); exact BK653.out) k_ hk, Kd.freshB (g := gb654) (o := .cells #[.bool t648, .slice Ao29 t649.length co29] 24 (0, 0)) (by (with_reducible repeat (first | refine blk_drewN ?_ _ | refine blk_drew ?_ | refine blk_alloc ?_ _)); exact BK654.out) k_ hk⟩)); (case aO => exact (by (with_reducible repeat (first | apply Kd.N_alloc | apply Kd.N_drewN | apply Kd.N_drew)); exact HO_4.out)); (case aS => exact (below_size (by repeat (first | (with_reducible first | exact HB.out | apply below_alloc | apply pw_below_drewN | apply below_drew1 | refine below_set ?_ GE653.out | refine below_set ?_ GE654.out) | exact HB.out)))); (case aL => have := LMc20.out; omega); intro v657 w35 ho hb hg hat; rw [← Ny656.out] at ho; have n0_ := Aside0.mk (Kd.V_afterv (ok := (fun k_ => k_ ≠ gb653 ∧ k_ ≠ gb654)) (by (with_reducible repeat (first | apply Kd.V_alloc | apply Kd.V_drewN | apply Kd.V_drew)); exact HL643_1.out) hg hat); have n1_ := Aside0.mk (Kd.V_afterv (ok := (fun k_ => k_ ≠ gb653 ∧ k_ ≠ gb654)) (by (with_reducible repeat (first | apply Kd.V_alloc | apply Kd.V_drewN | apply Kd.V_drew)); exact HO647.out) hg hat); have n2_ := Aside0.mk (Kd.V_afterv (ok := (fun k_ => k_ ≠ gb653 ∧ k_ ≠ gb654)) (by (with_reducible repeat (first | apply Kd.V_alloc | apply Kd.V_drewN | apply Kd.V_drew)); exact HO651.out) hg hat); have n3_ := Aside0.mk (blk_grown (g := gb653) (o := .cells #[.bool t644, .slice Ao26 t645.length co26] 24 (0, 0)) (by (with_reducible repeat (first | refine blk_drewN ?_ _ | refine blk_drew ?_ | refine blk_alloc ?_ _)); exact BK653.out) hg (Kd.N_away HO_4.out (fun _ hk => hk.1))); have n4_ := Aside0.mk (blk_grown (g := gb654) (o := .cells #[.bool t648, .slice Ao29 t649.length co29] 24 (0, 0)) (by (with_reducible repeat (first | refine blk_drewN ?_ _ | refine blk_drew ?_ | refine blk_alloc ?_ _)); exact BK654.out) hg (Kd.N_away HO_4.out (fun _ hk => hk.2))); have n5_ := Aside0.mk (hb); have n6_ := Aside0.mk (ho); clear HL643_1; clear HO647; clear HO651; clear BK653; clear BK654; clear HB; clear HO_4; have HL643_1 := n0_; have HO647 := n1_; have HO651 := n2_; have BK653 := n3_; have BK654 := n4_; have HB := n5_; have HO658 := n6_; clear n0_ n1_ n2_ n3_ n4_ n5_ n6_; clear ho hb hg hat))
                              go_roundg kj11
                              case measure => have := HK1.out; have := HJ5.out; have := HJ11.out; omega
                              case rel => exact ⟨(y656), (wrap64 (x5_1 + 1)), (by first | rfl | (simp; done) | (simp [*]; done)), H', ⟨by have := HK1.out; have := HJ5.out; have := HJ11.out; omega⟩, ⟨by (with_reducible repeat (first | apply Kd.N_alloc | apply Kd.N_drewN | apply Kd.N_drew)); exact Kd.N_mono HO658.out (fun _ hk => trivial)⟩, ⟨by repeat (first | (with_reducible first | exact HB.out | apply below_alloc | apply pw_below_drewN | apply below_drew1 | refine below_set ?_ GE653.out | refine below_set ?_ GE654.out) | exact HB.out)⟩⟩
                            · rw [if_neg c20] at H
                              exact absurd H (by simp)
                          · rw [if_neg c18] at H
                            have c18b0 : (t652 == 0) = false := beq_eq_false_iff_ne.mpr c18
                            have c18b1 : (t652 != 0) = true := bne_iff_ne.mpr c18
                            by_cases c36 : t652 = 41
                            · rw [if_pos c36] at H
                              have c36b0 : (t652 == 41) = true := beq_iff_eq.mpr c36
                              have c36b1 : (t652 != 41) = false := bne_eq_false_iff_eq.mpr c36
                              clear c36
                              have H' := Aside0.mk H
                              clear H
                              have p643 : 0 ≤ (x6_11 : Int) := of_decide_eq_true (by first | (with_reducible assumption) | assumption)
                              have q643 : x6_11 < (x4_1.length : Int) := of_decide_eq_true (by first | (with_reducible assumption) | assumption)
                              obtain ⟨ad643, A643_1, c643_1, e643, hx643_0, hx643_1, hl643_1, hi643_1⟩ := at_T24 (Kd.N_reads' HO_4.out).2.2 x6_11 p643 q643
                              cases e643
                              obtain ⟨ce643, hce643, hMe643, hcc643⟩ := Kd.N_get HO_4.out z24 x6_11 p643 (by first | exact q643 | exact of_decide_eq_true (by first | (with_reducible assumption) | assumption) | (have e_ := (Kd.N_reads' HO_4.out).1; omega))
                              obtain ⟨ua643_1, uc643_1, rfl, ul643_1, ge643_1⟩ := k24_openF hMe643
                              have hv643_1 := hcc643 1 _ rfl
                              rw [add_field _ _ 1 (by omega)] at hv643_1
                              replace hv643_1 := Option.some.inj (hv643_1.symm.trans hx643_1)
                              injection hv643_1 with hva_ hvn_ hvc_
                              rw [hva_] at ge643_1
                              rw [hvc_] at ul643_1
                              have HL643_1 := Aside0.mk (show Kd.V k24 24 _ w.heap.size _ _ ((rd_T24 x4_1 x6_11).f1) from Kd.V_mk ul643_1 ge643_1)
                              clear hva_ hvn_ hvc_ ge643_1 ul643_1
                              clear hcc643 hce643
                              have HR643_1 := Aside0.mk hi643_1
                              have HC643_1 := Aside0.mk hl643_1
                              clear hi643_1 hl643_1
                              replace p643 := eq_true p643
                              replace q643 := eq_true q643
                              go_wp2_with (first | ((with_reducible refine gate_callee (f := 15) rfl ?_); refine goesL_ (some 39) rfl rfl Try.func15 (by kernel_rfl) rfl #[.agg #[.bool ((rd_T24 x4_1 x6_11).f0), .slice A643_1 ((rd_T24 x4_1 x6_11).f1).length c643_1]] rfl (by (try simp only [List.map_toArray, List.map_cons, List.map_nil]); first | done | rfl | (simp only [List.length_drop, List.length_take]; rfl)) ?_; (with_reducible refine (id_Split.calls kj11 ((rd_T24 x4_1 x6_11).f0) _ _ ((rd_T24 x4_1 x6_11).f1) t644 t645 t648 t649 t652 _ ?side1 ?side2 A17.out).mono ?_); (case side1 => repeat (first | exact (by repeat (first | (with_reducible exact HR643_1.out) | (with_reducible refine Kd.C_alloc ?_ _) | (with_reducible refine Kd.C_drewN ?_ _) | (with_reducible refine Kd.C_drew ?_) | exact HR643_1.out)) | (with_reducible refine Kd.C_alloc ?_ _) | (with_reducible refine Kd.C_drewN ?_ _) | (with_reducible refine Kd.C_drew ?_))); (case side2 => exact HC643_1.out); rintro e w37 ⟨v646, v650, rfl, ho0, ho1, hb⟩; refine ⟨_, rfl, ?_⟩; have n0_ := Aside0.mk (Kd.N_below (by (with_reducible repeat (first | apply Kd.N_alloc | apply Kd.N_drewN | apply Kd.N_drew)); exact HO_4.out) hb); have n1_ := Aside0.mk (Kd.V_below (by (with_reducible repeat (first | apply Kd.V_alloc | apply Kd.V_drewN | apply Kd.V_drew)); exact HL643_1.out) hb); have n2_ := Aside0.mk (Kd.V_lower (Kd.V_mono (ok' := fun k_ => some k_ ≠ (.slice (some ad643) x4_1.length co13 : Value).ownBlock) ho0 (fun k_ hk_ => (Kd.fresh' (Kd.N_lt (by (with_reducible repeat (first | apply Kd.N_alloc | apply Kd.N_drewN | apply Kd.N_drew)); exact HO_4.out)) k_ hk_))) (below_size (by repeat (first | (with_reducible first | exact HB.out | apply below_alloc | apply pw_below_drewN | apply below_drew1) | exact HB.out)))); have n3_ := Aside0.mk (Kd.V_lower (Kd.V_mono (ok' := fun k_ => some k_ ≠ (.slice (some ad643) x4_1.length co13 : Value).ownBlock) ho1 (fun k_ hk_ => (Kd.fresh' (Kd.N_lt (by (with_reducible repeat (first | apply Kd.N_alloc | apply Kd.N_drewN | apply Kd.N_drew)); exact HO_4.out)) k_ hk_))) (below_size (by repeat (first | (with_reducible first | exact HB.out | apply below_alloc | apply pw_below_drewN | apply below_drew1) | exact HB.out)))); have n4_ := Aside0.mk (Kd.C_below (by repeat (first | (with_reducible exact HR643_1.out) | (with_reducible refine Kd.C_alloc ?_ _) | (with_reducible refine Kd.C_drewN ?_ _) | (with_reducible refine Kd.C_drew ?_) | exact HR643_1.out)) hb); have n5_ := Aside0.mk (below_step (by repeat (first | (with_reducible first | exact HB.out | apply below_alloc | apply pw_below_drewN | apply below_drew1) | exact HB.out)) hb); clear HO_4; clear HL643_1; clear HR643_1; clear HB; have HO_4 := n0_; have HL643_1 := n1_; have HO647 := n2_; have HO651 := n3_; have HR643_1 := n4_; have HB := n5_; clear n0_ n1_ n2_ n3_ n4_ n5_; (try clear hb); (try clear hb2); (try clear hk); (try clear hi); (try clear ho0); (try clear ho1)) | ((with_reducible refine gate_dst (N := 7) rfl ?_); refine box_event ?hg (N := 7) ?hd (cs := #[.bool false, .slice none 0 0]) (t := 24) ?hr ?_; (case hd => rfl); (case hg => rfl); (case hr => first | (go_simp; done) | (go_simp; rfl)); intro gb653 hg w38 hbox hb; have n0_ := Aside0.mk (Kd.N_below (Kd.N_elderB (by (with_reducible repeat (first | apply Kd.N_alloc | apply Kd.N_drewN | apply Kd.N_drew)); exact HO_4.out) gb653 (Nat.le_of_eq hg.symm)) hb); have n1_ := Aside0.mk (Kd.V_below (Kd.V_elderB (by (with_reducible repeat (first | apply Kd.V_alloc | apply Kd.V_drewN | apply Kd.V_drew)); exact HL643_1.out) gb653 (Nat.le_of_eq hg.symm)) hb); have n2_ := Aside0.mk (Kd.V_below (Kd.V_elderB (by (with_reducible repeat (first | apply Kd.V_alloc | apply Kd.V_drewN | apply Kd.V_drew)); exact HO647.out) gb653 (Nat.le_of_eq hg.symm)) hb); have n3_ := Aside0.mk (Kd.V_below (Kd.V_elderB (by (with_reducible repeat (first | apply Kd.V_alloc | apply Kd.V_drewN | apply Kd.V_drew)); exact HO651.out) gb653 (Nat.le_of_eq hg.symm)) hb); have n4_ := Aside0.mk (Kd.C_below (by repeat (first | (with_reducible exact HR643_1.out) | (with_reducible refine Kd.C_alloc ?_ _) | (with_reducible refine Kd.C_drewN ?_ _) | (with_reducible refine Kd.C_drew ?_) | exact HR643_1.out)) hb); have n5_ := Aside0.mk (below_step (by repeat (first | (with_reducible first | exact HB.out | apply below_alloc | apply pw_below_drewN | apply below_drew1) | exact HB.out)) hb); have n6_ := Aside0.mk (hbox); have n7_ := Aside0.mk ((by rw [hg]; exact (below_size (by repeat (first | (with_reducible first | exact HB.out | apply below_alloc | apply pw_below_drewN | apply below_drew1) | exact HB.out))) : w.heap.size ≤ gb653)); have n8_ := Aside0.mk ((by rw [hg]; exact (below_size (by repeat (first | (with_reducible first | exact HB.out | apply below_alloc | apply pw_below_drewN | apply below_drew1) | exact HB.out))) : w.heap.size ≤ gb653)); clear HO_4; clear HL643_1; clear HO647; clear HO651; clear HR643_1; clear HB; have HO_4 := n0_; have HL643_1 := n1_; have HO647 := n2_; have HO651 := n3_; have HR643_1 := n4_; have HB := n5_; have BK653 := n6_; have GW653 := n7_; have GE653 := n8_; clear n0_ n1_ n2_ n3_ n4_ n5_ n6_ n7_ n8_; clear hb hbox hg) | ((with_reducible refine gate_dst (N := 8) rfl ?_); refine box_event ?hg (N := 8) ?hd (cs := #[.bool false, .slice none 0 0]) (t := 24) ?hr ?_; (case hd => rfl); (case hg => rfl); (case hr => first | (go_simp; done) | (go_simp; rfl)); intro gb654 hg w39 hbox hb; have n0_ := Aside0.mk (Kd.N_below (Kd.N_elderB (by (with_reducible repeat (first | apply Kd.N_alloc | apply Kd.N_drewN | apply Kd.N_drew)); exact HO_4.out) gb654 (Nat.le_of_eq hg.symm)) hb); have n1_ := Aside0.mk (Kd.V_below (Kd.V_elderB (by (with_reducible repeat (first | apply Kd.V_alloc | apply Kd.V_drewN | apply Kd.V_drew)); exact HL643_1.out) gb654 (Nat.le_of_eq hg.symm)) hb); have n2_ := Aside0.mk (Kd.V_below (Kd.V_elderB (by (with_reducible repeat (first | apply Kd.V_alloc | apply Kd.V_drewN | apply Kd.V_drew)); exact HO647.out) gb654 (Nat.le_of_eq hg.symm)) hb); have n3_ := Aside0.mk (Kd.V_below (Kd.V_elderB (by (with_reducible repeat (first | apply Kd.V_alloc | apply Kd.V_drewN | apply Kd.V_drew)); exact HO651.out) gb654 (Nat.le_of_eq hg.symm)) hb); have n4_ := Aside0.mk (Kd.C_below (by repeat (first | (with_reducible exact HR643_1.out) | (with_reducible refine Kd.C_alloc ?_ _) | (with_reducible refine Kd.C_drewN ?_ _) | (with_reducible refine Kd.C_drew ?_) | exact HR643_1.out)) hb); have n5_ := Aside0.mk (blk_below (g := gb653) (o := .cells #[.bool false, .slice none 0 0] 24 (0, 0)) (by (with_reducible repeat (first | refine blk_drewN ?_ _ | refine blk_drew ?_ | refine blk_alloc ?_ _)); exact BK653.out) hb); have n6_ := Aside0.mk (below_step (by repeat (first | (with_reducible first | exact HB.out | apply below_alloc | apply pw_below_drewN | apply below_drew1 | refine below_set ?_ GE653.out) | exact HB.out)) hb); have n7_ := Aside0.mk (hbox); have n8_ := Aside0.mk ((by rw [hg]; exact (below_size (by repeat (first | (with_reducible first | exact HB.out | apply below_alloc | apply pw_below_drewN | apply below_drew1 | refine below_set ?_ GE653.out) | exact HB.out))) : w.heap.size ≤ gb654)); have n9_ := Aside0.mk ((by rw [hg]; exact (below_size (by repeat (first | (with_reducible first | exact HB.out | apply below_alloc | apply pw_below_drewN | apply below_drew1 | refine below_set ?_ GE653.out) | exact HB.out))) : w.heap.size ≤ gb654)); have n10_ := Aside0.mk ((by rw [hg]; exact Nat.ne_of_lt (blk_lt (g := gb653) (o := .cells #[.bool false, .slice none 0 0] 24 (0, 0)) (by (with_reducible repeat (first | refine blk_drewN ?_ _ | refine blk_drew ?_ | refine blk_alloc ?_ _)); exact BK653.out)) : gb653 ≠ gb654)); have n11_ := Aside0.mk ((by rw [hg]; exact Nat.ne_of_gt (blk_lt (g := gb653) (o := .cells #[.bool false, .slice none 0 0] 24 (0, 0)) (by (with_reducible repeat (first | refine blk_drewN ?_ _ | refine blk_drew ?_ | refine blk_alloc ?_ _)); exact BK653.out)) : gb654 ≠ gb653)); clear HO_4; clear HL643_1; clear HO647; clear HO651; clear HR643_1; clear BK653; clear HB; have HO_4 := n0_; have HL643_1 := n1_; have HO647 := n2_; have HO651 := n3_; have HR643_1 := n4_; have BK653 := n5_; have HB := n6_; have BK654 := n7_; have GW654 := n8_; have GE654 := n9_; have NB653_654 := n10_; have NB654_653 := n11_; clear n0_ n1_ n2_ n3_ n4_ n5_ n6_ n7_ n8_ n9_ n10_ n11_; clear hb hbox hg; have hnb40 := NB653_654.out; have hnc40 := NB654_653.out; have hcz41_0 : w39.cell? ⟨gb653, 0, none⟩ = some (.bool false) := (blk_cell BK653.out 0).trans rfl; have hcz41_1 : w39.cell? ⟨gb653, 1, none⟩ = some (.slice none 0 0) := (blk_cell BK653.out 1).trans rfl; have hfz41_0 := blk_frozen BK653.out 0; have hfz41_1 := blk_frozen BK653.out 1; obtain ⟨Ao42, co42, eo42⟩ := Kd.V_slice HO647.out; subst eo42; have hcz43_0 : w39.cell? ⟨gb654, 0, none⟩ = some (.bool false) := (blk_cell BK654.out 0).trans rfl; have hcz43_1 : w39.cell? ⟨gb654, 1, none⟩ = some (.slice none 0 0) := (blk_cell BK654.out 1).trans rfl; have hfz43_0 := blk_frozen BK654.out 0; have hfz43_1 := blk_frozen BK654.out 1; obtain ⟨Ao44, co44, eo44⟩ := Kd.V_slice HO651.out; subst eo44))
                              go_roundg kj11
                              case measure => have := HK1.out; have := HJ5.out; have := HJ11.out; omega
                              case rel => exact ⟨(x4_1), (wrap64 (x5_1 + 1)), (by first | rfl | (simp; done) | (simp [*]; done)), H', ⟨by have := HK1.out; have := HJ5.out; have := HJ11.out; omega⟩, ⟨by (with_reducible repeat (first | apply Kd.N_alloc | apply Kd.N_drewN | apply Kd.N_drew)); exact Kd.N_mono (Kd.N_far (p := ⟨gb654, 1, none⟩) (Kd.N_far (p := ⟨gb654, 0, none⟩) (Kd.N_far (p := ⟨gb653, 1, none⟩) (Kd.N_far (p := ⟨gb653, 0, none⟩) (Kd.N_mono (Kd.N_mono HO_4.out (fun k_ hk => (⟨hk, hk.1.2⟩ : _ ∧ k_ ≠ gb653))) (fun k_ hk => (⟨hk, hk.1.2⟩ : _ ∧ k_ ≠ gb654))) (fun _ hk => hk.1.2) (.bool t644)) (fun _ hk => hk.1.2) (.slice Ao42 t645.length co42)) (fun _ hk => hk.2) (.bool t648)) (fun _ hk => hk.2) (.slice Ao44 t649.length co44)) (fun _ hk => trivial)⟩, ⟨by repeat (first | (with_reducible first | exact HB.out | apply below_alloc | apply pw_below_drewN | apply below_drew1 | refine below_set ?_ GE653.out | refine below_set ?_ GE654.out) | exact HB.out)⟩⟩
                            · rw [if_neg c36] at H
                              have c36b0 : (t652 == 41) = false := beq_eq_false_iff_ne.mpr c36
                              have c36b1 : (t652 != 41) = true := bne_iff_ne.mpr c36
                              obtain rfl := Option.some.inj H
                              have p643 : 0 ≤ (x6_11 : Int) := of_decide_eq_true (by first | (with_reducible assumption) | assumption)
                              have q643 : x6_11 < (x4_1.length : Int) := of_decide_eq_true (by first | (with_reducible assumption) | assumption)
                              obtain ⟨ad643, A643_1, c643_1, e643, hx643_0, hx643_1, hl643_1, hi643_1⟩ := at_T24 (Kd.N_reads' HO_4.out).2.2 x6_11 p643 q643
                              cases e643
                              obtain ⟨ce643, hce643, hMe643, hcc643⟩ := Kd.N_get HO_4.out z24 x6_11 p643 (by first | exact q643 | exact of_decide_eq_true (by first | (with_reducible assumption) | assumption) | (have e_ := (Kd.N_reads' HO_4.out).1; omega))
                              obtain ⟨ua643_1, uc643_1, rfl, ul643_1, ge643_1⟩ := k24_openF hMe643
                              have hv643_1 := hcc643 1 _ rfl
                              rw [add_field _ _ 1 (by omega)] at hv643_1
                              replace hv643_1 := Option.some.inj (hv643_1.symm.trans hx643_1)
                              injection hv643_1 with hva_ hvn_ hvc_
                              rw [hva_] at ge643_1
                              rw [hvc_] at ul643_1
                              have HL643_1 := Aside0.mk (show Kd.V k24 24 _ w.heap.size _ _ ((rd_T24 x4_1 x6_11).f1) from Kd.V_mk ul643_1 ge643_1)
                              clear hva_ hvn_ hvc_ ge643_1 ul643_1
                              clear hcc643 hce643
                              have HR643_1 := Aside0.mk hi643_1
                              have HC643_1 := Aside0.mk hl643_1
                              clear hi643_1 hl643_1
                              replace p643 := eq_true p643
                              replace q643 := eq_true q643
                              go_wp2_with (first | ((with_reducible refine gate_callee (f := 15) rfl ?_); refine goesL_ (some 39) rfl rfl Try.func15 (by kernel_rfl) rfl #[.agg #[.bool ((rd_T24 x4_1 x6_11).f0), .slice A643_1 ((rd_T24 x4_1 x6_11).f1).length c643_1]] rfl (by (try simp only [List.map_toArray, List.map_cons, List.map_nil]); first | done | rfl | (simp only [List.length_drop, List.length_take]; rfl)) ?_; (with_reducible refine (id_Split.calls kj11 ((rd_T24 x4_1 x6_11).f0) _ _ ((rd_T24 x4_1 x6_11).f1) t644 t645 t648 t649 t652 _ ?side1 ?side2 A17.out).mono ?_); (case side1 => repeat (first | exact (by repeat (first | (with_reducible exact HR643_1.out) | (with_reducible refine Kd.C_alloc ?_ _) | (with_reducible refine Kd.C_drewN ?_ _) | (with_reducible refine Kd.C_drew ?_) | exact HR643_1.out)) | (with_reducible refine Kd.C_alloc ?_ _) | (with_reducible refine Kd.C_drewN ?_ _) | (with_reducible refine Kd.C_drew ?_))); (case side2 => exact HC643_1.out); rintro e w45 ⟨v646, v650, rfl, ho0, ho1, hb⟩; refine ⟨_, rfl, ?_⟩; have n0_ := Aside0.mk (Kd.N_below (by (with_reducible repeat (first | apply Kd.N_alloc | apply Kd.N_drewN | apply Kd.N_drew)); exact HO_4.out) hb); have n1_ := Aside0.mk (Kd.V_below (by (with_reducible repeat (first | apply Kd.V_alloc | apply Kd.V_drewN | apply Kd.V_drew)); exact HL643_1.out) hb); have n2_ := Aside0.mk (Kd.V_lower (Kd.V_mono (ok' := fun k_ => some k_ ≠ (.slice (some ad643) x4_1.length co13 : Value).ownBlock) ho0 (fun k_ hk_ => (Kd.fresh' (Kd.N_lt (by (with_reducible repeat (first | apply Kd.N_alloc | apply Kd.N_drewN | apply Kd.N_drew)); exact HO_4.out)) k_ hk_))) (below_size (by repeat (first | (with_reducible first | exact HB.out | apply below_alloc | apply pw_below_drewN | apply below_drew1) | exact HB.out)))); have n3_ := Aside0.mk (Kd.V_lower (Kd.V_mono (ok' := fun k_ => some k_ ≠ (.slice (some ad643) x4_1.length co13 : Value).ownBlock) ho1 (fun k_ hk_ => (Kd.fresh' (Kd.N_lt (by (with_reducible repeat (first | apply Kd.N_alloc | apply Kd.N_drewN | apply Kd.N_drew)); exact HO_4.out)) k_ hk_))) (below_size (by repeat (first | (with_reducible first | exact HB.out | apply below_alloc | apply pw_below_drewN | apply below_drew1) | exact HB.out)))); have n4_ := Aside0.mk (Kd.C_below (by repeat (first | (with_reducible exact HR643_1.out) | (with_reducible refine Kd.C_alloc ?_ _) | (with_reducible refine Kd.C_drewN ?_ _) | (with_reducible refine Kd.C_drew ?_) | exact HR643_1.out)) hb); have n5_ := Aside0.mk (below_step (by repeat (first | (with_reducible first | exact HB.out | apply below_alloc | apply pw_below_drewN | apply below_drew1) | exact HB.out)) hb); clear HO_4; clear HL643_1; clear HR643_1; clear HB; have HO_4 := n0_; have HL643_1 := n1_; have HO647 := n2_; have HO651 := n3_; have HR643_1 := n4_; have HB := n5_; clear n0_ n1_ n2_ n3_ n4_ n5_; (try clear hb); (try clear hb2); (try clear hk); (try clear hi); (try clear ho0); (try clear ho1)) | ((with_reducible refine gate_dst (N := 7) rfl ?_); refine box_event ?hg (N := 7) ?hd (cs := #[.bool false, .slice none 0 0]) (t := 24) ?hr ?_; (case hd => rfl); (case hg => rfl); (case hr => first | (go_simp; done) | (go_simp; rfl)); intro gb653 hg w46 hbox hb; have n0_ := Aside0.mk (Kd.N_below (Kd.N_elderB (by (with_reducible repeat (first | apply Kd.N_alloc | apply Kd.N_drewN | apply Kd.N_drew)); exact HO_4.out) gb653 (Nat.le_of_eq hg.symm)) hb); have n1_ := Aside0.mk (Kd.V_below (Kd.V_elderB (by (with_reducible repeat (first | apply Kd.V_alloc | apply Kd.V_drewN | apply Kd.V_drew)); exact HL643_1.out) gb653 (Nat.le_of_eq hg.symm)) hb); have n2_ := Aside0.mk (Kd.V_below (Kd.V_elderB (by (with_reducible repeat (first | apply Kd.V_alloc | apply Kd.V_drewN | apply Kd.V_drew)); exact HO647.out) gb653 (Nat.le_of_eq hg.symm)) hb); have n3_ := Aside0.mk (Kd.V_below (Kd.V_elderB (by (with_reducible repeat (first | apply Kd.V_alloc | apply Kd.V_drewN | apply Kd.V_drew)); exact HO651.out) gb653 (Nat.le_of_eq hg.symm)) hb); have n4_ := Aside0.mk (Kd.C_below (by repeat (first | (with_reducible exact HR643_1.out) | (with_reducible refine Kd.C_alloc ?_ _) | (with_reducible refine Kd.C_drewN ?_ _) | (with_reducible refine Kd.C_drew ?_) | exact HR643_1.out)) hb); have n5_ := Aside0.mk (below_step (by repeat (first | (with_reducible first | exact HB.out | apply below_alloc | apply pw_below_drewN | apply below_drew1) | exact HB.out)) hb); have n6_ := Aside0.mk (hbox); have n7_ := Aside0.mk ((by rw [hg]; exact (below_size (by repeat (first | (with_reducible first | exact HB.out | apply below_alloc | apply pw_below_drewN | apply below_drew1) | exact HB.out))) : w.heap.size ≤ gb653)); have n8_ := Aside0.mk ((by rw [hg]; exact (below_size (by repeat (first | (with_reducible first | exact HB.out | apply below_alloc | apply pw_below_drewN | apply below_drew1) | exact HB.out))) : w.heap.size ≤ gb653)); clear HO_4; clear HL643_1; clear HO647; clear HO651; clear HR643_1; clear HB; have HO_4 := n0_; have HL643_1 := n1_; have HO647 := n2_; have HO651 := n3_; have HR643_1 := n4_; have HB := n5_; have BK653 := n6_; have GW653 := n7_; have GE653 := n8_; clear n0_ n1_ n2_ n3_ n4_ n5_ n6_ n7_ n8_; clear hb hbox hg) | ((with_reducible refine gate_dst (N := 8) rfl ?_); refine box_event ?hg (N := 8) ?hd (cs := #[.bool false, .slice none 0 0]) (t := 24) ?hr ?_; (case hd => rfl); (case hg => rfl); (case hr => first | (go_simp; done) | (go_simp; rfl)); intro gb654 hg w47 hbox hb; have n0_ := Aside0.mk (Kd.N_below (Kd.N_elderB (by (with_reducible repeat (first | apply Kd.N_alloc | apply Kd.N_drewN | apply Kd.N_drew)); exact HO_4.out) gb654 (Nat.le_of_eq hg.symm)) hb); have n1_ := Aside0.mk (Kd.V_below (Kd.V_elderB (by (with_reducible repeat (first | apply Kd.V_alloc | apply Kd.V_drewN | apply Kd.V_drew)); exact HL643_1.out) gb654 (Nat.le_of_eq hg.symm)) hb); have n2_ := Aside0.mk (Kd.V_below (Kd.V_elderB (by (with_reducible repeat (first | apply Kd.V_alloc | apply Kd.V_drewN | apply Kd.V_drew)); exact HO647.out) gb654 (Nat.le_of_eq hg.symm)) hb); have n3_ := Aside0.mk (Kd.V_below (Kd.V_elderB (by (with_reducible repeat (first | apply Kd.V_alloc | apply Kd.V_drewN | apply Kd.V_drew)); exact HO651.out) gb654 (Nat.le_of_eq hg.symm)) hb); have n4_ := Aside0.mk (Kd.C_below (by repeat (first | (with_reducible exact HR643_1.out) | (with_reducible refine Kd.C_alloc ?_ _) | (with_reducible refine Kd.C_drewN ?_ _) | (with_reducible refine Kd.C_drew ?_) | exact HR643_1.out)) hb); have n5_ := Aside0.mk (blk_below (g := gb653) (o := .cells #[.bool false, .slice none 0 0] 24 (0, 0)) (by (with_reducible repeat (first | refine blk_drewN ?_ _ | refine blk_drew ?_ | refine blk_alloc ?_ _)); exact BK653.out) hb); have n6_ := Aside0.mk (below_step (by repeat (first | (with_reducible first | exact HB.out | apply below_alloc | apply pw_below_drewN | apply below_drew1 | refine below_set ?_ GE653.out) | exact HB.out)) hb); have n7_ := Aside0.mk (hbox); have n8_ := Aside0.mk ((by rw [hg]; exact (below_size (by repeat (first | (with_reducible first | exact HB.out | apply below_alloc | apply pw_below_drewN | apply below_drew1 | refine below_set ?_ GE653.out) | exact HB.out))) : w.heap.size ≤ gb654)); have n9_ := Aside0.mk ((by rw [hg]; exact (below_size (by repeat (first | (with_reducible first | exact HB.out | apply below_alloc | apply pw_below_drewN | apply below_drew1 | refine below_set ?_ GE653.out) | exact HB.out))) : w.heap.size ≤ gb654)); have n10_ := Aside0.mk ((by rw [hg]; exact Nat.ne_of_lt (blk_lt (g := gb653) (o := .cells #[.bool false, .slice none 0 0] 24 (0, 0)) (by (with_reducible repeat (first | refine blk_drewN ?_ _ | refine blk_drew ?_ | refine blk_alloc ?_ _)); exact BK653.out)) : gb653 ≠ gb654)); have n11_ := Aside0.mk ((by rw [hg]; exact Nat.ne_of_gt (blk_lt (g := gb653) (o := .cells #[.bool false, .slice none 0 0] 24 (0, 0)) (by (with_reducible repeat (first | refine blk_drewN ?_ _ | refine blk_drew ?_ | refine blk_alloc ?_ _)); exact BK653.out)) : gb654 ≠ gb653)); clear HO_4; clear HL643_1; clear HO647; clear HO651; clear HR643_1; clear BK653; clear HB; have HO_4 := n0_; have HL643_1 := n1_; have HO647 := n2_; have HO651 := n3_; have HR643_1 := n4_; have BK653 := n5_; have HB := n6_; have BK654 := n7_; have GW654 := n8_; have GE654 := n9_; have NB653_654 := n10_; have NB654_653 := n11_; clear n0_ n1_ n2_ n3_ n4_ n5_ n6_ n7_ n8_ n9_ n10_ n11_; clear hb hbox hg; have hnb48 := NB653_654.out; have hnc48 := NB654_653.out; have hcz49_0 : w47.cell? ⟨gb653, 0, none⟩ = some (.bool false) := (blk_cell BK653.out 0).trans rfl; have hcz49_1 : w47.cell? ⟨gb653, 1, none⟩ = some (.slice none 0 0) := (blk_cell BK653.out 1).trans rfl; have hfz49_0 := blk_frozen BK653.out 0; have hfz49_1 := blk_frozen BK653.out 1; obtain ⟨Ao50, co50, eo50⟩ := Kd.V_slice HO647.out; subst eo50; have hcz51_0 : w47.cell? ⟨gb654, 0, none⟩ = some (.bool false) := (blk_cell BK654.out 0).trans rfl; have hcz51_1 : w47.cell? ⟨gb654, 1, none⟩ = some (.slice none 0 0) := (blk_cell BK654.out 1).trans rfl; have hfz51_0 := blk_frozen BK654.out 0; have hfz51_1 := blk_frozen BK654.out 1; obtain ⟨Ao52, co52, eo52⟩ := Kd.V_slice HO651.out; subst eo52))
                              go_ret
                              exact ⟨by first | rfl | (simp [errW_none, errW_some] <;> rfl) | (simp [*, errW_none, errW_some] <;> rfl), by repeat (first | (with_reducible first | exact HB.out | apply below_alloc | apply pw_below_drewN | apply below_drew1 | refine below_set ?_ GE653.out | refine below_set ?_ GE654.out) | exact HB.out)⟩
                        · rw [if_neg c16] at H
                          exact absurd H (by simp)
                      · rw [if_neg c15] at H
                        exact absurd H (by simp)
              · rw [if_neg c10] at H
                exact absurd H (by simp)
            · rw [if_neg c9] at H
              exact absurd H (by simp)
          · replace c8 := Bool.eq_false_iff.mpr c8
            subst c8
            have H1 : (if t637 = true then ((id_Whole.f kj5 x4_1).bind fun t641 => (some t641)) else (some false)) = some r := by rw [if_neg (show ¬ (false = true) by decide)] at H; exact H
            clear H
            have H := H1
            clear H1
            by_cases c53 : t637 = true
            · subst c53
              have H1 : ((id_Whole.f kj5 x4_1).bind fun t641 => (some t641)) = some r := by rw [if_pos rfl] at H; exact H
              clear H
              have H := H1
              clear H1
              replace H := Option.bind_eq_some_iff.mp H
              obtain ⟨t641, A540, H⟩ := H
              replace H : (some t641) = some r := H
              have A54 := Aside0.mk A540
              clear A540
              obtain rfl := Option.some.inj H
              obtain ⟨Ao55, co55, eo55⟩ := Kd.N_slice HO_4.out
              subst eo55
              go_wp2_with (first | (go_at_call 20; (with_reducible refine (id_Whole.calls kj5 _ _ x4_1 t641 _ ?side1 ?side2 A54.out).mono ?_); (case side1 => repeat (first | exact (Kd.N_reads' HO_4.out).2.2 | (with_reducible refine Kd.C_alloc ?_ _) | (with_reducible refine Kd.C_drewN ?_ _) | (with_reducible refine Kd.C_drew ?_))); (case side2 => exact (Kd.N_reads' HO_4.out).2.1); rintro e w56 ⟨rfl, hb⟩; have n0_ := Aside0.mk (Kd.N_below (by (with_reducible repeat (first | apply Kd.N_alloc | apply Kd.N_drewN | apply Kd.N_drew)); exact HO_4.out) hb); have n1_ := Aside0.mk (below_step (by repeat (first | (with_reducible first | exact HB.out | apply below_alloc | apply pw_below_drewN | apply below_drew1) | exact HB.out)) hb); clear HO_4; clear HB; have HO_4 := n0_; have HB := n1_; clear n0_ n1_; (try clear hb); (try clear hb2); (try clear hk); (try clear hi)))
              go_ret
              exact ⟨by first | rfl | (simp [errW_none, errW_some] <;> rfl) | (simp [*, errW_none, errW_some] <;> rfl), by repeat (first | (with_reducible first | exact HB.out | apply below_alloc | apply pw_below_drewN | apply below_drew1) | exact HB.out)⟩
            · replace c53 := Bool.eq_false_iff.mpr c53
              subst c53
              have H1 : (some false) = some r := by rw [if_neg (show ¬ (false = true) by decide)] at H; exact H
              clear H
              have H := H1
              clear H1
              obtain rfl := Option.some.inj H
              go_wp2
              go_ret
              exact ⟨by first | rfl | (simp [errW_none, errW_some] <;> rfl) | (simp [*, errW_none, errW_some] <;> rfl), by repeat (first | (with_reducible first | exact HB.out | apply below_alloc | apply pw_below_drewN | apply below_drew1) | exact HB.out)⟩

/-- THE ONE PURE STATEMENT of pannierlaw04_IdForks: yours. -/
def pannierlaw04_IdForks.Pure : Prop := ∀ (l0 : List Int), l0.length ≤ maxLen → l0.length * 8 ≤ 140737488351232 → (∀ x ∈ l0, (Lit.int .i64 x).wf = true) → ∃ k, pannierlaw04_IdForks.f k l0 = some true
theorem pannierlaw04_IdForks.walk (P : pannierlaw04_IdForks.Pure) (a0 : Option Addr) (len0 cap0 : Nat) (z0 : List Int) (w : World) (w0 : (a0 = none ∧ len0 = 0 ∧ cap0 = 0 ∧ z0 = []) ∨ ∃ x, a0 = some x ∧ len0 ≤ cap0 ∧ cap0 ≤ maxLen ∧ z0.length = cap0 ∧ (∀ i, i < z0.length → w.cell? (x.add i) = some (.int .i64 (z0.getD i 0))) ∧ ∀ n ∈ z0, (Lit.int .i64 n).wf = true) (y0 : len0 * 8 ≤ 140737488351232) :
    Calls Try.prog 5 #[.slice a0 len0 cap0] w fun e w' => e = .returned (.bool true) ∧ Below w.heap.size w w' := by
  obtain ⟨l0, rfl, hr0, hm0, hw0, hc0⟩ := ReadsInt.ofRowC w0
  obtain ⟨k, h⟩ := P l0 hm0 y0 hw0
  refine (pannierlaw04_IdForks.calls k _ _ l0 true w (Kd.C_of_reads (d := (0 : Int)) (h1 := fun _ => rfl) hr0) hc0 h).mono ?_
  rintro e w' ⟨rfl, hd⟩
  exact ⟨rfl, hd⟩

end Go.Proofs.Ytlhaofbncoijfaa.X
