-- Written by a program of this session (xprint.py) out of the translation; Lean checks it.
import Derived.Test.YtlhaofbncoijfaaX0
namespace Go.Proofs.Ytlhaofbncoijfaa.X
open Go.RowKit Go.Proofs.YtlhaofbncoijfaaW.PrintWords Go.Proofs.YtlhaofbncoijfaaW.PrintLast Go.Proofs.YtlhaofbncoijfaaW.PrintMore Go.Proofs.Ytlhaofbncoijfaa.HandF
attribute [local go_sem] max2_int min2_int max_two min_two max_three min_three max_four min_four   -- for this text's walks alone
set_option linter.unusedVariables false
set_option linter.unusedSimpArgs false

/-! ### pannierref04_Equal: function 19 -/
mutual
def pannierref04_Equal.j0 : Nat → Bool → Bool → List (S24) → Bool → List (S24) → Option (Bool)
  | 0, _, _, _, _, _ => none
  | k + 1, x20, x270000, x270001, x271000, x271001 => if x20 = true then (some false) else (pannierref04_Equal.l0 k 0 x270000 x270001 x271000 x271001)
def pannierref04_Equal.l0 : Nat → Int → Bool → List (S24) → Bool → List (S24) → Option (Bool)
  | 0, _, _, _, _, _ => none
  | k + 1, x5, x270000, x270001, x271000, x271001 => if x5 < (x270001.length : Int) then (if 0 ≤ x5 then (if x5 < (x271001.length : Int) then ((pannierref04_Equal.f k ((rd_T24 x270001 x5).f0) ((rd_T24 x270001 x5).f1) ((rd_T24 x271001 x5).f0) ((rd_T24 x271001 x5).f1)).bind fun t273 => (if t273 = true then (pannierref04_Equal.l0 k (wrap64 (x5 + 1)) x270000 x270001 x271000 x271001) else (some false))) else (none)) else (none)) else (some true)
def pannierref04_Equal.f : Nat → Bool → List (S24) → Bool → List (S24) → Option (Bool)
  | 0, _, _, _, _ => none
  | k + 1, a0_0, l0_1, a1_0, l1_1 => if (a0_0 != a1_0) = true then (pannierref04_Equal.j0 k true a0_0 l0_1 a1_0 l1_1) else (pannierref04_Equal.j0 k ((l0_1.length : Int) != (l1_1.length : Int)) a0_0 l0_1 a1_0 l1_1)
end
theorem pannierref04_Equal.mono_l : ∀ k, (∀ y0 y1 y2 y3, LeO (pannierref04_Equal.f k y0 y1 y2 y3) (pannierref04_Equal.f (k + 1) y0 y1 y2 y3)) ∧ (∀ y0 y1 y2 y3 y4, LeO (pannierref04_Equal.j0 k y0 y1 y2 y3 y4) (pannierref04_Equal.j0 (k + 1) y0 y1 y2 y3 y4)) ∧ (∀ y0 y1 y2 y3 y4, LeO (pannierref04_Equal.l0 k y0 y1 y2 y3 y4) (pannierref04_Equal.l0 (k + 1) y0 y1 y2 y3 y4))
  | 0 => ⟨fun _ _ _ _ r h => by simp [pannierref04_Equal.f] at h, fun _ _ _ _ _ r h => by simp [pannierref04_Equal.j0] at h, fun _ _ _ _ _ r h => by simp [pannierref04_Equal.l0] at h⟩
  | k + 1 => by
    obtain ⟨ih0, ih1, ih2⟩ := pannierref04_Equal.mono_l k
    refine ⟨?_, ?_, ?_⟩
    · intro y0 y1 y2 y3
      unfold pannierref04_Equal.f
      repeat' first
      | (with_reducible exact ih0 _ _ _ _)
      | (with_reducible exact ih1 _ _ _ _ _)
      | (with_reducible exact ih2 _ _ _ _ _)
      | (with_reducible exact LeO.refl _)
      | (with_reducible exact LeO.none _)
      | (with_reducible refine LeO.ite ?_ ?_)
      | (with_reducible refine LeO.bind ?_ (fun _ => ?_))
      | exact ih0 _ _ _ _
      | exact ih1 _ _ _ _ _
      | exact ih2 _ _ _ _ _
      | exact LeO.none _
      | refine LeO.ite ?_ ?_
      | refine LeO.bind ?_ (fun _ => ?_)
    · intro y0 y1 y2 y3 y4
      unfold pannierref04_Equal.j0
      repeat' first
      | (with_reducible exact ih0 _ _ _ _)
      | (with_reducible exact ih1 _ _ _ _ _)
      | (with_reducible exact ih2 _ _ _ _ _)
      | (with_reducible exact LeO.refl _)
      | (with_reducible exact LeO.none _)
      | (with_reducible refine LeO.ite ?_ ?_)
      | (with_reducible refine LeO.bind ?_ (fun _ => ?_))
      | exact ih0 _ _ _ _
      | exact ih1 _ _ _ _ _
      | exact ih2 _ _ _ _ _
      | exact LeO.none _
      | refine LeO.ite ?_ ?_
      | refine LeO.bind ?_ (fun _ => ?_)
    · intro y0 y1 y2 y3 y4
      unfold pannierref04_Equal.l0
      repeat' first
      | (with_reducible exact ih0 _ _ _ _)
      | (with_reducible exact ih1 _ _ _ _ _)
      | (with_reducible exact ih2 _ _ _ _ _)
      | (with_reducible exact LeO.refl _)
      | (with_reducible exact LeO.none _)
      | (with_reducible refine LeO.ite ?_ ?_)
      | (with_reducible refine LeO.bind ?_ (fun _ => ?_))
      | exact ih0 _ _ _ _
      | exact ih1 _ _ _ _ _
      | exact ih2 _ _ _ _ _
      | exact LeO.none _
      | refine LeO.ite ?_ ?_
      | refine LeO.bind ?_ (fun _ => ?_)
theorem pannierref04_Equal.mono : ∀ a0 a1 a2 a3 k, LeO (pannierref04_Equal.f k a0 a1 a2 a3) (pannierref04_Equal.f (k + 1) a0 a1 a2 a3) := by
  intro a0 a1 a2 a3 k
  obtain ⟨ih0, ih1, ih2⟩ := pannierref04_Equal.mono_l k
  exact ih0 a0 a1 a2 a3
def pannierref04_Equal.T6 : Bool × List (List Nat × List Nat) := (true, [([], []), ([0], [0]), ([], []), ([1, 2], [1, 2]), ([3], [3]), ([], []), ([5], [5]), ([], []), ([6, 7], [6, 7]), ([8], [8]), ([4, 9], [4, 9]), ([10, 10, 0, 1, 2, 3, 4, 5, 6, 7, 8, 9, 10], [10])])
def pannierref04_Equal.B6 : List Nat := [0, 1, 0, 7, 15, 0, 32, 0, 224, 480, 1023, 2047]
theorem pannierref04_Equal.tab6 : rtab .any (opsOf Try.f19 6) = pannierref04_Equal.T6 := by kernel_rfl
theorem pannierref04_Equal.bits6 : waitsOk pannierref04_Equal.T6.2 pannierref04_Equal.B6 = true := by kernel_rfl
set_option maxHeartbeats 8000000 in
set_option maxRecDepth 100000 in
theorem pannierref04_Equal.calls (k : Nat) : ∀ (a0_0 : Bool) (A0_1 : Option Addr) (c0_1 : Nat) (l0_1 : List (S24)) (a1_0 : Bool) (A1_1 : Option Addr) (c1_1 : Nat) (l1_1 : List (S24)) (r : Bool) (w : World) (hr0_1 : Kd.C k24 w A0_1 l0_1.length l0_1) (hc0_1 : l0_1.length ≤ c0_1) (hr1_1 : Kd.C k24 w A1_1 l1_1.length l1_1) (hc1_1 : l1_1.length ≤ c1_1) (h : pannierref04_Equal.f k a0_0 l0_1 a1_0 l1_1 = some r),
    Calls Try.prog 19 #[.agg #[.bool a0_0, .slice A0_1 l0_1.length c0_1], .agg #[.bool a1_0, .slice A1_1 l1_1.length c1_1]] w fun e w' => e = .returned (.bool r) ∧ Below w.heap.size w w' := by
  induction k using Nat.strongRecOn with
  | _ k ih =>
  intro a0_0 A0_1 c0_1 l0_1 a1_0 A1_1 c1_1 l1_1 r w hr0_1 hc0_1 hr1_1 hc1_1 h
  cases k with
  | zero => exact absurd h (by simp [pannierref04_Equal.f])
  | succ k =>
  simp only [pannierref04_Equal.f] at h
  have hu24 := Try.underlying24
  have HR0_1 := Aside0.mk hr0_1
  have HC0_1 := Aside0.mk hc0_1
  clear hr0_1 hc0_1
  have HR1_1 := Aside0.mk hr1_1
  have HC1_1 := Aside0.mk hc1_1
  clear hr1_1 hc1_1
  have HB := Aside0.mk (Below.refl w.heap.size w)
  have H : (if (a0_0 != a1_0) = true then (pannierref04_Equal.j0 k true a0_0 l0_1 a1_0 l1_1) else (pannierref04_Equal.j0 k ((l0_1.length : Int) != (l1_1.length : Int)) a0_0 l0_1 a1_0 l1_1)) = some r := h
  clear h
  have HC3 := Aside0.mk H
  clear H
  go_enter Try.func19, Try.ntmps19
  go_upto_region 1 with (first | ((with_reducible refine gate_dst (N := 2) rfl ?_); (try (refine gate_guard (by rfl) ?_; dsimp only)); refine box_event ?hg (N := 2) ?hd (cs := #[.bool a0_0, .slice A0_1 l0_1.length c0_1]) (t := 24) ?hr ?_; (case hd => rfl); (case hg => rfl); (case hr => first | (go_simp; done) | (go_simp; rfl)); intro gb269 hg w4 hbox hb; have n0_ := Aside0.mk (below_step (by repeat (first | (with_reducible first | exact HB.out | apply below_alloc | apply pw_below_drewN | apply below_drew1) | exact HB.out)) hb); have n1_ := Aside0.mk (hbox); have n2_ := Aside0.mk ((by rw [hg]; exact (below_size (by repeat (first | (with_reducible first | exact HB.out | apply below_alloc | apply pw_below_drewN | apply below_drew1) | exact HB.out))) : w.heap.size ≤ gb269)); have n3_ := Aside0.mk ((by rw [hg]; exact (below_size (by repeat (first | (with_reducible first | exact HB.out | apply below_alloc | apply pw_below_drewN | apply below_drew1) | exact HB.out))) : w.heap.size ≤ gb269)); clear HB; have HB := n0_; have BK269 := n1_; have GW269 := n2_; have GE269 := n3_; clear n0_ n1_ n2_ n3_; clear hb hbox hg) | ((with_reducible refine gate_dst (N := 3) rfl ?_); (try (refine gate_guard (by rfl) ?_; dsimp only)); refine box_event ?hg (N := 3) ?hd (cs := #[.bool a1_0, .slice A1_1 l1_1.length c1_1]) (t := 24) ?hr ?_; (case hd => rfl); (case hg => rfl); (case hr => first | (go_simp; done) | (go_simp; rfl)); intro gb270 hg w5 hbox hb; have n0_ := Aside0.mk (blk_below (g := gb269) (o := .cells #[.bool a0_0, .slice A0_1 l0_1.length c0_1] 24 (0, 0)) (by (with_reducible repeat (first | refine blk_drewN ?_ _ | refine blk_drew ?_ | refine blk_alloc ?_ _)); exact BK269.out) hb); have n1_ := Aside0.mk (below_step (by repeat (first | (with_reducible first | exact HB.out | apply below_alloc | apply pw_below_drewN | apply below_drew1 | refine below_set ?_ GE269.out) | exact HB.out)) hb); have n2_ := Aside0.mk (hbox); have n3_ := Aside0.mk ((by rw [hg]; exact (below_size (by repeat (first | (with_reducible first | exact HB.out | apply below_alloc | apply pw_below_drewN | apply below_drew1 | refine below_set ?_ GE269.out) | exact HB.out))) : w.heap.size ≤ gb270)); have n4_ := Aside0.mk ((by rw [hg]; exact (below_size (by repeat (first | (with_reducible first | exact HB.out | apply below_alloc | apply pw_below_drewN | apply below_drew1 | refine below_set ?_ GE269.out) | exact HB.out))) : w.heap.size ≤ gb270)); have n5_ := Aside0.mk ((by rw [hg]; exact Nat.ne_of_lt (blk_lt (g := gb269) (o := .cells #[.bool a0_0, .slice A0_1 l0_1.length c0_1] 24 (0, 0)) (by (with_reducible repeat (first | refine blk_drewN ?_ _ | refine blk_drew ?_ | refine blk_alloc ?_ _)); exact BK269.out)) : gb269 ≠ gb270)); have n6_ := Aside0.mk ((by rw [hg]; exact Nat.ne_of_gt (blk_lt (g := gb269) (o := .cells #[.bool a0_0, .slice A0_1 l0_1.length c0_1] 24 (0, 0)) (by (with_reducible repeat (first | refine blk_drewN ?_ _ | refine blk_drew ?_ | refine blk_alloc ?_ _)); exact BK269.out)) : gb270 ≠ gb269)); clear BK269; clear HB; have BK269 := n0_; have HB := n1_; have BK270 := n2_; have GW270 := n3_; have GE270 := n4_; have NB269_270 := n5_; have NB270_269 := n6_; clear n0_ n1_ n2_ n3_ n4_ n5_ n6_; clear hb hbox hg))
  (try simp only [Act.put, List.setIfInBounds_toArray, List.set_cons_zero, List.set_cons_succ])
  go_cut [20] (fun v20 wc => ∃ (kq : Nat) (x20_2 : Bool), v20 = .bool x20_2 ∧ Aside0 (pannierref04_Equal.j0 kq x20_2 a0_0 l0_1 a1_0 l1_1 = some r) ∧ Aside0 (kq ≤ k) ∧ Aside0 (wc.heap[gb269]? = some (.cells #[.bool a0_0, (.slice A0_1 l0_1.length c0_1)] 24 (0, 0))) ∧ Aside0 (wc.heap[gb270]? = some (.cells #[.bool a1_0, (.slice A1_1 l1_1.length c1_1)] 24 (0, 0))) ∧ Aside0 (Below w.heap.size w wc))
  case first =>
    have H := HC3.out
    clear HC3
    by_cases c6 : (a0_0 != a1_0) = true
    · rw [if_pos c6] at H
      have c6b0 : (a0_0 != a1_0) = true := c6
      (try (have c6b1 : decide (a0_0 = a1_0) = false := by simpa using c6))
      (try (have c6b2 : (a0_0 == a1_0) = false := by simpa using c6))
      (try (have c6b3 : ¬ (a0_0 = a1_0) := by simpa using c6))
      clear c6
      (first | rw [c6b0] | (simp only [i64_w, i32_w]; rw [c6b0]) | skip)
      have H' := Aside0.mk H
      clear H
      have hnb7 := NB269_270.out
      have hnc7 := NB270_269.out
      have hcz8_0 : w5.cell? ⟨gb269, 0, none⟩ = some (.bool a0_0) := (blk_cell BK269.out 0).trans rfl
      have hcz8_1 : w5.cell? ⟨gb269, 1, none⟩ = some (.slice A0_1 l0_1.length c0_1) := (blk_cell BK269.out 1).trans rfl
      have hfz8_0 := blk_frozen BK269.out 0
      have hfz8_1 := blk_frozen BK269.out 1
      have hcz9_0 : w5.cell? ⟨gb270, 0, none⟩ = some (.bool a1_0) := (blk_cell BK270.out 0).trans rfl
      have hcz9_1 : w5.cell? ⟨gb270, 1, none⟩ = some (.slice A1_1 l1_1.length c1_1) := (blk_cell BK270.out 1).trans rfl
      have hfz9_0 := blk_frozen BK270.out 0
      have hfz9_1 := blk_frozen BK270.out 1
      go_wp2
      go_meet
      case rel => exact ⟨_, (true), (by first | rfl | (simp; done) | (simp [*]; done)), H', ⟨by first | omega | exact Nat.le_refl _⟩, ⟨by (with_reducible repeat (first | refine blk_drewN ?_ _ | refine blk_drew ?_ | refine blk_alloc ?_ _)); exact BK269.out⟩, ⟨by (with_reducible repeat (first | refine blk_drewN ?_ _ | refine blk_drew ?_ | refine blk_alloc ?_ _)); exact BK270.out⟩, ⟨by repeat (first | (with_reducible first | exact HB.out | apply below_alloc | apply pw_below_drewN | apply below_drew1 | refine below_set ?_ GE269.out | refine below_set ?_ GE270.out) | exact HB.out)⟩⟩
    · rw [if_neg c6] at H
      have c6b0 : (a0_0 != a1_0) = false := by simpa using c6
      (try (have c6b1 : decide (a0_0 = a1_0) = true := by simpa using c6))
      (try (have c6b2 : (a0_0 == a1_0) = true := by simpa using c6))
      clear c6
      (first | rw [c6b0] | (simp only [i64_w, i32_w]; rw [c6b0]) | skip)
      have H' := Aside0.mk H
      clear H
      have hnb10 := NB269_270.out
      have hnc10 := NB270_269.out
      have hcz11_0 : w5.cell? ⟨gb269, 0, none⟩ = some (.bool a0_0) := (blk_cell BK269.out 0).trans rfl
      have hcz11_1 : w5.cell? ⟨gb269, 1, none⟩ = some (.slice A0_1 l0_1.length c0_1) := (blk_cell BK269.out 1).trans rfl
      have hfz11_0 := blk_frozen BK269.out 0
      have hfz11_1 := blk_frozen BK269.out 1
      have hcz12_0 : w5.cell? ⟨gb270, 0, none⟩ = some (.bool a1_0) := (blk_cell BK270.out 0).trans rfl
      have hcz12_1 : w5.cell? ⟨gb270, 1, none⟩ = some (.slice A1_1 l1_1.length c1_1) := (blk_cell BK270.out 1).trans rfl
      have hfz12_0 := blk_frozen BK270.out 0
      have hfz12_1 := blk_frozen BK270.out 1
      go_wp2
      go_meet
      case rel => exact ⟨_, (((l0_1.length : Int) != (l1_1.length : Int))), (by first | rfl | (simp; done) | (simp [*]; done)), H', ⟨by first | omega | exact Nat.le_refl _⟩, ⟨by (with_reducible repeat (first | refine blk_drewN ?_ _ | refine blk_drew ?_ | refine blk_alloc ?_ _)); exact BK269.out⟩, ⟨by (with_reducible repeat (first | refine blk_drewN ?_ _ | refine blk_drew ?_ | refine blk_alloc ?_ _)); exact BK270.out⟩, ⟨by repeat (first | (with_reducible first | exact HB.out | apply below_alloc | apply pw_below_drewN | apply below_drew1 | refine below_set ?_ GE269.out | refine below_set ?_ GE270.out) | exact HB.out)⟩⟩
  case rest =>
    clear HC3
    try clear c1
    try clear p2
    try clear c6
    try clear c6b0
    try clear c6b1
    try clear c6b2
    try clear c7
    try clear c10
    try clear hcz11_0
    try clear hcz11_1
    try clear hcz12_0
    try clear hcz12_1
    try clear hcz8_0
    try clear hcz8_1
    try clear hcz9_0
    try clear hcz9_1
    try clear hfz11_0
    try clear hfz11_1
    try clear hfz12_0
    try clear hfz12_1
    try clear hfz8_0
    try clear hfz8_1
    try clear hfz9_0
    try clear hfz9_1
    obtain ⟨kq, x20_2, rfl, HA, HJ2, BK269, BK270, HB⟩ := hcut
    cases kq with
    | zero => exact absurd HA.out (by simp [pannierref04_Equal.j0])
    | succ kj2 =>
      have H := HA.out
      clear HA
      simp only [pannierref04_Equal.j0] at H
      by_cases c13 : x20_2 = true
      · subst c13
        have H1 : (some false) = some r := by rw [if_pos rfl] at H; exact H
        clear H
        have H := H1
        clear H1
        obtain rfl := Option.some.inj H
        go_wp2
        go_ret
        exact ⟨by first | rfl | (simp [errW_none, errW_some] <;> rfl) | (simp [*, errW_none, errW_some] <;> rfl), by repeat (first | (with_reducible first | exact HB.out | apply below_alloc | apply pw_below_drewN | apply below_drew1 | refine below_set ?_ GE269.out | refine below_set ?_ GE270.out) | exact HB.out)⟩
      · replace c13 := Bool.eq_false_iff.mpr c13
        subst c13
        have H1 : (pannierref04_Equal.l0 kj2 0 a0_0 l0_1 a1_0 l1_1) = some r := by rw [if_neg (show ¬ (false = true) by decide)] at H; exact H
        clear H
        have H := H1
        clear H1
        have H' := Aside0.mk H
        clear H
        go_wp2
        go_loopg [5] kj2 (fun kq v5 w' => ∃ (x5_2 : Int), v5 = .int .i64 x5_2 ∧ Aside0 (pannierref04_Equal.l0 kq x5_2 a0_0 l0_1 a1_0 l1_1 = some r) ∧ Aside0 (kq ≤ kj2) ∧ Aside0 (w'.heap[gb269]? = some (.cells #[.bool a0_0, (.slice A0_1 l0_1.length c0_1)] 24 (0, 0))) ∧ Aside0 (w'.heap[gb270]? = some (.cells #[.bool a1_0, (.slice A1_1 l1_1.length c1_1)] 24 (0, 0))) ∧ Aside0 (Below w.heap.size w w'))
        case atStart => exact ⟨(0), (by first | rfl | (simp; done) | (simp [*]; done)), H', ⟨Nat.le_refl _⟩, ⟨by (with_reducible repeat (first | refine blk_drewN ?_ _ | refine blk_drew ?_ | refine blk_alloc ?_ _)); exact BK269.out⟩, ⟨by (with_reducible repeat (first | refine blk_drewN ?_ _ | refine blk_drew ?_ | refine blk_alloc ?_ _)); exact BK270.out⟩, ⟨by repeat (first | (with_reducible first | exact HB.out | apply below_alloc | apply pw_below_drewN | apply below_drew1 | refine below_set ?_ GE269.out | refine below_set ?_ GE270.out) | exact HB.out)⟩⟩
        case round =>
          clear H'
          try clear c1
          try clear p2
          try clear c6
          try clear c6b0
          try clear c6b1
          try clear c6b2
          try clear c7
          try clear c10
          try clear c13
          try clear hcz11_0
          try clear hcz11_1
          try clear hcz12_0
          try clear hcz12_1
          try clear hcz8_0
          try clear hcz8_1
          try clear hcz9_0
          try clear hcz9_1
          try clear hfz11_0
          try clear hfz11_1
          try clear hfz12_0
          try clear hfz12_1
          try clear hfz8_0
          try clear hfz8_1
          try clear hfz9_0
          try clear hfz9_1
          try clear p2
          obtain ⟨x5_2, rfl, HA, HK2, BK269, BK270, HB⟩ := hrel
          cases gk with
          | zero => exact absurd HA.out (by simp [pannierref04_Equal.l0])
          | succ k2 =>
            have H := HA.out
            clear HA
            simp only [pannierref04_Equal.l0] at H
            by_cases c14 : x5_2 < (l0_1.length : Int)
            · rw [if_pos c14] at H
              have c14b0 : decide (x5_2 < (l0_1.length : Int)) = true := decide_eq_true c14
              clear c14
              by_cases c15 : 0 ≤ x5_2
              · rw [if_pos c15] at H
                have c15b0 : decide (0 ≤ x5_2) = true := decide_eq_true c15
                clear c15
                by_cases c16 : x5_2 < (l1_1.length : Int)
                · rw [if_pos c16] at H
                  have c16b0 : decide (x5_2 < (l1_1.length : Int)) = true := decide_eq_true c16
                  clear c16
                  replace H := Option.bind_eq_some_iff.mp H
                  obtain ⟨t273, A170, H⟩ := H
                  replace H : (if t273 = true then (pannierref04_Equal.l0 k2 (wrap64 (x5_2 + 1)) a0_0 l0_1 a1_0 l1_1) else (some false)) = some r := H
                  have A17 := Aside0.mk A170
                  clear A170
                  by_cases c18 : t273 = true
                  · subst c18
                    have H1 : (pannierref04_Equal.l0 k2 (wrap64 (x5_2 + 1)) a0_0 l0_1 a1_0 l1_1) = some r := by rw [if_pos rfl] at H; exact H
                    clear H
                    have H := H1
                    clear H1
                    have H' := Aside0.mk H
                    clear H
                    have hnb19 := NB269_270.out
                    have hnc19 := NB270_269.out
                    have hcz20_0 : wr.cell? ⟨gb269, 0, none⟩ = some (.bool a0_0) := (blk_cell BK269.out 0).trans rfl
                    have hcz20_1 : wr.cell? ⟨gb269, 1, none⟩ = some (.slice A0_1 l0_1.length c0_1) := (blk_cell BK269.out 1).trans rfl
                    have hfz20_0 := blk_frozen BK269.out 0
                    have hfz20_1 := blk_frozen BK269.out 1
                    try go_wp2
                    have n0_ := Aside0.mk (blk_drew BK269.out)
                    have n1_ := Aside0.mk (blk_drew BK270.out)
                    have n2_ := Aside0.mk (below_drew1 HB.out)
                    clear BK269
                    clear BK270
                    clear HB
                    have BK269 := n0_
                    have BK270 := n1_
                    have HB := n2_
                    clear n0_ n1_ n2_
                    have p271 : 0 ≤ (x5_2 : Int) := of_decide_eq_true (by first | (with_reducible assumption) | assumption)
                    have q271 : x5_2 < (l0_1.length : Int) := of_decide_eq_true (by first | (with_reducible assumption) | assumption)
                    obtain ⟨ad271, A271_1, c271_1, e271, hx271_0, hx271_1, hl271_1, hi271_1⟩ := at_T24 HR0_1.out x5_2 p271 q271
                    have hw271_1 := hx271_1
                    have hw271_0 := hx271_0
                    cases e271
                    replace hx271_0 := (HB.out.cell (World.block_lt_of_cell? w _ hx271_0)).trans hx271_0
                    replace hx271_1 := (HB.out.cell (World.block_lt_of_cell? w _ hx271_1)).trans hx271_1
                    have HR271_1 := Aside0.mk hi271_1
                    have HC271_1 := Aside0.mk hl271_1
                    clear hi271_1 hl271_1
                    replace p271 := eq_true p271
                    replace q271 := eq_true q271
                    have p272 : 0 ≤ (x5_2 : Int) := of_decide_eq_true (by first | (with_reducible assumption) | assumption)
                    have q272 : x5_2 < (l1_1.length : Int) := of_decide_eq_true (by first | (with_reducible assumption) | assumption)
                    obtain ⟨ad272, A272_1, c272_1, e272, hx272_0, hx272_1, hl272_1, hi272_1⟩ := at_T24 HR1_1.out x5_2 p272 q272
                    have hw272_1 := hx272_1
                    have hw272_0 := hx272_0
                    cases e272
                    replace hx272_0 := (HB.out.cell (World.block_lt_of_cell? w _ hx272_0)).trans hx272_0
                    replace hx272_1 := (HB.out.cell (World.block_lt_of_cell? w _ hx272_1)).trans hx272_1
                    have HR272_1 := Aside0.mk hi272_1
                    have HC272_1 := Aside0.mk hl272_1
                    clear hi272_1 hl272_1
                    replace p272 := eq_true p272
                    replace q272 := eq_true q272
                    refine start_ (n := 12) (S := fun w' => w'.cell? ⟨gb269, 0, none⟩ = some (.bool a0_0) ∧ w'.cell? ⟨gb269, 1, none⟩ = some (.slice (some ad271) l0_1.length c0_1) ∧ w'.cell? ⟨gb270, 0, none⟩ = some (.bool a1_0) ∧ w'.cell? ⟨gb270, 1, none⟩ = some (.slice (some ad272) l1_1.length c1_1) ∧ w'.cell? (ad271.add ((x5_2).toNat * 2)) = some (.bool ((rd_T24 l0_1 x5_2).f0)) ∧ w'.cell? ⟨(ad271.add ((x5_2).toNat * 2)).block, (ad271.add ((x5_2).toNat * 2)).off + 1, none⟩ = some (.slice A271_1 ((rd_T24 l0_1 x5_2).f1).length c271_1) ∧ w'.cell? (ad272.add ((x5_2).toNat * 2)) = some (.bool ((rd_T24 l1_1 x5_2).f0)) ∧ w'.cell? ⟨(ad272.add ((x5_2).toNat * 2)).block, (ad272.add ((x5_2).toNat * 2)).off + 1, none⟩ = some (.slice A272_1 ((rd_T24 l1_1 x5_2).f1).length c272_1)) (ds := []) #[false, false, false, false, false, false, false, false, false, false, false, false] (by kernel_rfl) rfl rfl ⟨(blk_cell BK269.out 0).trans rfl, (blk_cell BK269.out 1).trans rfl, (blk_cell BK270.out 0).trans rfl, (blk_cell BK270.out 1).trans rfl, ((HB.out.cell (World.block_lt_of_cell? w _ hw271_0)).trans hw271_0), ((HB.out.cell (World.block_lt_of_cell? w _ hw271_1)).trans hw271_1), ((HB.out.cell (World.block_lt_of_cell? w _ hw272_0)).trans hw272_0), ((HB.out.cell (World.block_lt_of_cell? w _ hw272_1)).trans hw272_1)⟩ (fun hHeld => ?_); refine with_tabW pannierref04_Equal.tab6 pannierref04_Equal.bits6 (fun HT_ HW_ => ?_)
                    generalize wr.drew = w21 at BK269 BK270 HB HR271_1 HR272_1 hx271_0 hx271_1 hx272_0 hx272_1 hHeld ⊢
                    refine pure_ (i := 0) (N := some 28) (v := ?_) (a' := ?_) #[true, false, false, false, false, false, false, false, false, false, false, false] rfl rfl (any_of HT_.out (by kernel_rfl)) (fun _ _ _ h => h) (Or.inl ⟨by rfl, ?_⟩) ?_ ?_
                    rotate_left
                    · intro w'
                      go_simp
                      with_reducible rfl
                    rotate_left
                    · simp only [Act.put, List.setIfInBounds_toArray, List.set_cons_zero, List.set_cons_succ, i64_w, i32_w]
                      rfl
                    refine pure_ (i := 2) (N := some 30) (v := ?_) (a' := ?_) #[true, false, true, false, false, false, false, false, false, false, false, false] rfl rfl (any_of HT_.out (by kernel_rfl)) (fun _ _ _ h => h) (Or.inl ⟨by rfl, ?_⟩) ?_ ?_
                    rotate_left
                    · intro w'
                      go_simp
                      with_reducible rfl
                    rotate_left
                    · simp only [Act.put, List.setIfInBounds_toArray, List.set_cons_zero, List.set_cons_succ, i64_w, i32_w]
                      rfl
                    refine pure_ (i := 5) (N := some 33) (v := ?_) (a' := ?_) #[true, false, true, false, false, true, false, false, false, false, false, false] rfl rfl (any_of HT_.out (by kernel_rfl)) (fun _ _ _ h => h) (Or.inl ⟨by rfl, ?_⟩) ?_ ?_
                    rotate_left
                    · intro w'
                      go_simp
                      with_reducible rfl
                    rotate_left
                    · simp only [Act.put, List.setIfInBounds_toArray, List.set_cons_zero, List.set_cons_succ, i64_w, i32_w]
                      rfl
                    refine pure_ (i := 7) (N := some 35) (v := ?_) (a' := ?_) #[true, false, true, false, false, true, false, true, false, false, false, false] rfl rfl (any_of HT_.out (by kernel_rfl)) (fun _ _ _ h => h) (Or.inl ⟨by rfl, ?_⟩) ?_ ?_
                    rotate_left
                    · intro w'
                      go_simp
                      with_reducible rfl
                    rotate_left
                    · simp only [Act.put, List.setIfInBounds_toArray, List.set_cons_zero, List.set_cons_succ, i64_w, i32_w]
                      rfl
                    refine take_ (i := 1) (N := some 29) (v := ?_) (a' := ?_) #[true, true, true, false, false, true, false, true, false, false, false, false] rfl rfl (take_ofW HT_.out HW_.out (by kernel_rfl)) (fun _ _ _ h => h) (Or.inl ⟨by rfl, ?_⟩) hHeld ?_ ?_
                    rotate_left
                    · rintro w' ⟨s0, s1, s2, s3, s4, s5, s6, s7⟩
                      go_simp
                      with_reducible rfl
                    rotate_left
                    · simp only [Act.put, List.setIfInBounds_toArray, List.set_cons_zero, List.set_cons_succ, i64_w, i32_w]
                      rfl
                    refine pure_ (i := 3) (N := some 31) (v := ?_) (a' := ?_) #[true, true, true, true, false, true, false, true, false, false, false, false] rfl rfl (any_of HT_.out (by kernel_rfl)) (fun _ _ _ h => h) (Or.inl ⟨by rfl, ?_⟩) ?_ ?_
                    rotate_left
                    · intro w'
                      go_simp
                      with_reducible rfl
                    rotate_left
                    · simp only [Act.put, List.setIfInBounds_toArray, List.set_cons_zero, List.set_cons_succ, i64_w, i32_w]
                      rfl
                    refine take_ (i := 4) (N := some 32) (v := ?_) (a' := ?_) #[true, true, true, true, true, true, false, true, false, false, false, false] rfl rfl (take_ofW HT_.out HW_.out (by kernel_rfl)) (fun _ _ _ h => h) (Or.inl ⟨by rfl, ?_⟩) hHeld ?_ ?_
                    rotate_left
                    · rintro w' ⟨s0, s1, s2, s3, s4, s5, s6, s7⟩
                      go_simp
                      with_reducible rfl
                    rotate_left
                    · simp only [Act.put, List.setIfInBounds_toArray, List.set_cons_zero, List.set_cons_succ, i64_w, i32_w]
                      rfl
                    refine take_ (i := 6) (N := some 34) (v := ?_) (a' := ?_) #[true, true, true, true, true, true, true, true, false, false, false, false] rfl rfl (take_ofW HT_.out HW_.out (by kernel_rfl)) (fun _ _ _ h => h) (Or.inl ⟨by rfl, ?_⟩) hHeld ?_ ?_
                    rotate_left
                    · rintro w' ⟨s0, s1, s2, s3, s4, s5, s6, s7⟩
                      go_simp
                      with_reducible rfl
                    rotate_left
                    · simp only [Act.put, List.setIfInBounds_toArray, List.set_cons_zero, List.set_cons_succ, i64_w, i32_w]
                      rfl
                    refine pure_ (i := 8) (N := some 36) (v := ?_) (a' := ?_) #[true, true, true, true, true, true, true, true, true, false, false, false] rfl rfl (any_of HT_.out (by kernel_rfl)) (fun _ _ _ h => h) (Or.inl ⟨by rfl, ?_⟩) ?_ ?_
                    rotate_left
                    · intro w'
                      go_simp
                      with_reducible rfl
                    rotate_left
                    · simp only [Act.put, List.setIfInBounds_toArray, List.set_cons_zero, List.set_cons_succ, i64_w, i32_w]
                      rfl
                    refine take_ (i := 9) (N := some 37) (v := ?_) (a' := ?_) #[true, true, true, true, true, true, true, true, true, true, false, false] rfl rfl (take_ofW HT_.out HW_.out (by kernel_rfl)) (fun _ _ _ h => h) (Or.inl ⟨by rfl, ?_⟩) hHeld ?_ ?_
                    rotate_left
                    · rintro w' ⟨s0, s1, s2, s3, s4, s5, s6, s7⟩
                      go_simp
                      with_reducible rfl
                    rotate_left
                    · simp only [Act.put, List.setIfInBounds_toArray, List.set_cons_zero, List.set_cons_succ, i64_w, i32_w]
                      rfl
                    refine one_ (i := 10) (N := some 38) #[true, true, true, true, true, true, true, true, true, true, true, false] rfl rfl (one_of HT_.out (by kernel_rfl)) (by decide) (fun K hK => ?_)
                    refine goes_ Try.func19 (by kernel_rfl) rfl #[.agg #[.bool ((rd_T24 l0_1 x5_2).f0), .slice A271_1 ((rd_T24 l0_1 x5_2).f1).length c271_1], .agg #[.bool ((rd_T24 l1_1 x5_2).f0), .slice A272_1 ((rd_T24 l1_1 x5_2).f1).length c272_1]] (by rfl) rfl rfl (by (try simp only [List.map_toArray, List.map_cons, List.map_nil]); first | done | rfl | (simp only [List.length_drop, List.length_take]; rfl)) ?_
                    with_reducible refine (ih k2 (by have := HJ2.out; have := HK2.out; omega) ((rd_T24 l0_1 x5_2).f0) _ _ ((rd_T24 l0_1 x5_2).f1) ((rd_T24 l1_1 x5_2).f0) _ _ ((rd_T24 l1_1 x5_2).f1) true _ ?side1 ?side2 ?side3 ?side4 A17.out).mono ?_
                    (case side1 => repeat (first | exact (Kd.C_below HR271_1.out HB.out) | (with_reducible refine Kd.C_alloc ?_ _) | (with_reducible refine Kd.C_drewN ?_ _) | (with_reducible refine Kd.C_drew ?_)))
                    (case side2 => exact HC271_1.out)
                    (case side3 => repeat (first | exact (Kd.C_below HR272_1.out HB.out) | (with_reducible refine Kd.C_alloc ?_ _) | (with_reducible refine Kd.C_drewN ?_ _) | (with_reducible refine Kd.C_drew ?_)))
                    (case side4 => exact HC272_1.out)
                    rintro e w22 ⟨rfl, hb⟩
                    refine ⟨_, rfl, ?_⟩
                    have n0_ := Aside0.mk (blk_below (g := gb269) (o := .cells #[.bool a0_0, .slice (some ad271) l0_1.length c0_1] 24 (0, 0)) (by (with_reducible repeat (first | refine blk_drewN ?_ _ | refine blk_drew ?_ | refine blk_alloc ?_ _)); exact BK269.out) hb)
                    have n1_ := Aside0.mk (blk_below (g := gb270) (o := .cells #[.bool a1_0, .slice (some ad272) l1_1.length c1_1] 24 (0, 0)) (by (with_reducible repeat (first | refine blk_drewN ?_ _ | refine blk_drew ?_ | refine blk_alloc ?_ _)); exact BK270.out) hb)
                    have n2_ := Aside0.mk (below_step (by repeat (first | (with_reducible first | exact HB.out | apply below_alloc | apply pw_below_drewN | apply below_drew1 | refine below_set ?_ GE269.out | refine below_set ?_ GE270.out) | exact HB.out)) hb)
                    clear BK269
                    clear BK270
                    clear HB
                    have BK269 := n0_
                    have BK270 := n1_
                    have HB := n2_
                    clear n0_ n1_ n2_
                    (try clear hb)
                    (try clear hb2)
                    (try clear hk)
                    (try clear hi)
                    refine hK.out _ _ ⟨(blk_cell BK269.out 0).trans rfl, (blk_cell BK269.out 1).trans rfl, (blk_cell BK270.out 0).trans rfl, (blk_cell BK270.out 1).trans rfl, ((HB.out.cell (World.block_lt_of_cell? w _ hw271_0)).trans hw271_0), ((HB.out.cell (World.block_lt_of_cell? w _ hw271_1)).trans hw271_1), ((HB.out.cell (World.block_lt_of_cell? w _ hw272_0)).trans hw272_0), ((HB.out.cell (World.block_lt_of_cell? w _ hw272_1)).trans hw272_1)⟩ (fun hHeld => ?_)
                    clear hK K
                    refine norm_ (a' := ?_) ?_ ?_
                    rotate_left
                    · show Act.put _ (some 38) _ = _
                      simp only [Act.put, List.setIfInBounds_toArray, List.set_cons_zero, List.set_cons_succ, i64_w, i32_w]
                      rfl
                    refine pure_ (i := 11) (N := some 6) (v := ?_) (a' := ?_) #[true, true, true, true, true, true, true, true, true, true, true, true] rfl rfl (any_of HT_.out (by kernel_rfl)) (fun _ _ _ h => h) (Or.inl ⟨by rfl, ?_⟩) ?_ ?_
                    rotate_left
                    · intro w'
                      go_simp
                      with_reducible rfl
                    rotate_left
                    · simp only [Act.put, List.setIfInBounds_toArray, List.set_cons_zero, List.set_cons_succ, i64_w, i32_w]
                      rfl
                    refine done_ (done_of HT_.out (by kernel_rfl)) ?_
                    try go_wp2
                    go_roundg k2
                    case measure => have := HJ2.out; have := HK2.out; omega
                    case rel => exact ⟨(wrap64 (x5_2 + 1)), (by first | rfl | (simp; done) | (simp [*]; done)), H', ⟨by have := HJ2.out; have := HK2.out; omega⟩, ⟨by (with_reducible repeat (first | refine blk_drewN ?_ _ | refine blk_drew ?_ | refine blk_alloc ?_ _)); exact BK269.out⟩, ⟨by (with_reducible repeat (first | refine blk_drewN ?_ _ | refine blk_drew ?_ | refine blk_alloc ?_ _)); exact BK270.out⟩, ⟨by repeat (first | (with_reducible first | exact HB.out | apply below_alloc | apply pw_below_drewN | apply below_drew1 | refine below_set ?_ GE269.out | refine below_set ?_ GE270.out) | exact HB.out)⟩⟩
                  · replace c18 := Bool.eq_false_iff.mpr c18
                    subst c18
                    have H1 : (some false) = some r := by rw [if_neg (show ¬ (false = true) by decide)] at H; exact H
                    clear H
                    have H := H1
                    clear H1
                    obtain rfl := Option.some.inj H
                    have hnb23 := NB269_270.out
                    have hnc23 := NB270_269.out
                    have hcz24_0 : wr.cell? ⟨gb269, 0, none⟩ = some (.bool a0_0) := (blk_cell BK269.out 0).trans rfl
                    have hcz24_1 : wr.cell? ⟨gb269, 1, none⟩ = some (.slice A0_1 l0_1.length c0_1) := (blk_cell BK269.out 1).trans rfl
                    have hfz24_0 := blk_frozen BK269.out 0
                    have hfz24_1 := blk_frozen BK269.out 1
                    try go_wp2
                    have n0_ := Aside0.mk (blk_drew BK269.out)
                    have n1_ := Aside0.mk (blk_drew BK270.out)
                    have n2_ := Aside0.mk (below_drew1 HB.out)
                    clear BK269
                    clear BK270
                    clear HB
                    have BK269 := n0_
                    have BK270 := n1_
                    have HB := n2_
                    clear n0_ n1_ n2_
                    have p271 : 0 ≤ (x5_2 : Int) := of_decide_eq_true (by first | (with_reducible assumption) | assumption)
                    have q271 : x5_2 < (l0_1.length : Int) := of_decide_eq_true (by first | (with_reducible assumption) | assumption)
                    obtain ⟨ad271, A271_1, c271_1, e271, hx271_0, hx271_1, hl271_1, hi271_1⟩ := at_T24 HR0_1.out x5_2 p271 q271
                    have hw271_1 := hx271_1
                    have hw271_0 := hx271_0
                    cases e271
                    replace hx271_0 := (HB.out.cell (World.block_lt_of_cell? w _ hx271_0)).trans hx271_0
                    replace hx271_1 := (HB.out.cell (World.block_lt_of_cell? w _ hx271_1)).trans hx271_1
                    have HR271_1 := Aside0.mk hi271_1
                    have HC271_1 := Aside0.mk hl271_1
                    clear hi271_1 hl271_1
                    replace p271 := eq_true p271
                    replace q271 := eq_true q271
                    have p272 : 0 ≤ (x5_2 : Int) := of_decide_eq_true (by first | (with_reducible assumption) | assumption)
                    have q272 : x5_2 < (l1_1.length : Int) := of_decide_eq_true (by first | (with_reducible assumption) | assumption)
                    obtain ⟨ad272, A272_1, c272_1, e272, hx272_0, hx272_1, hl272_1, hi272_1⟩ := at_T24 HR1_1.out x5_2 p272 q272
                    have hw272_1 := hx272_1
                    have hw272_0 := hx272_0
                    cases e272
                    replace hx272_0 := (HB.out.cell (World.block_lt_of_cell? w _ hx272_0)).trans hx272_0
                    replace hx272_1 := (HB.out.cell (World.block_lt_of_cell? w _ hx272_1)).trans hx272_1
                    have HR272_1 := Aside0.mk hi272_1
                    have HC272_1 := Aside0.mk hl272_1
                    clear hi272_1 hl272_1
                    replace p272 := eq_true p272
                    replace q272 := eq_true q272
                    refine start_ (n := 12) (S := fun w' => w'.cell? ⟨gb269, 0, none⟩ = some (.bool a0_0) ∧ w'.cell? ⟨gb269, 1, none⟩ = some (.slice (some ad271) l0_1.length c0_1) ∧ w'.cell? ⟨gb270, 0, none⟩ = some (.bool a1_0) ∧ w'.cell? ⟨gb270, 1, none⟩ = some (.slice (some ad272) l1_1.length c1_1) ∧ w'.cell? (ad271.add ((x5_2).toNat * 2)) = some (.bool ((rd_T24 l0_1 x5_2).f0)) ∧ w'.cell? ⟨(ad271.add ((x5_2).toNat * 2)).block, (ad271.add ((x5_2).toNat * 2)).off + 1, none⟩ = some (.slice A271_1 ((rd_T24 l0_1 x5_2).f1).length c271_1) ∧ w'.cell? (ad272.add ((x5_2).toNat * 2)) = some (.bool ((rd_T24 l1_1 x5_2).f0)) ∧ w'.cell? ⟨(ad272.add ((x5_2).toNat * 2)).block, (ad272.add ((x5_2).toNat * 2)).off + 1, none⟩ = some (.slice A272_1 ((rd_T24 l1_1 x5_2).f1).length c272_1)) (ds := []) #[false, false, false, false, false, false, false, false, false, false, false, false] (by kernel_rfl) rfl rfl ⟨(blk_cell BK269.out 0).trans rfl, (blk_cell BK269.out 1).trans rfl, (blk_cell BK270.out 0).trans rfl, (blk_cell BK270.out 1).trans rfl, ((HB.out.cell (World.block_lt_of_cell? w _ hw271_0)).trans hw271_0), ((HB.out.cell (World.block_lt_of_cell? w _ hw271_1)).trans hw271_1), ((HB.out.cell (World.block_lt_of_cell? w _ hw272_0)).trans hw272_0), ((HB.out.cell (World.block_lt_of_cell? w _ hw272_1)).trans hw272_1)⟩ (fun hHeld => ?_); refine with_tabW pannierref04_Equal.tab6 pannierref04_Equal.bits6 (fun HT_ HW_ => ?_)
                    generalize wr.drew = w25 at BK269 BK270 HB HR271_1 HR272_1 hx271_0 hx271_1 hx272_0 hx272_1 hHeld ⊢
                    refine pure_ (i := 0) (N := some 28) (v := ?_) (a' := ?_) #[true, false, false, false, false, false, false, false, false, false, false, false] rfl rfl (any_of HT_.out (by kernel_rfl)) (fun _ _ _ h => h) (Or.inl ⟨by rfl, ?_⟩) ?_ ?_
                    rotate_left
                    · intro w'
                      go_simp
                      with_reducible rfl
                    rotate_left
                    · simp only [Act.put, List.setIfInBounds_toArray, List.set_cons_zero, List.set_cons_succ, i64_w, i32_w]
                      rfl
                    refine pure_ (i := 2) (N := some 30) (v := ?_) (a' := ?_) #[true, false, true, false, false, false, false, false, false, false, false, false] rfl rfl (any_of HT_.out (by kernel_rfl)) (fun _ _ _ h => h) (Or.inl ⟨by rfl, ?_⟩) ?_ ?_
                    rotate_left
                    · intro w'
                      go_simp
                      with_reducible rfl
                    rotate_left
                    · simp only [Act.put, List.setIfInBounds_toArray, List.set_cons_zero, List.set_cons_succ, i64_w, i32_w]
                      rfl
                    refine pure_ (i := 5) (N := some 33) (v := ?_) (a' := ?_) #[true, false, true, false, false, true, false, false, false, false, false, false] rfl rfl (any_of HT_.out (by kernel_rfl)) (fun _ _ _ h => h) (Or.inl ⟨by rfl, ?_⟩) ?_ ?_
                    rotate_left
                    · intro w'
                      go_simp
                      with_reducible rfl
                    rotate_left
                    · simp only [Act.put, List.setIfInBounds_toArray, List.set_cons_zero, List.set_cons_succ, i64_w, i32_w]
                      rfl
                    refine pure_ (i := 7) (N := some 35) (v := ?_) (a' := ?_) #[true, false, true, false, false, true, false, true, false, false, false, false] rfl rfl (any_of HT_.out (by kernel_rfl)) (fun _ _ _ h => h) (Or.inl ⟨by rfl, ?_⟩) ?_ ?_
                    rotate_left
                    · intro w'
                      go_simp
                      with_reducible rfl
                    rotate_left
                    · simp only [Act.put, List.setIfInBounds_toArray, List.set_cons_zero, List.set_cons_succ, i64_w, i32_w]
                      rfl
                    refine take_ (i := 1) (N := some 29) (v := ?_) (a' := ?_) #[true, true, true, false, false, true, false, true, false, false, false, false] rfl rfl (take_ofW HT_.out HW_.out (by kernel_rfl)) (fun _ _ _ h => h) (Or.inl ⟨by rfl, ?_⟩) hHeld ?_ ?_
                    rotate_left
                    · rintro w' ⟨s0, s1, s2, s3, s4, s5, s6, s7⟩
                      go_simp
                      with_reducible rfl
                    rotate_left
                    · simp only [Act.put, List.setIfInBounds_toArray, List.set_cons_zero, List.set_cons_succ, i64_w, i32_w]
                      rfl
                    refine pure_ (i := 3) (N := some 31) (v := ?_) (a' := ?_) #[true, true, true, true, false, true, false, true, false, false, false, false] rfl rfl (any_of HT_.out (by kernel_rfl)) (fun _ _ _ h => h) (Or.inl ⟨by rfl, ?_⟩) ?_ ?_
                    rotate_left
                    · intro w'
                      go_simp
                      with_reducible rfl
                    rotate_left
                    · simp only [Act.put, List.setIfInBounds_toArray, List.set_cons_zero, List.set_cons_succ, i64_w, i32_w]
                      rfl
                    refine take_ (i := 4) (N := some 32) (v := ?_) (a' := ?_) #[true, true, true, true, true, true, false, true, false, false, false, false] rfl rfl (take_ofW HT_.out HW_.out (by kernel_rfl)) (fun _ _ _ h => h) (Or.inl ⟨by rfl, ?_⟩) hHeld ?_ ?_
                    rotate_left
                    · rintro w' ⟨s0, s1, s2, s3, s4, s5, s6, s7⟩
                      go_simp
                      with_reducible rfl
                    rotate_left
                    · simp only [Act.put, List.setIfInBounds_toArray, List.set_cons_zero, List.set_cons_succ, i64_w, i32_w]
                      rfl
                    refine take_ (i := 6) (N := some 34) (v := ?_) (a' := ?_) #[true, true, true, true, true, true, true, true, false, false, false, false] rfl rfl (take_ofW HT_.out HW_.out (by kernel_rfl)) (fun _ _ _ h => h) (Or.inl ⟨by rfl, ?_⟩) hHeld ?_ ?_
                    rotate_left
                    · rintro w' ⟨s0, s1, s2, s3, s4, s5, s6, s7⟩
                      go_simp
                      with_reducible rfl
                    rotate_left
                    · simp only [Act.put, List.setIfInBounds_toArray, List.set_cons_zero, List.set_cons_succ, i64_w, i32_w]
                      rfl
                    refine pure_ (i := 8) (N := some 36) (v := ?_) (a' := ?_) #[true, true, true, true, true, true, true, true, true, false, false, false] rfl rfl (any_of HT_.out (by kernel_rfl)) (fun _ _ _ h => h) (Or.inl ⟨by rfl, ?_⟩) ?_ ?_
                    rotate_left
                    · intro w'
                      go_simp
                      with_reducible rfl
                    rotate_left
                    · simp only [Act.put, List.setIfInBounds_toArray, List.set_cons_zero, List.set_cons_succ, i64_w, i32_w]
                      rfl
                    refine take_ (i := 9) (N := some 37) (v := ?_) (a' := ?_) #[true, true, true, true, true, true, true, true, true, true, false, false] rfl rfl (take_ofW HT_.out HW_.out (by kernel_rfl)) (fun _ _ _ h => h) (Or.inl ⟨by rfl, ?_⟩) hHeld ?_ ?_
                    rotate_left
                    · rintro w' ⟨s0, s1, s2, s3, s4, s5, s6, s7⟩
                      go_simp
                      with_reducible rfl
                    rotate_left
                    · simp only [Act.put, List.setIfInBounds_toArray, List.set_cons_zero, List.set_cons_succ, i64_w, i32_w]
                      rfl
                    refine one_ (i := 10) (N := some 38) #[true, true, true, true, true, true, true, true, true, true, true, false] rfl rfl (one_of HT_.out (by kernel_rfl)) (by decide) (fun K hK => ?_)
                    refine goes_ Try.func19 (by kernel_rfl) rfl #[.agg #[.bool ((rd_T24 l0_1 x5_2).f0), .slice A271_1 ((rd_T24 l0_1 x5_2).f1).length c271_1], .agg #[.bool ((rd_T24 l1_1 x5_2).f0), .slice A272_1 ((rd_T24 l1_1 x5_2).f1).length c272_1]] (by rfl) rfl rfl (by (try simp only [List.map_toArray, List.map_cons, List.map_nil]); first | done | rfl | (simp only [List.length_drop, List.length_take]; rfl)) ?_
                    with_reducible refine (ih k2 (by have := HJ2.out; have := HK2.out; omega) ((rd_T24 l0_1 x5_2).f0) _ _ ((rd_T24 l0_1 x5_2).f1) ((rd_T24 l1_1 x5_2).f0) _ _ ((rd_T24 l1_1 x5_2).f1) false _ ?side1 ?side2 ?side3 ?side4 A17.out).mono ?_
                    (case side1 => repeat (first | exact (Kd.C_below HR271_1.out HB.out) | (with_reducible refine Kd.C_alloc ?_ _) | (with_reducible refine Kd.C_drewN ?_ _) | (with_reducible refine Kd.C_drew ?_)))
                    (case side2 => exact HC271_1.out)
                    (case side3 => repeat (first | exact (Kd.C_below HR272_1.out HB.out) | (with_reducible refine Kd.C_alloc ?_ _) | (with_reducible refine Kd.C_drewN ?_ _) | (with_reducible refine Kd.C_drew ?_)))
                    (case side4 => exact HC272_1.out)
                    rintro e w26 ⟨rfl, hb⟩
                    refine ⟨_, rfl, ?_⟩
                    have n0_ := Aside0.mk (blk_below (g := gb269) (o := .cells #[.bool a0_0, .slice (some ad271) l0_1.length c0_1] 24 (0, 0)) (by (with_reducible repeat (first | refine blk_drewN ?_ _ | refine blk_drew ?_ | refine blk_alloc ?_ _)); exact BK269.out) hb)
                    have n1_ := Aside0.mk (blk_below (g := gb270) (o := .cells #[.bool a1_0, .slice (some ad272) l1_1.length c1_1] 24 (0, 0)) (by (with_reducible repeat (first | refine blk_drewN ?_ _ | refine blk_drew ?_ | refine blk_alloc ?_ _)); exact BK270.out) hb)
                    have n2_ := Aside0.mk (below_step (by repeat (first | (with_reducible first | exact HB.out | apply below_alloc | apply pw_below_drewN | apply below_drew1 | refine below_set ?_ GE269.out | refine below_set ?_ GE270.out) | exact HB.out)) hb)
                    clear BK269
                    clear BK270
                    clear HB
                    have BK269 := n0_
                    have BK270 := n1_
                    have HB := n2_
                    clear n0_ n1_ n2_
                    (try clear hb)
                    (try clear hb2)
                    (try clear hk)
                    (try clear hi)
                    refine hK.out _ _ ⟨(blk_cell BK269.out 0).trans rfl, (blk_cell BK269.out 1).trans rfl, (blk_cell BK270.out 0).trans rfl, (blk_cell BK270.out 1).trans rfl, ((HB.out.cell (World.block_lt_of_cell? w _ hw271_0)).trans hw271_0), ((HB.out.cell (World.block_lt_of_cell? w _ hw271_1)).trans hw271_1), ((HB.out.cell (World.block_lt_of_cell? w _ hw272_0)).trans hw272_0), ((HB.out.cell (World.block_lt_of_cell? w _ hw272_1)).trans hw272_1)⟩ (fun hHeld => ?_)
                    clear hK K
                    refine norm_ (a' := ?_) ?_ ?_
                    rotate_left
                    · show Act.put _ (some 38) _ = _
                      simp only [Act.put, List.setIfInBounds_toArray, List.set_cons_zero, List.set_cons_succ, i64_w, i32_w]
                      rfl
                    refine pure_ (i := 11) (N := some 6) (v := ?_) (a' := ?_) #[true, true, true, true, true, true, true, true, true, true, true, true] rfl rfl (any_of HT_.out (by kernel_rfl)) (fun _ _ _ h => h) (Or.inl ⟨by rfl, ?_⟩) ?_ ?_
                    rotate_left
                    · intro w'
                      go_simp
                      with_reducible rfl
                    rotate_left
                    · simp only [Act.put, List.setIfInBounds_toArray, List.set_cons_zero, List.set_cons_succ, i64_w, i32_w]
                      rfl
                    refine done_ (done_of HT_.out (by kernel_rfl)) ?_
                    try go_wp2
                    go_ret
                    exact ⟨by first | rfl | (simp [errW_none, errW_some] <;> rfl) | (simp [*, errW_none, errW_some] <;> rfl), by repeat (first | (with_reducible first | exact HB.out | apply below_alloc | apply pw_below_drewN | apply below_drew1 | refine below_set ?_ GE269.out | refine below_set ?_ GE270.out) | exact HB.out)⟩
                · rw [if_neg c16] at H
                  exact absurd H (by simp)
              · rw [if_neg c15] at H
                exact absurd H (by simp)
            · rw [if_neg c14] at H
              have c14b0 : decide (x5_2 < (l0_1.length : Int)) = false := decide_eq_false c14
              clear c14
              obtain rfl := Option.some.inj H
              have hnb27 := NB269_270.out
              have hnc27 := NB270_269.out
              have hcz28_0 : wr.cell? ⟨gb269, 0, none⟩ = some (.bool a0_0) := (blk_cell BK269.out 0).trans rfl
              have hcz28_1 : wr.cell? ⟨gb269, 1, none⟩ = some (.slice A0_1 l0_1.length c0_1) := (blk_cell BK269.out 1).trans rfl
              have hfz28_0 := blk_frozen BK269.out 0
              have hfz28_1 := blk_frozen BK269.out 1
              go_wp2
              go_ret
              exact ⟨by first | rfl | (simp [errW_none, errW_some] <;> rfl) | (simp [*, errW_none, errW_some] <;> rfl), by repeat (first | (with_reducible first | exact HB.out | apply below_alloc | apply pw_below_drewN | apply below_drew1 | refine below_set ?_ GE269.out | refine below_set ?_ GE270.out) | exact HB.out)⟩

end Go.Proofs.Ytlhaofbncoijfaa.X
