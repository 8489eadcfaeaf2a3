-- Written by a program of this session (xprint.py) out of the translation; Lean checks it.
import Derived.Test.YtlhaofbncoijfaaX0
import Derived.Test.YtlhaofbncoijfaaX36
import Derived.Test.YtlhaofbncoijfaaX44
import Derived.Test.YtlhaofbncoijfaaHandR
import Derived.Test.YtlhaofbncoijfaaHandU
namespace Go.Proofs.Ytlhaofbncoijfaa.X
open Go.RowKit Go.Proofs.YtlhaofbncoijfaaW.PrintWords Go.Proofs.YtlhaofbncoijfaaW.PrintLast Go.Proofs.YtlhaofbncoijfaaW.PrintMore Go.Proofs.Ytlhaofbncoijfaa.HandF
attribute [local go_sem] max2_int min2_int max_two min_two max_three min_three max_four min_four   -- for this text's walks alone
set_option linter.unusedVariables false
set_option linter.unusedSimpArgs false

/-! ### id_Whole: function 20 -/
def id_Whole.l0 : Nat → List (S24) → List (S24) → Int → Int → Bool → List (S24) → Option (Bool)
  | 0, _, _, _, _, _, _ => none
  | k + 1, x0, x9, x10, x11, x599000, x599001 => if x11 < x10 then (if 0 ≤ x11 then (if x11 < (x9.length : Int) then ((id_Right.f ((rd_T24 x9 x11).f0) ((rd_T24 x9 x11).f1)).bind fun t602 => (if t602 = true then ((id_norm.f k ((rd_T24 x9 x11).f0) ((rd_T24 x9 x11).f1)).bind fun bt603 => ((id_sum.f x599000 x599001 bt603.1 bt603.2).bind fun bt607 => (if bt607.2.2 = true then (id_Whole.l0 k x0 x9 x10 (wrap64 (x11 + 1)) bt607.1 bt607.2.1) else (some false)))) else (some false))) else (none)) else (none)) else ((id_isOne.f x599000 x599001).bind fun t599 => (if t599 = true then (some (decide ((x0.length : Int) ≤ 64))) else (some false)))
def id_Whole.f (k : Nat) (l0 : List (S24)) : Option (Bool) := id_Whole.l0 k l0 l0 (l0.length : Int) 0 false ([] : List (S24))
theorem id_Whole.mono_l : ∀ k, (∀ y0 y1 y2 y3 y4 y5, LeO (id_Whole.l0 k y0 y1 y2 y3 y4 y5) (id_Whole.l0 (k + 1) y0 y1 y2 y3 y4 y5))
  | 0 => fun _ _ _ _ _ _ r h => by simp [id_Whole.l0] at h
  | k + 1 => by
    have ih0 := id_Whole.mono_l k
    · intro y0 y1 y2 y3 y4 y5
      unfold id_Whole.l0
      repeat' first
      | (with_reducible exact ih0 _ _ _ _ _ _)
      | (with_reducible exact id_norm.mono _ _ _)
      | (with_reducible exact LeO.refl _)
      | (with_reducible exact LeO.none _)
      | (with_reducible refine LeO.ite ?_ ?_)
      | (with_reducible refine LeO.bind ?_ (fun _ => ?_))
      | exact ih0 _ _ _ _ _ _
      | exact id_norm.mono _ _ _
      | exact LeO.none _
      | refine LeO.ite ?_ ?_
      | refine LeO.bind ?_ (fun _ => ?_)
theorem id_Whole.mono : ∀ a0 k, LeO (id_Whole.f k a0) (id_Whole.f (k + 1) a0) := by
  intro a0 k
  have ih0 := id_Whole.mono_l k
  unfold id_Whole.f
  repeat' first
      | (with_reducible exact ih0 _ _ _ _ _ _)
      | (with_reducible exact id_norm.mono _ _ _)
      | (with_reducible exact LeO.refl _)
      | (with_reducible exact LeO.none _)
      | (with_reducible refine LeO.ite ?_ ?_)
      | (with_reducible refine LeO.bind ?_ (fun _ => ?_))
      | exact ih0 _ _ _ _ _ _
      | exact id_norm.mono _ _ _
      | exact LeO.none _
      | refine LeO.ite ?_ ?_
      | refine LeO.bind ?_ (fun _ => ?_)
def id_Whole.T7 : Bool × List (List Nat × List Nat) := (true, [([], []), ([], []), ([1], [1]), ([0, 2, 2], [0, 2]), ([3], [3]), ([4], [4]), ([4], [4]), ([], []), ([7, 5, 3, 0, 1, 2, 3, 4, 5, 7], [5, 7]), ([6, 8, 0, 1, 2, 3, 4, 5, 6, 7, 8], [6])])
def id_Whole.B7 : List Nat := [0, 0, 2, 7, 15, 31, 31, 0, 191, 511]
theorem id_Whole.tab7 : rtab .any (opsOf Try.f20 7) = id_Whole.T7 := by kernel_rfl
theorem id_Whole.bits7 : waitsOk id_Whole.T7.2 id_Whole.B7 = true := by kernel_rfl
set_option maxHeartbeats 8000000 in
set_option maxRecDepth 100000 in
theorem id_Whole.calls (k : Nat) (A0 : Option Addr) (c0 : Nat) (l0 : List (S24)) (r : Bool) (w : World) (hr0 : Kd.C k24 w A0 l0.length l0) (hc0 : l0.length ≤ c0) (h : id_Whole.f k l0 = some r) :
    Calls Try.prog 20 #[.slice A0 l0.length c0] w fun e w' => e = .returned (.bool r) ∧ Below w.heap.size w w' := by
  have hu24 := Try.underlying24
  have HR0 := Aside0.mk hr0
  have HC0 := Aside0.mk hc0
  clear hr0 hc0
  have HB := Aside0.mk (Below.refl w.heap.size w)
  have H : (id_Whole.l0 k l0 l0 (l0.length : Int) 0 false ([] : List (S24))) = some r := h
  clear h
  have H' := Aside0.mk H
  clear H
  go_enter Try.func20, Try.ntmps20
  go_wp2_with (first | ((with_reducible refine gate_dst (N := 3) rfl ?_); (try (refine gate_guard (by rfl) ?_; dsimp only)); refine box_event ?hg (N := 3) ?hd (cs := #[.bool false, .slice none 0 0]) (t := 24) ?hr ?_; (case hd => rfl); (case hg => rfl); (case hr => first | (go_simp; done) | (go_simp; rfl)); intro gb598 hg w2 hbox hb; have n0_ := Aside0.mk (below_step (by repeat (first | (with_reducible first | exact HB.out | apply below_alloc | apply pw_below_drewN | apply below_drew1) | exact HB.out)) hb); have n1_ := Aside0.mk (hbox); have n2_ := Aside0.mk ((by rw [hg]; exact (below_size (by repeat (first | (with_reducible first | exact HB.out | apply below_alloc | apply pw_below_drewN | apply below_drew1) | exact HB.out))) : w.heap.size ≤ gb598)); have n3_ := Aside0.mk ((by rw [hg]; exact (below_size (by repeat (first | (with_reducible first | exact HB.out | apply below_alloc | apply pw_below_drewN | apply below_drew1) | exact HB.out))) : w.heap.size ≤ gb598)); clear HB; have HB := n0_; have BK598 := n1_; have GW598 := n2_; have GE598 := n3_; clear n0_ n1_ n2_ n3_; clear hb hbox hg; have hcz3_0 : w2.cell? ⟨gb598, 0, none⟩ = some (.bool false) := (blk_cell BK598.out 0).trans rfl; have hcz3_1 : w2.cell? ⟨gb598, 1, none⟩ = some (.slice none 0 0) := (blk_cell BK598.out 1).trans rfl; have hfz3_0 := blk_frozen BK598.out 0; have hfz3_1 := blk_frozen BK598.out 1))
  go_loopg [11] k (fun kq v11 w' => ∃ (x11_1 : Int) (x599000_1 : Bool) (x599001_1 : List (S24)) (u599001 : Value), v11 = .int .i64 x11_1 ∧ Aside0 (id_Whole.l0 kq l0 l0 (l0.length : Int) x11_1 x599000_1 x599001_1 = some r) ∧ Aside0 (kq ≤ k) ∧ Aside0 (Kd.V k24 24 w' w.heap.size (fun k_ => k_ ≠ gb598) u599001 x599001_1) ∧ Aside0 (w'.heap[gb598]? = some (.cells #[.bool x599000_1, u599001] 24 (0, 0))) ∧ Aside0 (Below w.heap.size w w'))
  case atStart => exact ⟨(0), (false), (([] : List (S24))), (.slice none 0 0), (by first | rfl | (simp; done) | (simp [*]; done)), H', ⟨Nat.le_refl _⟩, ⟨Kd.V_nil _ _ _ _ _⟩, ⟨by (with_reducible repeat (first | refine blk_drewN ?_ _ | refine blk_drew ?_ | refine blk_alloc ?_ _)); refine blk_put (cs := #[.bool false, .slice none 0 0]) ?_ 1 _ rfl; (with_reducible repeat (first | refine blk_drewN ?_ _ | refine blk_drew ?_ | refine blk_alloc ?_ _)); refine blk_put (cs := #[.bool false, .slice none 0 0]) ?_ 0 _ rfl; (with_reducible repeat (first | refine blk_drewN ?_ _ | refine blk_drew ?_ | refine blk_alloc ?_ _)); exact BK598.out⟩, ⟨by repeat (first | (with_reducible first | exact HB.out | apply below_alloc | apply pw_below_drewN | apply below_drew1 | refine below_set ?_ GE598.out) | exact HB.out)⟩⟩
  case round =>
    clear H'
    try clear c2
    try clear p2
    try clear hcz3_0
    try clear hcz3_1
    try clear hfz3_0
    try clear hfz3_1
    obtain ⟨x11_1, x599000_1, x599001_1, u599001, rfl, HA, HK1, HO_599001, BK598, HB⟩ := hrel
    cases gk with
    | zero => exact absurd HA.out (by simp [id_Whole.l0])
    | succ k1 =>
      have H := HA.out
      clear HA
      simp only [id_Whole.l0] at H
      by_cases c4 : x11_1 < (l0.length : Int)
      · rw [if_pos c4] at H
        have c4b0 : decide (x11_1 < (l0.length : Int)) = true := decide_eq_true c4
        clear c4
        by_cases c5 : 0 ≤ x11_1
        · rw [if_pos c5] at H
          have c5b0 : decide (0 ≤ x11_1) = true := decide_eq_true c5
          clear c5
          by_cases c6 : x11_1 < (l0.length : Int)
          · rw [if_pos c6] at H
            have c6b0 : decide (x11_1 < (l0.length : Int)) = true := decide_eq_true c6
            clear c6
            replace H := Option.bind_eq_some_iff.mp H
            obtain ⟨t602, A70, H⟩ := H
            replace H : (if t602 = true then ((id_norm.f k1 ((rd_T24 l0 x11_1).f0) ((rd_T24 l0 x11_1).f1)).bind fun bt603 => ((id_sum.f x599000_1 x599001_1 bt603.1 bt603.2).bind fun bt607 => (if bt607.2.2 = true then (id_Whole.l0 k1 l0 l0 (l0.length : Int) (wrap64 (x11_1 + 1)) bt607.1 bt607.2.1) else (some false)))) else (some false)) = some r := H
            have A7 := Aside0.mk A70
            clear A70
            by_cases c8 : t602 = true
            · subst c8
              have H1 : ((id_norm.f k1 ((rd_T24 l0 x11_1).f0) ((rd_T24 l0 x11_1).f1)).bind fun bt603 => ((id_sum.f x599000_1 x599001_1 bt603.1 bt603.2).bind fun bt607 => (if bt607.2.2 = true then (id_Whole.l0 k1 l0 l0 (l0.length : Int) (wrap64 (x11_1 + 1)) bt607.1 bt607.2.1) else (some false)))) = some r := by rw [if_pos rfl] at H; exact H
              clear H
              have H := H1
              clear H1
              replace H := Option.bind_eq_some_iff.mp H
              obtain ⟨⟨t603, t604⟩, A90, H⟩ := H
              replace H : ((id_sum.f x599000_1 x599001_1 t603 t604).bind fun bt607 => (if bt607.2.2 = true then (id_Whole.l0 k1 l0 l0 (l0.length : Int) (wrap64 (x11_1 + 1)) bt607.1 bt607.2.1) else (some false))) = some r := H
              have A9 := Aside0.mk A90
              clear A90
              replace H := Option.bind_eq_some_iff.mp H
              obtain ⟨⟨t607, t608, t611⟩, A100, H⟩ := H
              replace H : (if t611 = true then (id_Whole.l0 k1 l0 l0 (l0.length : Int) (wrap64 (x11_1 + 1)) t607 t608) else (some false)) = some r := H
              have A10 := Aside0.mk A100
              clear A100
              by_cases c11 : t611 = true
              · subst c11
                have H1 : (id_Whole.l0 k1 l0 l0 (l0.length : Int) (wrap64 (x11_1 + 1)) t607 t608) = some r := by rw [if_pos rfl] at H; exact H
                clear H
                have H := H1
                clear H1
                have H' := Aside0.mk H
                clear H
                have p600 : 0 ≤ (x11_1 : Int) := of_decide_eq_true (by first | (with_reducible assumption) | assumption)
                have q600 : x11_1 < (l0.length : Int) := of_decide_eq_true (by first | (with_reducible assumption) | assumption)
                obtain ⟨ad600, A600_1, c600_1, e600, hx600_0, hx600_1, hl600_1, hi600_1⟩ := at_T24 HR0.out x11_1 p600 q600
                cases e600
                replace hx600_0 := (HB.out.cell (World.block_lt_of_cell? w _ hx600_0)).trans hx600_0
                replace hx600_1 := (HB.out.cell (World.block_lt_of_cell? w _ hx600_1)).trans hx600_1
                have HR600_1 := Aside0.mk hi600_1
                have HC600_1 := Aside0.mk hl600_1
                clear hi600_1 hl600_1
                replace p600 := eq_true p600
                replace q600 := eq_true q600
                try go_wp2_with (first | ((with_reducible refine gate_dst (N := 5) rfl ?_); (try (refine gate_guard (by rfl) ?_; dsimp only)); refine box_event ?hg (N := 5) ?hd (cs := #[.bool false, .slice none 0 0]) (t := 24) ?hr ?_; (case hd => rfl); (case hg => rfl); (case hr => first | (go_simp; done) | (go_simp; rfl)); intro gb601 hg w12 hbox hb; have n0_ := Aside0.mk (Kd.V_below (Kd.V_elderB (by (with_reducible repeat (first | apply Kd.V_alloc | apply Kd.V_drewN | apply Kd.V_drew)); exact HO_599001.out) gb601 (Nat.le_of_eq hg.symm)) hb); have n1_ := Aside0.mk (blk_below (g := gb598) (o := .cells #[.bool x599000_1, u599001] 24 (0, 0)) (by (with_reducible repeat (first | refine blk_drewN ?_ _ | refine blk_drew ?_ | refine blk_alloc ?_ _)); exact BK598.out) hb); have n2_ := Aside0.mk (below_step (by repeat (first | (with_reducible first | exact HB.out | apply below_alloc | apply pw_below_drewN | apply below_drew1 | refine below_set ?_ GE598.out) | exact HB.out)) hb); have n3_ := Aside0.mk (hbox); have n4_ := Aside0.mk ((by rw [hg]; exact (below_size (by repeat (first | (with_reducible first | exact HB.out | apply below_alloc | apply pw_below_drewN | apply below_drew1 | refine below_set ?_ GE598.out) | exact HB.out))) : w.heap.size ≤ gb601)); have n5_ := Aside0.mk ((by rw [hg]; exact (below_size (by repeat (first | (with_reducible first | exact HB.out | apply below_alloc | apply pw_below_drewN | apply below_drew1 | refine below_set ?_ GE598.out) | exact HB.out))) : w.heap.size ≤ gb601)); have n6_ := Aside0.mk ((by rw [hg]; exact Nat.ne_of_lt (blk_lt (g := gb598) (o := .cells #[.bool x599000_1, u599001] 24 (0, 0)) (by (with_reducible repeat (first | refine blk_drewN ?_ _ | refine blk_drew ?_ | refine blk_alloc ?_ _)); exact BK598.out)) : gb598 ≠ gb601)); have n7_ := Aside0.mk ((by rw [hg]; exact Nat.ne_of_gt (blk_lt (g := gb598) (o := .cells #[.bool x599000_1, u599001] 24 (0, 0)) (by (with_reducible repeat (first | refine blk_drewN ?_ _ | refine blk_drew ?_ | refine blk_alloc ?_ _)); exact BK598.out)) : gb601 ≠ gb598)); clear HO_599001; clear BK598; clear HB; have HO_599001 := n0_; have BK598 := n1_; have HB := n2_; have BK601 := n3_; have GW601 := n4_; have GE601 := n5_; have NB598_601 := n6_; have NB601_598 := n7_; clear n0_ n1_ n2_ n3_ n4_ n5_ n6_ n7_; clear hb hbox hg; have hnb13 := NB601_598.out; have hnc13 := NB598_601.out; have hcz14_0 : w12.cell? ⟨gb601, 0, none⟩ = some (.bool false) := (blk_cell BK601.out 0).trans rfl; have hcz14_1 : w12.cell? ⟨gb601, 1, none⟩ = some (.slice none 0 0) := (blk_cell BK601.out 1).trans rfl; have hfz14_0 := blk_frozen BK601.out 0; have hfz14_1 := blk_frozen BK601.out 1) | ((with_reducible refine gate_callee (f := 17) rfl ?_); refine goesL_ (some 16) rfl rfl Try.func17 (by kernel_rfl) rfl #[.agg #[.bool ((rd_T24 l0 x11_1).f0), .slice A600_1 ((rd_T24 l0 x11_1).f1).length c600_1]] rfl (by (try simp only [List.map_toArray, List.map_cons, List.map_nil]); first | done | rfl | (simp only [List.length_drop, List.length_take]; rfl)) ?_; (with_reducible refine (id_Right.calls ((rd_T24 l0 x11_1).f0) _ _ ((rd_T24 l0 x11_1).f1) true _ ?side1 ?side2 A7.out).mono ?_); (case side1 => exact Kd.C_below HR600_1.out (by repeat (first | (with_reducible first | exact HB.out | apply below_alloc | apply pw_below_drewN | apply below_drew1 | refine below_set ?_ GE598.out | refine below_set ?_ GE601.out) | exact HB.out))); (case side2 => exact HC600_1.out); rintro e w15 ⟨rfl, hb⟩; refine ⟨_, rfl, ?_⟩; have n0_ := Aside0.mk (Kd.V_below (by (with_reducible repeat (first | apply Kd.V_alloc | apply Kd.V_drewN | apply Kd.V_drew)); exact (Kd.V_mono (Kd.V_far (p := ⟨gb601, 1, none⟩) (Kd.V_far (p := ⟨gb601, 0, none⟩) (Kd.V_mono HO_599001.out (fun k_ hk => (⟨hk, hk.2⟩ : _ ∧ k_ ≠ gb601))) (fun _ hk => hk.2) (.bool ((rd_T24 l0 x11_1).f0))) (fun _ hk => hk.2) (.slice A600_1 ((rd_T24 l0 x11_1).f1).length c600_1)) (fun _ h_ => h_.1))) hb); have n1_ := Aside0.mk (blk_below (g := gb598) (o := .cells #[.bool x599000_1, u599001] 24 (0, 0)) (by (with_reducible repeat (first | refine blk_drewN ?_ _ | refine blk_drew ?_ | refine blk_alloc ?_ _)); refine blk_far ?_ NB598_601.out _; (with_reducible repeat (first | refine blk_drewN ?_ _ | refine blk_drew ?_ | refine blk_alloc ?_ _)); refine blk_far ?_ NB598_601.out _; (with_reducible repeat (first | refine blk_drewN ?_ _ | refine blk_drew ?_ | refine blk_alloc ?_ _)); exact BK598.out) hb); have n2_ := Aside0.mk (blk_below (g := gb601) (o := .cells #[.bool ((rd_T24 l0 x11_1).f0), .slice A600_1 ((rd_T24 l0 x11_1).f1).length c600_1] 24 (0, 0)) (by (with_reducible repeat (first | refine blk_drewN ?_ _ | refine blk_drew ?_ | refine blk_alloc ?_ _)); refine blk_put (cs := #[.bool ((rd_T24 l0 x11_1).f0), .slice none 0 0]) ?_ 1 _ rfl; (with_reducible repeat (first | refine blk_drewN ?_ _ | refine blk_drew ?_ | refine blk_alloc ?_ _)); refine blk_put (cs := #[.bool false, .slice none 0 0]) ?_ 0 _ rfl; (with_reducible repeat (first | refine blk_drewN ?_ _ | refine blk_drew ?_ | refine blk_alloc ?_ _)); exact BK601.out) hb); have n3_ := Aside0.mk (below_step (by repeat (first | (with_reducible first | exact HB.out | apply below_alloc | apply pw_below_drewN | apply below_drew1 | refine below_set ?_ GE598.out | refine below_set ?_ GE601.out) | exact HB.out)) hb); clear HO_599001; clear BK598; clear BK601; clear HB; have HO_599001 := n0_; have BK598 := n1_; have BK601 := n2_; have HB := n3_; clear n0_ n1_ n2_ n3_; (try clear hb); (try clear hb2); (try clear hk); (try clear hi); obtain ⟨Ao16, co16, eo16⟩ := Kd.V_slice HO_599001.out; subst eo16))
                have n0_ := Aside0.mk (Kd.V_drew HO_599001.out)
                have n1_ := Aside0.mk (blk_drew BK598.out)
                have n2_ := Aside0.mk (blk_drew BK601.out)
                have n3_ := Aside0.mk (below_drew1 HB.out)
                clear HO_599001
                clear BK598
                clear BK601
                clear HB
                have HO_599001 := n0_
                have BK598 := n1_
                have BK601 := n2_
                have HB := n3_
                clear n0_ n1_ n2_ n3_
                refine start_ (n := 10) (S := fun w' => w'.cell? ⟨gb598, 0, none⟩ = some (.bool x599000_1) ∧ w'.cell? ⟨gb598, 1, none⟩ = some (.slice Ao16 x599001_1.length co16) ∧ w'.cell? ⟨gb601, 0, none⟩ = some (.bool ((rd_T24 l0 x11_1).f0)) ∧ w'.cell? ⟨gb601, 1, none⟩ = some (.slice A600_1 ((rd_T24 l0 x11_1).f1).length c600_1)) (ds := []) #[false, false, false, false, false, false, false, false, false, false] (by kernel_rfl) rfl rfl ⟨(blk_cell BK598.out 0).trans rfl, (blk_cell BK598.out 1).trans rfl, (blk_cell BK601.out 0).trans rfl, (blk_cell BK601.out 1).trans rfl⟩ (fun hHeld => ?_); refine with_tabW id_Whole.tab7 id_Whole.bits7 (fun HT_ HW_ => ?_)
                generalize w15.drew = w17 at HO_599001 BK598 BK601 HB hHeld ⊢
                refine take_ (i := 0) (N := some 19) (v := ?_) (a' := ?_) #[true, false, false, false, false, false, false, false, false, false] rfl rfl (take_ofW HT_.out HW_.out (by kernel_rfl)) (fun _ _ _ h => h) (Or.inl ⟨by rfl, ?_⟩) hHeld ?_ ?_
                rotate_left
                · rintro w' ⟨s0, s1, s2, s3⟩
                  go_simp
                  with_reducible rfl
                rotate_left
                · simp only [Act.put, List.setIfInBounds_toArray, List.set_cons_zero, List.set_cons_succ, i64_w, i32_w]
                  rfl
                refine take_ (i := 1) (N := some 20) (v := ?_) (a' := ?_) #[true, true, false, false, false, false, false, false, false, false] rfl rfl (take_ofW HT_.out HW_.out (by kernel_rfl)) (fun _ _ _ h => h) (Or.inl ⟨by rfl, ?_⟩) hHeld ?_ ?_
                rotate_left
                · rintro w' ⟨s0, s1, s2, s3⟩
                  go_simp
                  with_reducible rfl
                rotate_left
                · simp only [Act.put, List.setIfInBounds_toArray, List.set_cons_zero, List.set_cons_succ, i64_w, i32_w]
                  rfl
                refine join_ (σ := Value × Value × Nat) 2 #[true, true, true, true, true, true, true, true, false, false] (fun s_ => [(21, .agg #[.bool t603, s_.1]), (22, .tuple #[.agg #[.bool t607, s_.2.1], .bool true]), (6, .pointer (some ⟨s_.2.2, 0, none⟩)), (18, .tuple #[.agg #[.bool t607, s_.2.1], .bool true]), (23, .agg #[.bool t607, s_.2.1]), (24, .bool true)]) (fun s_ w' => (w'.cell? ⟨gb598, 0, none⟩ = some (.bool x599000_1) ∧ w'.cell? ⟨gb598, 1, none⟩ = some (.slice Ao16 x599001_1.length co16) ∧ w'.cell? ⟨gb601, 0, none⟩ = some (.bool ((rd_T24 l0 x11_1).f0)) ∧ w'.cell? ⟨gb601, 1, none⟩ = some (.slice A600_1 ((rd_T24 l0 x11_1).f1).length c600_1)) ∧ (Kd.N k24 24 w' w.heap.size (fun k_ => k_ ≠ gb598 ∧ k_ ≠ gb601 ∧ k_ ≠ s_.2.2) s_.1 t604) ∧ (Kd.V k24 24 w' w.heap.size (fun k_ => k_ ≠ gb598 ∧ k_ ≠ gb601 ∧ k_ ≠ s_.2.2) s_.2.1 t608) ∧ (Kd.V k24 24 w' w.heap.size (fun k_ => some k_ ≠ (s_.1 : Value).ownBlock ∧ k_ ≠ gb598 ∧ k_ ≠ gb601 ∧ k_ ≠ s_.2.2) (.slice Ao16 x599001_1.length co16) x599001_1) ∧ (w'.heap[gb598]? = some (.cells #[.bool x599000_1, .slice Ao16 x599001_1.length co16] 24 (0, 0))) ∧ (w'.heap[gb601]? = some (.cells #[.bool ((rd_T24 l0 x11_1).f0), .slice A600_1 ((rd_T24 l0 x11_1).f1).length c600_1] 24 (0, 0))) ∧ (w'.heap[s_.2.2]? = some (.cells #[.bool false, .slice none 0 0] 24 (0, 0))) ∧ (w.heap.size ≤ s_.2.2) ∧ (w.heap.size ≤ s_.2.2) ∧ (gb598 ≠ s_.2.2) ∧ (s_.2.2 ≠ gb598) ∧ (gb601 ≠ s_.2.2) ∧ (s_.2.2 ≠ gb601) ∧ (Below w.heap.size w w')) ?_ ?_
                rotate_left
                · intro hCont
                  refine two_ (i := 2) (j := 7) (Ni := some 21) (Nj := some 6) #[true, true, true, false, false, false, false, false, false, false] #[true, true, false, false, false, false, false, true, false, false] rfl rfl rfl rfl (two_of HT_.out (by kernel_rfl)) (by decide) (by decide) (fun K hK => ?_) (fun K hK => ?_)
                  · skip
                    refine goes_ Try.func36 (by kernel_rfl) rfl #[.agg #[.bool ((rd_T24 l0 x11_1).f0), .slice A600_1 ((rd_T24 l0 x11_1).f1).length c600_1]] (by rfl) rfl rfl (by (try simp only [List.map_toArray, List.map_cons, List.map_nil]); first | done | rfl | (simp only [List.length_drop, List.length_take]; rfl)) ?_
                    with_reducible refine (id_norm.calls k1 ((rd_T24 l0 x11_1).f0) _ _ ((rd_T24 l0 x11_1).f1) t603 t604 _ ?side1 ?side2 A9.out).mono ?_
                    (case side1 => repeat (first | exact (Kd.C_below HR600_1.out HB.out) | (with_reducible refine Kd.C_alloc ?_ _) | (with_reducible refine Kd.C_drewN ?_ _) | (with_reducible refine Kd.C_drew ?_)))
                    (case side2 => exact HC600_1.out)
                    rintro e w18 ⟨v605, rfl, ho0, hb⟩
                    refine ⟨_, rfl, ?_⟩
                    have n0_ := Aside0.mk (Kd.V_elder' (by (with_reducible repeat (first | apply Kd.V_alloc | apply Kd.V_drewN | apply Kd.V_drew)); exact HO_599001.out) (Kd.N_base ho0) hb)
                    have n1_ := Aside0.mk (Kd.N_lower (Kd.N_mono (ok' := fun k_ => k_ ≠ gb598 ∧ k_ ≠ gb601) ho0 (fun k_ hk_ => ⟨(Kd.freshB (g := gb598) (o := .cells #[.bool x599000_1, .slice Ao16 x599001_1.length co16] 24 (0, 0)) (by (with_reducible repeat (first | refine blk_drewN ?_ _ | refine blk_drew ?_ | refine blk_alloc ?_ _)); exact BK598.out) k_ hk_), (Kd.freshB (g := gb601) (o := .cells #[.bool ((rd_T24 l0 x11_1).f0), .slice A600_1 ((rd_T24 l0 x11_1).f1).length c600_1] 24 (0, 0)) (by (with_reducible repeat (first | refine blk_drewN ?_ _ | refine blk_drew ?_ | refine blk_alloc ?_ _)); exact BK601.out) k_ hk_)⟩)) (below_size (by repeat (first | (with_reducible first | exact HB.out | apply below_alloc | apply pw_below_drewN | apply below_drew1 | refine below_set ?_ GE598.out | refine below_set ?_ GE601.out) | exact HB.out))))
                    have n2_ := Aside0.mk (blk_below (g := gb598) (o := .cells #[.bool x599000_1, .slice Ao16 x599001_1.length co16] 24 (0, 0)) (by (with_reducible repeat (first | refine blk_drewN ?_ _ | refine blk_drew ?_ | refine blk_alloc ?_ _)); exact BK598.out) hb)
                    have n3_ := Aside0.mk (blk_below (g := gb601) (o := .cells #[.bool ((rd_T24 l0 x11_1).f0), .slice A600_1 ((rd_T24 l0 x11_1).f1).length c600_1] 24 (0, 0)) (by (with_reducible repeat (first | refine blk_drewN ?_ _ | refine blk_drew ?_ | refine blk_alloc ?_ _)); exact BK601.out) hb)
                    have n4_ := Aside0.mk (below_step (by repeat (first | (with_reducible first | exact HB.out | apply below_alloc | apply pw_below_drewN | apply below_drew1 | refine below_set ?_ GE598.out | refine below_set ?_ GE601.out) | exact HB.out)) hb)
                    clear HO_599001
                    clear BK598
                    clear BK601
                    clear HB
                    have HO_599001 := n0_
                    have HO606 := n1_
                    have BK598 := n2_
                    have BK601 := n3_
                    have HB := n4_
                    clear n0_ n1_ n2_ n3_ n4_
                    (try clear hb)
                    (try clear hb2)
                    (try clear hk)
                    (try clear hi)
                    (try clear ho0)
                    obtain ⟨Ao19, co19, eo19⟩ := Kd.N_slice HO606.out
                    (first | subst eo19 | (injection eo19 with f1_ f2_ f3_; have f4_ := f1_.symm; have f5_ := f3_.symm; clear f1_ f2_ f3_; subst f4_; subst f5_))
                    refine hK.out _ _ ⟨(blk_cell BK598.out 0).trans rfl, (blk_cell BK598.out 1).trans rfl, (blk_cell BK601.out 0).trans rfl, (blk_cell BK601.out 1).trans rfl⟩ (fun hHeld => ?_)
                    clear hK K
                    refine norm_ (a' := ?_) ?_ ?_
                    rotate_left
                    · show Act.put _ (some 21) _ = _
                      simp only [Act.put, List.setIfInBounds_toArray, List.set_cons_zero, List.set_cons_succ, i64_w, i32_w]
                      rfl
                    refine two_ (i := 3) (j := 7) (Ni := some 22) (Nj := some 6) #[true, true, true, true, false, false, false, false, false, false] #[true, true, true, false, false, false, false, true, false, false] rfl rfl rfl rfl (two_of HT_.out (by kernel_rfl)) (by decide) (by decide) (fun K hK => ?_) (fun K hK => ?_)
                    · skip
                      refine goes_ Try.func43 (by kernel_rfl) rfl #[.agg #[.bool x599000_1, .slice Ao16 x599001_1.length co16], .agg #[.bool t603, .slice Ao19 t604.length co19]] (by rfl) rfl rfl (by (try simp only [List.map_toArray, List.map_cons, List.map_nil]); first | done | rfl | (simp only [List.length_drop, List.length_take]; rfl)) ?_
                      with_reducible refine (id_sum.calls x599000_1 (fun k_ => ((k_ ≠ gb598 ∧ k_ ≠ gb601) ∧ some k_ ≠ (.slice Ao19 t604.length co19 : Value).ownBlock)) _ _ x599001_1 t603 (fun k_ => (k_ ≠ gb598 ∧ k_ ≠ gb601)) _ _ t604 t607 t608 true _ ?side1 ?side2 A10.out).mono ?_
                      (case side1 => exact HO_599001.out)
                      (case side2 => exact Kd.N_V (HO606.out))
                      rintro e w20 ⟨v609, rfl, ho0, hb⟩
                      refine ⟨_, rfl, ?_⟩
                      have n0_ := Aside0.mk (Kd.V_below (by (with_reducible repeat (first | apply Kd.V_alloc | apply Kd.V_drewN | apply Kd.V_drew)); exact HO_599001.out) hb)
                      have n1_ := Aside0.mk (Kd.N_below (by (with_reducible repeat (first | apply Kd.N_alloc | apply Kd.N_drewN | apply Kd.N_drew)); exact HO606.out) hb)
                      have n2_ := Aside0.mk (Kd.V_lower (Kd.V_mono (ok' := fun k_ => k_ ≠ gb598 ∧ k_ ≠ gb601) ho0 (fun k_ hk_ => ⟨Or.elim hk_ (fun hs_ => Or.elim hs_ (fun hs_ => hs_.1.1) (fun hs_ => hs_.1)) (fun hn_ => (Kd.freshB (g := gb598) (o := .cells #[.bool x599000_1, .slice Ao16 x599001_1.length co16] 24 (0, 0)) (by (with_reducible repeat (first | refine blk_drewN ?_ _ | refine blk_drew ?_ | refine blk_alloc ?_ _)); exact BK598.out) k_ hn_)), Or.elim hk_ (fun hs_ => Or.elim hs_ (fun hs_ => hs_.1.2) (fun hs_ => hs_.2)) (fun hn_ => (Kd.freshB (g := gb601) (o := .cells #[.bool ((rd_T24 l0 x11_1).f0), .slice A600_1 ((rd_T24 l0 x11_1).f1).length c600_1] 24 (0, 0)) (by (with_reducible repeat (first | refine blk_drewN ?_ _ | refine blk_drew ?_ | refine blk_alloc ?_ _)); exact BK601.out) k_ hn_))⟩)) (below_size (by repeat (first | (with_reducible first | exact HB.out | apply below_alloc | apply pw_below_drewN | apply below_drew1 | refine below_set ?_ GE598.out | refine below_set ?_ GE601.out) | exact HB.out))))
                      have n3_ := Aside0.mk (blk_below (g := gb598) (o := .cells #[.bool x599000_1, .slice Ao16 x599001_1.length co16] 24 (0, 0)) (by (with_reducible repeat (first | refine blk_drewN ?_ _ | refine blk_drew ?_ | refine blk_alloc ?_ _)); exact BK598.out) hb)
                      have n4_ := Aside0.mk (blk_below (g := gb601) (o := .cells #[.bool ((rd_T24 l0 x11_1).f0), .slice A600_1 ((rd_T24 l0 x11_1).f1).length c600_1] 24 (0, 0)) (by (with_reducible repeat (first | refine blk_drewN ?_ _ | refine blk_drew ?_ | refine blk_alloc ?_ _)); exact BK601.out) hb)
                      have n5_ := Aside0.mk (below_step (by repeat (first | (with_reducible first | exact HB.out | apply below_alloc | apply pw_below_drewN | apply below_drew1 | refine below_set ?_ GE598.out | refine below_set ?_ GE601.out) | exact HB.out)) hb)
                      clear HO_599001
                      clear HO606
                      clear BK598
                      clear BK601
                      clear HB
                      have HO_599001 := n0_
                      have HO606 := n1_
                      have HO610 := n2_
                      have BK598 := n3_
                      have BK601 := n4_
                      have HB := n5_
                      clear n0_ n1_ n2_ n3_ n4_ n5_
                      (try clear hb)
                      (try clear hb2)
                      (try clear hk)
                      (try clear hi)
                      (try clear ho0)
                      refine hK.out _ _ ⟨(blk_cell BK598.out 0).trans rfl, (blk_cell BK598.out 1).trans rfl, (blk_cell BK601.out 0).trans rfl, (blk_cell BK601.out 1).trans rfl⟩ (fun hHeld => ?_)
                      clear hK K
                      refine norm_ (a' := ?_) ?_ ?_
                      rotate_left
                      · show Act.put _ (some 22) _ = _
                        simp only [Act.put, List.setIfInBounds_toArray, List.set_cons_zero, List.set_cons_succ, i64_w, i32_w]
                        rfl
                      refine pure_ (i := 4) (N := some 18) (v := ?_) (a' := ?_) #[true, true, true, true, true, false, false, false, false, false] rfl rfl (any_of HT_.out (by kernel_rfl)) (fun _ _ _ h => h) (Or.inl ⟨by rfl, ?_⟩) ?_ ?_
                      rotate_left
                      · intro w'
                        go_simp
                        with_reducible rfl
                      rotate_left
                      · simp only [Act.put, List.setIfInBounds_toArray, List.set_cons_zero, List.set_cons_succ, i64_w, i32_w]
                        rfl
                      refine pure_ (i := 5) (N := some 23) (v := ?_) (a' := ?_) #[true, true, true, true, true, true, false, false, false, false] rfl rfl (any_of HT_.out (by kernel_rfl)) (fun _ _ _ h => h) (Or.inl ⟨by rfl, ?_⟩) ?_ ?_
                      rotate_left
                      · intro w'
                        go_simp
                        with_reducible rfl
                      rotate_left
                      · simp only [Act.put, List.setIfInBounds_toArray, List.set_cons_zero, List.set_cons_succ, i64_w, i32_w]
                        rfl
                      refine pure_ (i := 6) (N := some 24) (v := ?_) (a' := ?_) #[true, true, true, true, true, true, true, false, false, false] rfl rfl (any_of HT_.out (by kernel_rfl)) (fun _ _ _ h => h) (Or.inl ⟨by rfl, ?_⟩) ?_ ?_
                      rotate_left
                      · intro w'
                        go_simp
                        with_reducible rfl
                      rotate_left
                      · simp only [Act.put, List.setIfInBounds_toArray, List.set_cons_zero, List.set_cons_succ, i64_w, i32_w]
                        rfl
                      refine one_ (i := 7) (N := some 6) #[true, true, true, true, true, true, true, true, false, false] rfl rfl (one_of HT_.out (by kernel_rfl)) (by decide) (fun K hK => ?_)
                      refine box_step ?hg (N := 6) ?hd (cs := #[.bool false, .slice none 0 0]) (t := 24) ?hr ?_; (case hd => rfl); (case hg => rfl); (case hr => first | (go_simp; done) | (go_simp; rfl))
                      intro gb612 hg w21 hbox hb
                      have n0_ := Aside0.mk (Kd.V_below (Kd.V_elderB (by (with_reducible repeat (first | apply Kd.V_alloc | apply Kd.V_drewN | apply Kd.V_drew)); exact HO_599001.out) gb612 (Nat.le_of_eq hg.symm)) hb)
                      have n1_ := Aside0.mk (Kd.N_below (Kd.N_elderB (by (with_reducible repeat (first | apply Kd.N_alloc | apply Kd.N_drewN | apply Kd.N_drew)); exact HO606.out) gb612 (Nat.le_of_eq hg.symm)) hb)
                      have n2_ := Aside0.mk (Kd.V_below (Kd.V_elderB (by (with_reducible repeat (first | apply Kd.V_alloc | apply Kd.V_drewN | apply Kd.V_drew)); exact HO610.out) gb612 (Nat.le_of_eq hg.symm)) hb)
                      have n3_ := Aside0.mk (blk_below (g := gb598) (o := .cells #[.bool x599000_1, .slice Ao16 x599001_1.length co16] 24 (0, 0)) (by (with_reducible repeat (first | refine blk_drewN ?_ _ | refine blk_drew ?_ | refine blk_alloc ?_ _)); exact BK598.out) hb)
                      have n4_ := Aside0.mk (blk_below (g := gb601) (o := .cells #[.bool ((rd_T24 l0 x11_1).f0), .slice A600_1 ((rd_T24 l0 x11_1).f1).length c600_1] 24 (0, 0)) (by (with_reducible repeat (first | refine blk_drewN ?_ _ | refine blk_drew ?_ | refine blk_alloc ?_ _)); exact BK601.out) hb)
                      have n5_ := Aside0.mk (below_step (by repeat (first | (with_reducible first | exact HB.out | apply below_alloc | apply pw_below_drewN | apply below_drew1 | refine below_set ?_ GE598.out | refine below_set ?_ GE601.out) | exact HB.out)) hb)
                      have n6_ := Aside0.mk (hbox)
                      have n7_ := Aside0.mk ((by rw [hg]; exact (below_size (by repeat (first | (with_reducible first | exact HB.out | apply below_alloc | apply pw_below_drewN | apply below_drew1 | refine below_set ?_ GE598.out | refine below_set ?_ GE601.out) | exact HB.out))) : w.heap.size ≤ gb612))
                      have n8_ := Aside0.mk ((by rw [hg]; exact (below_size (by repeat (first | (with_reducible first | exact HB.out | apply below_alloc | apply pw_below_drewN | apply below_drew1 | refine below_set ?_ GE598.out | refine below_set ?_ GE601.out) | exact HB.out))) : w.heap.size ≤ gb612))
                      have n9_ := Aside0.mk ((by rw [hg]; exact Nat.ne_of_lt (blk_lt (g := gb598) (o := .cells #[.bool x599000_1, .slice Ao16 x599001_1.length co16] 24 (0, 0)) (by (with_reducible repeat (first | refine blk_drewN ?_ _ | refine blk_drew ?_ | refine blk_alloc ?_ _)); exact BK598.out)) : gb598 ≠ gb612))
                      have n10_ := Aside0.mk ((by rw [hg]; exact Nat.ne_of_gt (blk_lt (g := gb598) (o := .cells #[.bool x599000_1, .slice Ao16 x599001_1.length co16] 24 (0, 0)) (by (with_reducible repeat (first | refine blk_drewN ?_ _ | refine blk_drew ?_ | refine blk_alloc ?_ _)); exact BK598.out)) : gb612 ≠ gb598))
                      have n11_ := Aside0.mk ((by rw [hg]; exact Nat.ne_of_lt (blk_lt (g := gb601) (o := .cells #[.bool ((rd_T24 l0 x11_1).f0), .slice A600_1 ((rd_T24 l0 x11_1).f1).length c600_1] 24 (0, 0)) (by (with_reducible repeat (first | refine blk_drewN ?_ _ | refine blk_drew ?_ | refine blk_alloc ?_ _)); exact BK601.out)) : gb601 ≠ gb612))
                      have n12_ := Aside0.mk ((by rw [hg]; exact Nat.ne_of_gt (blk_lt (g := gb601) (o := .cells #[.bool ((rd_T24 l0 x11_1).f0), .slice A600_1 ((rd_T24 l0 x11_1).f1).length c600_1] 24 (0, 0)) (by (with_reducible repeat (first | refine blk_drewN ?_ _ | refine blk_drew ?_ | refine blk_alloc ?_ _)); exact BK601.out)) : gb612 ≠ gb601))
                      clear HO_599001
                      clear HO606
                      clear HO610
                      clear BK598
                      clear BK601
                      clear HB
                      have HO_599001 := n0_
                      have HO606 := n1_
                      have HO610 := n2_
                      have BK598 := n3_
                      have BK601 := n4_
                      have HB := n5_
                      have BK612 := n6_
                      have GW612 := n7_
                      have GE612 := n8_
                      have NB598_612 := n9_
                      have NB612_598 := n10_
                      have NB601_612 := n11_
                      have NB612_601 := n12_
                      clear n0_ n1_ n2_ n3_ n4_ n5_ n6_ n7_ n8_ n9_ n10_ n11_ n12_
                      clear hb hbox hg
                      refine hK.out _ _ ⟨(blk_cell BK598.out 0).trans rfl, (blk_cell BK598.out 1).trans rfl, (blk_cell BK601.out 0).trans rfl, (blk_cell BK601.out 1).trans rfl⟩ (fun hHeld => ?_)
                      clear hK K
                      refine norm_ (a' := ?_) ?_ ?_
                      rotate_left
                      · show Act.put _ (some 6) _ = _
                        simp only [Act.put, List.setIfInBounds_toArray, List.set_cons_zero, List.set_cons_succ, i64_w, i32_w]
                        rfl
                      exact norm_ (by simp only [putAll, Act.put, List.setIfInBounds_toArray, List.set_cons_zero, List.set_cons_succ]) (hCont (.slice Ao19 t604.length co19, v609, gb612) _ ⟨hHeld, (by (with_reducible repeat (first | apply Kd.N_alloc | apply Kd.N_drewN | apply Kd.N_drew)); exact Kd.N_mono HO606.out (fun _ hk => ⟨hk.1.1, ⟨hk.1.2, hk.2⟩⟩)), (by (with_reducible repeat (first | apply Kd.V_alloc | apply Kd.V_drewN | apply Kd.V_drew)); exact Kd.V_mono HO610.out (fun _ hk => ⟨hk.1.1, ⟨hk.1.2, hk.2⟩⟩)), (by (with_reducible repeat (first | apply Kd.V_alloc | apply Kd.V_drewN | apply Kd.V_drew)); exact Kd.V_mono HO_599001.out (fun _ hk => ⟨hk.1.2, ⟨hk.1.1.1, ⟨hk.1.1.2, hk.2⟩⟩⟩)), (by (with_reducible repeat (first | refine blk_drewN ?_ _ | refine blk_drew ?_ | refine blk_alloc ?_ _)); exact BK598.out), (by (with_reducible repeat (first | refine blk_drewN ?_ _ | refine blk_drew ?_ | refine blk_alloc ?_ _)); exact BK601.out), (by (with_reducible repeat (first | refine blk_drewN ?_ _ | refine blk_drew ?_ | refine blk_alloc ?_ _)); exact BK612.out), GW612.out, GE612.out, NB598_612.out, NB612_598.out, NB601_612.out, NB612_601.out, (by repeat (first | (with_reducible first | exact HB.out | apply below_alloc | apply pw_below_drewN | apply below_drew1 | refine below_set ?_ GE598.out | refine below_set ?_ GE601.out | refine below_set ?_ GE612.out) | exact HB.out))⟩)
                    · skip
                      refine box_step ?hg (N := 6) ?hd (cs := #[.bool false, .slice none 0 0]) (t := 24) ?hr ?_; (case hd => rfl); (case hg => rfl); (case hr => first | (go_simp; done) | (go_simp; rfl))
                      intro gb612 hg w19 hbox hb
                      have n0_ := Aside0.mk (Kd.V_below (Kd.V_elderB (by (with_reducible repeat (first | apply Kd.V_alloc | apply Kd.V_drewN | apply Kd.V_drew)); exact HO_599001.out) gb612 (Nat.le_of_eq hg.symm)) hb)
                      have n1_ := Aside0.mk (Kd.N_below (Kd.N_elderB (by (with_reducible repeat (first | apply Kd.N_alloc | apply Kd.N_drewN | apply Kd.N_drew)); exact HO606.out) gb612 (Nat.le_of_eq hg.symm)) hb)
                      have n2_ := Aside0.mk (blk_below (g := gb598) (o := .cells #[.bool x599000_1, .slice Ao16 x599001_1.length co16] 24 (0, 0)) (by (with_reducible repeat (first | refine blk_drewN ?_ _ | refine blk_drew ?_ | refine blk_alloc ?_ _)); exact BK598.out) hb)
                      have n3_ := Aside0.mk (blk_below (g := gb601) (o := .cells #[.bool ((rd_T24 l0 x11_1).f0), .slice A600_1 ((rd_T24 l0 x11_1).f1).length c600_1] 24 (0, 0)) (by (with_reducible repeat (first | refine blk_drewN ?_ _ | refine blk_drew ?_ | refine blk_alloc ?_ _)); exact BK601.out) hb)
                      have n4_ := Aside0.mk (below_step (by repeat (first | (with_reducible first | exact HB.out | apply below_alloc | apply pw_below_drewN | apply below_drew1 | refine below_set ?_ GE598.out | refine below_set ?_ GE601.out) | exact HB.out)) hb)
                      have n5_ := Aside0.mk (hbox)
                      have n6_ := Aside0.mk ((by rw [hg]; exact (below_size (by repeat (first | (with_reducible first | exact HB.out | apply below_alloc | apply pw_below_drewN | apply below_drew1 | refine below_set ?_ GE598.out | refine below_set ?_ GE601.out) | exact HB.out))) : w.heap.size ≤ gb612))
                      have n7_ := Aside0.mk ((by rw [hg]; exact (below_size (by repeat (first | (with_reducible first | exact HB.out | apply below_alloc | apply pw_below_drewN | apply below_drew1 | refine below_set ?_ GE598.out | refine below_set ?_ GE601.out) | exact HB.out))) : w.heap.size ≤ gb612))
                      have n8_ := Aside0.mk ((by rw [hg]; exact Nat.ne_of_lt (blk_lt (g := gb598) (o := .cells #[.bool x599000_1, .slice Ao16 x599001_1.length co16] 24 (0, 0)) (by (with_reducible repeat (first | refine blk_drewN ?_ _ | refine blk_drew ?_ | refine blk_alloc ?_ _)); exact BK598.out)) : gb598 ≠ gb612))
                      have n9_ := Aside0.mk ((by rw [hg]; exact Nat.ne_of_gt (blk_lt (g := gb598) (o := .cells #[.bool x599000_1, .slice Ao16 x599001_1.length co16] 24 (0, 0)) (by (with_reducible repeat (first | refine blk_drewN ?_ _ | refine blk_drew ?_ | refine blk_alloc ?_ _)); exact BK598.out)) : gb612 ≠ gb598))
                      have n10_ := Aside0.mk ((by rw [hg]; exact Nat.ne_of_lt (blk_lt (g := gb601) (o := .cells #[.bool ((rd_T24 l0 x11_1).f0), .slice A600_1 ((rd_T24 l0 x11_1).f1).length c600_1] 24 (0, 0)) (by (with_reducible repeat (first | refine blk_drewN ?_ _ | refine blk_drew ?_ | refine blk_alloc ?_ _)); exact BK601.out)) : gb601 ≠ gb612))
                      have n11_ := Aside0.mk ((by rw [hg]; exact Nat.ne_of_gt (blk_lt (g := gb601) (o := .cells #[.bool ((rd_T24 l0 x11_1).f0), .slice A600_1 ((rd_T24 l0 x11_1).f1).length c600_1] 24 (0, 0)) (by (with_reducible repeat (first | refine blk_drewN ?_ _ | refine blk_drew ?_ | refine blk_alloc ?_ _)); exact BK601.out)) : gb612 ≠ gb601))
                      clear HO_599001
                      clear HO606
                      clear BK598
                      clear BK601
                      clear HB
                      have HO_599001 := n0_
                      have HO606 := n1_
                      have BK598 := n2_
                      have BK601 := n3_
                      have HB := n4_
                      have BK612 := n5_
                      have GW612 := n6_
                      have GE612 := n7_
                      have NB598_612 := n8_
                      have NB612_598 := n9_
                      have NB601_612 := n10_
                      have NB612_601 := n11_
                      clear n0_ n1_ n2_ n3_ n4_ n5_ n6_ n7_ n8_ n9_ n10_ n11_
                      clear hb hbox hg
                      obtain ⟨Ao20, co20, eo20⟩ := Kd.N_slice HO606.out
                      (first | subst eo20 | (injection eo20 with f1_ f2_ f3_; have f4_ := f1_.symm; have f5_ := f3_.symm; clear f1_ f2_ f3_; subst f4_; subst f5_))
                      refine hK.out _ _ ⟨(blk_cell BK598.out 0).trans rfl, (blk_cell BK598.out 1).trans rfl, (blk_cell BK601.out 0).trans rfl, (blk_cell BK601.out 1).trans rfl⟩ (fun hHeld => ?_)
                      clear hK K
                      refine norm_ (a' := ?_) ?_ ?_
                      rotate_left
                      · show Act.put _ (some 6) _ = _
                        simp only [Act.put, List.setIfInBounds_toArray, List.set_cons_zero, List.set_cons_succ, i64_w, i32_w]
                        rfl
                      refine one_ (i := 3) (N := some 22) #[true, true, true, true, false, false, false, true, false, false] rfl rfl (one_of HT_.out (by kernel_rfl)) (by decide) (fun K hK => ?_)
                      refine goes_ Try.func43 (by kernel_rfl) rfl #[.agg #[.bool x599000_1, .slice Ao16 x599001_1.length co16], .agg #[.bool t603, .slice Ao20 t604.length co20]] (by rfl) rfl rfl (by (try simp only [List.map_toArray, List.map_cons, List.map_nil]); first | done | rfl | (simp only [List.length_drop, List.length_take]; rfl)) ?_
                      with_reducible refine (id_sum.calls x599000_1 (fun k_ => (((k_ ≠ gb598 ∧ k_ ≠ gb601) ∧ some k_ ≠ (.slice Ao20 t604.length co20 : Value).ownBlock) ∧ k_ ≠ gb612)) _ _ x599001_1 t603 (fun k_ => ((k_ ≠ gb598 ∧ k_ ≠ gb601) ∧ k_ ≠ gb612)) _ _ t604 t607 t608 true _ ?side1 ?side2 A10.out).mono ?_
                      (case side1 => exact HO_599001.out)
                      (case side2 => exact Kd.N_V (HO606.out))
                      rintro e w21 ⟨v609, rfl, ho0, hb⟩
                      refine ⟨_, rfl, ?_⟩
                      have n0_ := Aside0.mk (Kd.V_below (by (with_reducible repeat (first | apply Kd.V_alloc | apply Kd.V_drewN | apply Kd.V_drew)); exact HO_599001.out) hb)
                      have n1_ := Aside0.mk (Kd.N_below (by (with_reducible repeat (first | apply Kd.N_alloc | apply Kd.N_drewN | apply Kd.N_drew)); exact HO606.out) hb)
                      have n2_ := Aside0.mk (Kd.V_lower (Kd.V_mono (ok' := fun k_ => k_ ≠ gb598 ∧ k_ ≠ gb601 ∧ k_ ≠ gb612) ho0 (fun k_ hk_ => ⟨Or.elim hk_ (fun hs_ => Or.elim hs_ (fun hs_ => hs_.1.1.1) (fun hs_ => hs_.1.1)) (fun hn_ => (Kd.freshB (g := gb598) (o := .cells #[.bool x599000_1, .slice Ao16 x599001_1.length co16] 24 (0, 0)) (by (with_reducible repeat (first | refine blk_drewN ?_ _ | refine blk_drew ?_ | refine blk_alloc ?_ _)); exact BK598.out) k_ hn_)), Or.elim hk_ (fun hs_ => Or.elim hs_ (fun hs_ => hs_.1.1.2) (fun hs_ => hs_.1.2)) (fun hn_ => (Kd.freshB (g := gb601) (o := .cells #[.bool ((rd_T24 l0 x11_1).f0), .slice A600_1 ((rd_T24 l0 x11_1).f1).length c600_1] 24 (0, 0)) (by (with_reducible repeat (first | refine blk_drewN ?_ _ | refine blk_drew ?_ | refine blk_alloc ?_ _)); exact BK601.out) k_ hn_)), Or.elim hk_ (fun hs_ => Or.elim hs_ (fun hs_ => hs_.2) (fun hs_ => hs_.2)) (fun hn_ => (Kd.freshB (g := gb612) (o := .cells #[.bool false, .slice none 0 0] 24 (0, 0)) (by (with_reducible repeat (first | refine blk_drewN ?_ _ | refine blk_drew ?_ | refine blk_alloc ?_ _)); exact BK612.out) k_ hn_))⟩)) (below_size (by repeat (first | (with_reducible first | exact HB.out | apply below_alloc | apply pw_below_drewN | apply below_drew1 | refine below_set ?_ GE598.out | refine below_set ?_ GE601.out | refine below_set ?_ GE612.out) | exact HB.out))))
                      have n3_ := Aside0.mk (blk_below (g := gb598) (o := .cells #[.bool x599000_1, .slice Ao16 x599001_1.length co16] 24 (0, 0)) (by (with_reducible repeat (first | refine blk_drewN ?_ _ | refine blk_drew ?_ | refine blk_alloc ?_ _)); exact BK598.out) hb)
                      have n4_ := Aside0.mk (blk_below (g := gb601) (o := .cells #[.bool ((rd_T24 l0 x11_1).f0), .slice A600_1 ((rd_T24 l0 x11_1).f1).length c600_1] 24 (0, 0)) (by (with_reducible repeat (first | refine blk_drewN ?_ _ | refine blk_drew ?_ | refine blk_alloc ?_ _)); exact BK601.out) hb)
                      have n5_ := Aside0.mk (blk_below (g := gb612) (o := .cells #[.bool false, .slice none 0 0] 24 (0, 0)) (by (with_reducible repeat (first | refine blk_drewN ?_ _ | refine blk_drew ?_ | refine blk_alloc ?_ _)); exact BK612.out) hb)
                      have n6_ := Aside0.mk (below_step (by repeat (first | (with_reducible first | exact HB.out | apply below_alloc | apply pw_below_drewN | apply below_drew1 | refine below_set ?_ GE598.out | refine below_set ?_ GE601.out | refine below_set ?_ GE612.out) | exact HB.out)) hb)
                      clear HO_599001
                      clear HO606
                      clear BK598
                      clear BK601
                      clear BK612
                      clear HB
                      have HO_599001 := n0_
                      have HO606 := n1_
                      have HO610 := n2_
                      have BK598 := n3_
                      have BK601 := n4_
                      have BK612 := n5_
                      have HB := n6_
                      clear n0_ n1_ n2_ n3_ n4_ n5_ n6_
                      (try clear hb)
                      (try clear hb2)
                      (try clear hk)
                      (try clear hi)
                      (try clear ho0)
                      refine hK.out _ _ ⟨(blk_cell BK598.out 0).trans rfl, (blk_cell BK598.out 1).trans rfl, (blk_cell BK601.out 0).trans rfl, (blk_cell BK601.out 1).trans rfl⟩ (fun hHeld => ?_)
                      clear hK K
                      refine norm_ (a' := ?_) ?_ ?_
                      rotate_left
                      · show Act.put _ (some 22) _ = _
                        simp only [Act.put, List.setIfInBounds_toArray, List.set_cons_zero, List.set_cons_succ, i64_w, i32_w]
                        rfl
                      refine pure_ (i := 4) (N := some 18) (v := ?_) (a' := ?_) #[true, true, true, true, true, false, false, true, false, false] rfl rfl (any_of HT_.out (by kernel_rfl)) (fun _ _ _ h => h) (Or.inl ⟨by rfl, ?_⟩) ?_ ?_
                      rotate_left
                      · intro w'
                        go_simp
                        with_reducible rfl
                      rotate_left
                      · simp only [Act.put, List.setIfInBounds_toArray, List.set_cons_zero, List.set_cons_succ, i64_w, i32_w]
                        rfl
                      refine pure_ (i := 5) (N := some 23) (v := ?_) (a' := ?_) #[true, true, true, true, true, true, false, true, false, false] rfl rfl (any_of HT_.out (by kernel_rfl)) (fun _ _ _ h => h) (Or.inl ⟨by rfl, ?_⟩) ?_ ?_
                      rotate_left
                      · intro w'
                        go_simp
                        with_reducible rfl
                      rotate_left
                      · simp only [Act.put, List.setIfInBounds_toArray, List.set_cons_zero, List.set_cons_succ, i64_w, i32_w]
                        rfl
                      refine pure_ (i := 6) (N := some 24) (v := ?_) (a' := ?_) #[true, true, true, true, true, true, true, true, false, false] rfl rfl (any_of HT_.out (by kernel_rfl)) (fun _ _ _ h => h) (Or.inl ⟨by rfl, ?_⟩) ?_ ?_
                      rotate_left
                      · intro w'
                        go_simp
                        with_reducible rfl
                      rotate_left
                      · simp only [Act.put, List.setIfInBounds_toArray, List.set_cons_zero, List.set_cons_succ, i64_w, i32_w]
                        rfl
                      exact norm_ (by simp only [putAll, Act.put, List.setIfInBounds_toArray, List.set_cons_zero, List.set_cons_succ]) (hCont (.slice Ao20 t604.length co20, v609, gb612) _ ⟨hHeld, (by (with_reducible repeat (first | apply Kd.N_alloc | apply Kd.N_drewN | apply Kd.N_drew)); exact Kd.N_mono HO606.out (fun _ hk => ⟨hk.1.1, ⟨hk.1.2, hk.2⟩⟩)), (by (with_reducible repeat (first | apply Kd.V_alloc | apply Kd.V_drewN | apply Kd.V_drew)); exact HO610.out), (by (with_reducible repeat (first | apply Kd.V_alloc | apply Kd.V_drewN | apply Kd.V_drew)); exact Kd.V_mono HO_599001.out (fun _ hk => ⟨hk.1.2, ⟨hk.1.1.1, ⟨hk.1.1.2, hk.2⟩⟩⟩)), (by (with_reducible repeat (first | refine blk_drewN ?_ _ | refine blk_drew ?_ | refine blk_alloc ?_ _)); exact BK598.out), (by (with_reducible repeat (first | refine blk_drewN ?_ _ | refine blk_drew ?_ | refine blk_alloc ?_ _)); exact BK601.out), (by (with_reducible repeat (first | refine blk_drewN ?_ _ | refine blk_drew ?_ | refine blk_alloc ?_ _)); exact BK612.out), GW612.out, GE612.out, NB598_612.out, NB612_598.out, NB601_612.out, NB612_601.out, (by repeat (first | (with_reducible first | exact HB.out | apply below_alloc | apply pw_below_drewN | apply below_drew1 | refine below_set ?_ GE598.out | refine below_set ?_ GE601.out | refine below_set ?_ GE612.out) | exact HB.out))⟩)
                  · skip
                    refine box_step ?hg (N := 6) ?hd (cs := #[.bool false, .slice none 0 0]) (t := 24) ?hr ?_; (case hd => rfl); (case hg => rfl); (case hr => first | (go_simp; done) | (go_simp; rfl))
                    intro gb612 hg w18 hbox hb
                    have n0_ := Aside0.mk (Kd.V_below (Kd.V_elderB (by (with_reducible repeat (first | apply Kd.V_alloc | apply Kd.V_drewN | apply Kd.V_drew)); exact HO_599001.out) gb612 (Nat.le_of_eq hg.symm)) hb)
                    have n1_ := Aside0.mk (blk_below (g := gb598) (o := .cells #[.bool x599000_1, .slice Ao16 x599001_1.length co16] 24 (0, 0)) (by (with_reducible repeat (first | refine blk_drewN ?_ _ | refine blk_drew ?_ | refine blk_alloc ?_ _)); exact BK598.out) hb)
                    have n2_ := Aside0.mk (blk_below (g := gb601) (o := .cells #[.bool ((rd_T24 l0 x11_1).f0), .slice A600_1 ((rd_T24 l0 x11_1).f1).length c600_1] 24 (0, 0)) (by (with_reducible repeat (first | refine blk_drewN ?_ _ | refine blk_drew ?_ | refine blk_alloc ?_ _)); exact BK601.out) hb)
                    have n3_ := Aside0.mk (below_step (by repeat (first | (with_reducible first | exact HB.out | apply below_alloc | apply pw_below_drewN | apply below_drew1 | refine below_set ?_ GE598.out | refine below_set ?_ GE601.out) | exact HB.out)) hb)
                    have n4_ := Aside0.mk (hbox)
                    have n5_ := Aside0.mk ((by rw [hg]; exact (below_size (by repeat (first | (with_reducible first | exact HB.out | apply below_alloc | apply pw_below_drewN | apply below_drew1 | refine below_set ?_ GE598.out | refine below_set ?_ GE601.out) | exact HB.out))) : w.heap.size ≤ gb612))
                    have n6_ := Aside0.mk ((by rw [hg]; exact (below_size (by repeat (first | (with_reducible first | exact HB.out | apply below_alloc | apply pw_below_drewN | apply below_drew1 | refine below_set ?_ GE598.out | refine below_set ?_ GE601.out) | exact HB.out))) : w.heap.size ≤ gb612))
                    have n7_ := Aside0.mk ((by rw [hg]; exact Nat.ne_of_lt (blk_lt (g := gb598) (o := .cells #[.bool x599000_1, .slice Ao16 x599001_1.length co16] 24 (0, 0)) (by (with_reducible repeat (first | refine blk_drewN ?_ _ | refine blk_drew ?_ | refine blk_alloc ?_ _)); exact BK598.out)) : gb598 ≠ gb612))
                    have n8_ := Aside0.mk ((by rw [hg]; exact Nat.ne_of_gt (blk_lt (g := gb598) (o := .cells #[.bool x599000_1, .slice Ao16 x599001_1.length co16] 24 (0, 0)) (by (with_reducible repeat (first | refine blk_drewN ?_ _ | refine blk_drew ?_ | refine blk_alloc ?_ _)); exact BK598.out)) : gb612 ≠ gb598))
                    have n9_ := Aside0.mk ((by rw [hg]; exact Nat.ne_of_lt (blk_lt (g := gb601) (o := .cells #[.bool ((rd_T24 l0 x11_1).f0), .slice A600_1 ((rd_T24 l0 x11_1).f1).length c600_1] 24 (0, 0)) (by (with_reducible repeat (first | refine blk_drewN ?_ _ | refine blk_drew ?_ | refine blk_alloc ?_ _)); exact BK601.out)) : gb601 ≠ gb612))
                    have n10_ := Aside0.mk ((by rw [hg]; exact Nat.ne_of_gt (blk_lt (g := gb601) (o := .cells #[.bool ((rd_T24 l0 x11_1).f0), .slice A600_1 ((rd_T24 l0 x11_1).f1).length c600_1] 24 (0, 0)) (by (with_reducible repeat (first | refine blk_drewN ?_ _ | refine blk_drew ?_ | refine blk_alloc ?_ _)); exact BK601.out)) : gb612 ≠ gb601))
                    clear HO_599001
                    clear BK598
                    clear BK601
                    clear HB
                    have HO_599001 := n0_
                    have BK598 := n1_
                    have BK601 := n2_
                    have HB := n3_
                    have BK612 := n4_
                    have GW612 := n5_
                    have GE612 := n6_
                    have NB598_612 := n7_
                    have NB612_598 := n8_
                    have NB601_612 := n9_
                    have NB612_601 := n10_
                    clear n0_ n1_ n2_ n3_ n4_ n5_ n6_ n7_ n8_ n9_ n10_
                    clear hb hbox hg
                    refine hK.out _ _ ⟨(blk_cell BK598.out 0).trans rfl, (blk_cell BK598.out 1).trans rfl, (blk_cell BK601.out 0).trans rfl, (blk_cell BK601.out 1).trans rfl⟩ (fun hHeld => ?_)
                    clear hK K
                    refine norm_ (a' := ?_) ?_ ?_
                    rotate_left
                    · show Act.put _ (some 6) _ = _
                      simp only [Act.put, List.setIfInBounds_toArray, List.set_cons_zero, List.set_cons_succ, i64_w, i32_w]
                      rfl
                    refine one_ (i := 2) (N := some 21) #[true, true, true, false, false, false, false, true, false, false] rfl rfl (one_of HT_.out (by kernel_rfl)) (by decide) (fun K hK => ?_)
                    refine goes_ Try.func36 (by kernel_rfl) rfl #[.agg #[.bool ((rd_T24 l0 x11_1).f0), .slice A600_1 ((rd_T24 l0 x11_1).f1).length c600_1]] (by rfl) rfl rfl (by (try simp only [List.map_toArray, List.map_cons, List.map_nil]); first | done | rfl | (simp only [List.length_drop, List.length_take]; rfl)) ?_
                    with_reducible refine (id_norm.calls k1 ((rd_T24 l0 x11_1).f0) _ _ ((rd_T24 l0 x11_1).f1) t603 t604 _ ?side1 ?side2 A9.out).mono ?_
                    (case side1 => repeat (first | exact (Kd.C_below HR600_1.out HB.out) | (with_reducible refine Kd.C_alloc ?_ _) | (with_reducible refine Kd.C_drewN ?_ _) | (with_reducible refine Kd.C_drew ?_)))
                    (case side2 => exact HC600_1.out)
                    rintro e w19 ⟨v605, rfl, ho0, hb⟩
                    refine ⟨_, rfl, ?_⟩
                    have n0_ := Aside0.mk (Kd.V_elder' (by (with_reducible repeat (first | apply Kd.V_alloc | apply Kd.V_drewN | apply Kd.V_drew)); exact HO_599001.out) (Kd.N_base ho0) hb)
                    have n1_ := Aside0.mk (Kd.N_lower (Kd.N_mono (ok' := fun k_ => k_ ≠ gb598 ∧ k_ ≠ gb601 ∧ k_ ≠ gb612) ho0 (fun k_ hk_ => ⟨(Kd.freshB (g := gb598) (o := .cells #[.bool x599000_1, .slice Ao16 x599001_1.length co16] 24 (0, 0)) (by (with_reducible repeat (first | refine blk_drewN ?_ _ | refine blk_drew ?_ | refine blk_alloc ?_ _)); exact BK598.out) k_ hk_), (Kd.freshB (g := gb601) (o := .cells #[.bool ((rd_T24 l0 x11_1).f0), .slice A600_1 ((rd_T24 l0 x11_1).f1).length c600_1] 24 (0, 0)) (by (with_reducible repeat (first | refine blk_drewN ?_ _ | refine blk_drew ?_ | refine blk_alloc ?_ _)); exact BK601.out) k_ hk_), (Kd.freshB (g := gb612) (o := .cells #[.bool false, .slice none 0 0] 24 (0, 0)) (by (with_reducible repeat (first | refine blk_drewN ?_ _ | refine blk_drew ?_ | refine blk_alloc ?_ _)); exact BK612.out) k_ hk_)⟩)) (below_size (by repeat (first | (with_reducible first | exact HB.out | apply below_alloc | apply pw_below_drewN | apply below_drew1 | refine below_set ?_ GE598.out | refine below_set ?_ GE601.out | refine below_set ?_ GE612.out) | exact HB.out))))
                    have n2_ := Aside0.mk (blk_below (g := gb598) (o := .cells #[.bool x599000_1, .slice Ao16 x599001_1.length co16] 24 (0, 0)) (by (with_reducible repeat (first | refine blk_drewN ?_ _ | refine blk_drew ?_ | refine blk_alloc ?_ _)); exact BK598.out) hb)
                    have n3_ := Aside0.mk (blk_below (g := gb601) (o := .cells #[.bool ((rd_T24 l0 x11_1).f0), .slice A600_1 ((rd_T24 l0 x11_1).f1).length c600_1] 24 (0, 0)) (by (with_reducible repeat (first | refine blk_drewN ?_ _ | refine blk_drew ?_ | refine blk_alloc ?_ _)); exact BK601.out) hb)
                    have n4_ := Aside0.mk (blk_below (g := gb612) (o := .cells #[.bool false, .slice none 0 0] 24 (0, 0)) (by (with_reducible repeat (first | refine blk_drewN ?_ _ | refine blk_drew ?_ | refine blk_alloc ?_ _)); exact BK612.out) hb)
                    have n5_ := Aside0.mk (below_step (by repeat (first | (with_reducible first | exact HB.out | apply below_alloc | apply pw_below_drewN | apply below_drew1 | refine below_set ?_ GE598.out | refine below_set ?_ GE601.out | refine below_set ?_ GE612.out) | exact HB.out)) hb)
                    clear HO_599001
                    clear BK598
                    clear BK601
                    clear BK612
                    clear HB
                    have HO_599001 := n0_
                    have HO606 := n1_
                    have BK598 := n2_
                    have BK601 := n3_
                    have BK612 := n4_
                    have HB := n5_
                    clear n0_ n1_ n2_ n3_ n4_ n5_
                    (try clear hb)
                    (try clear hb2)
                    (try clear hk)
                    (try clear hi)
                    (try clear ho0)
                    obtain ⟨Ao20, co20, eo20⟩ := Kd.N_slice HO606.out
                    (first | subst eo20 | (injection eo20 with f1_ f2_ f3_; have f4_ := f1_.symm; have f5_ := f3_.symm; clear f1_ f2_ f3_; subst f4_; subst f5_))
                    refine hK.out _ _ ⟨(blk_cell BK598.out 0).trans rfl, (blk_cell BK598.out 1).trans rfl, (blk_cell BK601.out 0).trans rfl, (blk_cell BK601.out 1).trans rfl⟩ (fun hHeld => ?_)
                    clear hK K
                    refine norm_ (a' := ?_) ?_ ?_
                    rotate_left
                    · show Act.put _ (some 21) _ = _
                      simp only [Act.put, List.setIfInBounds_toArray, List.set_cons_zero, List.set_cons_succ, i64_w, i32_w]
                      rfl
                    refine one_ (i := 3) (N := some 22) #[true, true, true, true, false, false, false, true, false, false] rfl rfl (one_of HT_.out (by kernel_rfl)) (by decide) (fun K hK => ?_)
                    refine goes_ Try.func43 (by kernel_rfl) rfl #[.agg #[.bool x599000_1, .slice Ao16 x599001_1.length co16], .agg #[.bool t603, .slice Ao20 t604.length co20]] (by rfl) rfl rfl (by (try simp only [List.map_toArray, List.map_cons, List.map_nil]); first | done | rfl | (simp only [List.length_drop, List.length_take]; rfl)) ?_
                    with_reducible refine (id_sum.calls x599000_1 (fun k_ => (((k_ ≠ gb598 ∧ k_ ≠ gb601) ∧ k_ ≠ gb612) ∧ some k_ ≠ (.slice Ao20 t604.length co20 : Value).ownBlock)) _ _ x599001_1 t603 (fun k_ => (k_ ≠ gb598 ∧ (k_ ≠ gb601 ∧ k_ ≠ gb612))) _ _ t604 t607 t608 true _ ?side1 ?side2 A10.out).mono ?_
                    (case side1 => exact HO_599001.out)
                    (case side2 => exact Kd.N_V (HO606.out))
                    rintro e w21 ⟨v609, rfl, ho0, hb⟩
                    refine ⟨_, rfl, ?_⟩
                    have n0_ := Aside0.mk (Kd.V_below (by (with_reducible repeat (first | apply Kd.V_alloc | apply Kd.V_drewN | apply Kd.V_drew)); exact HO_599001.out) hb)
                    have n1_ := Aside0.mk (Kd.N_below (by (with_reducible repeat (first | apply Kd.N_alloc | apply Kd.N_drewN | apply Kd.N_drew)); exact HO606.out) hb)
                    have n2_ := Aside0.mk (Kd.V_lower (Kd.V_mono (ok' := fun k_ => k_ ≠ gb598 ∧ k_ ≠ gb601 ∧ k_ ≠ gb612) ho0 (fun k_ hk_ => ⟨Or.elim hk_ (fun hs_ => Or.elim hs_ (fun hs_ => hs_.1.1.1) (fun hs_ => hs_.1)) (fun hn_ => (Kd.freshB (g := gb598) (o := .cells #[.bool x599000_1, .slice Ao16 x599001_1.length co16] 24 (0, 0)) (by (with_reducible repeat (first | refine blk_drewN ?_ _ | refine blk_drew ?_ | refine blk_alloc ?_ _)); exact BK598.out) k_ hn_)), Or.elim hk_ (fun hs_ => Or.elim hs_ (fun hs_ => hs_.1.1.2) (fun hs_ => hs_.2.1)) (fun hn_ => (Kd.freshB (g := gb601) (o := .cells #[.bool ((rd_T24 l0 x11_1).f0), .slice A600_1 ((rd_T24 l0 x11_1).f1).length c600_1] 24 (0, 0)) (by (with_reducible repeat (first | refine blk_drewN ?_ _ | refine blk_drew ?_ | refine blk_alloc ?_ _)); exact BK601.out) k_ hn_)), Or.elim hk_ (fun hs_ => Or.elim hs_ (fun hs_ => hs_.1.2) (fun hs_ => hs_.2.2)) (fun hn_ => (Kd.freshB (g := gb612) (o := .cells #[.bool false, .slice none 0 0] 24 (0, 0)) (by (with_reducible repeat (first | refine blk_drewN ?_ _ | refine blk_drew ?_ | refine blk_alloc ?_ _)); exact BK612.out) k_ hn_))⟩)) (below_size (by repeat (first | (with_reducible first | exact HB.out | apply below_alloc | apply pw_below_drewN | apply below_drew1 | refine below_set ?_ GE598.out | refine below_set ?_ GE601.out | refine below_set ?_ GE612.out) | exact HB.out))))
                    have n3_ := Aside0.mk (blk_below (g := gb598) (o := .cells #[.bool x599000_1, .slice Ao16 x599001_1.length co16] 24 (0, 0)) (by (with_reducible repeat (first | refine blk_drewN ?_ _ | refine blk_drew ?_ | refine blk_alloc ?_ _)); exact BK598.out) hb)
                    have n4_ := Aside0.mk (blk_below (g := gb601) (o := .cells #[.bool ((rd_T24 l0 x11_1).f0), .slice A600_1 ((rd_T24 l0 x11_1).f1).length c600_1] 24 (0, 0)) (by (with_reducible repeat (first | refine blk_drewN ?_ _ | refine blk_drew ?_ | refine blk_alloc ?_ _)); exact BK601.out) hb)
                    have n5_ := Aside0.mk (blk_below (g := gb612) (o := .cells #[.bool false, .slice none 0 0] 24 (0, 0)) (by (with_reducible repeat (first | refine blk_drewN ?_ _ | refine blk_drew ?_ | refine blk_alloc ?_ _)); exact BK612.out) hb)
                    have n6_ := Aside0.mk (below_step (by repeat (first | (with_reducible first | exact HB.out | apply below_alloc | apply pw_below_drewN | apply below_drew1 | refine below_set ?_ GE598.out | refine below_set ?_ GE601.out | refine below_set ?_ GE612.out) | exact HB.out)) hb)
                    clear HO_599001
                    clear HO606
                    clear BK598
                    clear BK601
                    clear BK612
                    clear HB
                    have HO_599001 := n0_
                    have HO606 := n1_
                    have HO610 := n2_
                    have BK598 := n3_
                    have BK601 := n4_
                    have BK612 := n5_
                    have HB := n6_
                    clear n0_ n1_ n2_ n3_ n4_ n5_ n6_
                    (try clear hb)
                    (try clear hb2)
                    (try clear hk)
                    (try clear hi)
                    (try clear ho0)
                    refine hK.out _ _ ⟨(blk_cell BK598.out 0).trans rfl, (blk_cell BK598.out 1).trans rfl, (blk_cell BK601.out 0).trans rfl, (blk_cell BK601.out 1).trans rfl⟩ (fun hHeld => ?_)
                    clear hK K
                    refine norm_ (a' := ?_) ?_ ?_
                    rotate_left
                    · show Act.put _ (some 22) _ = _
                      simp only [Act.put, List.setIfInBounds_toArray, List.set_cons_zero, List.set_cons_succ, i64_w, i32_w]
                      rfl
                    refine pure_ (i := 4) (N := some 18) (v := ?_) (a' := ?_) #[true, true, true, true, true, false, false, true, false, false] rfl rfl (any_of HT_.out (by kernel_rfl)) (fun _ _ _ h => h) (Or.inl ⟨by rfl, ?_⟩) ?_ ?_
                    rotate_left
                    · intro w'
                      go_simp
                      with_reducible rfl
                    rotate_left
                    · simp only [Act.put, List.setIfInBounds_toArray, List.set_cons_zero, List.set_cons_succ, i64_w, i32_w]
                      rfl
                    refine pure_ (i := 5) (N := some 23) (v := ?_) (a' := ?_) #[true, true, true, true, true, true, false, true, false, false] rfl rfl (any_of HT_.out (by kernel_rfl)) (fun _ _ _ h => h) (Or.inl ⟨by rfl, ?_⟩) ?_ ?_
                    rotate_left
                    · intro w'
                      go_simp
                      with_reducible rfl
                    rotate_left
                    · simp only [Act.put, List.setIfInBounds_toArray, List.set_cons_zero, List.set_cons_succ, i64_w, i32_w]
                      rfl
                    refine pure_ (i := 6) (N := some 24) (v := ?_) (a' := ?_) #[true, true, true, true, true, true, true, true, false, false] rfl rfl (any_of HT_.out (by kernel_rfl)) (fun _ _ _ h => h) (Or.inl ⟨by rfl, ?_⟩) ?_ ?_
                    rotate_left
                    · intro w'
                      go_simp
                      with_reducible rfl
                    rotate_left
                    · simp only [Act.put, List.setIfInBounds_toArray, List.set_cons_zero, List.set_cons_succ, i64_w, i32_w]
                      rfl
                    exact norm_ (by simp only [putAll, Act.put, List.setIfInBounds_toArray, List.set_cons_zero, List.set_cons_succ]) (hCont (.slice Ao20 t604.length co20, v609, gb612) _ ⟨hHeld, (by (with_reducible repeat (first | apply Kd.N_alloc | apply Kd.N_drewN | apply Kd.N_drew)); exact HO606.out), (by (with_reducible repeat (first | apply Kd.V_alloc | apply Kd.V_drewN | apply Kd.V_drew)); exact HO610.out), (by (with_reducible repeat (first | apply Kd.V_alloc | apply Kd.V_drewN | apply Kd.V_drew)); exact Kd.V_mono HO_599001.out (fun _ hk => ⟨hk.2, ⟨hk.1.1.1, ⟨hk.1.1.2, hk.1.2⟩⟩⟩)), (by (with_reducible repeat (first | refine blk_drewN ?_ _ | refine blk_drew ?_ | refine blk_alloc ?_ _)); exact BK598.out), (by (with_reducible repeat (first | refine blk_drewN ?_ _ | refine blk_drew ?_ | refine blk_alloc ?_ _)); exact BK601.out), (by (with_reducible repeat (first | refine blk_drewN ?_ _ | refine blk_drew ?_ | refine blk_alloc ?_ _)); exact BK612.out), GW612.out, GE612.out, NB598_612.out, NB612_598.out, NB601_612.out, NB612_601.out, (by repeat (first | (with_reducible first | exact HB.out | apply below_alloc | apply pw_below_drewN | apply below_drew1 | refine below_set ?_ GE598.out | refine below_set ?_ GE601.out | refine below_set ?_ GE612.out) | exact HB.out))⟩)
                rintro ⟨v605, v609, gb612⟩ w22 ⟨hS_, h0_, h1_, h2_, h3_, h4_, h5_, h6_, h7_, h8_, h9_, h10_, h11_, h12_⟩
                have n0_ : Aside0 (Kd.N k24 24 w22 w.heap.size (fun k_ => k_ ≠ gb598 ∧ k_ ≠ gb601 ∧ k_ ≠ gb612) v605 t604) := ⟨h0_⟩
                have n1_ : Aside0 (Kd.V k24 24 w22 w.heap.size (fun k_ => k_ ≠ gb598 ∧ k_ ≠ gb601 ∧ k_ ≠ gb612) v609 t608) := ⟨h1_⟩
                have n2_ : Aside0 (Kd.V k24 24 w22 w.heap.size (fun k_ => some k_ ≠ (v605 : Value).ownBlock ∧ k_ ≠ gb598 ∧ k_ ≠ gb601 ∧ k_ ≠ gb612) (.slice Ao16 x599001_1.length co16) x599001_1) := ⟨h2_⟩
                have n3_ : Aside0 (w22.heap[gb598]? = some (.cells #[.bool x599000_1, .slice Ao16 x599001_1.length co16] 24 (0, 0))) := ⟨h3_⟩
                have n4_ : Aside0 (w22.heap[gb601]? = some (.cells #[.bool ((rd_T24 l0 x11_1).f0), .slice A600_1 ((rd_T24 l0 x11_1).f1).length c600_1] 24 (0, 0))) := ⟨h4_⟩
                have n5_ : Aside0 (w22.heap[gb612]? = some (.cells #[.bool false, .slice none 0 0] 24 (0, 0))) := ⟨h5_⟩
                have n6_ : Aside0 (w.heap.size ≤ gb612) := ⟨h6_⟩
                have n7_ : Aside0 (w.heap.size ≤ gb612) := ⟨h7_⟩
                have n8_ : Aside0 (gb598 ≠ gb612) := ⟨h8_⟩
                have n9_ : Aside0 (gb612 ≠ gb598) := ⟨h9_⟩
                have n10_ : Aside0 (gb601 ≠ gb612) := ⟨h10_⟩
                have n11_ : Aside0 (gb612 ≠ gb601) := ⟨h11_⟩
                have n12_ : Aside0 (Below w.heap.size w w22) := ⟨h12_⟩
                clear HO_599001
                clear BK598
                clear BK601
                clear HB
                clear h0_ h1_ h2_ h3_ h4_ h5_ h6_ h7_ h8_ h9_ h10_ h11_ h12_
                have HO606 := n0_
                have HO610 := n1_
                have HO_599001 := n2_
                have BK598 := n3_
                have BK601 := n4_
                have BK612 := n5_
                have GW612 := n6_
                have GE612 := n7_
                have NB598_612 := n8_
                have NB612_598 := n9_
                have NB601_612 := n10_
                have NB612_601 := n11_
                have HB := n12_
                clear n0_ n1_ n2_ n3_ n4_ n5_ n6_ n7_ n8_ n9_ n10_ n11_ n12_
                have hHeld : w22.cell? ⟨gb598, 0, none⟩ = some (.bool x599000_1) ∧ w22.cell? ⟨gb598, 1, none⟩ = some (.slice Ao16 x599001_1.length co16) ∧ w22.cell? ⟨gb601, 0, none⟩ = some (.bool ((rd_T24 l0 x11_1).f0)) ∧ w22.cell? ⟨gb601, 1, none⟩ = some (.slice A600_1 ((rd_T24 l0 x11_1).f1).length c600_1) := hS_
                obtain ⟨Ao24, co24, eo24⟩ := Kd.V_slice HO610.out
                (first | subst eo24 | (injection eo24 with f1_ f2_ f3_; have f4_ := f1_.symm; have f5_ := f3_.symm; clear f1_ f2_ f3_; subst f4_; subst f5_))
                refine norm_ (a' := ?_) ?_ ?_
                rotate_left
                · simp only [putAll, Act.put, List.setIfInBounds_toArray, List.set_cons_zero, List.set_cons_succ]
                  rfl
                refine one_ (i := 8) (N := none) #[true, true, true, true, true, true, true, true, true, false] rfl rfl (one_of HT_.out (by kernel_rfl)) (by decide) (fun K hK => ?_)
                have hs23 : w22.cell? ⟨gb612, 0, none⟩ = some (.bool false) := (blk_cell BK612.out 0).trans rfl
                have hfs23 := blk_frozen BK612.out 0
                have hns23_0 := NB598_612.out
                have hns23_1 := NB601_612.out
                have hms23_0 := NB612_598.out
                have hms23_1 := NB612_601.out
                have hs25 : w22.cell? ⟨gb612, 1, none⟩ = some (.slice none 0 0) := (blk_cell BK612.out 1).trans rfl
                have hfs25 := blk_frozen BK612.out 1
                have hns25_0 := NB598_612.out
                have hns25_1 := NB601_612.out
                have hms25_0 := NB612_598.out
                have hms25_1 := NB612_601.out
                refine skip_ (w1 := ?_) (by rfl) rfl ?_ ?_
                rotate_left
                · go_simp
                  rfl
                refine hK.out _ _ ⟨((cell_far (p := ⟨gb612, _, none⟩) NB598_612.out _).trans (((cell_far (p := ⟨gb612, _, none⟩) NB598_612.out _).trans (hHeld.1)))), ((cell_far (p := ⟨gb612, _, none⟩) NB598_612.out _).trans (((cell_far (p := ⟨gb612, _, none⟩) NB598_612.out _).trans (hHeld.2.1)))), ((cell_far (p := ⟨gb612, _, none⟩) NB601_612.out _).trans (((cell_far (p := ⟨gb612, _, none⟩) NB601_612.out _).trans (hHeld.2.2.1)))), ((cell_far (p := ⟨gb612, _, none⟩) NB601_612.out _).trans (((cell_far (p := ⟨gb612, _, none⟩) NB601_612.out _).trans (hHeld.2.2.2))))⟩ (fun hHeld => ?_)
                clear hK K
                refine pure_ (i := 9) (N := some 7) (v := ?_) (a' := ?_) #[true, true, true, true, true, true, true, true, true, true] rfl rfl (any_of HT_.out (by kernel_rfl)) (fun _ _ _ h => h) (Or.inl ⟨by rfl, ?_⟩) ?_ ?_
                rotate_left
                · intro w'
                  go_simp
                  with_reducible rfl
                rotate_left
                · simp only [Act.put, List.setIfInBounds_toArray, List.set_cons_zero, List.set_cons_succ, i64_w, i32_w]
                  rfl
                refine done_ (done_of HT_.out (by kernel_rfl)) ?_
                have hnb26 := NB612_598.out
                have hnc26 := NB598_612.out
                have hnb27 := NB612_601.out
                have hnc27 := NB601_612.out
                have hcz28_0 : w22.cell? ⟨gb612, 0, none⟩ = some (.bool false) := (blk_cell BK612.out 0).trans rfl
                have hcz28_1 : w22.cell? ⟨gb612, 1, none⟩ = some (.slice none 0 0) := (blk_cell BK612.out 1).trans rfl
                have hfz28_0 := blk_frozen BK612.out 0
                have hfz28_1 := blk_frozen BK612.out 1
                have hcz29_0 : w22.cell? ⟨gb598, 0, none⟩ = some (.bool x599000_1) := (blk_cell BK598.out 0).trans rfl
                have hcz29_1 : w22.cell? ⟨gb598, 1, none⟩ = some (.slice Ao16 x599001_1.length co16) := (blk_cell BK598.out 1).trans rfl
                have hfz29_0 := blk_frozen BK598.out 0
                have hfz29_1 := blk_frozen BK598.out 1
                try go_wp2
                go_roundg k1
                case measure => have := HK1.out; omega
                case rel => exact ⟨(wrap64 (x11_1 + 1)), (t607), (t608), (.slice Ao24 t608.length co24), (by first | rfl | (simp; done) | (simp [*]; done)), H', ⟨by have := HK1.out; omega⟩, ⟨by (with_reducible repeat (first | apply Kd.V_alloc | apply Kd.V_drewN | apply Kd.V_drew)); exact Kd.V_mono (Kd.V_far (p := ⟨gb598, 1, none⟩) (Kd.V_far (p := ⟨gb598, 0, none⟩) (Kd.V_far (p := ⟨gb612, 1, none⟩) (Kd.V_far (p := ⟨gb612, 0, none⟩) (Kd.V_mono (Kd.V_mono HO610.out (fun k_ hk => (⟨hk, hk.2.2⟩ : _ ∧ k_ ≠ gb612))) (fun k_ hk => (⟨hk, hk.1.1⟩ : _ ∧ k_ ≠ gb598))) (fun _ hk => hk.1.2) (.bool t607)) (fun _ hk => hk.1.2) (.slice Ao24 t608.length co24)) (fun _ hk => hk.2) (.bool t607)) (fun _ hk => hk.2) (.slice Ao24 t608.length co24)) (fun _ hk => hk.1.1.1)⟩, ⟨by (with_reducible repeat (first | refine blk_drewN ?_ _ | refine blk_drew ?_ | refine blk_alloc ?_ _)); refine blk_put (cs := #[.bool t607, .slice Ao16 x599001_1.length co16]) ?_ 1 _ rfl; (with_reducible repeat (first | refine blk_drewN ?_ _ | refine blk_drew ?_ | refine blk_alloc ?_ _)); refine blk_put (cs := #[.bool x599000_1, .slice Ao16 x599001_1.length co16]) ?_ 0 _ rfl; (with_reducible repeat (first | refine blk_drewN ?_ _ | refine blk_drew ?_ | refine blk_alloc ?_ _)); refine blk_far ?_ NB598_612.out _; (with_reducible repeat (first | refine blk_drewN ?_ _ | refine blk_drew ?_ | refine blk_alloc ?_ _)); refine blk_far ?_ NB598_612.out _; (with_reducible repeat (first | refine blk_drewN ?_ _ | refine blk_drew ?_ | refine blk_alloc ?_ _)); exact BK598.out⟩, ⟨by repeat (first | (with_reducible first | exact HB.out | apply below_alloc | apply pw_below_drewN | apply below_drew1 | refine below_set ?_ GE598.out | refine below_set ?_ GE601.out | refine below_set ?_ GE612.out) | exact HB.out)⟩⟩
              · replace c11 := Bool.eq_false_iff.mpr c11
                subst c11
                have H1 : (some false) = some r := by rw [if_neg (show ¬ (false = true) by decide)] at H; exact H
                clear H
                have H := H1
                clear H1
                obtain rfl := Option.some.inj H
                have p600 : 0 ≤ (x11_1 : Int) := of_decide_eq_true (by first | (with_reducible assumption) | assumption)
                have q600 : x11_1 < (l0.length : Int) := of_decide_eq_true (by first | (with_reducible assumption) | assumption)
                obtain ⟨ad600, A600_1, c600_1, e600, hx600_0, hx600_1, hl600_1, hi600_1⟩ := at_T24 HR0.out x11_1 p600 q600
                cases e600
                replace hx600_0 := (HB.out.cell (World.block_lt_of_cell? w _ hx600_0)).trans hx600_0
                replace hx600_1 := (HB.out.cell (World.block_lt_of_cell? w _ hx600_1)).trans hx600_1
                have HR600_1 := Aside0.mk hi600_1
                have HC600_1 := Aside0.mk hl600_1
                clear hi600_1 hl600_1
                replace p600 := eq_true p600
                replace q600 := eq_true q600
                try go_wp2_with (first | ((with_reducible refine gate_dst (N := 5) rfl ?_); (try (refine gate_guard (by rfl) ?_; dsimp only)); refine box_event ?hg (N := 5) ?hd (cs := #[.bool false, .slice none 0 0]) (t := 24) ?hr ?_; (case hd => rfl); (case hg => rfl); (case hr => first | (go_simp; done) | (go_simp; rfl)); intro gb601 hg w30 hbox hb; have n0_ := Aside0.mk (Kd.V_below (Kd.V_elderB (by (with_reducible repeat (first | apply Kd.V_alloc | apply Kd.V_drewN | apply Kd.V_drew)); exact HO_599001.out) gb601 (Nat.le_of_eq hg.symm)) hb); have n1_ := Aside0.mk (blk_below (g := gb598) (o := .cells #[.bool x599000_1, u599001] 24 (0, 0)) (by (with_reducible repeat (first | refine blk_drewN ?_ _ | refine blk_drew ?_ | refine blk_alloc ?_ _)); exact BK598.out) hb); have n2_ := Aside0.mk (below_step (by repeat (first | (with_reducible first | exact HB.out | apply below_alloc | apply pw_below_drewN | apply below_drew1 | refine below_set ?_ GE598.out) | exact HB.out)) hb); have n3_ := Aside0.mk (hbox); have n4_ := Aside0.mk ((by rw [hg]; exact (below_size (by repeat (first | (with_reducible first | exact HB.out | apply below_alloc | apply pw_below_drewN | apply below_drew1 | refine below_set ?_ GE598.out) | exact HB.out))) : w.heap.size ≤ gb601)); have n5_ := Aside0.mk ((by rw [hg]; exact (below_size (by repeat (first | (with_reducible first | exact HB.out | apply below_alloc | apply pw_below_drewN | apply below_drew1 | refine below_set ?_ GE598.out) | exact HB.out))) : w.heap.size ≤ gb601)); have n6_ := Aside0.mk ((by rw [hg]; exact Nat.ne_of_lt (blk_lt (g := gb598) (o := .cells #[.bool x599000_1, u599001] 24 (0, 0)) (by (with_reducible repeat (first | refine blk_drewN ?_ _ | refine blk_drew ?_ | refine blk_alloc ?_ _)); exact BK598.out)) : gb598 ≠ gb601)); have n7_ := Aside0.mk ((by rw [hg]; exact Nat.ne_of_gt (blk_lt (g := gb598) (o := .cells #[.bool x599000_1, u599001] 24 (0, 0)) (by (with_reducible repeat (first | refine blk_drewN ?_ _ | refine blk_drew ?_ | refine blk_alloc ?_ _)); exact BK598.out)) : gb601 ≠ gb598)); clear HO_599001; clear BK598; clear HB; have HO_599001 := n0_; have BK598 := n1_; have HB := n2_; have BK601 := n3_; have GW601 := n4_; have GE601 := n5_; have NB598_601 := n6_; have NB601_598 := n7_; clear n0_ n1_ n2_ n3_ n4_ n5_ n6_ n7_; clear hb hbox hg; have hnb31 := NB601_598.out; have hnc31 := NB598_601.out; have hcz32_0 : w30.cell? ⟨gb601, 0, none⟩ = some (.bool false) := (blk_cell BK601.out 0).trans rfl; have hcz32_1 : w30.cell? ⟨gb601, 1, none⟩ = some (.slice none 0 0) := (blk_cell BK601.out 1).trans rfl; have hfz32_0 := blk_frozen BK601.out 0; have hfz32_1 := blk_frozen BK601.out 1) | ((with_reducible refine gate_callee (f := 17) rfl ?_); refine goesL_ (some 16) rfl rfl Try.func17 (by kernel_rfl) rfl #[.agg #[.bool ((rd_T24 l0 x11_1).f0), .slice A600_1 ((rd_T24 l0 x11_1).f1).length c600_1]] rfl (by (try simp only [List.map_toArray, List.map_cons, List.map_nil]); first | done | rfl | (simp only [List.length_drop, List.length_take]; rfl)) ?_; (with_reducible refine (id_Right.calls ((rd_T24 l0 x11_1).f0) _ _ ((rd_T24 l0 x11_1).f1) true _ ?side1 ?side2 A7.out).mono ?_); (case side1 => exact Kd.C_below HR600_1.out (by repeat (first | (with_reducible first | exact HB.out | apply below_alloc | apply pw_below_drewN | apply below_drew1 | refine below_set ?_ GE598.out | refine below_set ?_ GE601.out) | exact HB.out))); (case side2 => exact HC600_1.out); rintro e w33 ⟨rfl, hb⟩; refine ⟨_, rfl, ?_⟩; have n0_ := Aside0.mk (Kd.V_below (by (with_reducible repeat (first | apply Kd.V_alloc | apply Kd.V_drewN | apply Kd.V_drew)); exact (Kd.V_mono (Kd.V_far (p := ⟨gb601, 1, none⟩) (Kd.V_far (p := ⟨gb601, 0, none⟩) (Kd.V_mono HO_599001.out (fun k_ hk => (⟨hk, hk.2⟩ : _ ∧ k_ ≠ gb601))) (fun _ hk => hk.2) (.bool ((rd_T24 l0 x11_1).f0))) (fun _ hk => hk.2) (.slice A600_1 ((rd_T24 l0 x11_1).f1).length c600_1)) (fun _ h_ => h_.1))) hb); have n1_ := Aside0.mk (blk_below (g := gb598) (o := .cells #[.bool x599000_1, u599001] 24 (0, 0)) (by (with_reducible repeat (first | refine blk_drewN ?_ _ | refine blk_drew ?_ | refine blk_alloc ?_ _)); refine blk_far ?_ NB598_601.out _; (with_reducible repeat (first | refine blk_drewN ?_ _ | refine blk_drew ?_ | refine blk_alloc ?_ _)); refine blk_far ?_ NB598_601.out _; (with_reducible repeat (first | refine blk_drewN ?_ _ | refine blk_drew ?_ | refine blk_alloc ?_ _)); exact BK598.out) hb); have n2_ := Aside0.mk (blk_below (g := gb601) (o := .cells #[.bool ((rd_T24 l0 x11_1).f0), .slice A600_1 ((rd_T24 l0 x11_1).f1).length c600_1] 24 (0, 0)) (by (with_reducible repeat (first | refine blk_drewN ?_ _ | refine blk_drew ?_ | refine blk_alloc ?_ _)); refine blk_put (cs := #[.bool ((rd_T24 l0 x11_1).f0), .slice none 0 0]) ?_ 1 _ rfl; (with_reducible repeat (first | refine blk_drewN ?_ _ | refine blk_drew ?_ | refine blk_alloc ?_ _)); refine blk_put (cs := #[.bool false, .slice none 0 0]) ?_ 0 _ rfl; (with_reducible repeat (first | refine blk_drewN ?_ _ | refine blk_drew ?_ | refine blk_alloc ?_ _)); exact BK601.out) hb); have n3_ := Aside0.mk (below_step (by repeat (first | (with_reducible first | exact HB.out | apply below_alloc | apply pw_below_drewN | apply below_drew1 | refine below_set ?_ GE598.out | refine below_set ?_ GE601.out) | exact HB.out)) hb); clear HO_599001; clear BK598; clear BK601; clear HB; have HO_599001 := n0_; have BK598 := n1_; have BK601 := n2_; have HB := n3_; clear n0_ n1_ n2_ n3_; (try clear hb); (try clear hb2); (try clear hk); (try clear hi); obtain ⟨Ao34, co34, eo34⟩ := Kd.V_slice HO_599001.out; subst eo34))
                have n0_ := Aside0.mk (Kd.V_drew HO_599001.out)
                have n1_ := Aside0.mk (blk_drew BK598.out)
                have n2_ := Aside0.mk (blk_drew BK601.out)
                have n3_ := Aside0.mk (below_drew1 HB.out)
                clear HO_599001
                clear BK598
                clear BK601
                clear HB
                have HO_599001 := n0_
                have BK598 := n1_
                have BK601 := n2_
                have HB := n3_
                clear n0_ n1_ n2_ n3_
                refine start_ (n := 10) (S := fun w' => w'.cell? ⟨gb598, 0, none⟩ = some (.bool x599000_1) ∧ w'.cell? ⟨gb598, 1, none⟩ = some (.slice Ao34 x599001_1.length co34) ∧ w'.cell? ⟨gb601, 0, none⟩ = some (.bool ((rd_T24 l0 x11_1).f0)) ∧ w'.cell? ⟨gb601, 1, none⟩ = some (.slice A600_1 ((rd_T24 l0 x11_1).f1).length c600_1)) (ds := []) #[false, false, false, false, false, false, false, false, false, false] (by kernel_rfl) rfl rfl ⟨(blk_cell BK598.out 0).trans rfl, (blk_cell BK598.out 1).trans rfl, (blk_cell BK601.out 0).trans rfl, (blk_cell BK601.out 1).trans rfl⟩ (fun hHeld => ?_); refine with_tabW id_Whole.tab7 id_Whole.bits7 (fun HT_ HW_ => ?_)
                generalize w33.drew = w35 at HO_599001 BK598 BK601 HB hHeld ⊢
                refine take_ (i := 0) (N := some 19) (v := ?_) (a' := ?_) #[true, false, false, false, false, false, false, false, false, false] rfl rfl (take_ofW HT_.out HW_.out (by kernel_rfl)) (fun _ _ _ h => h) (Or.inl ⟨by rfl, ?_⟩) hHeld ?_ ?_
                rotate_left
                · rintro w' ⟨s0, s1, s2, s3⟩
                  go_simp
                  with_reducible rfl
                rotate_left
                · simp only [Act.put, List.setIfInBounds_toArray, List.set_cons_zero, List.set_cons_succ, i64_w, i32_w]
                  rfl
                refine take_ (i := 1) (N := some 20) (v := ?_) (a' := ?_) #[true, true, false, false, false, false, false, false, false, false] rfl rfl (take_ofW HT_.out HW_.out (by kernel_rfl)) (fun _ _ _ h => h) (Or.inl ⟨by rfl, ?_⟩) hHeld ?_ ?_
                rotate_left
                · rintro w' ⟨s0, s1, s2, s3⟩
                  go_simp
                  with_reducible rfl
                rotate_left
                · simp only [Act.put, List.setIfInBounds_toArray, List.set_cons_zero, List.set_cons_succ, i64_w, i32_w]
                  rfl
                refine join_ (σ := Value × Value × Nat) 2 #[true, true, true, true, true, true, true, true, false, false] (fun s_ => [(21, .agg #[.bool t603, s_.1]), (22, .tuple #[.agg #[.bool t607, s_.2.1], .bool false]), (6, .pointer (some ⟨s_.2.2, 0, none⟩)), (18, .tuple #[.agg #[.bool t607, s_.2.1], .bool false]), (23, .agg #[.bool t607, s_.2.1]), (24, .bool false)]) (fun s_ w' => (w'.cell? ⟨gb598, 0, none⟩ = some (.bool x599000_1) ∧ w'.cell? ⟨gb598, 1, none⟩ = some (.slice Ao34 x599001_1.length co34) ∧ w'.cell? ⟨gb601, 0, none⟩ = some (.bool ((rd_T24 l0 x11_1).f0)) ∧ w'.cell? ⟨gb601, 1, none⟩ = some (.slice A600_1 ((rd_T24 l0 x11_1).f1).length c600_1)) ∧ (Kd.N k24 24 w' w.heap.size (fun k_ => k_ ≠ gb598 ∧ k_ ≠ gb601 ∧ k_ ≠ s_.2.2) s_.1 t604) ∧ (Kd.V k24 24 w' w.heap.size (fun k_ => k_ ≠ gb598 ∧ k_ ≠ gb601 ∧ k_ ≠ s_.2.2) s_.2.1 t608) ∧ (Kd.V k24 24 w' w.heap.size (fun k_ => some k_ ≠ (s_.1 : Value).ownBlock ∧ k_ ≠ gb598 ∧ k_ ≠ gb601 ∧ k_ ≠ s_.2.2) (.slice Ao34 x599001_1.length co34) x599001_1) ∧ (w'.heap[gb598]? = some (.cells #[.bool x599000_1, .slice Ao34 x599001_1.length co34] 24 (0, 0))) ∧ (w'.heap[gb601]? = some (.cells #[.bool ((rd_T24 l0 x11_1).f0), .slice A600_1 ((rd_T24 l0 x11_1).f1).length c600_1] 24 (0, 0))) ∧ (w'.heap[s_.2.2]? = some (.cells #[.bool false, .slice none 0 0] 24 (0, 0))) ∧ (w.heap.size ≤ s_.2.2) ∧ (w.heap.size ≤ s_.2.2) ∧ (gb598 ≠ s_.2.2) ∧ (s_.2.2 ≠ gb598) ∧ (gb601 ≠ s_.2.2) ∧ (s_.2.2 ≠ gb601) ∧ (Below w.heap.size w w')) ?_ ?_
                rotate_left
                · intro hCont
                  refine two_ (i := 2) (j := 7) (Ni := some 21) (Nj := some 6) #[true, true, true, false, false, false, false, false, false, false] #[true, true, false, false, false, false, false, true, false, false] rfl rfl rfl rfl (two_of HT_.out (by kernel_rfl)) (by decide) (by decide) (fun K hK => ?_) (fun K hK => ?_)
                  · skip
                    refine goes_ Try.func36 (by kernel_rfl) rfl #[.agg #[.bool ((rd_T24 l0 x11_1).f0), .slice A600_1 ((rd_T24 l0 x11_1).f1).length c600_1]] (by rfl) rfl rfl (by (try simp only [List.map_toArray, List.map_cons, List.map_nil]); first | done | rfl | (simp only [List.length_drop, List.length_take]; rfl)) ?_
                    with_reducible refine (id_norm.calls k1 ((rd_T24 l0 x11_1).f0) _ _ ((rd_T24 l0 x11_1).f1) t603 t604 _ ?side1 ?side2 A9.out).mono ?_
                    (case side1 => repeat (first | exact (Kd.C_below HR600_1.out HB.out) | (with_reducible refine Kd.C_alloc ?_ _) | (with_reducible refine Kd.C_drewN ?_ _) | (with_reducible refine Kd.C_drew ?_)))
                    (case side2 => exact HC600_1.out)
                    rintro e w36 ⟨v605, rfl, ho0, hb⟩
                    refine ⟨_, rfl, ?_⟩
                    have n0_ := Aside0.mk (Kd.V_elder' (by (with_reducible repeat (first | apply Kd.V_alloc | apply Kd.V_drewN | apply Kd.V_drew)); exact HO_599001.out) (Kd.N_base ho0) hb)
                    have n1_ := Aside0.mk (Kd.N_lower (Kd.N_mono (ok' := fun k_ => k_ ≠ gb598 ∧ k_ ≠ gb601) ho0 (fun k_ hk_ => ⟨(Kd.freshB (g := gb598) (o := .cells #[.bool x599000_1, .slice Ao34 x599001_1.length co34] 24 (0, 0)) (by (with_reducible repeat (first | refine blk_drewN ?_ _ | refine blk_drew ?_ | refine blk_alloc ?_ _)); exact BK598.out) k_ hk_), (Kd.freshB (g := gb601) (o := .cells #[.bool ((rd_T24 l0 x11_1).f0), .slice A600_1 ((rd_T24 l0 x11_1).f1).length c600_1] 24 (0, 0)) (by (with_reducible repeat (first | refine blk_drewN ?_ _ | refine blk_drew ?_ | refine blk_alloc ?_ _)); exact BK601.out) k_ hk_)⟩)) (below_size (by repeat (first | (with_reducible first | exact HB.out | apply below_alloc | apply pw_below_drewN | apply below_drew1 | refine below_set ?_ GE598.out | refine below_set ?_ GE601.out) | exact HB.out))))
                    have n2_ := Aside0.mk (blk_below (g := gb598) (o := .cells #[.bool x599000_1, .slice Ao34 x599001_1.length co34] 24 (0, 0)) (by (with_reducible repeat (first | refine blk_drewN ?_ _ | refine blk_drew ?_ | refine blk_alloc ?_ _)); exact BK598.out) hb)
                    have n3_ := Aside0.mk (blk_below (g := gb601) (o := .cells #[.bool ((rd_T24 l0 x11_1).f0), .slice A600_1 ((rd_T24 l0 x11_1).f1).length c600_1] 24 (0, 0)) (by (with_reducible repeat (first | refine blk_drewN ?_ _ | refine blk_drew ?_ | refine blk_alloc ?_ _)); exact BK601.out) hb)
                    have n4_ := Aside0.mk (below_step (by repeat (first | (with_reducible first | exact HB.out | apply below_alloc | apply pw_below_drewN | apply below_drew1 | refine below_set ?_ GE598.out | refine below_set ?_ GE601.out) | exact HB.out)) hb)
                    clear HO_599001
                    clear BK598
                    clear BK601
                    clear HB
                    have HO_599001 := n0_
                    have HO606 := n1_
                    have BK598 := n2_
                    have BK601 := n3_
                    have HB := n4_
                    clear n0_ n1_ n2_ n3_ n4_
                    (try clear hb)
                    (try clear hb2)
                    (try clear hk)
                    (try clear hi)
                    (try clear ho0)
                    obtain ⟨Ao37, co37, eo37⟩ := Kd.N_slice HO606.out
                    (first | subst eo37 | (injection eo37 with f1_ f2_ f3_; have f4_ := f1_.symm; have f5_ := f3_.symm; clear f1_ f2_ f3_; subst f4_; subst f5_))
                    refine hK.out _ _ ⟨(blk_cell BK598.out 0).trans rfl, (blk_cell BK598.out 1).trans rfl, (blk_cell BK601.out 0).trans rfl, (blk_cell BK601.out 1).trans rfl⟩ (fun hHeld => ?_)
                    clear hK K
                    refine norm_ (a' := ?_) ?_ ?_
                    rotate_left
                    · show Act.put _ (some 21) _ = _
                      simp only [Act.put, List.setIfInBounds_toArray, List.set_cons_zero, List.set_cons_succ, i64_w, i32_w]
                      rfl
                    refine two_ (i := 3) (j := 7) (Ni := some 22) (Nj := some 6) #[true, true, true, true, false, false, false, false, false, false] #[true, true, true, false, false, false, false, true, false, false] rfl rfl rfl rfl (two_of HT_.out (by kernel_rfl)) (by decide) (by decide) (fun K hK => ?_) (fun K hK => ?_)
                    · skip
                      refine goes_ Try.func43 (by kernel_rfl) rfl #[.agg #[.bool x599000_1, .slice Ao34 x599001_1.length co34], .agg #[.bool t603, .slice Ao37 t604.length co37]] (by rfl) rfl rfl (by (try simp only [List.map_toArray, List.map_cons, List.map_nil]); first | done | rfl | (simp only [List.length_drop, List.length_take]; rfl)) ?_
                      with_reducible refine (id_sum.calls x599000_1 (fun k_ => ((k_ ≠ gb598 ∧ k_ ≠ gb601) ∧ some k_ ≠ (.slice Ao37 t604.length co37 : Value).ownBlock)) _ _ x599001_1 t603 (fun k_ => (k_ ≠ gb598 ∧ k_ ≠ gb601)) _ _ t604 t607 t608 false _ ?side1 ?side2 A10.out).mono ?_
                      (case side1 => exact HO_599001.out)
                      (case side2 => exact Kd.N_V (HO606.out))
                      rintro e w38 ⟨v609, rfl, ho0, hb⟩
                      refine ⟨_, rfl, ?_⟩
                      have n0_ := Aside0.mk (Kd.V_below (by (with_reducible repeat (first | apply Kd.V_alloc | apply Kd.V_drewN | apply Kd.V_drew)); exact HO_599001.out) hb)
                      have n1_ := Aside0.mk (Kd.N_below (by (with_reducible repeat (first | apply Kd.N_alloc | apply Kd.N_drewN | apply Kd.N_drew)); exact HO606.out) hb)
                      have n2_ := Aside0.mk (Kd.V_lower (Kd.V_mono (ok' := fun k_ => k_ ≠ gb598 ∧ k_ ≠ gb601) ho0 (fun k_ hk_ => ⟨Or.elim hk_ (fun hs_ => Or.elim hs_ (fun hs_ => hs_.1.1) (fun hs_ => hs_.1)) (fun hn_ => (Kd.freshB (g := gb598) (o := .cells #[.bool x599000_1, .slice Ao34 x599001_1.length co34] 24 (0, 0)) (by (with_reducible repeat (first | refine blk_drewN ?_ _ | refine blk_drew ?_ | refine blk_alloc ?_ _)); exact BK598.out) k_ hn_)), Or.elim hk_ (fun hs_ => Or.elim hs_ (fun hs_ => hs_.1.2) (fun hs_ => hs_.2)) (fun hn_ => (Kd.freshB (g := gb601) (o := .cells #[.bool ((rd_T24 l0 x11_1).f0), .slice A600_1 ((rd_T24 l0 x11_1).f1).length c600_1] 24 (0, 0)) (by (with_reducible repeat (first | refine blk_drewN ?_ _ | refine blk_drew ?_ | refine blk_alloc ?_ _)); exact BK601.out) k_ hn_))⟩)) (below_size (by repeat (first | (with_reducible first | exact HB.out | apply below_alloc | apply pw_below_drewN | apply below_drew1 | refine below_set ?_ GE598.out | refine below_set ?_ GE601.out) | exact HB.out))))
                      have n3_ := Aside0.mk (blk_below (g := gb598) (o := .cells #[.bool x599000_1, .slice Ao34 x599001_1.length co34] 24 (0, 0)) (by (with_reducible repeat (first | refine blk_drewN ?_ _ | refine blk_drew ?_ | refine blk_alloc ?_ _)); exact BK598.out) hb)
                      have n4_ := Aside0.mk (blk_below (g := gb601) (o := .cells #[.bool ((rd_T24 l0 x11_1).f0), .slice A600_1 ((rd_T24 l0 x11_1).f1).length c600_1] 24 (0, 0)) (by (with_reducible repeat (first | refine blk_drewN ?_ _ | refine blk_drew ?_ | refine blk_alloc ?_ _)); exact BK601.out) hb)
                      have n5_ := Aside0.mk (below_step (by repeat (first | (with_reducible first | exact HB.out | apply below_alloc | apply pw_below_drewN | apply below_drew1 | refine below_set ?_ GE598.out | refine below_set ?_ GE601.out) | exact HB.out)) hb)
                      clear HO_599001
                      clear HO606
                      clear BK598
                      clear BK601
                      clear HB
                      have HO_599001 := n0_
                      have HO606 := n1_
                      have HO610 := n2_
                      have BK598 := n3_
                      have BK601 := n4_
                      have HB := n5_
                      clear n0_ n1_ n2_ n3_ n4_ n5_
                      (try clear hb)
                      (try clear hb2)
                      (try clear hk)
                      (try clear hi)
                      (try clear ho0)
                      refine hK.out _ _ ⟨(blk_cell BK598.out 0).trans rfl, (blk_cell BK598.out 1).trans rfl, (blk_cell BK601.out 0).trans rfl, (blk_cell BK601.out 1).trans rfl⟩ (fun hHeld => ?_)
                      clear hK K
                      refine norm_ (a' := ?_) ?_ ?_
                      rotate_left
                      · show Act.put _ (some 22) _ = _
                        simp only [Act.put, List.setIfInBounds_toArray, List.set_cons_zero, List.set_cons_succ, i64_w, i32_w]
                        rfl
                      refine pure_ (i := 4) (N := some 18) (v := ?_) (a' := ?_) #[true, true, true, true, true, false, false, false, false, false] rfl rfl (any_of HT_.out (by kernel_rfl)) (fun _ _ _ h => h) (Or.inl ⟨by rfl, ?_⟩) ?_ ?_
                      rotate_left
                      · intro w'
                        go_simp
                        with_reducible rfl
                      rotate_left
                      · simp only [Act.put, List.setIfInBounds_toArray, List.set_cons_zero, List.set_cons_succ, i64_w, i32_w]
                        rfl
                      refine pure_ (i := 5) (N := some 23) (v := ?_) (a' := ?_) #[true, true, true, true, true, true, false, false, false, false] rfl rfl (any_of HT_.out (by kernel_rfl)) (fun _ _ _ h => h) (Or.inl ⟨by rfl, ?_⟩) ?_ ?_
                      rotate_left
                      · intro w'
                        go_simp
                        with_reducible rfl
                      rotate_left
                      · simp only [Act.put, List.setIfInBounds_toArray, List.set_cons_zero, List.set_cons_succ, i64_w, i32_w]
                        rfl
                      refine pure_ (i := 6) (N := some 24) (v := ?_) (a' := ?_) #[true, true, true, true, true, true, true, false, false, false] rfl rfl (any_of HT_.out (by kernel_rfl)) (fun _ _ _ h => h) (Or.inl ⟨by rfl, ?_⟩) ?_ ?_
                      rotate_left
                      · intro w'
                        go_simp
                        with_reducible rfl
                      rotate_left
                      · simp only [Act.put, List.setIfInBounds_toArray, List.set_cons_zero, List.set_cons_succ, i64_w, i32_w]
                        rfl
                      refine one_ (i := 7) (N := some 6) #[true, true, true, true, true, true, true, true, false, false] rfl rfl (one_of HT_.out (by kernel_rfl)) (by decide) (fun K hK => ?_)
                      refine box_step ?hg (N := 6) ?hd (cs := #[.bool false, .slice none 0 0]) (t := 24) ?hr ?_; (case hd => rfl); (case hg => rfl); (case hr => first | (go_simp; done) | (go_simp; rfl))
                      intro gb612 hg w39 hbox hb
                      have n0_ := Aside0.mk (Kd.V_below (Kd.V_elderB (by (with_reducible repeat (first | apply Kd.V_alloc | apply Kd.V_drewN | apply Kd.V_drew)); exact HO_599001.out) gb612 (Nat.le_of_eq hg.symm)) hb)
                      have n1_ := Aside0.mk (Kd.N_below (Kd.N_elderB (by (with_reducible repeat (first | apply Kd.N_alloc | apply Kd.N_drewN | apply Kd.N_drew)); exact HO606.out) gb612 (Nat.le_of_eq hg.symm)) hb)
                      have n2_ := Aside0.mk (Kd.V_below (Kd.V_elderB (by (with_reducible repeat (first | apply Kd.V_alloc | apply Kd.V_drewN | apply Kd.V_drew)); exact HO610.out) gb612 (Nat.le_of_eq hg.symm)) hb)
                      have n3_ := Aside0.mk (blk_below (g := gb598) (o := .cells #[.bool x599000_1, .slice Ao34 x599001_1.length co34] 24 (0, 0)) (by (with_reducible repeat (first | refine blk_drewN ?_ _ | refine blk_drew ?_ | refine blk_alloc ?_ _)); exact BK598.out) hb)
                      have n4_ := Aside0.mk (blk_below (g := gb601) (o := .cells #[.bool ((rd_T24 l0 x11_1).f0), .slice A600_1 ((rd_T24 l0 x11_1).f1).length c600_1] 24 (0, 0)) (by (with_reducible repeat (first | refine blk_drewN ?_ _ | refine blk_drew ?_ | refine blk_alloc ?_ _)); exact BK601.out) hb)
                      have n5_ := Aside0.mk (below_step (by repeat (first | (with_reducible first | exact HB.out | apply below_alloc | apply pw_below_drewN | apply below_drew1 | refine below_set ?_ GE598.out | refine below_set ?_ GE601.out) | exact HB.out)) hb)
                      have n6_ := Aside0.mk (hbox)
                      have n7_ := Aside0.mk ((by rw [hg]; exact (below_size (by repeat (first | (with_reducible first | exact HB.out | apply below_alloc | apply pw_below_drewN | apply below_drew1 | refine below_set ?_ GE598.out | refine below_set ?_ GE601.out) | exact HB.out))) : w.heap.size ≤ gb612))
                      have n8_ := Aside0.mk ((by rw [hg]; exact (below_size (by repeat (first | (with_reducible first | exact HB.out | apply below_alloc | apply pw_below_drewN | apply below_drew1 | refine below_set ?_ GE598.out | refine below_set ?_ GE601.out) | exact HB.out))) : w.heap.size ≤ gb612))
                      have n9_ := Aside0.mk ((by rw [hg]; exact Nat.ne_of_lt (blk_lt (g := gb598) (o := .cells #[.bool x599000_1, .slice Ao34 x599001_1.length co34] 24 (0, 0)) (by (with_reducible repeat (first | refine blk_drewN ?_ _ | refine blk_drew ?_ | refine blk_alloc ?_ _)); exact BK598.out)) : gb598 ≠ gb612))
                      have n10_ := Aside0.mk ((by rw [hg]; exact Nat.ne_of_gt (blk_lt (g := gb598) (o := .cells #[.bool x599000_1, .slice Ao34 x599001_1.length co34] 24 (0, 0)) (by (with_reducible repeat (first | refine blk_drewN ?_ _ | refine blk_drew ?_ | refine blk_alloc ?_ _)); exact BK598.out)) : gb612 ≠ gb598))
                      have n11_ := Aside0.mk ((by rw [hg]; exact Nat.ne_of_lt (blk_lt (g := gb601) (o := .cells #[.bool ((rd_T24 l0 x11_1).f0), .slice A600_1 ((rd_T24 l0 x11_1).f1).length c600_1] 24 (0, 0)) (by (with_reducible repeat (first | refine blk_drewN ?_ _ | refine blk_drew ?_ | refine blk_alloc ?_ _)); exact BK601.out)) : gb601 ≠ gb612))
                      have n12_ := Aside0.mk ((by rw [hg]; exact Nat.ne_of_gt (blk_lt (g := gb601) (o := .cells #[.bool ((rd_T24 l0 x11_1).f0), .slice A600_1 ((rd_T24 l0 x11_1).f1).length c600_1] 24 (0, 0)) (by (with_reducible repeat (first | refine blk_drewN ?_ _ | refine blk_drew ?_ | refine blk_alloc ?_ _)); exact BK601.out)) : gb612 ≠ gb601))
                      clear HO_599001
                      clear HO606
                      clear HO610
                      clear BK598
                      clear BK601
                      clear HB
                      have HO_599001 := n0_
                      have HO606 := n1_
                      have HO610 := n2_
                      have BK598 := n3_
                      have BK601 := n4_
                      have HB := n5_
                      have BK612 := n6_
                      have GW612 := n7_
                      have GE612 := n8_
                      have NB598_612 := n9_
                      have NB612_598 := n10_
                      have NB601_612 := n11_
                      have NB612_601 := n12_
                      clear n0_ n1_ n2_ n3_ n4_ n5_ n6_ n7_ n8_ n9_ n10_ n11_ n12_
                      clear hb hbox hg
                      refine hK.out _ _ ⟨(blk_cell BK598.out 0).trans rfl, (blk_cell BK598.out 1).trans rfl, (blk_cell BK601.out 0).trans rfl, (blk_cell BK601.out 1).trans rfl⟩ (fun hHeld => ?_)
                      clear hK K
                      refine norm_ (a' := ?_) ?_ ?_
                      rotate_left
                      · show Act.put _ (some 6) _ = _
                        simp only [Act.put, List.setIfInBounds_toArray, List.set_cons_zero, List.set_cons_succ, i64_w, i32_w]
                        rfl
                      exact norm_ (by simp only [putAll, Act.put, List.setIfInBounds_toArray, List.set_cons_zero, List.set_cons_succ]) (hCont (.slice Ao37 t604.length co37, v609, gb612) _ ⟨hHeld, (by (with_reducible repeat (first | apply Kd.N_alloc | apply Kd.N_drewN | apply Kd.N_drew)); exact Kd.N_mono HO606.out (fun _ hk => ⟨hk.1.1, ⟨hk.1.2, hk.2⟩⟩)), (by (with_reducible repeat (first | apply Kd.V_alloc | apply Kd.V_drewN | apply Kd.V_drew)); exact Kd.V_mono HO610.out (fun _ hk => ⟨hk.1.1, ⟨hk.1.2, hk.2⟩⟩)), (by (with_reducible repeat (first | apply Kd.V_alloc | apply Kd.V_drewN | apply Kd.V_drew)); exact Kd.V_mono HO_599001.out (fun _ hk => ⟨hk.1.2, ⟨hk.1.1.1, ⟨hk.1.1.2, hk.2⟩⟩⟩)), (by (with_reducible repeat (first | refine blk_drewN ?_ _ | refine blk_drew ?_ | refine blk_alloc ?_ _)); exact BK598.out), (by (with_reducible repeat (first | refine blk_drewN ?_ _ | refine blk_drew ?_ | refine blk_alloc ?_ _)); exact BK601.out), (by (with_reducible repeat (first | refine blk_drewN ?_ _ | refine blk_drew ?_ | refine blk_alloc ?_ _)); exact BK612.out), GW612.out, GE612.out, NB598_612.out, NB612_598.out, NB601_612.out, NB612_601.out, (by repeat (first | (with_reducible first | exact HB.out | apply below_alloc | apply pw_below_drewN | apply below_drew1 | refine below_set ?_ GE598.out | refine below_set ?_ GE601.out | refine below_set ?_ GE612.out) | exact HB.out))⟩)
                    · skip
                      refine box_step ?hg (N := 6) ?hd (cs := #[.bool false, .slice none 0 0]) (t := 24) ?hr ?_; (case hd => rfl); (case hg => rfl); (case hr => first | (go_simp; done) | (go_simp; rfl))
                      intro gb612 hg w37 hbox hb
                      have n0_ := Aside0.mk (Kd.V_below (Kd.V_elderB (by (with_reducible repeat (first | apply Kd.V_alloc | apply Kd.V_drewN | apply Kd.V_drew)); exact HO_599001.out) gb612 (Nat.le_of_eq hg.symm)) hb)
                      have n1_ := Aside0.mk (Kd.N_below (Kd.N_elderB (by (with_reducible repeat (first | apply Kd.N_alloc | apply Kd.N_drewN | apply Kd.N_drew)); exact HO606.out) gb612 (Nat.le_of_eq hg.symm)) hb)
                      have n2_ := Aside0.mk (blk_below (g := gb598) (o := .cells #[.bool x599000_1, .slice Ao34 x599001_1.length co34] 24 (0, 0)) (by (with_reducible repeat (first | refine blk_drewN ?_ _ | refine blk_drew ?_ | refine blk_alloc ?_ _)); exact BK598.out) hb)
                      have n3_ := Aside0.mk (blk_below (g := gb601) (o := .cells #[.bool ((rd_T24 l0 x11_1).f0), .slice A600_1 ((rd_T24 l0 x11_1).f1).length c600_1] 24 (0, 0)) (by (with_reducible repeat (first | refine blk_drewN ?_ _ | refine blk_drew ?_ | refine blk_alloc ?_ _)); exact BK601.out) hb)
                      have n4_ := Aside0.mk (below_step (by repeat (first | (with_reducible first | exact HB.out | apply below_alloc | apply pw_below_drewN | apply below_drew1 | refine below_set ?_ GE598.out | refine below_set ?_ GE601.out) | exact HB.out)) hb)
                      have n5_ := Aside0.mk (hbox)
                      have n6_ := Aside0.mk ((by rw [hg]; exact (below_size (by repeat (first | (with_reducible first | exact HB.out | apply below_alloc | apply pw_below_drewN | apply below_drew1 | refine below_set ?_ GE598.out | refine below_set ?_ GE601.out) | exact HB.out))) : w.heap.size ≤ gb612))
                      have n7_ := Aside0.mk ((by rw [hg]; exact (below_size (by repeat (first | (with_reducible first | exact HB.out | apply below_alloc | apply pw_below_drewN | apply below_drew1 | refine below_set ?_ GE598.out | refine below_set ?_ GE601.out) | exact HB.out))) : w.heap.size ≤ gb612))
                      have n8_ := Aside0.mk ((by rw [hg]; exact Nat.ne_of_lt (blk_lt (g := gb598) (o := .cells #[.bool x599000_1, .slice Ao34 x599001_1.length co34] 24 (0, 0)) (by (with_reducible repeat (first | refine blk_drewN ?_ _ | refine blk_drew ?_ | refine blk_alloc ?_ _)); exact BK598.out)) : gb598 ≠ gb612))
                      have n9_ := Aside0.mk ((by rw [hg]; exact Nat.ne_of_gt (blk_lt (g := gb598) (o := .cells #[.bool x599000_1, .slice Ao34 x599001_1.length co34] 24 (0, 0)) (by (with_reducible repeat (first | refine blk_drewN ?_ _ | refine blk_drew ?_ | refine blk_alloc ?_ _)); exact BK598.out)) : gb612 ≠ gb598))
                      have n10_ := Aside0.mk ((by rw [hg]; exact Nat.ne_of_lt (blk_lt (g := gb601) (o := .cells #[.bool ((rd_T24 l0 x11_1).f0), .slice A600_1 ((rd_T24 l0 x11_1).f1).length c600_1] 24 (0, 0)) (by (with_reducible repeat (first | refine blk_drewN ?_ _ | refine blk_drew ?_ | refine blk_alloc ?_ _)); exact BK601.out)) : gb601 ≠ gb612))
                      have n11_ := Aside0.mk ((by rw [hg]; exact Nat.ne_of_gt (blk_lt (g := gb601) (o := .cells #[.bool ((rd_T24 l0 x11_1).f0), .slice A600_1 ((rd_T24 l0 x11_1).f1).length c600_1] 24 (0, 0)) (by (with_reducible repeat (first | refine blk_drewN ?_ _ | refine blk_drew ?_ | refine blk_alloc ?_ _)); exact BK601.out)) : gb612 ≠ gb601))
                      clear HO_599001
                      clear HO606
                      clear BK598
                      clear BK601
                      clear HB
                      have HO_599001 := n0_
                      have HO606 := n1_
                      have BK598 := n2_
                      have BK601 := n3_
                      have HB := n4_
                      have BK612 := n5_
                      have GW612 := n6_
                      have GE612 := n7_
                      have NB598_612 := n8_
                      have NB612_598 := n9_
                      have NB601_612 := n10_
                      have NB612_601 := n11_
                      clear n0_ n1_ n2_ n3_ n4_ n5_ n6_ n7_ n8_ n9_ n10_ n11_
                      clear hb hbox hg
                      obtain ⟨Ao38, co38, eo38⟩ := Kd.N_slice HO606.out
                      (first | subst eo38 | (injection eo38 with f1_ f2_ f3_; have f4_ := f1_.symm; have f5_ := f3_.symm; clear f1_ f2_ f3_; subst f4_; subst f5_))
                      refine hK.out _ _ ⟨(blk_cell BK598.out 0).trans rfl, (blk_cell BK598.out 1).trans rfl, (blk_cell BK601.out 0).trans rfl, (blk_cell BK601.out 1).trans rfl⟩ (fun hHeld => ?_)
                      clear hK K
                      refine norm_ (a' := ?_) ?_ ?_
                      rotate_left
                      · show Act.put _ (some 6) _ = _
                        simp only [Act.put, List.setIfInBounds_toArray, List.set_cons_zero, List.set_cons_succ, i64_w, i32_w]
                        rfl
                      refine one_ (i := 3) (N := some 22) #[true, true, true, true, false, false, false, true, false, false] rfl rfl (one_of HT_.out (by kernel_rfl)) (by decide) (fun K hK => ?_)
                      refine goes_ Try.func43 (by kernel_rfl) rfl #[.agg #[.bool x599000_1, .slice Ao34 x599001_1.length co34], .agg #[.bool t603, .slice Ao38 t604.length co38]] (by rfl) rfl rfl (by (try simp only [List.map_toArray, List.map_cons, List.map_nil]); first | done | rfl | (simp only [List.length_drop, List.length_take]; rfl)) ?_
                      with_reducible refine (id_sum.calls x599000_1 (fun k_ => (((k_ ≠ gb598 ∧ k_ ≠ gb601) ∧ some k_ ≠ (.slice Ao38 t604.length co38 : Value).ownBlock) ∧ k_ ≠ gb612)) _ _ x599001_1 t603 (fun k_ => ((k_ ≠ gb598 ∧ k_ ≠ gb601) ∧ k_ ≠ gb612)) _ _ t604 t607 t608 false _ ?side1 ?side2 A10.out).mono ?_
                      (case side1 => exact HO_599001.out)
                      (case side2 => exact Kd.N_V (HO606.out))
                      rintro e w39 ⟨v609, rfl, ho0, hb⟩
                      refine ⟨_, rfl, ?_⟩
                      have n0_ := Aside0.mk (Kd.V_below (by (with_reducible repeat (first | apply Kd.V_alloc | apply Kd.V_drewN | apply Kd.V_drew)); exact HO_599001.out) hb)
                      have n1_ := Aside0.mk (Kd.N_below (by (with_reducible repeat (first | apply Kd.N_alloc | apply Kd.N_drewN | apply Kd.N_drew)); exact HO606.out) hb)
                      have n2_ := Aside0.mk (Kd.V_lower (Kd.V_mono (ok' := fun k_ => k_ ≠ gb598 ∧ k_ ≠ gb601 ∧ k_ ≠ gb612) ho0 (fun k_ hk_ => ⟨Or.elim hk_ (fun hs_ => Or.elim hs_ (fun hs_ => hs_.1.1.1) (fun hs_ => hs_.1.1)) (fun hn_ => (Kd.freshB (g := gb598) (o := .cells #[.bool x599000_1, .slice Ao34 x599001_1.length co34] 24 (0, 0)) (by (with_reducible repeat (first | refine blk_drewN ?_ _ | refine blk_drew ?_ | refine blk_alloc ?_ _)); exact BK598.out) k_ hn_)), Or.elim hk_ (fun hs_ => Or.elim hs_ (fun hs_ => hs_.1.1.2) (fun hs_ => hs_.1.2)) (fun hn_ => (Kd.freshB (g := gb601) (o := .cells #[.bool ((rd_T24 l0 x11_1).f0), .slice A600_1 ((rd_T24 l0 x11_1).f1).length c600_1] 24 (0, 0)) (by (with_reducible repeat (first | refine blk_drewN ?_ _ | refine blk_drew ?_ | refine blk_alloc ?_ _)); exact BK601.out) k_ hn_)), Or.elim hk_ (fun hs_ => Or.elim hs_ (fun hs_ => hs_.2) (fun hs_ => hs_.2)) (fun hn_ => (Kd.freshB (g := gb612) (o := .cells #[.bool false, .slice none 0 0] 24 (0, 0)) (by (with_reducible repeat (first | refine blk_drewN ?_ _ | refine blk_drew ?_ | refine blk_alloc ?_ _)); exact BK612.out) k_ hn_))⟩)) (below_size (by repeat (first | (with_reducible first | exact HB.out | apply below_alloc | apply pw_below_drewN | apply below_drew1 | refine below_set ?_ GE598.out | refine below_set ?_ GE601.out | refine below_set ?_ GE612.out) | exact HB.out))))
                      have n3_ := Aside0.mk (blk_below (g := gb598) (o := .cells #[.bool x599000_1, .slice Ao34 x599001_1.length co34] 24 (0, 0)) (by (with_reducible repeat (first | refine blk_drewN ?_ _ | refine blk_drew ?_ | refine blk_alloc ?_ _)); exact BK598.out) hb)
                      have n4_ := Aside0.mk (blk_below (g := gb601) (o := .cells #[.bool ((rd_T24 l0 x11_1).f0), .slice A600_1 ((rd_T24 l0 x11_1).f1).length c600_1] 24 (0, 0)) (by (with_reducible repeat (first | refine blk_drewN ?_ _ | refine blk_drew ?_ | refine blk_alloc ?_ _)); exact BK601.out) hb)
                      have n5_ := Aside0.mk (blk_below (g := gb612) (o := .cells #[.bool false, .slice none 0 0] 24 (0, 0)) (by (with_reducible repeat (first | refine blk_drewN ?_ _ | refine blk_drew ?_ | refine blk_alloc ?_ _)); exact BK612.out) hb)
                      have n6_ := Aside0.mk (below_step (by repeat (first | (with_reducible first | exact HB.out | apply below_alloc | apply pw_below_drewN | apply below_drew1 | refine below_set ?_ GE598.out | refine below_set ?_ GE601.out | refine below_set ?_ GE612.out) | exact HB.out)) hb)
                      clear HO_599001
                      clear HO606
                      clear BK598
                      clear BK601
                      clear BK612
                      clear HB
                      have HO_599001 := n0_
                      have HO606 := n1_
                      have HO610 := n2_
                      have BK598 := n3_
                      have BK601 := n4_
                      have BK612 := n5_
                      have HB := n6_
                      clear n0_ n1_ n2_ n3_ n4_ n5_ n6_
                      (try clear hb)
                      (try clear hb2)
                      (try clear hk)
                      (try clear hi)
                      (try clear ho0)
                      refine hK.out _ _ ⟨(blk_cell BK598.out 0).trans rfl, (blk_cell BK598.out 1).trans rfl, (blk_cell BK601.out 0).trans rfl, (blk_cell BK601.out 1).trans rfl⟩ (fun hHeld => ?_)
                      clear hK K
                      refine norm_ (a' := ?_) ?_ ?_
                      rotate_left
                      · show Act.put _ (some 22) _ = _
                        simp only [Act.put, List.setIfInBounds_toArray, List.set_cons_zero, List.set_cons_succ, i64_w, i32_w]
                        rfl
                      refine pure_ (i := 4) (N := some 18) (v := ?_) (a' := ?_) #[true, true, true, true, true, false, false, true, false, false] rfl rfl (any_of HT_.out (by kernel_rfl)) (fun _ _ _ h => h) (Or.inl ⟨by rfl, ?_⟩) ?_ ?_
                      rotate_left
                      · intro w'
                        go_simp
                        with_reducible rfl
                      rotate_left
                      · simp only [Act.put, List.setIfInBounds_toArray, List.set_cons_zero, List.set_cons_succ, i64_w, i32_w]
                        rfl
                      refine pure_ (i := 5) (N := some 23) (v := ?_) (a' := ?_) #[true, true, true, true, true, true, false, true, false, false] rfl rfl (any_of HT_.out (by kernel_rfl)) (fun _ _ _ h => h) (Or.inl ⟨by rfl, ?_⟩) ?_ ?_
                      rotate_left
                      · intro w'
                        go_simp
                        with_reducible rfl
                      rotate_left
                      · simp only [Act.put, List.setIfInBounds_toArray, List.set_cons_zero, List.set_cons_succ, i64_w, i32_w]
                        rfl
                      refine pure_ (i := 6) (N := some 24) (v := ?_) (a' := ?_) #[true, true, true, true, true, true, true, true, false, false] rfl rfl (any_of HT_.out (by kernel_rfl)) (fun _ _ _ h => h) (Or.inl ⟨by rfl, ?_⟩) ?_ ?_
                      rotate_left
                      · intro w'
                        go_simp
                        with_reducible rfl
                      rotate_left
                      · simp only [Act.put, List.setIfInBounds_toArray, List.set_cons_zero, List.set_cons_succ, i64_w, i32_w]
                        rfl
                      exact norm_ (by simp only [putAll, Act.put, List.setIfInBounds_toArray, List.set_cons_zero, List.set_cons_succ]) (hCont (.slice Ao38 t604.length co38, v609, gb612) _ ⟨hHeld, (by (with_reducible repeat (first | apply Kd.N_alloc | apply Kd.N_drewN | apply Kd.N_drew)); exact Kd.N_mono HO606.out (fun _ hk => ⟨hk.1.1, ⟨hk.1.2, hk.2⟩⟩)), (by (with_reducible repeat (first | apply Kd.V_alloc | apply Kd.V_drewN | apply Kd.V_drew)); exact HO610.out), (by (with_reducible repeat (first | apply Kd.V_alloc | apply Kd.V_drewN | apply Kd.V_drew)); exact Kd.V_mono HO_599001.out (fun _ hk => ⟨hk.1.2, ⟨hk.1.1.1, ⟨hk.1.1.2, hk.2⟩⟩⟩)), (by (with_reducible repeat (first | refine blk_drewN ?_ _ | refine blk_drew ?_ | refine blk_alloc ?_ _)); exact BK598.out), (by (with_reducible repeat (first | refine blk_drewN ?_ _ | refine blk_drew ?_ | refine blk_alloc ?_ _)); exact BK601.out), (by (with_reducible repeat (first | refine blk_drewN ?_ _ | refine blk_drew ?_ | refine blk_alloc ?_ _)); exact BK612.out), GW612.out, GE612.out, NB598_612.out, NB612_598.out, NB601_612.out, NB612_601.out, (by repeat (first | (with_reducible first | exact HB.out | apply below_alloc | apply pw_below_drewN | apply below_drew1 | refine below_set ?_ GE598.out | refine below_set ?_ GE601.out | refine below_set ?_ GE612.out) | exact HB.out))⟩)
                  · skip
                    refine box_step ?hg (N := 6) ?hd (cs := #[.bool false, .slice none 0 0]) (t := 24) ?hr ?_; (case hd => rfl); (case hg => rfl); (case hr => first | (go_simp; done) | (go_simp; rfl))
                    intro gb612 hg w36 hbox hb
                    have n0_ := Aside0.mk (Kd.V_below (Kd.V_elderB (by (with_reducible repeat (first | apply Kd.V_alloc | apply Kd.V_drewN | apply Kd.V_drew)); exact HO_599001.out) gb612 (Nat.le_of_eq hg.symm)) hb)
                    have n1_ := Aside0.mk (blk_below (g := gb598) (o := .cells #[.bool x599000_1, .slice Ao34 x599001_1.length co34] 24 (0, 0)) (by (with_reducible repeat (first | refine blk_drewN ?_ _ | refine blk_drew ?_ | refine blk_alloc ?_ _)); exact BK598.out) hb)
                    have n2_ := Aside0.mk (blk_below (g := gb601) (o := .cells #[.bool ((rd_T24 l0 x11_1).f0), .slice A600_1 ((rd_T24 l0 x11_1).f1).length c600_1] 24 (0, 0)) (by (with_reducible repeat (first | refine blk_drewN ?_ _ | refine blk_drew ?_ | refine blk_alloc ?_ _)); exact BK601.out) hb)
                    have n3_ := Aside0.mk (below_step (by repeat (first | (with_reducible first | exact HB.out | apply below_alloc | apply pw_below_drewN | apply below_drew1 | refine below_set ?_ GE598.out | refine below_set ?_ GE601.out) | exact HB.out)) hb)
                    have n4_ := Aside0.mk (hbox)
                    have n5_ := Aside0.mk ((by rw [hg]; exact (below_size (by repeat (first | (with_reducible first | exact HB.out | apply below_alloc | apply pw_below_drewN | apply below_drew1 | refine below_set ?_ GE598.out | refine below_set ?_ GE601.out) | exact HB.out))) : w.heap.size ≤ gb612))
                    have n6_ := Aside0.mk ((by rw [hg]; exact (below_size (by repeat (first | (with_reducible first | exact HB.out | apply below_alloc | apply pw_below_drewN | apply below_drew1 | refine below_set ?_ GE598.out | refine below_set ?_ GE601.out) | exact HB.out))) : w.heap.size ≤ gb612))
                    have n7_ := Aside0.mk ((by rw [hg]; exact Nat.ne_of_lt (blk_lt (g := gb598) (o := .cells #[.bool x599000_1, .slice Ao34 x599001_1.length co34] 24 (0, 0)) (by (with_reducible repeat (first | refine blk_drewN ?_ _ | refine blk_drew ?_ | refine blk_alloc ?_ _)); exact BK598.out)) : gb598 ≠ gb612))
                    have n8_ := Aside0.mk ((by rw [hg]; exact Nat.ne_of_gt (blk_lt (g := gb598) (o := .cells #[.bool x599000_1, .slice Ao34 x599001_1.length co34] 24 (0, 0)) (by (with_reducible repeat (first | refine blk_drewN ?_ _ | refine blk_drew ?_ | refine blk_alloc ?_ _)); exact BK598.out)) : gb612 ≠ gb598))
                    have n9_ := Aside0.mk ((by rw [hg]; exact Nat.ne_of_lt (blk_lt (g := gb601) (o := .cells #[.bool ((rd_T24 l0 x11_1).f0), .slice A600_1 ((rd_T24 l0 x11_1).f1).length c600_1] 24 (0, 0)) (by (with_reducible repeat (first | refine blk_drewN ?_ _ | refine blk_drew ?_ | refine blk_alloc ?_ _)); exact BK601.out)) : gb601 ≠ gb612))
                    have n10_ := Aside0.mk ((by rw [hg]; exact Nat.ne_of_gt (blk_lt (g := gb601) (o := .cells #[.bool ((rd_T24 l0 x11_1).f0), .slice A600_1 ((rd_T24 l0 x11_1).f1).length c600_1] 24 (0, 0)) (by (with_reducible repeat (first | refine blk_drewN ?_ _ | refine blk_drew ?_ | refine blk_alloc ?_ _)); exact BK601.out)) : gb612 ≠ gb601))
                    clear HO_599001
                    clear BK598
                    clear BK601
                    clear HB
                    have HO_599001 := n0_
                    have BK598 := n1_
                    have BK601 := n2_
                    have HB := n3_
                    have BK612 := n4_
                    have GW612 := n5_
                    have GE612 := n6_
                    have NB598_612 := n7_
                    have NB612_598 := n8_
                    have NB601_612 := n9_
                    have NB612_601 := n10_
                    clear n0_ n1_ n2_ n3_ n4_ n5_ n6_ n7_ n8_ n9_ n10_
                    clear hb hbox hg
                    refine hK.out _ _ ⟨(blk_cell BK598.out 0).trans rfl, (blk_cell BK598.out 1).trans rfl, (blk_cell BK601.out 0).trans rfl, (blk_cell BK601.out 1).trans rfl⟩ (fun hHeld => ?_)
                    clear hK K
                    refine norm_ (a' := ?_) ?_ ?_
                    rotate_left
                    · show Act.put _ (some 6) _ = _
                      simp only [Act.put, List.setIfInBounds_toArray, List.set_cons_zero, List.set_cons_succ, i64_w, i32_w]
                      rfl
                    refine one_ (i := 2) (N := some 21) #[true, true, true, false, false, false, false, true, false, false] rfl rfl (one_of HT_.out (by kernel_rfl)) (by decide) (fun K hK => ?_)
                    refine goes_ Try.func36 (by kernel_rfl) rfl #[.agg #[.bool ((rd_T24 l0 x11_1).f0), .slice A600_1 ((rd_T24 l0 x11_1).f1).length c600_1]] (by rfl) rfl rfl (by (try simp only [List.map_toArray, List.map_cons, List.map_nil]); first | done | rfl | (simp only [List.length_drop, List.length_take]; rfl)) ?_
                    with_reducible refine (id_norm.calls k1 ((rd_T24 l0 x11_1).f0) _ _ ((rd_T24 l0 x11_1).f1) t603 t604 _ ?side1 ?side2 A9.out).mono ?_
                    (case side1 => repeat (first | exact (Kd.C_below HR600_1.out HB.out) | (with_reducible refine Kd.C_alloc ?_ _) | (with_reducible refine Kd.C_drewN ?_ _) | (with_reducible refine Kd.C_drew ?_)))
                    (case side2 => exact HC600_1.out)
                    rintro e w37 ⟨v605, rfl, ho0, hb⟩
                    refine ⟨_, rfl, ?_⟩
                    have n0_ := Aside0.mk (Kd.V_elder' (by (with_reducible repeat (first | apply Kd.V_alloc | apply Kd.V_drewN | apply Kd.V_drew)); exact HO_599001.out) (Kd.N_base ho0) hb)
                    have n1_ := Aside0.mk (Kd.N_lower (Kd.N_mono (ok' := fun k_ => k_ ≠ gb598 ∧ k_ ≠ gb601 ∧ k_ ≠ gb612) ho0 (fun k_ hk_ => ⟨(Kd.freshB (g := gb598) (o := .cells #[.bool x599000_1, .slice Ao34 x599001_1.length co34] 24 (0, 0)) (by (with_reducible repeat (first | refine blk_drewN ?_ _ | refine blk_drew ?_ | refine blk_alloc ?_ _)); exact BK598.out) k_ hk_), (Kd.freshB (g := gb601) (o := .cells #[.bool ((rd_T24 l0 x11_1).f0), .slice A600_1 ((rd_T24 l0 x11_1).f1).length c600_1] 24 (0, 0)) (by (with_reducible repeat (first | refine blk_drewN ?_ _ | refine blk_drew ?_ | refine blk_alloc ?_ _)); exact BK601.out) k_ hk_), (Kd.freshB (g := gb612) (o := .cells #[.bool false, .slice none 0 0] 24 (0, 0)) (by (with_reducible repeat (first | refine blk_drewN ?_ _ | refine blk_drew ?_ | refine blk_alloc ?_ _)); exact BK612.out) k_ hk_)⟩)) (below_size (by repeat (first | (with_reducible first | exact HB.out | apply below_alloc | apply pw_below_drewN | apply below_drew1 | refine below_set ?_ GE598.out | refine below_set ?_ GE601.out | refine below_set ?_ GE612.out) | exact HB.out))))
                    have n2_ := Aside0.mk (blk_below (g := gb598) (o := .cells #[.bool x599000_1, .slice Ao34 x599001_1.length co34] 24 (0, 0)) (by (with_reducible repeat (first | refine blk_drewN ?_ _ | refine blk_drew ?_ | refine blk_alloc ?_ _)); exact BK598.out) hb)
                    have n3_ := Aside0.mk (blk_below (g := gb601) (o := .cells #[.bool ((rd_T24 l0 x11_1).f0), .slice A600_1 ((rd_T24 l0 x11_1).f1).length c600_1] 24 (0, 0)) (by (with_reducible repeat (first | refine blk_drewN ?_ _ | refine blk_drew ?_ | refine blk_alloc ?_ _)); exact BK601.out) hb)
                    have n4_ := Aside0.mk (blk_below (g := gb612) (o := .cells #[.bool false, .slice none 0 0] 24 (0, 0)) (by (with_reducible repeat (first | refine blk_drewN ?_ _ | refine blk_drew ?_ | refine blk_alloc ?_ _)); exact BK612.out) hb)
                    have n5_ := Aside0.mk (below_step (by repeat (first | (with_reducible first | exact HB.out | apply below_alloc | apply pw_below_drewN | apply below_drew1 | refine below_set ?_ GE598.out | refine below_set ?_ GE601.out | refine below_set ?_ GE612.out) | exact HB.out)) hb)
                    clear HO_599001
                    clear BK598
                    clear BK601
                    clear BK612
                    clear HB
                    have HO_599001 := n0_
                    have HO606 := n1_
                    have BK598 := n2_
                    have BK601 := n3_
                    have BK612 := n4_
                    have HB := n5_
                    clear n0_ n1_ n2_ n3_ n4_ n5_
                    (try clear hb)
                    (try clear hb2)
                    (try clear hk)
                    (try clear hi)
                    (try clear ho0)
                    obtain ⟨Ao38, co38, eo38⟩ := Kd.N_slice HO606.out
                    (first | subst eo38 | (injection eo38 with f1_ f2_ f3_; have f4_ := f1_.symm; have f5_ := f3_.symm; clear f1_ f2_ f3_; subst f4_; subst f5_))
                    refine hK.out _ _ ⟨(blk_cell BK598.out 0).trans rfl, (blk_cell BK598.out 1).trans rfl, (blk_cell BK601.out 0).trans rfl, (blk_cell BK601.out 1).trans rfl⟩ (fun hHeld => ?_)
                    clear hK K
                    refine norm_ (a' := ?_) ?_ ?_
                    rotate_left
                    · show Act.put _ (some 21) _ = _
                      simp only [Act.put, List.setIfInBounds_toArray, List.set_cons_zero, List.set_cons_succ, i64_w, i32_w]
                      rfl
                    refine one_ (i := 3) (N := some 22) #[true, true, true, true, false, false, false, true, false, false] rfl rfl (one_of HT_.out (by kernel_rfl)) (by decide) (fun K hK => ?_)
                    refine goes_ Try.func43 (by kernel_rfl) rfl #[.agg #[.bool x599000_1, .slice Ao34 x599001_1.length co34], .agg #[.bool t603, .slice Ao38 t604.length co38]] (by rfl) rfl rfl (by (try simp only [List.map_toArray, List.map_cons, List.map_nil]); first | done | rfl | (simp only [List.length_drop, List.length_take]; rfl)) ?_
                    with_reducible refine (id_sum.calls x599000_1 (fun k_ => (((k_ ≠ gb598 ∧ k_ ≠ gb601) ∧ k_ ≠ gb612) ∧ some k_ ≠ (.slice Ao38 t604.length co38 : Value).ownBlock)) _ _ x599001_1 t603 (fun k_ => (k_ ≠ gb598 ∧ (k_ ≠ gb601 ∧ k_ ≠ gb612))) _ _ t604 t607 t608 false _ ?side1 ?side2 A10.out).mono ?_
                    (case side1 => exact HO_599001.out)
                    (case side2 => exact Kd.N_V (HO606.out))
                    rintro e w39 ⟨v609, rfl, ho0, hb⟩
                    refine ⟨_, rfl, ?_⟩
                    have n0_ := Aside0.mk (Kd.V_below (by (with_reducible repeat (first | apply Kd.V_alloc | apply Kd.V_drewN | apply Kd.V_drew)); exact HO_599001.out) hb)
                    have n1_ := Aside0.mk (Kd.N_below (by (with_reducible repeat (first | apply Kd.N_alloc | apply Kd.N_drewN | apply Kd.N_drew)); exact HO606.out) hb)
                    have n2_ := Aside0.mk (Kd.V_lower (Kd.V_mono (ok' := fun k_ => k_ ≠ gb598 ∧ k_ ≠ gb601 ∧ k_ ≠ gb612) ho0 (fun k_ hk_ => ⟨Or.elim hk_ (fun hs_ => Or.elim hs_ (fun hs_ => hs_.1.1.1) (fun hs_ => hs_.1)) (fun hn_ => (Kd.freshB (g := gb598) (o := .cells #[.bool x599000_1, .slice Ao34 x599001_1.length co34] 24 (0, 0)) (by (with_reducible repeat (first | refine blk_drewN ?_ _ | refine blk_drew ?_ | refine blk_alloc ?_ _)); exact BK598.out) k_ hn_)), Or.elim hk_ (fun hs_ => Or.elim hs_ (fun hs_ => hs_.1.1.2) (fun hs_ => hs_.2.1)) (fun hn_ => (Kd.freshB (g := gb601) (o := .cells #[.bool ((rd_T24 l0 x11_1).f0), .slice A600_1 ((rd_T24 l0 x11_1).f1).length c600_1] 24 (0, 0)) (by (with_reducible repeat (first | refine blk_drewN ?_ _ | refine blk_drew ?_ | refine blk_alloc ?_ _)); exact BK601.out) k_ hn_)), Or.elim hk_ (fun hs_ => Or.elim hs_ (fun hs_ => hs_.1.2) (fun hs_ => hs_.2.2)) (fun hn_ => (Kd.freshB (g := gb612) (o := .cells #[.bool false, .slice none 0 0] 24 (0, 0)) (by (with_reducible repeat (first | refine blk_drewN ?_ _ | refine blk_drew ?_ | refine blk_alloc ?_ _)); exact BK612.out) k_ hn_))⟩)) (below_size (by repeat (first | (with_reducible first | exact HB.out | apply below_alloc | apply pw_below_drewN | apply below_drew1 | refine below_set ?_ GE598.out | refine below_set ?_ GE601.out | refine below_set ?_ GE612.out) | exact HB.out))))
                    have n3_ := Aside0.mk (blk_below (g := gb598) (o := .cells #[.bool x599000_1, .slice Ao34 x599001_1.length co34] 24 (0, 0)) (by (with_reducible repeat (first | refine blk_drewN ?_ _ | refine blk_drew ?_ | refine blk_alloc ?_ _)); exact BK598.out) hb)
                    have n4_ := Aside0.mk (blk_below (g := gb601) (o := .cells #[.bool ((rd_T24 l0 x11_1).f0), .slice A600_1 ((rd_T24 l0 x11_1).f1).length c600_1] 24 (0, 0)) (by (with_reducible repeat (first | refine blk_drewN ?_ _ | refine blk_drew ?_ | refine blk_alloc ?_ _)); exact BK601.out) hb)
                    have n5_ := Aside0.mk (blk_below (g := gb612) (o := .cells #[.bool false, .slice none 0 0] 24 (0, 0)) (by (with_reducible repeat (first | refine blk_drewN ?_ _ | refine blk_drew ?_ | refine blk_alloc ?_ _)); exact BK612.out) hb)
                    have n6_ := Aside0.mk (below_step (by repeat (first | (with_reducible first | exact HB.out | apply below_alloc | apply pw_below_drewN | apply below_drew1 | refine below_set ?_ GE598.out | refine below_set ?_ GE601.out | refine below_set ?_ GE612.out) | exact HB.out)) hb)
                    clear HO_599001
                    clear HO606
                    clear BK598
                    clear BK601
                    clear BK612
                    clear HB
                    have HO_599001 := n0_
                    have HO606 := n1_
                    have HO610 := n2_
                    have BK598 := n3_
                    have BK601 := n4_
                    have BK612 := n5_
                    have HB := n6_
                    clear n0_ n1_ n2_ n3_ n4_ n5_ n6_
                    (try clear hb)
                    (try clear hb2)
                    (try clear hk)
                    (try clear hi)
                    (try clear ho0)
                    refine hK.out _ _ ⟨(blk_cell BK598.out 0).trans rfl, (blk_cell BK598.out 1).trans rfl, (blk_cell BK601.out 0).trans rfl, (blk_cell BK601.out 1).trans rfl⟩ (fun hHeld => ?_)
                    clear hK K
                    refine norm_ (a' := ?_) ?_ ?_
                    rotate_left
                    · show Act.put _ (some 22) _ = _
                      simp only [Act.put, List.setIfInBounds_toArray, List.set_cons_zero, List.set_cons_succ, i64_w, i32_w]
                      rfl
                    refine pure_ (i := 4) (N := some 18) (v := ?_) (a' := ?_) #[true, true, true, true, true, false, false, true, false, false] rfl rfl (any_of HT_.out (by kernel_rfl)) (fun _ _ _ h => h) (Or.inl ⟨by rfl, ?_⟩) ?_ ?_
                    rotate_left
                    · intro w'
                      go_simp
                      with_reducible rfl
                    rotate_left
                    · simp only [Act.put, List.setIfInBounds_toArray, List.set_cons_zero, List.set_cons_succ, i64_w, i32_w]
                      rfl
                    refine pure_ (i := 5) (N := some 23) (v := ?_) (a' := ?_) #[true, true, true, true, true, true, false, true, false, false] rfl rfl (any_of HT_.out (by kernel_rfl)) (fun _ _ _ h => h) (Or.inl ⟨by rfl, ?_⟩) ?_ ?_
                    rotate_left
                    · intro w'
                      go_simp
                      with_reducible rfl
                    rotate_left
                    · simp only [Act.put, List.setIfInBounds_toArray, List.set_cons_zero, List.set_cons_succ, i64_w, i32_w]
                      rfl
                    refine pure_ (i := 6) (N := some 24) (v := ?_) (a' := ?_) #[true, true, true, true, true, true, true, true, false, false] rfl rfl (any_of HT_.out (by kernel_rfl)) (fun _ _ _ h => h) (Or.inl ⟨by rfl, ?_⟩) ?_ ?_
                    rotate_left
                    · intro w'
                      go_simp
                      with_reducible rfl
                    rotate_left
                    · simp only [Act.put, List.setIfInBounds_toArray, List.set_cons_zero, List.set_cons_succ, i64_w, i32_w]
                      rfl
                    exact norm_ (by simp only [putAll, Act.put, List.setIfInBounds_toArray, List.set_cons_zero, List.set_cons_succ]) (hCont (.slice Ao38 t604.length co38, v609, gb612) _ ⟨hHeld, (by (with_reducible repeat (first | apply Kd.N_alloc | apply Kd.N_drewN | apply Kd.N_drew)); exact HO606.out), (by (with_reducible repeat (first | apply Kd.V_alloc | apply Kd.V_drewN | apply Kd.V_drew)); exact HO610.out), (by (with_reducible repeat (first | apply Kd.V_alloc | apply Kd.V_drewN | apply Kd.V_drew)); exact Kd.V_mono HO_599001.out (fun _ hk => ⟨hk.2, ⟨hk.1.1.1, ⟨hk.1.1.2, hk.1.2⟩⟩⟩)), (by (with_reducible repeat (first | refine blk_drewN ?_ _ | refine blk_drew ?_ | refine blk_alloc ?_ _)); exact BK598.out), (by (with_reducible repeat (first | refine blk_drewN ?_ _ | refine blk_drew ?_ | refine blk_alloc ?_ _)); exact BK601.out), (by (with_reducible repeat (first | refine blk_drewN ?_ _ | refine blk_drew ?_ | refine blk_alloc ?_ _)); exact BK612.out), GW612.out, GE612.out, NB598_612.out, NB612_598.out, NB601_612.out, NB612_601.out, (by repeat (first | (with_reducible first | exact HB.out | apply below_alloc | apply pw_below_drewN | apply below_drew1 | refine below_set ?_ GE598.out | refine below_set ?_ GE601.out | refine below_set ?_ GE612.out) | exact HB.out))⟩)
                rintro ⟨v605, v609, gb612⟩ w40 ⟨hS_, h0_, h1_, h2_, h3_, h4_, h5_, h6_, h7_, h8_, h9_, h10_, h11_, h12_⟩
                have n0_ : Aside0 (Kd.N k24 24 w40 w.heap.size (fun k_ => k_ ≠ gb598 ∧ k_ ≠ gb601 ∧ k_ ≠ gb612) v605 t604) := ⟨h0_⟩
                have n1_ : Aside0 (Kd.V k24 24 w40 w.heap.size (fun k_ => k_ ≠ gb598 ∧ k_ ≠ gb601 ∧ k_ ≠ gb612) v609 t608) := ⟨h1_⟩
                have n2_ : Aside0 (Kd.V k24 24 w40 w.heap.size (fun k_ => some k_ ≠ (v605 : Value).ownBlock ∧ k_ ≠ gb598 ∧ k_ ≠ gb601 ∧ k_ ≠ gb612) (.slice Ao34 x599001_1.length co34) x599001_1) := ⟨h2_⟩
                have n3_ : Aside0 (w40.heap[gb598]? = some (.cells #[.bool x599000_1, .slice Ao34 x599001_1.length co34] 24 (0, 0))) := ⟨h3_⟩
                have n4_ : Aside0 (w40.heap[gb601]? = some (.cells #[.bool ((rd_T24 l0 x11_1).f0), .slice A600_1 ((rd_T24 l0 x11_1).f1).length c600_1] 24 (0, 0))) := ⟨h4_⟩
                have n5_ : Aside0 (w40.heap[gb612]? = some (.cells #[.bool false, .slice none 0 0] 24 (0, 0))) := ⟨h5_⟩
                have n6_ : Aside0 (w.heap.size ≤ gb612) := ⟨h6_⟩
                have n7_ : Aside0 (w.heap.size ≤ gb612) := ⟨h7_⟩
                have n8_ : Aside0 (gb598 ≠ gb612) := ⟨h8_⟩
                have n9_ : Aside0 (gb612 ≠ gb598) := ⟨h9_⟩
                have n10_ : Aside0 (gb601 ≠ gb612) := ⟨h10_⟩
                have n11_ : Aside0 (gb612 ≠ gb601) := ⟨h11_⟩
                have n12_ : Aside0 (Below w.heap.size w w40) := ⟨h12_⟩
                clear HO_599001
                clear BK598
                clear BK601
                clear HB
                clear h0_ h1_ h2_ h3_ h4_ h5_ h6_ h7_ h8_ h9_ h10_ h11_ h12_
                have HO606 := n0_
                have HO610 := n1_
                have HO_599001 := n2_
                have BK598 := n3_
                have BK601 := n4_
                have BK612 := n5_
                have GW612 := n6_
                have GE612 := n7_
                have NB598_612 := n8_
                have NB612_598 := n9_
                have NB601_612 := n10_
                have NB612_601 := n11_
                have HB := n12_
                clear n0_ n1_ n2_ n3_ n4_ n5_ n6_ n7_ n8_ n9_ n10_ n11_ n12_
                have hHeld : w40.cell? ⟨gb598, 0, none⟩ = some (.bool x599000_1) ∧ w40.cell? ⟨gb598, 1, none⟩ = some (.slice Ao34 x599001_1.length co34) ∧ w40.cell? ⟨gb601, 0, none⟩ = some (.bool ((rd_T24 l0 x11_1).f0)) ∧ w40.cell? ⟨gb601, 1, none⟩ = some (.slice A600_1 ((rd_T24 l0 x11_1).f1).length c600_1) := hS_
                obtain ⟨Ao42, co42, eo42⟩ := Kd.V_slice HO610.out
                (first | subst eo42 | (injection eo42 with f1_ f2_ f3_; have f4_ := f1_.symm; have f5_ := f3_.symm; clear f1_ f2_ f3_; subst f4_; subst f5_))
                refine norm_ (a' := ?_) ?_ ?_
                rotate_left
                · simp only [putAll, Act.put, List.setIfInBounds_toArray, List.set_cons_zero, List.set_cons_succ]
                  rfl
                refine one_ (i := 8) (N := none) #[true, true, true, true, true, true, true, true, true, false] rfl rfl (one_of HT_.out (by kernel_rfl)) (by decide) (fun K hK => ?_)
                have hs41 : w40.cell? ⟨gb612, 0, none⟩ = some (.bool false) := (blk_cell BK612.out 0).trans rfl
                have hfs41 := blk_frozen BK612.out 0
                have hns41_0 := NB598_612.out
                have hns41_1 := NB601_612.out
                have hms41_0 := NB612_598.out
                have hms41_1 := NB612_601.out
                have hs43 : w40.cell? ⟨gb612, 1, none⟩ = some (.slice none 0 0) := (blk_cell BK612.out 1).trans rfl
                have hfs43 := blk_frozen BK612.out 1
                have hns43_0 := NB598_612.out
                have hns43_1 := NB601_612.out
                have hms43_0 := NB612_598.out
                have hms43_1 := NB612_601.out
                refine skip_ (w1 := ?_) (by rfl) rfl ?_ ?_
                rotate_left
                · go_simp
                  rfl
                refine hK.out _ _ ⟨((cell_far (p := ⟨gb612, _, none⟩) NB598_612.out _).trans (((cell_far (p := ⟨gb612, _, none⟩) NB598_612.out _).trans (hHeld.1)))), ((cell_far (p := ⟨gb612, _, none⟩) NB598_612.out _).trans (((cell_far (p := ⟨gb612, _, none⟩) NB598_612.out _).trans (hHeld.2.1)))), ((cell_far (p := ⟨gb612, _, none⟩) NB601_612.out _).trans (((cell_far (p := ⟨gb612, _, none⟩) NB601_612.out _).trans (hHeld.2.2.1)))), ((cell_far (p := ⟨gb612, _, none⟩) NB601_612.out _).trans (((cell_far (p := ⟨gb612, _, none⟩) NB601_612.out _).trans (hHeld.2.2.2))))⟩ (fun hHeld => ?_)
                clear hK K
                refine pure_ (i := 9) (N := some 7) (v := ?_) (a' := ?_) #[true, true, true, true, true, true, true, true, true, true] rfl rfl (any_of HT_.out (by kernel_rfl)) (fun _ _ _ h => h) (Or.inl ⟨by rfl, ?_⟩) ?_ ?_
                rotate_left
                · intro w'
                  go_simp
                  with_reducible rfl
                rotate_left
                · simp only [Act.put, List.setIfInBounds_toArray, List.set_cons_zero, List.set_cons_succ, i64_w, i32_w]
                  rfl
                refine done_ (done_of HT_.out (by kernel_rfl)) ?_
                try go_wp2
                go_ret
                exact ⟨by first | rfl | (simp [errW_none, errW_some] <;> rfl) | (simp [*, errW_none, errW_some] <;> rfl), by repeat (first | (with_reducible first | exact HB.out | apply below_alloc | apply pw_below_drewN | apply below_drew1 | refine below_set ?_ GE598.out | refine below_set ?_ GE601.out | refine below_set ?_ GE612.out) | exact HB.out)⟩
            · replace c8 := Bool.eq_false_iff.mpr c8
              subst c8
              have H1 : (some false) = some r := by rw [if_neg (show ¬ (false = true) by decide)] at H; exact H
              clear H
              have H := H1
              clear H1
              obtain rfl := Option.some.inj H
              have p600 : 0 ≤ (x11_1 : Int) := of_decide_eq_true (by first | (with_reducible assumption) | assumption)
              have q600 : x11_1 < (l0.length : Int) := of_decide_eq_true (by first | (with_reducible assumption) | assumption)
              obtain ⟨ad600, A600_1, c600_1, e600, hx600_0, hx600_1, hl600_1, hi600_1⟩ := at_T24 HR0.out x11_1 p600 q600
              cases e600
              replace hx600_0 := (HB.out.cell (World.block_lt_of_cell? w _ hx600_0)).trans hx600_0
              replace hx600_1 := (HB.out.cell (World.block_lt_of_cell? w _ hx600_1)).trans hx600_1
              have HR600_1 := Aside0.mk hi600_1
              have HC600_1 := Aside0.mk hl600_1
              clear hi600_1 hl600_1
              replace p600 := eq_true p600
              replace q600 := eq_true q600
              go_wp2_with (first | ((with_reducible refine gate_dst (N := 5) rfl ?_); (try (refine gate_guard (by rfl) ?_; dsimp only)); refine box_event ?hg (N := 5) ?hd (cs := #[.bool false, .slice none 0 0]) (t := 24) ?hr ?_; (case hd => rfl); (case hg => rfl); (case hr => first | (go_simp; done) | (go_simp; rfl)); intro gb601 hg w44 hbox hb; have n0_ := Aside0.mk (Kd.V_below (Kd.V_elderB (by (with_reducible repeat (first | apply Kd.V_alloc | apply Kd.V_drewN | apply Kd.V_drew)); exact HO_599001.out) gb601 (Nat.le_of_eq hg.symm)) hb); have n1_ := Aside0.mk (blk_below (g := gb598) (o := .cells #[.bool x599000_1, u599001] 24 (0, 0)) (by (with_reducible repeat (first | refine blk_drewN ?_ _ | refine blk_drew ?_ | refine blk_alloc ?_ _)); exact BK598.out) hb); have n2_ := Aside0.mk (below_step (by repeat (first | (with_reducible first | exact HB.out | apply below_alloc | apply pw_below_drewN | apply below_drew1 | refine below_set ?_ GE598.out) | exact HB.out)) hb); have n3_ := Aside0.mk (hbox); have n4_ := Aside0.mk ((by rw [hg]; exact (below_size (by repeat (first | (with_reducible first | exact HB.out | apply below_alloc | apply pw_below_drewN | apply below_drew1 | refine below_set ?_ GE598.out) | exact HB.out))) : w.heap.size ≤ gb601)); have n5_ := Aside0.mk ((by rw [hg]; exact (below_size (by repeat (first | (with_reducible first | exact HB.out | apply below_alloc | apply pw_below_drewN | apply below_drew1 | refine below_set ?_ GE598.out) | exact HB.out))) : w.heap.size ≤ gb601)); have n6_ := Aside0.mk ((by rw [hg]; exact Nat.ne_of_lt (blk_lt (g := gb598) (o := .cells #[.bool x599000_1, u599001] 24 (0, 0)) (by (with_reducible repeat (first | refine blk_drewN ?_ _ | refine blk_drew ?_ | refine blk_alloc ?_ _)); exact BK598.out)) : gb598 ≠ gb601)); have n7_ := Aside0.mk ((by rw [hg]; exact Nat.ne_of_gt (blk_lt (g := gb598) (o := .cells #[.bool x599000_1, u599001] 24 (0, 0)) (by (with_reducible repeat (first | refine blk_drewN ?_ _ | refine blk_drew ?_ | refine blk_alloc ?_ _)); exact BK598.out)) : gb601 ≠ gb598)); clear HO_599001; clear BK598; clear HB; have HO_599001 := n0_; have BK598 := n1_; have HB := n2_; have BK601 := n3_; have GW601 := n4_; have GE601 := n5_; have NB598_601 := n6_; have NB601_598 := n7_; clear n0_ n1_ n2_ n3_ n4_ n5_ n6_ n7_; clear hb hbox hg; have hnb45 := NB601_598.out; have hnc45 := NB598_601.out; have hcz46_0 : w44.cell? ⟨gb601, 0, none⟩ = some (.bool false) := (blk_cell BK601.out 0).trans rfl; have hcz46_1 : w44.cell? ⟨gb601, 1, none⟩ = some (.slice none 0 0) := (blk_cell BK601.out 1).trans rfl; have hfz46_0 := blk_frozen BK601.out 0; have hfz46_1 := blk_frozen BK601.out 1) | ((with_reducible refine gate_callee (f := 17) rfl ?_); refine goesL_ (some 16) rfl rfl Try.func17 (by kernel_rfl) rfl #[.agg #[.bool ((rd_T24 l0 x11_1).f0), .slice A600_1 ((rd_T24 l0 x11_1).f1).length c600_1]] rfl (by (try simp only [List.map_toArray, List.map_cons, List.map_nil]); first | done | rfl | (simp only [List.length_drop, List.length_take]; rfl)) ?_; (with_reducible refine (id_Right.calls ((rd_T24 l0 x11_1).f0) _ _ ((rd_T24 l0 x11_1).f1) false _ ?side1 ?side2 A7.out).mono ?_); (case side1 => exact Kd.C_below HR600_1.out (by repeat (first | (with_reducible first | exact HB.out | apply below_alloc | apply pw_below_drewN | apply below_drew1 | refine below_set ?_ GE598.out | refine below_set ?_ GE601.out) | exact HB.out))); (case side2 => exact HC600_1.out); rintro e w47 ⟨rfl, hb⟩; refine ⟨_, rfl, ?_⟩; have n0_ := Aside0.mk (Kd.V_below (by (with_reducible repeat (first | apply Kd.V_alloc | apply Kd.V_drewN | apply Kd.V_drew)); exact (Kd.V_mono (Kd.V_far (p := ⟨gb601, 1, none⟩) (Kd.V_far (p := ⟨gb601, 0, none⟩) (Kd.V_mono HO_599001.out (fun k_ hk => (⟨hk, hk.2⟩ : _ ∧ k_ ≠ gb601))) (fun _ hk => hk.2) (.bool ((rd_T24 l0 x11_1).f0))) (fun _ hk => hk.2) (.slice A600_1 ((rd_T24 l0 x11_1).f1).length c600_1)) (fun _ h_ => h_.1))) hb); have n1_ := Aside0.mk (blk_below (g := gb598) (o := .cells #[.bool x599000_1, u599001] 24 (0, 0)) (by (with_reducible repeat (first | refine blk_drewN ?_ _ | refine blk_drew ?_ | refine blk_alloc ?_ _)); refine blk_far ?_ NB598_601.out _; (with_reducible repeat (first | refine blk_drewN ?_ _ | refine blk_drew ?_ | refine blk_alloc ?_ _)); refine blk_far ?_ NB598_601.out _; (with_reducible repeat (first | refine blk_drewN ?_ _ | refine blk_drew ?_ | refine blk_alloc ?_ _)); exact BK598.out) hb); have n2_ := Aside0.mk (blk_below (g := gb601) (o := .cells #[.bool ((rd_T24 l0 x11_1).f0), .slice A600_1 ((rd_T24 l0 x11_1).f1).length c600_1] 24 (0, 0)) (by (with_reducible repeat (first | refine blk_drewN ?_ _ | refine blk_drew ?_ | refine blk_alloc ?_ _)); refine blk_put (cs := #[.bool ((rd_T24 l0 x11_1).f0), .slice none 0 0]) ?_ 1 _ rfl; (with_reducible repeat (first | refine blk_drewN ?_ _ | refine blk_drew ?_ | refine blk_alloc ?_ _)); refine blk_put (cs := #[.bool false, .slice none 0 0]) ?_ 0 _ rfl; (with_reducible repeat (first | refine blk_drewN ?_ _ | refine blk_drew ?_ | refine blk_alloc ?_ _)); exact BK601.out) hb); have n3_ := Aside0.mk (below_step (by repeat (first | (with_reducible first | exact HB.out | apply below_alloc | apply pw_below_drewN | apply below_drew1 | refine below_set ?_ GE598.out | refine below_set ?_ GE601.out) | exact HB.out)) hb); clear HO_599001; clear BK598; clear BK601; clear HB; have HO_599001 := n0_; have BK598 := n1_; have BK601 := n2_; have HB := n3_; clear n0_ n1_ n2_ n3_; (try clear hb); (try clear hb2); (try clear hk); (try clear hi)))
              go_ret
              exact ⟨by first | rfl | (simp [errW_none, errW_some] <;> rfl) | (simp [*, errW_none, errW_some] <;> rfl), by repeat (first | (with_reducible first | exact HB.out | apply below_alloc | apply pw_below_drewN | apply below_drew1 | refine below_set ?_ GE598.out | refine below_set ?_ GE601.out) | exact HB.out)⟩
          · rw [if_neg c6] at H
            exact absurd H (by simp)
        · rw [if_neg c5] at H
          exact absurd H (by simp)
      · rw [if_neg c4] at H
        have c4b0 : decide (x11_1 < (l0.length : Int)) = false := decide_eq_false c4
        clear c4
        replace H := Option.bind_eq_some_iff.mp H
        obtain ⟨t599, A480, H⟩ := H
        replace H : (if t599 = true then (some (decide ((l0.length : Int) ≤ 64))) else (some false)) = some r := H
        have A48 := Aside0.mk A480
        clear A480
        by_cases c49 : t599 = true
        · subst c49
          have H1 : (some (decide ((l0.length : Int) ≤ 64))) = some r := by rw [if_pos rfl] at H; exact H
          clear H
          have H := H1
          clear H1
          obtain rfl := Option.some.inj H
          have hcz50_0 : wr.cell? ⟨gb598, 0, none⟩ = some (.bool x599000_1) := (blk_cell BK598.out 0).trans rfl
          have hcz50_1 : wr.cell? ⟨gb598, 1, none⟩ = some (u599001) := (blk_cell BK598.out 1).trans rfl
          have hfz50_0 := blk_frozen BK598.out 0
          have hfz50_1 := blk_frozen BK598.out 1
          obtain ⟨Ao51, co51, eo51⟩ := Kd.V_slice HO_599001.out
          subst eo51
          go_wp2_with (first | ((with_reducible refine gate_callee (f := 44) rfl ?_); refine goesL_ (some 30) rfl rfl Try.func44 (by kernel_rfl) rfl #[.agg #[.bool x599000_1, .slice Ao51 x599001_1.length co51]] rfl (by (try simp only [List.map_toArray, List.map_cons, List.map_nil]); first | done | rfl | (simp only [List.length_drop, List.length_take]; rfl)) ?_; (with_reducible refine (id_isOne.calls x599000_1 _ _ x599001_1 true _ ?side1 ?side2 A48.out).mono ?_); (case side1 => repeat (first | exact (Kd.V_reads' HO_599001.out).2.2 | (with_reducible refine Kd.C_alloc ?_ _) | (with_reducible refine Kd.C_drewN ?_ _) | (with_reducible refine Kd.C_drew ?_))); (case side2 => exact (Kd.V_reads' HO_599001.out).2.1); rintro e w52 ⟨rfl, hb⟩; refine ⟨_, rfl, ?_⟩; have n0_ := Aside0.mk (Kd.V_below (by (with_reducible repeat (first | apply Kd.V_alloc | apply Kd.V_drewN | apply Kd.V_drew)); exact HO_599001.out) hb); have n1_ := Aside0.mk (blk_below (g := gb598) (o := .cells #[.bool x599000_1, .slice Ao51 x599001_1.length co51] 24 (0, 0)) (by (with_reducible repeat (first | refine blk_drewN ?_ _ | refine blk_drew ?_ | refine blk_alloc ?_ _)); exact BK598.out) hb); have n2_ := Aside0.mk (below_step (by repeat (first | (with_reducible first | exact HB.out | apply below_alloc | apply pw_below_drewN | apply below_drew1 | refine below_set ?_ GE598.out) | exact HB.out)) hb); clear HO_599001; clear BK598; clear HB; have HO_599001 := n0_; have BK598 := n1_; have HB := n2_; clear n0_ n1_ n2_; (try clear hb); (try clear hb2); (try clear hk); (try clear hi)))
          go_ret
          exact ⟨by first | rfl | (simp [errW_none, errW_some] <;> rfl) | (simp [*, errW_none, errW_some] <;> rfl), by repeat (first | (with_reducible first | exact HB.out | apply below_alloc | apply pw_below_drewN | apply below_drew1 | refine below_set ?_ GE598.out) | exact HB.out)⟩
        · replace c49 := Bool.eq_false_iff.mpr c49
          subst c49
          have H1 : (some false) = some r := by rw [if_neg (show ¬ (false = true) by decide)] at H; exact H
          clear H
          have H := H1
          clear H1
          obtain rfl := Option.some.inj H
          have hcz53_0 : wr.cell? ⟨gb598, 0, none⟩ = some (.bool x599000_1) := (blk_cell BK598.out 0).trans rfl
          have hcz53_1 : wr.cell? ⟨gb598, 1, none⟩ = some (u599001) := (blk_cell BK598.out 1).trans rfl
          have hfz53_0 := blk_frozen BK598.out 0
          have hfz53_1 := blk_frozen BK598.out 1
          obtain ⟨Ao54, co54, eo54⟩ := Kd.V_slice HO_599001.out
          subst eo54
          go_wp2_with (first | ((with_reducible refine gate_callee (f := 44) rfl ?_); refine goesL_ (some 30) rfl rfl Try.func44 (by kernel_rfl) rfl #[.agg #[.bool x599000_1, .slice Ao54 x599001_1.length co54]] rfl (by (try simp only [List.map_toArray, List.map_cons, List.map_nil]); first | done | rfl | (simp only [List.length_drop, List.length_take]; rfl)) ?_; (with_reducible refine (id_isOne.calls x599000_1 _ _ x599001_1 false _ ?side1 ?side2 A48.out).mono ?_); (case side1 => repeat (first | exact (Kd.V_reads' HO_599001.out).2.2 | (with_reducible refine Kd.C_alloc ?_ _) | (with_reducible refine Kd.C_drewN ?_ _) | (with_reducible refine Kd.C_drew ?_))); (case side2 => exact (Kd.V_reads' HO_599001.out).2.1); rintro e w55 ⟨rfl, hb⟩; refine ⟨_, rfl, ?_⟩; have n0_ := Aside0.mk (Kd.V_below (by (with_reducible repeat (first | apply Kd.V_alloc | apply Kd.V_drewN | apply Kd.V_drew)); exact HO_599001.out) hb); have n1_ := Aside0.mk (blk_below (g := gb598) (o := .cells #[.bool x599000_1, .slice Ao54 x599001_1.length co54] 24 (0, 0)) (by (with_reducible repeat (first | refine blk_drewN ?_ _ | refine blk_drew ?_ | refine blk_alloc ?_ _)); exact BK598.out) hb); have n2_ := Aside0.mk (below_step (by repeat (first | (with_reducible first | exact HB.out | apply below_alloc | apply pw_below_drewN | apply below_drew1 | refine below_set ?_ GE598.out) | exact HB.out)) hb); clear HO_599001; clear BK598; clear HB; have HO_599001 := n0_; have BK598 := n1_; have HB := n2_; clear n0_ n1_ n2_; (try clear hb); (try clear hb2); (try clear hk); (try clear hi)))
          go_ret
          exact ⟨by first | rfl | (simp [errW_none, errW_some] <;> rfl) | (simp [*, errW_none, errW_some] <;> rfl), by repeat (first | (with_reducible first | exact HB.out | apply below_alloc | apply pw_below_drewN | apply below_drew1 | refine below_set ?_ GE598.out) | exact HB.out)⟩

end Go.Proofs.Ytlhaofbncoijfaa.X
