-- Written by a program of this session (xprint.py) out of the translation; Lean checks it.
import Derived.Test.YtlhaofbncoijfaaX0
namespace Go.Proofs.Ytlhaofbncoijfaa.X
open Go.RowKit Go.Proofs.YtlhaofbncoijfaaW.PrintWords Go.Proofs.YtlhaofbncoijfaaW.PrintLast Go.Proofs.YtlhaofbncoijfaaW.PrintMore Go.Proofs.Ytlhaofbncoijfaa.HandF
attribute [local go_sem] max2_int min2_int max_two min_two max_three min_three max_four min_four   -- for this text's walks alone
set_option linter.unusedVariables false
set_option linter.unusedSimpArgs false

/-! ### pannierref04_text: function 49 -/
def pannierref04_text.f : Nat → Bool → List (S24) → Option (ByteArray)
  | 0, _, _ => none
  | k + 1, a0_0, l0_1 => if (l0_1.length : Int) = 2 then (if 0 < (l0_1.length : Int) then ((pannierref04_text.f k ((rd_T24 l0_1 0).f0) ((rd_T24 l0_1 0).f1)).bind fun t419 => (if 1 + t419.size ≤ 9223372036854775807 then (if ((⟨#[40]⟩ : ByteArray) ++ t419).size + 1 ≤ 9223372036854775807 then (if 1 < (l0_1.length : Int) then ((pannierref04_text.f k ((rd_T24 l0_1 1).f0) ((rd_T24 l0_1 1).f1)).bind fun t421 => (if (((⟨#[40]⟩ : ByteArray) ++ t419) ++ (⟨#[44]⟩ : ByteArray)).size + t421.size ≤ 9223372036854775807 then (if ((((⟨#[40]⟩ : ByteArray) ++ t419) ++ (⟨#[44]⟩ : ByteArray)) ++ t421).size + 1 ≤ 9223372036854775807 then (some (((((⟨#[40]⟩ : ByteArray) ++ t419) ++ (⟨#[44]⟩ : ByteArray)) ++ t421) ++ (⟨#[41]⟩ : ByteArray))) else (none)) else (none))) else (none)) else (none)) else (none))) else (none)) else (if a0_0 = true then (some (⟨#[49]⟩ : ByteArray)) else (some (⟨#[48]⟩ : ByteArray)))
theorem pannierref04_text.mono_l : ∀ k, (∀ y0 y1, LeO (pannierref04_text.f k y0 y1) (pannierref04_text.f (k + 1) y0 y1))
  | 0 => fun _ _ r h => by simp [pannierref04_text.f] at h
  | k + 1 => by
    have ih0 := pannierref04_text.mono_l k
    · intro y0 y1
      unfold pannierref04_text.f
      repeat' first
      | (with_reducible exact ih0 _ _)
      | (with_reducible exact LeO.refl _)
      | (with_reducible exact LeO.none _)
      | (with_reducible refine LeO.ite ?_ ?_)
      | (with_reducible refine LeO.bind ?_ (fun _ => ?_))
      | exact ih0 _ _
      | exact LeO.none _
      | refine LeO.ite ?_ ?_
      | refine LeO.bind ?_ (fun _ => ?_)
theorem pannierref04_text.mono : ∀ a0 a1 k, LeO (pannierref04_text.f k a0 a1) (pannierref04_text.f (k + 1) a0 a1) := by
  intro a0 a1 k
  have ih0 := pannierref04_text.mono_l k
  exact ih0 a0 a1
def pannierref04_text.T2 : Bool × List (List Nat × List Nat) := (true, [([], []), ([0], [0]), ([1], [1]), ([2], [2]), ([3], [3]), ([4], [4]), ([5], [5]), ([], []), ([7], [7]), ([8], [8]), ([9], [9]), ([10, 4], [10]), ([6, 11], [6, 11]), ([12], [12]), ([13, 11, 0, 1, 2, 3, 4, 5, 6, 7, 8, 9, 10, 11, 12, 13], [13])])
def pannierref04_text.B2 : List Nat := [0, 1, 3, 7, 15, 31, 63, 0, 128, 384, 896, 1951, 4095, 8191, 16383]
theorem pannierref04_text.tab2 : rtab .any (opsOf Try.f49 2) = pannierref04_text.T2 := by kernel_rfl
theorem pannierref04_text.bits2 : waitsOk pannierref04_text.T2.2 pannierref04_text.B2 = true := by kernel_rfl
set_option maxHeartbeats 8000000 in
set_option maxRecDepth 100000 in
theorem pannierref04_text.calls (k : Nat) : ∀ (a0_0 : Bool) (A0_1 : Option Addr) (c0_1 : Nat) (l0_1 : List (S24)) (r : ByteArray) (w : World) (hr0_1 : Kd.C k24 w A0_1 l0_1.length l0_1) (hc0_1 : l0_1.length ≤ c0_1) (h : pannierref04_text.f k a0_0 l0_1 = some r),
    Calls Try.prog 49 #[.agg #[.bool a0_0, .slice A0_1 l0_1.length c0_1]] w fun e w' => e = .returned (.string r) ∧ Below w.heap.size w w' := by
  induction k using Nat.strongRecOn with
  | _ k ih =>
  intro a0_0 A0_1 c0_1 l0_1 r w hr0_1 hc0_1 h
  cases k with
  | zero => exact absurd h (by simp [pannierref04_text.f])
  | succ k =>
  simp only [pannierref04_text.f] at h
  have hu24 := Try.underlying24
  have HR0_1 := Aside0.mk hr0_1
  have HC0_1 := Aside0.mk hc0_1
  clear hr0_1 hc0_1
  have HB := Aside0.mk (Below.refl w.heap.size w)
  have H : (if (l0_1.length : Int) = 2 then (if 0 < (l0_1.length : Int) then ((pannierref04_text.f k ((rd_T24 l0_1 0).f0) ((rd_T24 l0_1 0).f1)).bind fun t419 => (if 1 + t419.size ≤ 9223372036854775807 then (if ((⟨#[40]⟩ : ByteArray) ++ t419).size + 1 ≤ 9223372036854775807 then (if 1 < (l0_1.length : Int) then ((pannierref04_text.f k ((rd_T24 l0_1 1).f0) ((rd_T24 l0_1 1).f1)).bind fun t421 => (if (((⟨#[40]⟩ : ByteArray) ++ t419) ++ (⟨#[44]⟩ : ByteArray)).size + t421.size ≤ 9223372036854775807 then (if ((((⟨#[40]⟩ : ByteArray) ++ t419) ++ (⟨#[44]⟩ : ByteArray)) ++ t421).size + 1 ≤ 9223372036854775807 then (some (((((⟨#[40]⟩ : ByteArray) ++ t419) ++ (⟨#[44]⟩ : ByteArray)) ++ t421) ++ (⟨#[41]⟩ : ByteArray))) else (none)) else (none))) else (none)) else (none)) else (none))) else (none)) else (if a0_0 = true then (some (⟨#[49]⟩ : ByteArray)) else (some (⟨#[48]⟩ : ByteArray)))) = some r := h
  clear h
  by_cases c2 : (l0_1.length : Int) = 2
  · rw [if_pos c2] at H
    have c2b0 : ((l0_1.length : Int) == 2) = true := beq_iff_eq.mpr c2
    have c2b1 : ((l0_1.length : Int) != 2) = false := bne_eq_false_iff_eq.mpr c2
    clear c2
    by_cases c3 : 0 < (l0_1.length : Int)
    · rw [if_pos c3] at H
      have c3b0 : decide (0 < (l0_1.length : Int)) = true := decide_eq_true c3
      have c3b1 : decide (0 < l0_1.length) = true := decide_eq_true (by omega)
      clear c3
      replace H := Option.bind_eq_some_iff.mp H
      obtain ⟨t419, A40, H⟩ := H
      replace H : (if 1 + t419.size ≤ 9223372036854775807 then (if ((⟨#[40]⟩ : ByteArray) ++ t419).size + 1 ≤ 9223372036854775807 then (if 1 < (l0_1.length : Int) then ((pannierref04_text.f k ((rd_T24 l0_1 1).f0) ((rd_T24 l0_1 1).f1)).bind fun t421 => (if (((⟨#[40]⟩ : ByteArray) ++ t419) ++ (⟨#[44]⟩ : ByteArray)).size + t421.size ≤ 9223372036854775807 then (if ((((⟨#[40]⟩ : ByteArray) ++ t419) ++ (⟨#[44]⟩ : ByteArray)) ++ t421).size + 1 ≤ 9223372036854775807 then (some (((((⟨#[40]⟩ : ByteArray) ++ t419) ++ (⟨#[44]⟩ : ByteArray)) ++ t421) ++ (⟨#[41]⟩ : ByteArray))) else (none)) else (none))) else (none)) else (none)) else (none)) = some r := H
      have A4 := Aside0.mk A40
      clear A40
      by_cases c5 : 1 + t419.size ≤ 9223372036854775807
      · rw [if_pos c5] at H
        have c5b0 := eq_true c5
        have c5b1 : decide (1 + t419.size ≤ 9223372036854775807) = true := decide_eq_true c5
        try have c5b2 : (9223372036854775807 < 1 + t419.size) = False := eq_false (Nat.not_lt.2 c5)
        by_cases c6 : ((⟨#[40]⟩ : ByteArray) ++ t419).size + 1 ≤ 9223372036854775807
        · rw [if_pos c6] at H
          have c6b0 := eq_true c6
          have c6b1 : decide (((⟨#[40]⟩ : ByteArray) ++ t419).size + 1 ≤ 9223372036854775807) = true := decide_eq_true c6
          try have c6b2 : (9223372036854775807 < ((⟨#[40]⟩ : ByteArray) ++ t419).size + 1) = False := eq_false (Nat.not_lt.2 c6)
          have c6b3 : (9223372036854775807 < 1 + t419.size + 1) = False := eq_false (by have h_ := c6; simp only [ByteArray.size_append, show (⟨#[40]⟩ : ByteArray).size = 1 from rfl, show (⟨#[44]⟩ : ByteArray).size = 1 from rfl] at h_; omega)
          by_cases c7 : 1 < (l0_1.length : Int)
          · rw [if_pos c7] at H
            have c7b0 : decide (1 < (l0_1.length : Int)) = true := decide_eq_true c7
            have c7b1 : decide (1 < l0_1.length) = true := decide_eq_true (by omega)
            clear c7
            replace H := Option.bind_eq_some_iff.mp H
            obtain ⟨t421, A80, H⟩ := H
            replace H : (if (((⟨#[40]⟩ : ByteArray) ++ t419) ++ (⟨#[44]⟩ : ByteArray)).size + t421.size ≤ 9223372036854775807 then (if ((((⟨#[40]⟩ : ByteArray) ++ t419) ++ (⟨#[44]⟩ : ByteArray)) ++ t421).size + 1 ≤ 9223372036854775807 then (some (((((⟨#[40]⟩ : ByteArray) ++ t419) ++ (⟨#[44]⟩ : ByteArray)) ++ t421) ++ (⟨#[41]⟩ : ByteArray))) else (none)) else (none)) = some r := H
            have A8 := Aside0.mk A80
            clear A80
            by_cases c9 : (((⟨#[40]⟩ : ByteArray) ++ t419) ++ (⟨#[44]⟩ : ByteArray)).size + t421.size ≤ 9223372036854775807
            · rw [if_pos c9] at H
              have c9b0 := eq_true c9
              have c9b1 : decide ((((⟨#[40]⟩ : ByteArray) ++ t419) ++ (⟨#[44]⟩ : ByteArray)).size + t421.size ≤ 9223372036854775807) = true := decide_eq_true c9
              try have c9b2 : (9223372036854775807 < (((⟨#[40]⟩ : ByteArray) ++ t419) ++ (⟨#[44]⟩ : ByteArray)).size + t421.size) = False := eq_false (Nat.not_lt.2 c9)
              have c9b3 : (9223372036854775807 < 1 + t419.size + 1 + t421.size) = False := eq_false (by have h_ := c9; simp only [ByteArray.size_append, show (⟨#[40]⟩ : ByteArray).size = 1 from rfl, show (⟨#[44]⟩ : ByteArray).size = 1 from rfl] at h_; omega)
              by_cases c10 : ((((⟨#[40]⟩ : ByteArray) ++ t419) ++ (⟨#[44]⟩ : ByteArray)) ++ t421).size + 1 ≤ 9223372036854775807
              · rw [if_pos c10] at H
                have c10b0 := eq_true c10
                have c10b1 : decide (((((⟨#[40]⟩ : ByteArray) ++ t419) ++ (⟨#[44]⟩ : ByteArray)) ++ t421).size + 1 ≤ 9223372036854775807) = true := decide_eq_true c10
                try have c10b2 : (9223372036854775807 < ((((⟨#[40]⟩ : ByteArray) ++ t419) ++ (⟨#[44]⟩ : ByteArray)) ++ t421).size + 1) = False := eq_false (Nat.not_lt.2 c10)
                have c10b3 : (9223372036854775807 < 1 + t419.size + 1 + t421.size + 1) = False := eq_false (by have h_ := c10; simp only [ByteArray.size_append, show (⟨#[40]⟩ : ByteArray).size = 1 from rfl, show (⟨#[44]⟩ : ByteArray).size = 1 from rfl] at h_; omega)
                obtain rfl := Option.some.inj H
                go_enter Try.func49, Try.ntmps49
                try go_wp2_with (first | ((with_reducible refine gate_dst (N := 1) rfl ?_); refine box_event ?hg (N := 1) ?hd (cs := #[.bool a0_0, .slice A0_1 l0_1.length c0_1]) (t := 24) ?hr ?_; (case hd => rfl); (case hg => rfl); (case hr => first | (go_simp; done) | (go_simp; rfl)); intro gb417 hg w11 hbox hb; have n0_ := Aside0.mk (below_step (by repeat (first | (with_reducible first | exact HB.out | apply below_alloc | apply pw_below_drewN | apply below_drew1) | exact HB.out)) hb); have n1_ := Aside0.mk (hbox); have n2_ := Aside0.mk ((by rw [hg]; exact (below_size (by repeat (first | (with_reducible first | exact HB.out | apply below_alloc | apply pw_below_drewN | apply below_drew1) | exact HB.out))) : w.heap.size ≤ gb417)); have n3_ := Aside0.mk ((by rw [hg]; exact (below_size (by repeat (first | (with_reducible first | exact HB.out | apply below_alloc | apply pw_below_drewN | apply below_drew1) | exact HB.out))) : w.heap.size ≤ gb417)); clear HB; have HB := n0_; have BK417 := n1_; have GW417 := n2_; have GE417 := n3_; clear n0_ n1_ n2_ n3_; clear hb hbox hg; have hcz12_0 : w11.cell? ⟨gb417, 0, none⟩ = some (.bool a0_0) := (blk_cell BK417.out 0).trans rfl; have hcz12_1 : w11.cell? ⟨gb417, 1, none⟩ = some (.slice A0_1 l0_1.length c0_1) := (blk_cell BK417.out 1).trans rfl; have hfz12_0 := blk_frozen BK417.out 0; have hfz12_1 := blk_frozen BK417.out 1))
                have n0_ := Aside0.mk (blk_drew BK417.out)
                have n1_ := Aside0.mk (below_drew1 HB.out)
                clear BK417
                clear HB
                have BK417 := n0_
                have HB := n1_
                clear n0_ n1_
                have p418 : 0 ≤ (0 : Int) := (by omega)
                have q418 : 0 < (l0_1.length : Int) := of_decide_eq_true (by first | (with_reducible assumption) | assumption)
                obtain ⟨ad418, A418_1, c418_1, e418, hx418_0, hx418_1, hl418_1, hi418_1⟩ := at_T24 HR0_1.out 0 p418 q418
                have hw418_1 := hx418_1
                (try rw [show ((0 : Int)).toNat = 0 from rfl] at hw418_1)
                (try rw [show 0 * 2 = 0 from rfl] at hw418_1)
                (try rw [Addr.add_zero'] at hw418_1)
                have hw418_0 := hx418_0
                (try rw [show ((0 : Int)).toNat = 0 from rfl] at hw418_0)
                (try rw [show 0 * 2 = 0 from rfl] at hw418_0)
                (try rw [Addr.add_zero'] at hw418_0)
                cases e418
                have qi418 : (0 < l0_1.length) = True := eq_true (by omega)
                (try rw [show ((0 : Int)).toNat = 0 from rfl] at hx418_0)
                (try rw [show 0 * 2 = 0 from rfl] at hx418_0)
                (try rw [Addr.add_zero'] at hx418_0)
                (try rw [show ((0 : Int)).toNat = 0 from rfl] at hx418_1)
                (try rw [show 0 * 2 = 0 from rfl] at hx418_1)
                (try rw [Addr.add_zero'] at hx418_1)
                replace hx418_0 := (HB.out.cell (World.block_lt_of_cell? w _ hx418_0)).trans hx418_0
                replace hx418_1 := (HB.out.cell (World.block_lt_of_cell? w _ hx418_1)).trans hx418_1
                have HR418_1 := Aside0.mk hi418_1
                have HC418_1 := Aside0.mk hl418_1
                clear hi418_1 hl418_1
                replace p418 := eq_true p418
                replace q418 := eq_true q418
                have p420 : 0 ≤ (1 : Int) := (by omega)
                have q420 : 1 < (l0_1.length : Int) := of_decide_eq_true (by first | (with_reducible assumption) | assumption)
                obtain ⟨ad420, A420_1, c420_1, e420, hx420_0, hx420_1, hl420_1, hi420_1⟩ := at_T24 HR0_1.out 1 p420 q420
                have hw420_1 := hx420_1
                (try rw [show ((1 : Int)).toNat = 1 from rfl] at hw420_1)
                (try rw [show 1 * 2 = 2 from rfl] at hw420_1)
                (try simp only [Nat.reduceMul, Nat.reduceEqDiff, Go.Addr.add, ↓reduceIte] at hw420_1)
                have hw420_0 := hx420_0
                (try rw [show ((1 : Int)).toNat = 1 from rfl] at hw420_0)
                (try rw [show 1 * 2 = 2 from rfl] at hw420_0)
                (try simp only [Nat.reduceMul, Nat.reduceEqDiff, Go.Addr.add, ↓reduceIte] at hw420_0)
                obtain rfl : ad418 = ad420 := (by injection e420)
                (try simp only [show (1 : Int).toNat = 1 from rfl, Nat.reduceMul, Nat.reduceEqDiff, Go.Addr.add, ↓reduceIte] at hx420_0)
                (try simp only [show (1 : Int).toNat = 1 from rfl, Nat.reduceMul, Nat.reduceEqDiff, Go.Addr.add, ↓reduceIte] at hx420_1)
                have qi420 : (1 < l0_1.length) = True := eq_true (by omega)
                (try rw [show ((1 : Int)).toNat = 1 from rfl] at hx420_0)
                (try rw [show 1 * 2 = 2 from rfl] at hx420_0)
                (try rw [show ((1 : Int)).toNat = 1 from rfl] at hx420_1)
                (try rw [show 1 * 2 = 2 from rfl] at hx420_1)
                replace hx420_0 := (HB.out.cell (World.block_lt_of_cell? w _ hx420_0)).trans hx420_0
                replace hx420_1 := (HB.out.cell (World.block_lt_of_cell? w _ hx420_1)).trans hx420_1
                have HR420_1 := Aside0.mk hi420_1
                have HC420_1 := Aside0.mk hl420_1
                clear hi420_1 hl420_1
                replace p420 := eq_true p420
                replace q420 := eq_true q420
                refine start_ (n := 15) (S := fun w' => w'.cell? ⟨gb417, 0, none⟩ = some (.bool a0_0) ∧ w'.cell? ⟨gb417, 1, none⟩ = some (.slice (some ad418) l0_1.length c0_1) ∧ w'.cell? ad418 = some (.bool ((rd_T24 l0_1 0).f0)) ∧ w'.cell? ⟨ad418.block, ad418.off + 1, none⟩ = some (.slice A418_1 ((rd_T24 l0_1 0).f1).length c418_1) ∧ w'.cell? ⟨ad418.block, ad418.off + 2, none⟩ = some (.bool ((rd_T24 l0_1 1).f0)) ∧ w'.cell? ⟨ad418.block, ad418.off + 2 + 1, none⟩ = some (.slice A420_1 ((rd_T24 l0_1 1).f1).length c420_1)) (ds := []) #[false, false, false, false, false, false, false, false, false, false, false, false, false, false, false] (by kernel_rfl) rfl rfl ⟨(blk_cell BK417.out 0).trans rfl, (blk_cell BK417.out 1).trans rfl, ((HB.out.cell (World.block_lt_of_cell? w _ hw418_0)).trans hw418_0), ((HB.out.cell (World.block_lt_of_cell? w _ hw418_1)).trans hw418_1), ((HB.out.cell (World.block_lt_of_cell? w _ hw420_0)).trans hw420_0), ((HB.out.cell (World.block_lt_of_cell? w _ hw420_1)).trans hw420_1)⟩ (fun hHeld => ?_); refine with_tabW pannierref04_text.tab2 pannierref04_text.bits2 (fun HT_ HW_ => ?_)
                generalize w11.drew = w13 at BK417 HB HR418_1 HR420_1 hx418_0 hx418_1 hx420_0 hx420_1 hHeld ⊢
                refine pure_ (i := 0) (N := some 7) (v := ?_) (a' := ?_) #[true, false, false, false, false, false, false, false, false, false, false, false, false, false, false] rfl rfl (any_of HT_.out (by kernel_rfl)) (fun _ _ _ h => h) (Or.inl ⟨by rfl, ?_⟩) ?_ ?_
                rotate_left
                · intro w'
                  go_simp
                  with_reducible rfl
                rotate_left
                · simp only [Act.put, List.setIfInBounds_toArray, List.set_cons_zero, List.set_cons_succ, i64_w, i32_w]
                  rfl
                refine pure_ (i := 7) (N := some 14) (v := ?_) (a' := ?_) #[true, false, false, false, false, false, false, true, false, false, false, false, false, false, false] rfl rfl (any_of HT_.out (by kernel_rfl)) (fun _ _ _ h => h) (Or.inl ⟨by rfl, ?_⟩) ?_ ?_
                rotate_left
                · intro w'
                  go_simp
                  with_reducible rfl
                rotate_left
                · simp only [Act.put, List.setIfInBounds_toArray, List.set_cons_zero, List.set_cons_succ, i64_w, i32_w]
                  rfl
                refine take_ (i := 1) (N := some 8) (v := ?_) (a' := ?_) #[true, true, false, false, false, false, false, true, false, false, false, false, false, false, false] rfl rfl (take_ofW HT_.out HW_.out (by kernel_rfl)) (fun _ _ _ h => h) (Or.inl ⟨by rfl, ?_⟩) hHeld ?_ ?_
                rotate_left
                · rintro w' ⟨s0, s1, s2, s3, s4, s5⟩
                  go_simp
                  with_reducible rfl
                rotate_left
                · simp only [Act.put, List.setIfInBounds_toArray, List.set_cons_zero, List.set_cons_succ, i64_w, i32_w]
                  rfl
                refine pure_ (i := 2) (N := some 9) (v := ?_) (a' := ?_) #[true, true, true, false, false, false, false, true, false, false, false, false, false, false, false] rfl rfl (any_of HT_.out (by kernel_rfl)) (fun _ _ _ h => h) (Or.inl ⟨by rfl, ?_⟩) ?_ ?_
                rotate_left
                · intro w'
                  go_simp
                  with_reducible rfl
                rotate_left
                · simp only [Act.put, List.setIfInBounds_toArray, List.set_cons_zero, List.set_cons_succ, i64_w, i32_w]
                  rfl
                refine take_ (i := 3) (N := some 10) (v := ?_) (a' := ?_) #[true, true, true, true, false, false, false, true, false, false, false, false, false, false, false] rfl rfl (take_ofW HT_.out HW_.out (by kernel_rfl)) (fun _ _ _ h => h) (Or.inl ⟨by rfl, ?_⟩) hHeld ?_ ?_
                rotate_left
                · rintro w' ⟨s0, s1, s2, s3, s4, s5⟩
                  go_simp
                  with_reducible rfl
                rotate_left
                · simp only [Act.put, List.setIfInBounds_toArray, List.set_cons_zero, List.set_cons_succ, i64_w, i32_w]
                  rfl
                refine take_ (i := 8) (N := some 15) (v := ?_) (a' := ?_) #[true, true, true, true, false, false, false, true, true, false, false, false, false, false, false] rfl rfl (take_ofW HT_.out HW_.out (by kernel_rfl)) (fun _ _ _ h => h) (Or.inl ⟨by rfl, ?_⟩) hHeld ?_ ?_
                rotate_left
                · rintro w' ⟨s0, s1, s2, s3, s4, s5⟩
                  go_simp
                  with_reducible rfl
                rotate_left
                · simp only [Act.put, List.setIfInBounds_toArray, List.set_cons_zero, List.set_cons_succ, i64_w, i32_w]
                  rfl
                refine pure_ (i := 9) (N := some 16) (v := ?_) (a' := ?_) #[true, true, true, true, false, false, false, true, true, true, false, false, false, false, false] rfl rfl (any_of HT_.out (by kernel_rfl)) (fun _ _ _ h => h) (Or.inl ⟨by rfl, ?_⟩) ?_ ?_
                rotate_left
                · intro w'
                  go_simp
                  with_reducible rfl
                rotate_left
                · simp only [Act.put, List.setIfInBounds_toArray, List.set_cons_zero, List.set_cons_succ, i64_w, i32_w]
                  rfl
                refine take_ (i := 10) (N := some 17) (v := ?_) (a' := ?_) #[true, true, true, true, false, false, false, true, true, true, true, false, false, false, false] rfl rfl (take_ofW HT_.out HW_.out (by kernel_rfl)) (fun _ _ _ h => h) (Or.inl ⟨by rfl, ?_⟩) hHeld ?_ ?_
                rotate_left
                · rintro w' ⟨s0, s1, s2, s3, s4, s5⟩
                  go_simp
                  with_reducible rfl
                rotate_left
                · simp only [Act.put, List.setIfInBounds_toArray, List.set_cons_zero, List.set_cons_succ, i64_w, i32_w]
                  rfl
                refine one_ (i := 4) (N := some 11) #[true, true, true, true, true, false, false, true, true, true, true, false, false, false, false] rfl rfl (one_of HT_.out (by kernel_rfl)) (by decide) (fun K hK => ?_)
                refine goes_ Try.func49 (by kernel_rfl) rfl #[.agg #[.bool ((rd_T24 l0_1 0).f0), .slice A418_1 ((rd_T24 l0_1 0).f1).length c418_1]] (by rfl) rfl rfl (by (try simp only [List.map_toArray, List.map_cons, List.map_nil]); first | done | rfl | (simp only [List.length_drop, List.length_take]; rfl)) ?_
                with_reducible refine (ih k (by omega) ((rd_T24 l0_1 0).f0) _ _ ((rd_T24 l0_1 0).f1) t419 _ ?side1 ?side2 A4.out).mono ?_
                (case side1 => repeat (first | exact (Kd.C_below HR418_1.out HB.out) | (with_reducible refine Kd.C_alloc ?_ _) | (with_reducible refine Kd.C_drewN ?_ _) | (with_reducible refine Kd.C_drew ?_)))
                (case side2 => exact HC418_1.out)
                rintro e w14 ⟨rfl, hb⟩
                refine ⟨_, rfl, ?_⟩
                have n0_ := Aside0.mk (blk_below (g := gb417) (o := .cells #[.bool a0_0, .slice (some ad418) l0_1.length c0_1] 24 (0, 0)) (by (with_reducible repeat (first | refine blk_drewN ?_ _ | refine blk_drew ?_ | refine blk_alloc ?_ _)); exact BK417.out) hb)
                have n1_ := Aside0.mk (below_step (by repeat (first | (with_reducible first | exact HB.out | apply below_alloc | apply pw_below_drewN | apply below_drew1 | refine below_set ?_ GE417.out) | exact HB.out)) hb)
                clear BK417
                clear HB
                have BK417 := n0_
                have HB := n1_
                clear n0_ n1_
                (try clear hb)
                (try clear hb2)
                (try clear hk)
                (try clear hi)
                refine hK.out _ _ ⟨(blk_cell BK417.out 0).trans rfl, (blk_cell BK417.out 1).trans rfl, ((HB.out.cell (World.block_lt_of_cell? w _ hw418_0)).trans hw418_0), ((HB.out.cell (World.block_lt_of_cell? w _ hw418_1)).trans hw418_1), ((HB.out.cell (World.block_lt_of_cell? w _ hw420_0)).trans hw420_0), ((HB.out.cell (World.block_lt_of_cell? w _ hw420_1)).trans hw420_1)⟩ (fun hHeld => ?_)
                clear hK K
                refine norm_ (a' := ?_) ?_ ?_
                rotate_left
                · show Act.put _ (some 11) _ = _
                  simp only [Act.put, List.setIfInBounds_toArray, List.set_cons_zero, List.set_cons_succ, i64_w, i32_w]
                  rfl
                refine pure_ (i := 5) (N := some 12) (v := ?_) (a' := ?_) #[true, true, true, true, true, true, false, true, true, true, true, false, false, false, false] rfl rfl (any_of HT_.out (by kernel_rfl)) (fun _ _ _ h => h) (Or.inl ⟨by rfl, ?_⟩) ?_ ?_
                rotate_left
                · intro w'
                  go_simp
                  with_reducible rfl
                rotate_left
                · simp only [Act.put, List.setIfInBounds_toArray, List.set_cons_zero, List.set_cons_succ, i64_w, i32_w]
                  rfl
                refine pure_ (i := 6) (N := some 13) (v := ?_) (a' := ?_) #[true, true, true, true, true, true, true, true, true, true, true, false, false, false, false] rfl rfl (any_of HT_.out (by kernel_rfl)) (fun _ _ _ h => h) (Or.inl ⟨by rfl, ?_⟩) ?_ ?_
                rotate_left
                · intro w'
                  go_simp
                  with_reducible rfl
                rotate_left
                · simp only [Act.put, List.setIfInBounds_toArray, List.set_cons_zero, List.set_cons_succ, i64_w, i32_w]
                  rfl
                refine one_ (i := 11) (N := some 18) #[true, true, true, true, true, true, true, true, true, true, true, true, false, false, false] rfl rfl (one_of HT_.out (by kernel_rfl)) (by decide) (fun K hK => ?_)
                refine goes_ Try.func49 (by kernel_rfl) rfl #[.agg #[.bool ((rd_T24 l0_1 1).f0), .slice A420_1 ((rd_T24 l0_1 1).f1).length c420_1]] (by rfl) rfl rfl (by (try simp only [List.map_toArray, List.map_cons, List.map_nil]); first | done | rfl | (simp only [List.length_drop, List.length_take]; rfl)) ?_
                with_reducible refine (ih k (by omega) ((rd_T24 l0_1 1).f0) _ _ ((rd_T24 l0_1 1).f1) t421 _ ?side1 ?side2 A8.out).mono ?_
                (case side1 => repeat (first | exact (Kd.C_below HR420_1.out HB.out) | (with_reducible refine Kd.C_alloc ?_ _) | (with_reducible refine Kd.C_drewN ?_ _) | (with_reducible refine Kd.C_drew ?_)))
                (case side2 => exact HC420_1.out)
                rintro e w15 ⟨rfl, hb⟩
                refine ⟨_, rfl, ?_⟩
                have n0_ := Aside0.mk (blk_below (g := gb417) (o := .cells #[.bool a0_0, .slice (some ad418) l0_1.length c0_1] 24 (0, 0)) (by (with_reducible repeat (first | refine blk_drewN ?_ _ | refine blk_drew ?_ | refine blk_alloc ?_ _)); exact BK417.out) hb)
                have n1_ := Aside0.mk (below_step (by repeat (first | (with_reducible first | exact HB.out | apply below_alloc | apply pw_below_drewN | apply below_drew1 | refine below_set ?_ GE417.out) | exact HB.out)) hb)
                clear BK417
                clear HB
                have BK417 := n0_
                have HB := n1_
                clear n0_ n1_
                (try clear hb)
                (try clear hb2)
                (try clear hk)
                (try clear hi)
                refine hK.out _ _ ⟨(blk_cell BK417.out 0).trans rfl, (blk_cell BK417.out 1).trans rfl, ((HB.out.cell (World.block_lt_of_cell? w _ hw418_0)).trans hw418_0), ((HB.out.cell (World.block_lt_of_cell? w _ hw418_1)).trans hw418_1), ((HB.out.cell (World.block_lt_of_cell? w _ hw420_0)).trans hw420_0), ((HB.out.cell (World.block_lt_of_cell? w _ hw420_1)).trans hw420_1)⟩ (fun hHeld => ?_)
                clear hK K
                refine norm_ (a' := ?_) ?_ ?_
                rotate_left
                · show Act.put _ (some 18) _ = _
                  simp only [Act.put, List.setIfInBounds_toArray, List.set_cons_zero, List.set_cons_succ, i64_w, i32_w]
                  rfl
                refine pure_ (i := 12) (N := some 19) (v := ?_) (a' := ?_) #[true, true, true, true, true, true, true, true, true, true, true, true, true, false, false] rfl rfl (any_of HT_.out (by kernel_rfl)) (fun _ _ _ h => h) (Or.inl ⟨by rfl, ?_⟩) ?_ ?_
                rotate_left
                · intro w'
                  go_simp
                  with_reducible rfl
                rotate_left
                · simp only [Act.put, List.setIfInBounds_toArray, List.set_cons_zero, List.set_cons_succ, i64_w, i32_w]
                  rfl
                refine pure_ (i := 13) (N := some 20) (v := ?_) (a' := ?_) #[true, true, true, true, true, true, true, true, true, true, true, true, true, true, false] rfl rfl (any_of HT_.out (by kernel_rfl)) (fun _ _ _ h => h) (Or.inl ⟨by rfl, ?_⟩) ?_ ?_
                rotate_left
                · intro w'
                  go_simp
                  with_reducible rfl
                rotate_left
                · simp only [Act.put, List.setIfInBounds_toArray, List.set_cons_zero, List.set_cons_succ, i64_w, i32_w]
                  rfl
                refine pure_ (i := 14) (N := some 2) (v := ?_) (a' := ?_) #[true, true, true, true, true, true, true, true, true, true, true, true, true, true, true] rfl rfl (any_of HT_.out (by kernel_rfl)) (fun _ _ _ h => h) (Or.inl ⟨by rfl, ?_⟩) ?_ ?_
                rotate_left
                · intro w'
                  go_simp
                  with_reducible rfl
                rotate_left
                · simp only [Act.put, List.setIfInBounds_toArray, List.set_cons_zero, List.set_cons_succ, i64_w, i32_w]
                  rfl
                refine done_ (done_of HT_.out (by kernel_rfl)) ?_
                try go_wp2
                go_ret
                exact ⟨by first | rfl | (simp [errW_none, errW_some] <;> rfl) | (simp [*, errW_none, errW_some] <;> rfl), by repeat (first | (with_reducible first | exact HB.out | apply below_alloc | apply pw_below_drewN | apply below_drew1 | refine below_set ?_ GE417.out) | exact HB.out)⟩
              · rw [if_neg c10] at H
                exact absurd H (by simp)
            · rw [if_neg c9] at H
              exact absurd H (by simp)
          · rw [if_neg c7] at H
            exact absurd H (by simp)
        · rw [if_neg c6] at H
          exact absurd H (by simp)
      · rw [if_neg c5] at H
        exact absurd H (by simp)
    · rw [if_neg c3] at H
      exact absurd H (by simp)
  · rw [if_neg c2] at H
    have c2b0 : ((l0_1.length : Int) == 2) = false := beq_eq_false_iff_ne.mpr c2
    have c2b1 : ((l0_1.length : Int) != 2) = true := bne_iff_ne.mpr c2
    by_cases c16 : a0_0 = true
    · subst c16
      have H1 : (some (⟨#[49]⟩ : ByteArray)) = some r := by rw [if_pos rfl] at H; exact H
      clear H
      have H := H1
      clear H1
      obtain rfl := Option.some.inj H
      go_enter Try.func49, Try.ntmps49
      go_wp2_with (first | ((with_reducible refine gate_dst (N := 1) rfl ?_); refine box_event ?hg (N := 1) ?hd (cs := #[.bool true, .slice A0_1 l0_1.length c0_1]) (t := 24) ?hr ?_; (case hd => rfl); (case hg => rfl); (case hr => first | (go_simp; done) | (go_simp; rfl)); intro gb417 hg w17 hbox hb; have n0_ := Aside0.mk (below_step (by repeat (first | (with_reducible first | exact HB.out | apply below_alloc | apply pw_below_drewN | apply below_drew1) | exact HB.out)) hb); have n1_ := Aside0.mk (hbox); have n2_ := Aside0.mk ((by rw [hg]; exact (below_size (by repeat (first | (with_reducible first | exact HB.out | apply below_alloc | apply pw_below_drewN | apply below_drew1) | exact HB.out))) : w.heap.size ≤ gb417)); have n3_ := Aside0.mk ((by rw [hg]; exact (below_size (by repeat (first | (with_reducible first | exact HB.out | apply below_alloc | apply pw_below_drewN | apply below_drew1) | exact HB.out))) : w.heap.size ≤ gb417)); clear HB; have HB := n0_; have BK417 := n1_; have GW417 := n2_; have GE417 := n3_; clear n0_ n1_ n2_ n3_; clear hb hbox hg; have hcz18_0 : w17.cell? ⟨gb417, 0, none⟩ = some (.bool true) := (blk_cell BK417.out 0).trans rfl; have hcz18_1 : w17.cell? ⟨gb417, 1, none⟩ = some (.slice A0_1 l0_1.length c0_1) := (blk_cell BK417.out 1).trans rfl; have hfz18_0 := blk_frozen BK417.out 0; have hfz18_1 := blk_frozen BK417.out 1))
      go_ret
      exact ⟨by first | rfl | (simp [errW_none, errW_some] <;> rfl) | (simp [*, errW_none, errW_some] <;> rfl), by repeat (first | (with_reducible first | exact HB.out | apply below_alloc | apply pw_below_drewN | apply below_drew1 | refine below_set ?_ GE417.out) | exact HB.out)⟩
    · replace c16 := Bool.eq_false_iff.mpr c16
      subst c16
      have H1 : (some (⟨#[48]⟩ : ByteArray)) = some r := by rw [if_neg (show ¬ (false = true) by decide)] at H; exact H
      clear H
      have H := H1
      clear H1
      obtain rfl := Option.some.inj H
      go_enter Try.func49, Try.ntmps49
      go_wp2_with (first | ((with_reducible refine gate_dst (N := 1) rfl ?_); refine box_event ?hg (N := 1) ?hd (cs := #[.bool false, .slice A0_1 l0_1.length c0_1]) (t := 24) ?hr ?_; (case hd => rfl); (case hg => rfl); (case hr => first | (go_simp; done) | (go_simp; rfl)); intro gb417 hg w19 hbox hb; have n0_ := Aside0.mk (below_step (by repeat (first | (with_reducible first | exact HB.out | apply below_alloc | apply pw_below_drewN | apply below_drew1) | exact HB.out)) hb); have n1_ := Aside0.mk (hbox); have n2_ := Aside0.mk ((by rw [hg]; exact (below_size (by repeat (first | (with_reducible first | exact HB.out | apply below_alloc | apply pw_below_drewN | apply below_drew1) | exact HB.out))) : w.heap.size ≤ gb417)); have n3_ := Aside0.mk ((by rw [hg]; exact (below_size (by repeat (first | (with_reducible first | exact HB.out | apply below_alloc | apply pw_below_drewN | apply below_drew1) | exact HB.out))) : w.heap.size ≤ gb417)); clear HB; have HB := n0_; have BK417 := n1_; have GW417 := n2_; have GE417 := n3_; clear n0_ n1_ n2_ n3_; clear hb hbox hg; have hcz20_0 : w19.cell? ⟨gb417, 0, none⟩ = some (.bool false) := (blk_cell BK417.out 0).trans rfl; have hcz20_1 : w19.cell? ⟨gb417, 1, none⟩ = some (.slice A0_1 l0_1.length c0_1) := (blk_cell BK417.out 1).trans rfl; have hfz20_0 := blk_frozen BK417.out 0; have hfz20_1 := blk_frozen BK417.out 1))
      go_ret
      exact ⟨by first | rfl | (simp [errW_none, errW_some] <;> rfl) | (simp [*, errW_none, errW_some] <;> rfl), by repeat (first | (with_reducible first | exact HB.out | apply below_alloc | apply pw_below_drewN | apply below_drew1 | refine below_set ?_ GE417.out) | exact HB.out)⟩

end Go.Proofs.Ytlhaofbncoijfaa.X
