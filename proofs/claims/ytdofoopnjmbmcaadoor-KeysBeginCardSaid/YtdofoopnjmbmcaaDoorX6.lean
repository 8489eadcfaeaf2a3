-- Written by a program of this session (xprint.py) out of the translation; Lean checks it.
import Derived.Test.YtdofoopnjmbmcaaDoorX0
import Derived.Test.YtdofoopnjmbmcaaDoorX9
import Derived.Test.YtdofoopnjmbmcaaDoorHandB
import Derived.Test.YtdofoopnjmbmcaaDoorHandL
namespace Go.Proofs.YtdofoopnjmbmcaaDoor.X
open Go.RowKit Go.Proofs.YtdofoopnjmbmcaaDoorW.PrintWords Go.Proofs.YtdofoopnjmbmcaaDoorW.PrintLast Go.Proofs.YtdofoopnjmbmcaaDoorW.PrintMore Go.Proofs.YtdofoopnjmbmcaaDoor.HandF
attribute [local go_sem] max2_int min2_int max_two min_two max_three min_three max_four min_four   -- for this text's walks alone
set_option linter.unusedVariables false
set_option linter.unusedSimpArgs false

/-! ### pannierlaw03_KeysBegin: function 6 -/
def pannierlaw03_KeysBegin.j0 : Nat → List (S41) → Int → Bool → ByteArray → Bool → Option (Bool)
  | 0, _, _, _, _, _ => none
  | k + 1, x0, x1, x5, x6, x29 => if x29 = true then (some x5) else (if 0 ≤ x1 then (if x1 ≤ (x0.length : Int) then ((keys_Lay.f (x0.take (x1 : Int).toNat)).bind fun bt169 => ((keys_Behind.f bt169.1).bind fun bt171 => (if x5 = true then (if bt169.2 = 0 then (if bt171.2 = true then (if (bt169.1.size : Int) ≤ (x6.size : Int) then (if 0 ≤ (bt169.1.size : Int) then (if (x6.extract 0 ((bt169.1.size : Int) : Int).toNat).toList = bt169.1.toList then (some (Op.bytesLess x6.toList bt171.1.toList)) else (some false)) else (none)) else (some false)) else (some false)) else (some false)) else (some false)))) else (none)) else (none))
def pannierlaw03_KeysBegin.f (k : Nat) (l0 : List (S41)) (a1 : Int) : Option (Bool) := (pannierlaw03_shown.f).bind fun t162 => ((keys_Lay.f l0).bind fun bt163 => (if bt163.2 = 0 then (if a1 < 1 then (pannierlaw03_KeysBegin.j0 k l0 a1 t162 bt163.1 true) else (pannierlaw03_KeysBegin.j0 k l0 a1 t162 bt163.1 (decide (a1 > (l0.length : Int))))) else (pannierlaw03_KeysBegin.j0 k l0 a1 t162 bt163.1 true)))
theorem pannierlaw03_KeysBegin.mono_l : ∀ k, (∀ y0 y1 y2 y3 y4, LeO (pannierlaw03_KeysBegin.j0 k y0 y1 y2 y3 y4) (pannierlaw03_KeysBegin.j0 (k + 1) y0 y1 y2 y3 y4))
  | 0 => fun _ _ _ _ _ r h => by simp [pannierlaw03_KeysBegin.j0] at h
  | k + 1 => by
    have ih0 := pannierlaw03_KeysBegin.mono_l k
    · intro y0 y1 y2 y3 y4
      unfold pannierlaw03_KeysBegin.j0
      repeat' first
      | (with_reducible exact ih0 _ _ _ _ _)
      | (with_reducible exact LeO.refl _)
      | (with_reducible exact LeO.none _)
      | (with_reducible refine LeO.ite ?_ ?_)
      | (with_reducible refine LeO.bind ?_ (fun _ => ?_))
      | exact ih0 _ _ _ _ _
      | exact LeO.none _
      | refine LeO.ite ?_ ?_
      | refine LeO.bind ?_ (fun _ => ?_)
theorem pannierlaw03_KeysBegin.mono : ∀ a0 a1 k, LeO (pannierlaw03_KeysBegin.f k a0 a1) (pannierlaw03_KeysBegin.f (k + 1) a0 a1) := by
  intro a0 a1 k
  have ih0 := pannierlaw03_KeysBegin.mono_l k
  unfold pannierlaw03_KeysBegin.f
  repeat' first
      | (with_reducible exact ih0 _ _ _ _ _)
      | (with_reducible exact LeO.refl _)
      | (with_reducible exact LeO.none _)
      | (with_reducible refine LeO.ite ?_ ?_)
      | (with_reducible refine LeO.bind ?_ (fun _ => ?_))
      | exact ih0 _ _ _ _ _
      | exact LeO.none _
      | refine LeO.ite ?_ ?_
      | refine LeO.bind ?_ (fun _ => ?_)
set_option maxHeartbeats 8000000 in
set_option maxRecDepth 100000 in
theorem pannierlaw03_KeysBegin.calls (k : Nat) (A0 : Option Addr) (c0 : Nat) (l0 : List (S41)) (a1 : Int) (r : Bool) (w : World) (hr0 : Kd.C k41 w A0 l0.length l0) (hc0 : l0.length ≤ c0) (h : pannierlaw03_KeysBegin.f k l0 a1 = some r) :
    Calls Tryd.prog 6 #[.slice A0 l0.length c0, .int .i64 a1] w fun e w' => e = .returned (.bool r) ∧ Below w.heap.size w w' := by
  have HR0 := Aside0.mk hr0
  have HC0 := Aside0.mk hc0
  clear hr0 hc0
  have HB := Aside0.mk (Below.refl w.heap.size w)
  have H : ((pannierlaw03_shown.f).bind fun t162 => ((keys_Lay.f l0).bind fun bt163 => (if bt163.2 = 0 then (if a1 < 1 then (pannierlaw03_KeysBegin.j0 k l0 a1 t162 bt163.1 true) else (pannierlaw03_KeysBegin.j0 k l0 a1 t162 bt163.1 (decide (a1 > (l0.length : Int))))) else (pannierlaw03_KeysBegin.j0 k l0 a1 t162 bt163.1 true)))) = some r := h
  clear h
  replace H := Option.bind_eq_some_iff.mp H
  obtain ⟨t162, A30, H⟩ := H
  replace H : ((keys_Lay.f l0).bind fun bt163 => (if bt163.2 = 0 then (if a1 < 1 then (pannierlaw03_KeysBegin.j0 k l0 a1 t162 bt163.1 true) else (pannierlaw03_KeysBegin.j0 k l0 a1 t162 bt163.1 (decide (a1 > (l0.length : Int))))) else (pannierlaw03_KeysBegin.j0 k l0 a1 t162 bt163.1 true))) = some r := H
  have A3 := Aside0.mk A30
  clear A30
  replace H := Option.bind_eq_some_iff.mp H
  obtain ⟨⟨t163, t164⟩, A40, H⟩ := H
  replace H : (if t164 = 0 then (if a1 < 1 then (pannierlaw03_KeysBegin.j0 k l0 a1 t162 t163 true) else (pannierlaw03_KeysBegin.j0 k l0 a1 t162 t163 (decide (a1 > (l0.length : Int))))) else (pannierlaw03_KeysBegin.j0 k l0 a1 t162 t163 true)) = some r := H
  have A4 := Aside0.mk A40
  clear A40
  have HC5 := Aside0.mk H
  clear H
  go_enter Tryd.func6, Tryd.ntmps6
  go_upto_region 3 with (first | ((with_reducible refine gate_callee (f := 9) rfl ?_); refine goesL_ (some 12) rfl rfl Tryd.func9 (by kernel_rfl) rfl #[] rfl (by (try simp only [List.map_toArray, List.map_cons, List.map_nil]); first | done | rfl | (simp only [List.length_drop, List.length_take]; rfl)) ?_; (with_reducible refine (pannierlaw03_shown.calls  t162 _ A3.out).mono ?_); rintro e w6 ⟨rfl, hb⟩; refine ⟨_, rfl, ?_⟩; have n0_ := Aside0.mk (below_step (by repeat (first | (with_reducible first | exact HB.out | apply below_alloc | apply pw_below_drewN | apply below_drew1) | exact HB.out)) hb); clear HB; have HB := n0_; clear n0_; (try clear hb); (try clear hb2); (try clear hk); (try clear hi)) | ((with_reducible refine gate_callee (f := 13) rfl ?_); refine goesL_ (some 15) rfl rfl Tryd.func13 (by kernel_rfl) rfl #[.slice A0 l0.length c0] rfl (by (try simp only [List.map_toArray, List.map_cons, List.map_nil]); first | done | rfl | (simp only [List.length_drop, List.length_take]; rfl)) ?_; (with_reducible refine (keys_Lay.calls _ _ l0 t163 t164 _ ?side1 ?side2 A4.out).mono ?_); (case side1 => repeat (first | exact (Kd.C_below HR0.out HB.out) | (with_reducible refine Kd.C_alloc ?_ _) | (with_reducible refine Kd.C_drewN ?_ _) | (with_reducible refine Kd.C_drew ?_))); (case side2 => exact HC0.out); rintro e w7 ⟨rfl, hb⟩; refine ⟨_, rfl, ?_⟩; have n0_ := Aside0.mk (below_step (by repeat (first | (with_reducible first | exact HB.out | apply below_alloc | apply pw_below_drewN | apply below_drew1) | exact HB.out)) hb); clear HB; have HB := n0_; clear n0_; (try clear hb); (try clear hb2); (try clear hk); (try clear hi)))
  (try simp only [Act.put, List.setIfInBounds_toArray, List.set_cons_zero, List.set_cons_succ])
  go_cut [29] (fun v29 wc => ∃ (kq : Nat) (x29_4 : Bool), v29 = .bool x29_4 ∧ Aside0 (pannierlaw03_KeysBegin.j0 kq l0 a1 t162 t163 x29_4 = some r) ∧ Aside0 (kq ≤ k) ∧ Aside0 (Below w.heap.size w wc))
  case first =>
    have H := HC5.out
    clear HC5
    by_cases c8 : t164 = 0
    · rw [if_pos c8] at H
      have c8b0 : (t164 == 0) = true := beq_iff_eq.mpr c8
      have c8b1 : (t164 != 0) = false := bne_eq_false_iff_eq.mpr c8
      clear c8
      (first | rw [c8b0] | (simp only [i64_w, i32_w]; rw [c8b0]) | skip)
      by_cases c9 : a1 < 1
      · rw [if_pos c9] at H
        have c9b0 : decide (a1 < 1) = true := decide_eq_true c9
        clear c9
        have H' := Aside0.mk H
        clear H
        go_wp2
        go_meet
        case rel => exact ⟨_, (true), (by first | rfl | (simp; done) | (simp [*]; done)), H', ⟨by first | omega | exact Nat.le_refl _⟩, ⟨by repeat (first | (with_reducible first | exact HB.out | apply below_alloc | apply pw_below_drewN | apply below_drew1) | exact HB.out)⟩⟩
      · rw [if_neg c9] at H
        have c9b0 : decide (a1 < 1) = false := decide_eq_false c9
        clear c9
        have H' := Aside0.mk H
        clear H
        go_wp2
        go_meet
        case rel => exact ⟨_, (decide (a1 > (l0.length : Int))), (by first | rfl | (simp; done) | (simp [*]; done)), H', ⟨by first | omega | exact Nat.le_refl _⟩, ⟨by repeat (first | (with_reducible first | exact HB.out | apply below_alloc | apply pw_below_drewN | apply below_drew1) | exact HB.out)⟩⟩
    · rw [if_neg c8] at H
      have c8b0 : (t164 == 0) = false := beq_eq_false_iff_ne.mpr c8
      have c8b1 : (t164 != 0) = true := bne_iff_ne.mpr c8
      (first | rw [c8b0] | (simp only [i64_w, i32_w]; rw [c8b0]) | skip)
      have H' := Aside0.mk H
      clear H
      go_wp2
      go_meet
      case rel => exact ⟨_, (true), (by first | rfl | (simp; done) | (simp [*]; done)), H', ⟨by first | omega | exact Nat.le_refl _⟩, ⟨by repeat (first | (with_reducible first | exact HB.out | apply below_alloc | apply pw_below_drewN | apply below_drew1) | exact HB.out)⟩⟩
  case rest =>
    clear HC5
    try clear c1
    try clear p2
    try clear c6
    try clear c8
    try clear c8b0
    try clear c8b1
    try clear c9
    try clear c9b0
    obtain ⟨kq, x29_4, rfl, HA, HJ4, HB⟩ := hcut
    cases kq with
    | zero => exact absurd HA.out (by simp [pannierlaw03_KeysBegin.j0])
    | succ kj4 =>
      have H := HA.out
      clear HA
      simp only [pannierlaw03_KeysBegin.j0] at H
      by_cases c10 : x29_4 = true
      · subst c10
        have H1 : (some t162) = some r := by rw [if_pos rfl] at H; exact H
        clear H
        have H := H1
        clear H1
        obtain rfl := Option.some.inj H
        go_wp2
        go_ret
        exact ⟨by first | rfl | (simp [errW_none, errW_some] <;> rfl) | (simp [*, errW_none, errW_some] <;> rfl), by repeat (first | (with_reducible first | exact HB.out | apply below_alloc | apply pw_below_drewN | apply below_drew1) | exact HB.out)⟩
      · replace c10 := Bool.eq_false_iff.mpr c10
        subst c10
        have H1 : (if 0 ≤ a1 then (if a1 ≤ (l0.length : Int) then ((keys_Lay.f (l0.take (a1 : Int).toNat)).bind fun bt169 => ((keys_Behind.f bt169.1).bind fun bt171 => (if t162 = true then (if bt169.2 = 0 then (if bt171.2 = true then (if (bt169.1.size : Int) ≤ (t163.size : Int) then (if 0 ≤ (bt169.1.size : Int) then (if (t163.extract 0 ((bt169.1.size : Int) : Int).toNat).toList = bt169.1.toList then (some (Op.bytesLess t163.toList bt171.1.toList)) else (some false)) else (none)) else (some false)) else (some false)) else (some false)) else (some false)))) else (none)) else (none)) = some r := by rw [if_neg (show ¬ (false = true) by decide)] at H; exact H
        clear H
        have H := H1
        clear H1
        by_cases c11 : 0 ≤ a1
        · rw [if_pos c11] at H
          have c11b0 := eq_true c11
          have c11b1 : decide (0 ≤ a1) = true := decide_eq_true c11
          clear c11
          by_cases c12 : a1 ≤ (l0.length : Int)
          · rw [if_pos c12] at H
            have c12b0 := eq_true c12
            have c12b1 : decide (a1 ≤ (l0.length : Int)) = true := decide_eq_true c12
            clear c12
            obtain ⟨y165, hy165⟩ : ∃ y_ : List (S41), y_ = (l0.take (a1 : Int).toNat) := ⟨_, rfl⟩
            replace H : ((keys_Lay.f y165).bind fun bt169 => ((keys_Behind.f bt169.1).bind fun bt171 => (if t162 = true then (if bt169.2 = 0 then (if bt171.2 = true then (if (bt169.1.size : Int) ≤ (t163.size : Int) then (if 0 ≤ (bt169.1.size : Int) then (if (t163.extract 0 ((bt169.1.size : Int) : Int).toNat).toList = bt169.1.toList then (some (Op.bytesLess t163.toList bt171.1.toList)) else (some false)) else (none)) else (some false)) else (some false)) else (some false)) else (some false)))) = some r := by first | (rw [hy165]; with_reducible exact H) | (have H2_ := (Option.bind_some _ _).symm.trans H; rw [hy165]; with_reducible exact H2_) | (have H2_ := (Option.bind_some _ _).symm.trans H; with_reducible exact H2_) | with_reducible exact H | (rw [hy165]; exact H) | exact H
            have Ny165 := Aside0.mk hy165
            clear hy165
            replace H := Option.bind_eq_some_iff.mp H
            obtain ⟨⟨t169, t170⟩, A130, H⟩ := H
            replace H : ((keys_Behind.f t169).bind fun bt171 => (if t162 = true then (if t170 = 0 then (if bt171.2 = true then (if (t169.size : Int) ≤ (t163.size : Int) then (if 0 ≤ (t169.size : Int) then (if (t163.extract 0 ((t169.size : Int) : Int).toNat).toList = t169.toList then (some (Op.bytesLess t163.toList bt171.1.toList)) else (some false)) else (none)) else (some false)) else (some false)) else (some false)) else (some false))) = some r := H
            have A13 := Aside0.mk A130
            clear A130
            replace H := Option.bind_eq_some_iff.mp H
            obtain ⟨⟨t171, t172⟩, A140, H⟩ := H
            replace H : (if t162 = true then (if t170 = 0 then (if t172 = true then (if (t169.size : Int) ≤ (t163.size : Int) then (if 0 ≤ (t169.size : Int) then (if (t163.extract 0 ((t169.size : Int) : Int).toNat).toList = t169.toList then (some (Op.bytesLess t163.toList t171.toList)) else (some false)) else (none)) else (some false)) else (some false)) else (some false)) else (some false)) = some r := H
            have A14 := Aside0.mk A140
            clear A140
            by_cases c15 : t162 = true
            · subst c15
              have H1 : (if t170 = 0 then (if t172 = true then (if (t169.size : Int) ≤ (t163.size : Int) then (if 0 ≤ (t169.size : Int) then (if (t163.extract 0 ((t169.size : Int) : Int).toNat).toList = t169.toList then (some (Op.bytesLess t163.toList t171.toList)) else (some false)) else (none)) else (some false)) else (some false)) else (some false)) = some r := by rw [if_pos rfl] at H; exact H
              clear H
              have H := H1
              clear H1
              by_cases c16 : t170 = 0
              · rw [if_pos c16] at H
                have c16b0 : (t170 == 0) = true := beq_iff_eq.mpr c16
                have c16b1 : (t170 != 0) = false := bne_eq_false_iff_eq.mpr c16
                clear c16
                by_cases c17 : t172 = true
                · subst c17
                  have H1 : (if (t169.size : Int) ≤ (t163.size : Int) then (if 0 ≤ (t169.size : Int) then (if (t163.extract 0 ((t169.size : Int) : Int).toNat).toList = t169.toList then (some (Op.bytesLess t163.toList t171.toList)) else (some false)) else (none)) else (some false)) = some r := by rw [if_pos rfl] at H; exact H
                  clear H
                  have H := H1
                  clear H1
                  by_cases c18 : (t169.size : Int) ≤ (t163.size : Int)
                  · rw [if_pos c18] at H
                    have c18b0 : decide ((t169.size : Int) ≤ (t163.size : Int)) = true := decide_eq_true c18
                    have c18b1 : decide (t169.size ≤ t163.size) = true := decide_eq_true (Int.ofNat_le.mp c18)
                    clear c18
                    by_cases c19 : 0 ≤ (t169.size : Int)
                    · rw [if_pos c19] at H
                      have c19b0 := eq_true c19
                      have c19b1 : decide (0 ≤ (t169.size : Int)) = true := decide_eq_true c19
                      clear c19
                      have c20b0 := eq_true (of_decide_eq_true (by first | (with_reducible assumption) | assumption) : (t169.size : Int) ≤ (t163.size : Int))
                      by_cases c21 : (t163.extract 0 ((t169.size : Int) : Int).toNat).toList = t169.toList
                      · rw [if_pos c21] at H
                        have c21b0 : ((t163.extract 0 ((t169.size : Int) : Int).toNat).toList == t169.toList) = true := beq_iff_eq.mpr c21
                        have c21b7 : ((t163.extract 0 t169.size).toList == t169.toList) = true := by have h9 := c21b0; rw [Int.toNat_natCast] at h9; exact h9
                        have c21b1 : ((t163.extract 0 ((t169.size : Int) : Int).toNat).toList != t169.toList) = false := bne_eq_false_iff_eq.mpr c21
                        have c21b8 : ((t163.extract 0 t169.size).toList != t169.toList) = false := by have h9 := c21b1; rw [Int.toNat_natCast] at h9; exact h9
                        clear c21
                        obtain rfl := Option.some.inj H
                        have q22 : (a1 : Int) ≤ ((l0.length : Int) : Int) := of_decide_eq_true (by first | (with_reducible assumption) | assumption)
                        obtain ⟨i022, hi022, _, hsz22, _⟩ := info_parts info41
                        have hroom22 : l0.length ≤ c0 := HC0.out
                        have hC22 : Kd.C k41 _ A0 l0.length l0 := HR0.out
                        have hcut22 := cut_to (P := Tryd.prog) 22 41 .i64 Tryd.underlying22 hi022 A0 l0.length c0 a1 (of_decide_eq_true (by first | (with_reducible assumption) | assumption)) q22 hroom22
                        have hr22 := Kd.C_take (m := (a1 : Int).toNat) hC22 (by omega)
                        have hy22 : y165.length = (a1 : Int).toNat := (by rw [Ny165.out, List.length_take]; omega)
                        rw [← Ny165.out] at hr22
                        rw [← hy22] at hcut22
                        have HR168 := Aside0.mk hr22
                        have HC168 := Aside0.mk (show y165.length ≤ c0 from by omega)
                        clear hr22 hC22 hroom22 hi022 hsz22
                        have KY22 := Aside0.mk hy22
                        clear hy22
                        replace q22 := eq_true q22
                        go_wp2_with (first | ((with_reducible refine gate_callee (f := 13) rfl ?_); refine goesL_ (some 35) rfl rfl Tryd.func13 (by kernel_rfl) rfl #[.slice A0 y165.length c0] rfl (by (try simp only [List.map_toArray, List.map_cons, List.map_nil]); first | done | rfl | (simp only [List.length_drop, List.length_take]; rfl)) ?_; (with_reducible refine (keys_Lay.calls _ _ y165 t169 t170 _ ?side1 ?side2 A13.out).mono ?_); (case side1 => repeat (first | exact (Kd.C_below HR168.out HB.out) | (with_reducible refine Kd.C_alloc ?_ _) | (with_reducible refine Kd.C_drewN ?_ _) | (with_reducible refine Kd.C_drew ?_))); (case side2 => exact HC168.out); rintro e w23 ⟨rfl, hb⟩; refine ⟨_, rfl, ?_⟩; have n0_ := Aside0.mk (below_step (by repeat (first | (with_reducible first | exact HB.out | apply below_alloc | apply pw_below_drewN | apply below_drew1) | exact HB.out)) hb); clear HB; have HB := n0_; clear n0_; (try clear hb); (try clear hb2); (try clear hk); (try clear hi)) | ((with_reducible refine gate_callee (f := 16) rfl ?_); refine goesL_ (some 40) rfl rfl Tryd.func16 (by kernel_rfl) rfl #[.string t169] rfl (by (try simp only [List.map_toArray, List.map_cons, List.map_nil]); first | done | rfl | (simp only [List.length_drop, List.length_take]; rfl)) ?_; (with_reducible refine (keys_Behind.calls t169 t171 true _ A14.out).mono ?_); rintro e w24 ⟨rfl, hb⟩; refine ⟨_, rfl, ?_⟩; have n0_ := Aside0.mk (below_step (by repeat (first | (with_reducible first | exact HB.out | apply below_alloc | apply pw_below_drewN | apply below_drew1) | exact HB.out)) hb); clear HB; have HB := n0_; clear n0_; (try clear hb); (try clear hb2); (try clear hk); (try clear hi)))
                        go_ret
                        exact ⟨by first | rfl | (simp [errW_none, errW_some] <;> rfl) | (simp [*, errW_none, errW_some] <;> rfl), by repeat (first | (with_reducible first | exact HB.out | apply below_alloc | apply pw_below_drewN | apply below_drew1) | exact HB.out)⟩
                      · rw [if_neg c21] at H
                        have c21b0 : ((t163.extract 0 ((t169.size : Int) : Int).toNat).toList == t169.toList) = false := beq_eq_false_iff_ne.mpr c21
                        have c21b7 : ((t163.extract 0 t169.size).toList == t169.toList) = false := by have h9 := c21b0; rw [Int.toNat_natCast] at h9; exact h9
                        have c21b1 : ((t163.extract 0 ((t169.size : Int) : Int).toNat).toList != t169.toList) = true := bne_iff_ne.mpr c21
                        have c21b8 : ((t163.extract 0 t169.size).toList != t169.toList) = true := by have h9 := c21b1; rw [Int.toNat_natCast] at h9; exact h9
                        obtain rfl := Option.some.inj H
                        have q25 : (a1 : Int) ≤ ((l0.length : Int) : Int) := of_decide_eq_true (by first | (with_reducible assumption) | assumption)
                        obtain ⟨i025, hi025, _, hsz25, _⟩ := info_parts info41
                        have hroom25 : l0.length ≤ c0 := HC0.out
                        have hC25 : Kd.C k41 _ A0 l0.length l0 := HR0.out
                        have hcut25 := cut_to (P := Tryd.prog) 22 41 .i64 Tryd.underlying22 hi025 A0 l0.length c0 a1 (of_decide_eq_true (by first | (with_reducible assumption) | assumption)) q25 hroom25
                        have hr25 := Kd.C_take (m := (a1 : Int).toNat) hC25 (by omega)
                        have hy25 : y165.length = (a1 : Int).toNat := (by rw [Ny165.out, List.length_take]; omega)
                        rw [← Ny165.out] at hr25
                        rw [← hy25] at hcut25
                        have HR168 := Aside0.mk hr25
                        have HC168 := Aside0.mk (show y165.length ≤ c0 from by omega)
                        clear hr25 hC25 hroom25 hi025 hsz25
                        have KY25 := Aside0.mk hy25
                        clear hy25
                        replace q25 := eq_true q25
                        go_wp2_with (first | ((with_reducible refine gate_callee (f := 13) rfl ?_); refine goesL_ (some 35) rfl rfl Tryd.func13 (by kernel_rfl) rfl #[.slice A0 y165.length c0] rfl (by (try simp only [List.map_toArray, List.map_cons, List.map_nil]); first | done | rfl | (simp only [List.length_drop, List.length_take]; rfl)) ?_; (with_reducible refine (keys_Lay.calls _ _ y165 t169 t170 _ ?side1 ?side2 A13.out).mono ?_); (case side1 => repeat (first | exact (Kd.C_below HR168.out HB.out) | (with_reducible refine Kd.C_alloc ?_ _) | (with_reducible refine Kd.C_drewN ?_ _) | (with_reducible refine Kd.C_drew ?_))); (case side2 => exact HC168.out); rintro e w26 ⟨rfl, hb⟩; refine ⟨_, rfl, ?_⟩; have n0_ := Aside0.mk (below_step (by repeat (first | (with_reducible first | exact HB.out | apply below_alloc | apply pw_below_drewN | apply below_drew1) | exact HB.out)) hb); clear HB; have HB := n0_; clear n0_; (try clear hb); (try clear hb2); (try clear hk); (try clear hi)) | ((with_reducible refine gate_callee (f := 16) rfl ?_); refine goesL_ (some 40) rfl rfl Tryd.func16 (by kernel_rfl) rfl #[.string t169] rfl (by (try simp only [List.map_toArray, List.map_cons, List.map_nil]); first | done | rfl | (simp only [List.length_drop, List.length_take]; rfl)) ?_; (with_reducible refine (keys_Behind.calls t169 t171 true _ A14.out).mono ?_); rintro e w27 ⟨rfl, hb⟩; refine ⟨_, rfl, ?_⟩; have n0_ := Aside0.mk (below_step (by repeat (first | (with_reducible first | exact HB.out | apply below_alloc | apply pw_below_drewN | apply below_drew1) | exact HB.out)) hb); clear HB; have HB := n0_; clear n0_; (try clear hb); (try clear hb2); (try clear hk); (try clear hi)))
                        go_ret
                        exact ⟨by first | rfl | (simp [errW_none, errW_some] <;> rfl) | (simp [*, errW_none, errW_some] <;> rfl), by repeat (first | (with_reducible first | exact HB.out | apply below_alloc | apply pw_below_drewN | apply below_drew1) | exact HB.out)⟩
                    · rw [if_neg c19] at H
                      exact absurd H (by simp)
                  · rw [if_neg c18] at H
                    have c18b0 : decide ((t169.size : Int) ≤ (t163.size : Int)) = false := decide_eq_false c18
                    have c18b1 : decide (t169.size ≤ t163.size) = false := decide_eq_false (fun h => c18 (Int.ofNat_le.mpr h))
                    clear c18
                    obtain rfl := Option.some.inj H
                    have q28 : (a1 : Int) ≤ ((l0.length : Int) : Int) := of_decide_eq_true (by first | (with_reducible assumption) | assumption)
                    obtain ⟨i028, hi028, _, hsz28, _⟩ := info_parts info41
                    have hroom28 : l0.length ≤ c0 := HC0.out
                    have hC28 : Kd.C k41 _ A0 l0.length l0 := HR0.out
                    have hcut28 := cut_to (P := Tryd.prog) 22 41 .i64 Tryd.underlying22 hi028 A0 l0.length c0 a1 (of_decide_eq_true (by first | (with_reducible assumption) | assumption)) q28 hroom28
                    have hr28 := Kd.C_take (m := (a1 : Int).toNat) hC28 (by omega)
                    have hy28 : y165.length = (a1 : Int).toNat := (by rw [Ny165.out, List.length_take]; omega)
                    rw [← Ny165.out] at hr28
                    rw [← hy28] at hcut28
                    have HR168 := Aside0.mk hr28
                    have HC168 := Aside0.mk (show y165.length ≤ c0 from by omega)
                    clear hr28 hC28 hroom28 hi028 hsz28
                    have KY28 := Aside0.mk hy28
                    clear hy28
                    replace q28 := eq_true q28
                    go_wp2_with (first | ((with_reducible refine gate_callee (f := 13) rfl ?_); refine goesL_ (some 35) rfl rfl Tryd.func13 (by kernel_rfl) rfl #[.slice A0 y165.length c0] rfl (by (try simp only [List.map_toArray, List.map_cons, List.map_nil]); first | done | rfl | (simp only [List.length_drop, List.length_take]; rfl)) ?_; (with_reducible refine (keys_Lay.calls _ _ y165 t169 t170 _ ?side1 ?side2 A13.out).mono ?_); (case side1 => repeat (first | exact (Kd.C_below HR168.out HB.out) | (with_reducible refine Kd.C_alloc ?_ _) | (with_reducible refine Kd.C_drewN ?_ _) | (with_reducible refine Kd.C_drew ?_))); (case side2 => exact HC168.out); rintro e w29 ⟨rfl, hb⟩; refine ⟨_, rfl, ?_⟩; have n0_ := Aside0.mk (below_step (by repeat (first | (with_reducible first | exact HB.out | apply below_alloc | apply pw_below_drewN | apply below_drew1) | exact HB.out)) hb); clear HB; have HB := n0_; clear n0_; (try clear hb); (try clear hb2); (try clear hk); (try clear hi)) | ((with_reducible refine gate_callee (f := 16) rfl ?_); refine goesL_ (some 40) rfl rfl Tryd.func16 (by kernel_rfl) rfl #[.string t169] rfl (by (try simp only [List.map_toArray, List.map_cons, List.map_nil]); first | done | rfl | (simp only [List.length_drop, List.length_take]; rfl)) ?_; (with_reducible refine (keys_Behind.calls t169 t171 true _ A14.out).mono ?_); rintro e w30 ⟨rfl, hb⟩; refine ⟨_, rfl, ?_⟩; have n0_ := Aside0.mk (below_step (by repeat (first | (with_reducible first | exact HB.out | apply below_alloc | apply pw_below_drewN | apply below_drew1) | exact HB.out)) hb); clear HB; have HB := n0_; clear n0_; (try clear hb); (try clear hb2); (try clear hk); (try clear hi)))
                    go_ret
                    exact ⟨by first | rfl | (simp [errW_none, errW_some] <;> rfl) | (simp [*, errW_none, errW_some] <;> rfl), by repeat (first | (with_reducible first | exact HB.out | apply below_alloc | apply pw_below_drewN | apply below_drew1) | exact HB.out)⟩
                · replace c17 := Bool.eq_false_iff.mpr c17
                  subst c17
                  have H1 : (some false) = some r := by rw [if_neg (show ¬ (false = true) by decide)] at H; exact H
                  clear H
                  have H := H1
                  clear H1
                  obtain rfl := Option.some.inj H
                  have q31 : (a1 : Int) ≤ ((l0.length : Int) : Int) := of_decide_eq_true (by first | (with_reducible assumption) | assumption)
                  obtain ⟨i031, hi031, _, hsz31, _⟩ := info_parts info41
                  have hroom31 : l0.length ≤ c0 := HC0.out
                  have hC31 : Kd.C k41 _ A0 l0.length l0 := HR0.out
                  have hcut31 := cut_to (P := Tryd.prog) 22 41 .i64 Tryd.underlying22 hi031 A0 l0.length c0 a1 (of_decide_eq_true (by first | (with_reducible assumption) | assumption)) q31 hroom31
                  have hr31 := Kd.C_take (m := (a1 : Int).toNat) hC31 (by omega)
                  have hy31 : y165.length = (a1 : Int).toNat := (by rw [Ny165.out, List.length_take]; omega)
                  rw [← Ny165.out] at hr31
                  rw [← hy31] at hcut31
                  have HR168 := Aside0.mk hr31
                  have HC168 := Aside0.mk (show y165.length ≤ c0 from by omega)
                  clear hr31 hC31 hroom31 hi031 hsz31
                  have KY31 := Aside0.mk hy31
                  clear hy31
                  replace q31 := eq_true q31
                  go_wp2_with (first | ((with_reducible refine gate_callee (f := 13) rfl ?_); refine goesL_ (some 35) rfl rfl Tryd.func13 (by kernel_rfl) rfl #[.slice A0 y165.length c0] rfl (by (try simp only [List.map_toArray, List.map_cons, List.map_nil]); first | done | rfl | (simp only [List.length_drop, List.length_take]; rfl)) ?_; (with_reducible refine (keys_Lay.calls _ _ y165 t169 t170 _ ?side1 ?side2 A13.out).mono ?_); (case side1 => repeat (first | exact (Kd.C_below HR168.out HB.out) | (with_reducible refine Kd.C_alloc ?_ _) | (with_reducible refine Kd.C_drewN ?_ _) | (with_reducible refine Kd.C_drew ?_))); (case side2 => exact HC168.out); rintro e w32 ⟨rfl, hb⟩; refine ⟨_, rfl, ?_⟩; have n0_ := Aside0.mk (below_step (by repeat (first | (with_reducible first | exact HB.out | apply below_alloc | apply pw_below_drewN | apply below_drew1) | exact HB.out)) hb); clear HB; have HB := n0_; clear n0_; (try clear hb); (try clear hb2); (try clear hk); (try clear hi)) | ((with_reducible refine gate_callee (f := 16) rfl ?_); refine goesL_ (some 40) rfl rfl Tryd.func16 (by kernel_rfl) rfl #[.string t169] rfl (by (try simp only [List.map_toArray, List.map_cons, List.map_nil]); first | done | rfl | (simp only [List.length_drop, List.length_take]; rfl)) ?_; (with_reducible refine (keys_Behind.calls t169 t171 false _ A14.out).mono ?_); rintro e w33 ⟨rfl, hb⟩; refine ⟨_, rfl, ?_⟩; have n0_ := Aside0.mk (below_step (by repeat (first | (with_reducible first | exact HB.out | apply below_alloc | apply pw_below_drewN | apply below_drew1) | exact HB.out)) hb); clear HB; have HB := n0_; clear n0_; (try clear hb); (try clear hb2); (try clear hk); (try clear hi)))
                  go_ret
                  exact ⟨by first | rfl | (simp [errW_none, errW_some] <;> rfl) | (simp [*, errW_none, errW_some] <;> rfl), by repeat (first | (with_reducible first | exact HB.out | apply below_alloc | apply pw_below_drewN | apply below_drew1) | exact HB.out)⟩
              · rw [if_neg c16] at H
                have c16b0 : (t170 == 0) = false := beq_eq_false_iff_ne.mpr c16
                have c16b1 : (t170 != 0) = true := bne_iff_ne.mpr c16
                obtain rfl := Option.some.inj H
                have q34 : (a1 : Int) ≤ ((l0.length : Int) : Int) := of_decide_eq_true (by first | (with_reducible assumption) | assumption)
                obtain ⟨i034, hi034, _, hsz34, _⟩ := info_parts info41
                have hroom34 : l0.length ≤ c0 := HC0.out
                have hC34 : Kd.C k41 _ A0 l0.length l0 := HR0.out
                have hcut34 := cut_to (P := Tryd.prog) 22 41 .i64 Tryd.underlying22 hi034 A0 l0.length c0 a1 (of_decide_eq_true (by first | (with_reducible assumption) | assumption)) q34 hroom34
                have hr34 := Kd.C_take (m := (a1 : Int).toNat) hC34 (by omega)
                have hy34 : y165.length = (a1 : Int).toNat := (by rw [Ny165.out, List.length_take]; omega)
                rw [← Ny165.out] at hr34
                rw [← hy34] at hcut34
                have HR168 := Aside0.mk hr34
                have HC168 := Aside0.mk (show y165.length ≤ c0 from by omega)
                clear hr34 hC34 hroom34 hi034 hsz34
                have KY34 := Aside0.mk hy34
                clear hy34
                replace q34 := eq_true q34
                go_wp2_with (first | ((with_reducible refine gate_callee (f := 13) rfl ?_); refine goesL_ (some 35) rfl rfl Tryd.func13 (by kernel_rfl) rfl #[.slice A0 y165.length c0] rfl (by (try simp only [List.map_toArray, List.map_cons, List.map_nil]); first | done | rfl | (simp only [List.length_drop, List.length_take]; rfl)) ?_; (with_reducible refine (keys_Lay.calls _ _ y165 t169 t170 _ ?side1 ?side2 A13.out).mono ?_); (case side1 => repeat (first | exact (Kd.C_below HR168.out HB.out) | (with_reducible refine Kd.C_alloc ?_ _) | (with_reducible refine Kd.C_drewN ?_ _) | (with_reducible refine Kd.C_drew ?_))); (case side2 => exact HC168.out); rintro e w35 ⟨rfl, hb⟩; refine ⟨_, rfl, ?_⟩; have n0_ := Aside0.mk (below_step (by repeat (first | (with_reducible first | exact HB.out | apply below_alloc | apply pw_below_drewN | apply below_drew1) | exact HB.out)) hb); clear HB; have HB := n0_; clear n0_; (try clear hb); (try clear hb2); (try clear hk); (try clear hi)) | ((with_reducible refine gate_callee (f := 16) rfl ?_); refine goesL_ (some 40) rfl rfl Tryd.func16 (by kernel_rfl) rfl #[.string t169] rfl (by (try simp only [List.map_toArray, List.map_cons, List.map_nil]); first | done | rfl | (simp only [List.length_drop, List.length_take]; rfl)) ?_; (with_reducible refine (keys_Behind.calls t169 t171 t172 _ A14.out).mono ?_); rintro e w36 ⟨rfl, hb⟩; refine ⟨_, rfl, ?_⟩; have n0_ := Aside0.mk (below_step (by repeat (first | (with_reducible first | exact HB.out | apply below_alloc | apply pw_below_drewN | apply below_drew1) | exact HB.out)) hb); clear HB; have HB := n0_; clear n0_; (try clear hb); (try clear hb2); (try clear hk); (try clear hi)))
                go_ret
                exact ⟨by first | rfl | (simp [errW_none, errW_some] <;> rfl) | (simp [*, errW_none, errW_some] <;> rfl), by repeat (first | (with_reducible first | exact HB.out | apply below_alloc | apply pw_below_drewN | apply below_drew1) | exact HB.out)⟩
            · replace c15 := Bool.eq_false_iff.mpr c15
              subst c15
              have H1 : (some false) = some r := by rw [if_neg (show ¬ (false = true) by decide)] at H; exact H
              clear H
              have H := H1
              clear H1
              obtain rfl := Option.some.inj H
              have q37 : (a1 : Int) ≤ ((l0.length : Int) : Int) := of_decide_eq_true (by first | (with_reducible assumption) | assumption)
              obtain ⟨i037, hi037, _, hsz37, _⟩ := info_parts info41
              have hroom37 : l0.length ≤ c0 := HC0.out
              have hC37 : Kd.C k41 _ A0 l0.length l0 := HR0.out
              have hcut37 := cut_to (P := Tryd.prog) 22 41 .i64 Tryd.underlying22 hi037 A0 l0.length c0 a1 (of_decide_eq_true (by first | (with_reducible assumption) | assumption)) q37 hroom37
              have hr37 := Kd.C_take (m := (a1 : Int).toNat) hC37 (by omega)
              have hy37 : y165.length = (a1 : Int).toNat := (by rw [Ny165.out, List.length_take]; omega)
              rw [← Ny165.out] at hr37
              rw [← hy37] at hcut37
              have HR168 := Aside0.mk hr37
              have HC168 := Aside0.mk (show y165.length ≤ c0 from by omega)
              clear hr37 hC37 hroom37 hi037 hsz37
              have KY37 := Aside0.mk hy37
              clear hy37
              replace q37 := eq_true q37
              go_wp2_with (first | ((with_reducible refine gate_callee (f := 13) rfl ?_); refine goesL_ (some 35) rfl rfl Tryd.func13 (by kernel_rfl) rfl #[.slice A0 y165.length c0] rfl (by (try simp only [List.map_toArray, List.map_cons, List.map_nil]); first | done | rfl | (simp only [List.length_drop, List.length_take]; rfl)) ?_; (with_reducible refine (keys_Lay.calls _ _ y165 t169 t170 _ ?side1 ?side2 A13.out).mono ?_); (case side1 => repeat (first | exact (Kd.C_below HR168.out HB.out) | (with_reducible refine Kd.C_alloc ?_ _) | (with_reducible refine Kd.C_drewN ?_ _) | (with_reducible refine Kd.C_drew ?_))); (case side2 => exact HC168.out); rintro e w38 ⟨rfl, hb⟩; refine ⟨_, rfl, ?_⟩; have n0_ := Aside0.mk (below_step (by repeat (first | (with_reducible first | exact HB.out | apply below_alloc | apply pw_below_drewN | apply below_drew1) | exact HB.out)) hb); clear HB; have HB := n0_; clear n0_; (try clear hb); (try clear hb2); (try clear hk); (try clear hi)) | ((with_reducible refine gate_callee (f := 16) rfl ?_); refine goesL_ (some 40) rfl rfl Tryd.func16 (by kernel_rfl) rfl #[.string t169] rfl (by (try simp only [List.map_toArray, List.map_cons, List.map_nil]); first | done | rfl | (simp only [List.length_drop, List.length_take]; rfl)) ?_; (with_reducible refine (keys_Behind.calls t169 t171 t172 _ A14.out).mono ?_); rintro e w39 ⟨rfl, hb⟩; refine ⟨_, rfl, ?_⟩; have n0_ := Aside0.mk (below_step (by repeat (first | (with_reducible first | exact HB.out | apply below_alloc | apply pw_below_drewN | apply below_drew1) | exact HB.out)) hb); clear HB; have HB := n0_; clear n0_; (try clear hb); (try clear hb2); (try clear hk); (try clear hi)))
              go_ret
              exact ⟨by first | rfl | (simp [errW_none, errW_some] <;> rfl) | (simp [*, errW_none, errW_some] <;> rfl), by repeat (first | (with_reducible first | exact HB.out | apply below_alloc | apply pw_below_drewN | apply below_drew1) | exact HB.out)⟩
          · rw [if_neg c12] at H
            exact absurd H (by simp)
        · rw [if_neg c11] at H
          exact absurd H (by simp)

end Go.Proofs.YtdofoopnjmbmcaaDoor.X
