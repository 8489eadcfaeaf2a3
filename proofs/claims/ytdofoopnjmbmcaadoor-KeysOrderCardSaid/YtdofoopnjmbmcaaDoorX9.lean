-- Written by a program of this session (xprint.py) out of the translation; Lean checks it.
import Derived.Test.YtdofoopnjmbmcaaDoorX0
import Derived.Test.YtdofoopnjmbmcaaDoorHandL
namespace Go.Proofs.YtdofoopnjmbmcaaDoor.X
open Go.RowKit Go.Proofs.YtdofoopnjmbmcaaDoorW.PrintWords Go.Proofs.YtdofoopnjmbmcaaDoorW.PrintLast Go.Proofs.YtdofoopnjmbmcaaDoorW.PrintMore Go.Proofs.YtdofoopnjmbmcaaDoor.HandF
attribute [local go_sem] max2_int min2_int max_two min_two max_three min_three max_four min_four   -- for this text's walks alone
set_option linter.unusedVariables false
set_option linter.unusedSimpArgs false

/-! ### pannierlaw03_shown: function 9 -/
def pannierlaw03_shown.f  : Option (Bool) := (keys_Lay.f (([(⟨false, 1, (⟨#[]⟩ : ByteArray)⟩ : S41), (⟨true, 0, (⟨#[97]⟩ : ByteArray)⟩ : S41)] : List (S41)))).bind fun bt106 => (if bt106.2 = 0 then (some (bt106.1.toList == ([1, 0, 0, 0, 0, 0, 0, 0, 1, 2, 97, 0, 1] : List UInt8))) else (some false))
set_option maxHeartbeats 8000000 in
set_option maxRecDepth 100000 in
theorem pannierlaw03_shown.calls  (r : Bool) (w : World) (h : pannierlaw03_shown.f  = some r) :
    Calls Tryd.prog 9 #[] w fun e w' => e = .returned (.bool r) ∧ Below w.heap.size w w' := by
  have hu41 := Tryd.underlying41
  have HB := Aside0.mk (Below.refl w.heap.size w)
  have H : ((keys_Lay.f (([(⟨false, 1, (⟨#[]⟩ : ByteArray)⟩ : S41), (⟨true, 0, (⟨#[97]⟩ : ByteArray)⟩ : S41)] : List (S41)))).bind fun bt106 => (if bt106.2 = 0 then (some (bt106.1.toList == ([1, 0, 0, 0, 0, 0, 0, 0, 1, 2, 97, 0, 1] : List UInt8))) else (some false))) = some r := h
  clear h
  obtain ⟨y103, hy103⟩ : ∃ y_ : List (S41), y_ = (([(⟨false, 1, (⟨#[]⟩ : ByteArray)⟩ : S41), (⟨true, 0, (⟨#[97]⟩ : ByteArray)⟩ : S41)] : List (S41))) := ⟨_, rfl⟩
  replace H : ((keys_Lay.f y103).bind fun bt106 => (if bt106.2 = 0 then (some (bt106.1.toList == ([1, 0, 0, 0, 0, 0, 0, 0, 1, 2, 97, 0, 1] : List UInt8))) else (some false))) = some r := by first | (rw [hy103]; with_reducible exact H) | (have H2_ := (Option.bind_some _ _).symm.trans H; rw [hy103]; with_reducible exact H2_) | (have H2_ := (Option.bind_some _ _).symm.trans H; with_reducible exact H2_) | with_reducible exact H | (rw [hy103]; exact H) | exact H
  have Ny103 := Aside0.mk hy103
  clear hy103
  replace H := Option.bind_eq_some_iff.mp H
  obtain ⟨⟨t106, t107⟩, A10, H⟩ := H
  replace H : (if t107 = 0 then (some (t106.toList == ([1, 0, 0, 0, 0, 0, 0, 0, 1, 2, 97, 0, 1] : List UInt8))) else (some false)) = some r := H
  have A1 := Aside0.mk A10
  clear A10
  by_cases c2 : t107 = 0
  · rw [if_pos c2] at H
    have c2b0 : (t107 == 0) = true := beq_iff_eq.mpr c2
    have c2b1 : (t107 != 0) = false := bne_eq_false_iff_eq.mpr c2
    clear c2
    obtain rfl := Option.some.inj H
    go_enter Tryd.func9, Tryd.ntmps9
    go_wp2_with (first | ((with_reducible refine gate_dst (N := 6) rfl ?_); refine Kd.R_lit k41 _ 41 ?hg (N := 6) ?hd (xs := ([(⟨false, 1, (⟨#[]⟩ : ByteArray)⟩ : S41), (⟨true, 0, (⟨#[97]⟩ : ByteArray)⟩ : S41)] : List (S41))) (inner := [.bool false, .int .u64 1, .string (⟨#[]⟩ : ByteArray), .bool true, .int .u64 0, .string (⟨#[97]⟩ : ByteArray)]) (ok := fun _ => True) (okp := fun _ => True) ?hr ?hp (fun _ hk => hk) trivial (Below.refl _ _) (Nat.le_refl _) (by simp) ?_; (case hd => rfl); (case hg => rfl); (case hr => first | (go_simp; done) | (go_simp; rfl)); (case hp => exact (Reps.c3 (show Kd.M k41 _ _ _ (⟨false, 1, (⟨#[]⟩ : ByteArray)⟩ : S41) [.bool false, .int .u64 1, .string (⟨#[]⟩ : ByteArray)] from (k41_mkM _ _ _ (⟨false, 1, (⟨#[]⟩ : ByteArray)⟩ : S41) )) (Reps.c3 (show Kd.M k41 _ _ _ (⟨true, 0, (⟨#[97]⟩ : ByteArray)⟩ : S41) [.bool true, .int .u64 0, .string (⟨#[97]⟩ : ByteArray)] from (k41_mkM _ _ _ (⟨true, 0, (⟨#[97]⟩ : ByteArray)⟩ : S41) )) (Reps.none _ _)))); intro v104 w3 ho4 hb hg_ hnew_; clear hg_ hnew_; (first | rw [← Ny103.out] at ho4 | (simp only [Int.reduceToNat] at ho4; rw [← Ny103.out] at ho4)); have n0_ := Aside0.mk (Kd.R_lower ho4 (below_size (by repeat (first | (with_reducible first | exact HB.out | apply below_alloc | apply pw_below_drewN | apply below_drew1) | exact HB.out)))); have n1_ := Aside0.mk (below_step (by repeat (first | (with_reducible first | exact HB.out | apply below_alloc | apply pw_below_drewN | apply below_drew1) | exact HB.out)) hb); clear HB; have HO105 := n0_; have HB := n1_; clear n0_ n1_; clear hb ho4; obtain ⟨Ao5, co5, eo5⟩ := Kd.R_slice HO105.out; subst eo5) | ((with_reducible refine gate_callee (f := 13) rfl ?_); refine goesL_ (some 7) rfl rfl Tryd.func13 (by kernel_rfl) rfl #[.slice Ao5 y103.length co5] rfl (by (try simp only [List.map_toArray, List.map_cons, List.map_nil]); first | done | rfl | (simp only [List.length_drop, List.length_take]; rfl)) ?_; (with_reducible refine (keys_Lay.calls _ _ y103 t106 t107 _ ?side1 ?side2 A1.out).mono ?_); (case side1 => repeat (first | exact (Kd.R_reads' HO105.out).2.2 | (with_reducible refine Kd.C_alloc ?_ _) | (with_reducible refine Kd.C_drewN ?_ _) | (with_reducible refine Kd.C_drew ?_))); (case side2 => exact (Kd.R_reads' HO105.out).2.1); rintro e w6 ⟨rfl, hb⟩; refine ⟨_, rfl, ?_⟩; have n0_ := Aside0.mk (Kd.R_below (by (with_reducible repeat (first | apply Kd.R_alloc | apply Kd.R_drewN | apply Kd.R_drew)); exact HO105.out) hb); have n1_ := Aside0.mk (below_step (by repeat (first | (with_reducible first | exact HB.out | apply below_alloc | apply pw_below_drewN | apply below_drew1) | exact HB.out)) hb); clear HO105; clear HB; have HO105 := n0_; have HB := n1_; clear n0_ n1_; (try clear hb); (try clear hb2); (try clear hk); (try clear hi)))
    go_ret
    exact ⟨by first | rfl | (simp [errW_none, errW_some] <;> rfl) | (simp [*, errW_none, errW_some] <;> rfl), by repeat (first | (with_reducible first | exact HB.out | apply below_alloc | apply pw_below_drewN | apply below_drew1) | exact HB.out)⟩
  · rw [if_neg c2] at H
    have c2b0 : (t107 == 0) = false := beq_eq_false_iff_ne.mpr c2
    have c2b1 : (t107 != 0) = true := bne_iff_ne.mpr c2
    obtain rfl := Option.some.inj H
    go_enter Tryd.func9, Tryd.ntmps9
    go_wp2_with (first | ((with_reducible refine gate_dst (N := 6) rfl ?_); refine Kd.R_lit k41 _ 41 ?hg (N := 6) ?hd (xs := ([(⟨false, 1, (⟨#[]⟩ : ByteArray)⟩ : S41), (⟨true, 0, (⟨#[97]⟩ : ByteArray)⟩ : S41)] : List (S41))) (inner := [.bool false, .int .u64 1, .string (⟨#[]⟩ : ByteArray), .bool true, .int .u64 0, .string (⟨#[97]⟩ : ByteArray)]) (ok := fun _ => True) (okp := fun _ => True) ?hr ?hp (fun _ hk => hk) trivial (Below.refl _ _) (Nat.le_refl _) (by simp) ?_; (case hd => rfl); (case hg => rfl); (case hr => first | (go_simp; done) | (go_simp; rfl)); (case hp => exact (Reps.c3 (show Kd.M k41 _ _ _ (⟨false, 1, (⟨#[]⟩ : ByteArray)⟩ : S41) [.bool false, .int .u64 1, .string (⟨#[]⟩ : ByteArray)] from (k41_mkM _ _ _ (⟨false, 1, (⟨#[]⟩ : ByteArray)⟩ : S41) )) (Reps.c3 (show Kd.M k41 _ _ _ (⟨true, 0, (⟨#[97]⟩ : ByteArray)⟩ : S41) [.bool true, .int .u64 0, .string (⟨#[97]⟩ : ByteArray)] from (k41_mkM _ _ _ (⟨true, 0, (⟨#[97]⟩ : ByteArray)⟩ : S41) )) (Reps.none _ _)))); intro v104 w7 ho8 hb hg_ hnew_; clear hg_ hnew_; (first | rw [← Ny103.out] at ho8 | (simp only [Int.reduceToNat] at ho8; rw [← Ny103.out] at ho8)); have n0_ := Aside0.mk (Kd.R_lower ho8 (below_size (by repeat (first | (with_reducible first | exact HB.out | apply below_alloc | apply pw_below_drewN | apply below_drew1) | exact HB.out)))); have n1_ := Aside0.mk (below_step (by repeat (first | (with_reducible first | exact HB.out | apply below_alloc | apply pw_below_drewN | apply below_drew1) | exact HB.out)) hb); clear HB; have HO105 := n0_; have HB := n1_; clear n0_ n1_; clear hb ho8; obtain ⟨Ao9, co9, eo9⟩ := Kd.R_slice HO105.out; subst eo9) | ((with_reducible refine gate_callee (f := 13) rfl ?_); refine goesL_ (some 7) rfl rfl Tryd.func13 (by kernel_rfl) rfl #[.slice Ao9 y103.length co9] rfl (by (try simp only [List.map_toArray, List.map_cons, List.map_nil]); first | done | rfl | (simp only [List.length_drop, List.length_take]; rfl)) ?_; (with_reducible refine (keys_Lay.calls _ _ y103 t106 t107 _ ?side1 ?side2 A1.out).mono ?_); (case side1 => repeat (first | exact (Kd.R_reads' HO105.out).2.2 | (with_reducible refine Kd.C_alloc ?_ _) | (with_reducible refine Kd.C_drewN ?_ _) | (with_reducible refine Kd.C_drew ?_))); (case side2 => exact (Kd.R_reads' HO105.out).2.1); rintro e w10 ⟨rfl, hb⟩; refine ⟨_, rfl, ?_⟩; have n0_ := Aside0.mk (Kd.R_below (by (with_reducible repeat (first | apply Kd.R_alloc | apply Kd.R_drewN | apply Kd.R_drew)); exact HO105.out) hb); have n1_ := Aside0.mk (below_step (by repeat (first | (with_reducible first | exact HB.out | apply below_alloc | apply pw_below_drewN | apply below_drew1) | exact HB.out)) hb); clear HO105; clear HB; have HO105 := n0_; have HB := n1_; clear n0_ n1_; (try clear hb); (try clear hb2); (try clear hk); (try clear hi)))
    go_ret
    exact ⟨by first | rfl | (simp [errW_none, errW_some] <;> rfl) | (simp [*, errW_none, errW_some] <;> rfl), by repeat (first | (with_reducible first | exact HB.out | apply below_alloc | apply pw_below_drewN | apply below_drew1) | exact HB.out)⟩

end Go.Proofs.YtdofoopnjmbmcaaDoor.X
