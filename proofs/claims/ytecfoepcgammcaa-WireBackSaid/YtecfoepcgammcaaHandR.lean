/- A contract by hand: the reference's Number. -/
import Derived.Test.YtecfoepcgammcaaNumRef
import Derived.Test.YtecfoepcgammcaaBlocks
import Derived.WalkSpells
import Derived.WalkMore
import Derived.Lib.Hide
namespace Go.Proofs.Ytecfoepcgammcaa.HandF
set_option linter.unusedVariables false
set_option linter.unusedSimpArgs false
open Go.RowKit Go.Proofs.Ytecfoepcgammcaa.X Go.Proofs.Ytecfoepcgammcaa.Blocks
open Go.Proofs.YtecfoepcgammcaaW.PrintWords Go.Proofs.YtecfoepcgammcaaW.PrintLast Go.Proofs.YtecfoepcgammcaaW.PrintMore

def pannierref02_Number.f (l0 : List Int) (a1 : Int) : Option (List Int) :=
  if 0 ≤ a1 ∧ a1 < 18446744073709551616 ∧ l0.length + 9 < 140737488355328 then some (l0 ++ Math.numB a1.toNat) else none

theorem own_made0 (W : World) (base n : Nat) (h : base ≤ W.heap.size) (hn : n ≤ 281474976710656) : (W.alloc (.cells (madeCells #[.int .u8 0] n) 5)).ownsRow base 5 1 (.slice (some ⟨W.heap.size, 0, none⟩) 0 n) ([] : List Int).length (encs (Value.int .u8) []) :=
  World.ownsRow_made W _ n h (by unfold maxLen; omega) (by rw [size_madeCells]; simp)

set_option maxRecDepth 100000 in
set_option maxHeartbeats 2000000 in
theorem pannierref02_Number.calls (A0 : Option Addr) (c0 : Nat) (l0 : List Int) (a1 : Int) (r1 : List Int) (w : World) (hr0 : Kd.C (Kd.int .u8) w A0 l0.length l0) (hc0 : l0.length ≤ c0) (h : pannierref02_Number.f l0 a1 = some r1) :
    Calls Try.prog 17 #[.slice A0 l0.length c0, .int .u64 a1] w fun e w' => ∃ v0_ : Value, e = .returned v0_ ∧ Kd.R (Kd.int .u8) 5 w' w.heap.size (fun _ => True) v0_ r1 ∧ Below w.heap.size w w' := by
  unfold pannierref02_Number.f at h
  by_cases c1 : 0 ≤ a1 ∧ a1 < 18446744073709551616 ∧ l0.length + 9 < 140737488355328
  · rw [if_pos c1] at h
    obtain ⟨g1, g2, g3⟩ := c1
    obtain ⟨n, rfl⟩ := Int.eq_ofNat_of_zero_le g1
    rw [Int.toNat_natCast] at h
    have H := Aside0.mk (Option.some.inj h)
    have HR0 := Aside0.mk hr0
    have hn : n < 18446744073709551616 := by omega
    have HN := Aside0.mk hn
    clear h hr0 g1 g2
    obtain ⟨kf, hkf⟩ := Math.follow_ev hn
    have HF := Aside0.mk (hkf kf (Nat.le_refl _))
    dsimp only at HF
    clear hkf hn
    have he8 := Math.ex_le n
    obtain ⟨ek, hek⟩ : ∃ ek, Math.ex n = ek := ⟨_, rfl⟩
    have HE := Aside0.mk hek
    rw [hek] at he8 HF
    clear hek
    obtain ⟨i0, hi0, hz0, hz1, hz2⟩ := info_parts info5
    have hmk : ∀ W : World, (Instr.makeSlice 22 (.int .i64 0) (.int .i64 ((l0.length : Int) + 9))).run Try.prog W = .ok (.slice (some ⟨W.heap.size, 0, none⟩) 0 (l0.length + 9)) (W.alloc (.cells (madeCells #[.int .u8 0] (l0.length + 9)) 5)) := fun W => by
      have := run_make (P := Try.prog) W 22 5 i0 (.int .u8 0) Try.underlying22 hi0 hz0 .i64 .i64 0 ((l0.length : Int) + 9) (Int.le_refl _) (by omega) (by rw [hz2]; omega) (by omega)
      rw [hz1] at this
      rw [this, show ((l0.length : Int) + 9).toNat = l0.length + 9 by omega]
      simp [Value.cells]
    go_enter Try.func17, Try.ntmps17
    go_wp2_with (first | (at_builtin; refine print_append_row_of (w0 := w) (Value.int .u8) 0 w.heap.size rfl _ _ 22 5 (.int .u8 0) 1 rfl Try.underlying22 info5 rfl (by decide) (fun _ => rfl) _ [] l0 A0 l0.length c0 rfl rfl (own_made0 w _ _ (Nat.le_refl _) (by omega)) (Kd.reads_of_C (d := 0) (h1 := fun _ => rfl) (Kd.C_alloc HR0.out _)) ((Below.refl _ _).alloc (Nat.le_refl _) _) (by simp) (by simp only [List.length_nil]; omega) ?_; intro v1 w1 hown1 hb1 _ _; have Hown := Aside0.mk hown1; have HB := Aside0.mk hb1; clear hown1 hb1) | (go_at_call 30; (with_reducible refine (pannierref02_follow.calls kf (n : Int) _ _ HF.out).mono ?_); rintro e w' ⟨rfl, ⟨nd, rfl⟩⟩))
    have HO1 : Aside0 ((w1.drewN nd).ownsRow w.heap.size 5 1 v1 l0.length (nums .u8 l0)) := ⟨pw_own_drewN Hown.out nd⟩
    have HB1 := Aside0.mk (pw_below_drewN HB.out nd)
    clear Hown HB
    obtain ⟨w2, hw2⟩ : ∃ w2, w1.drewN nd = w2 := ⟨_, rfl⟩
    rw [hw2] at HO1 HB1 ⊢
    clear hw2
    obtain ⟨A1, cA1, rfl⟩ := own_slice HO1.out
    go_loopw [7, 8] (fun v7 v8 wr => ∃ i : Nat, v7 = .int .u8 ((256 - 2 ^ (8 - i) : Nat) : Int) ∧ v8 = .int .i64 (i : Int) ∧ wr = w2 ∧ i ≤ ek) (fun _ v8 _ => ek - (intOf v8).toNat)
    case atStart => exact ⟨0, rfl, rfl, rfl, Nat.zero_le _⟩
    case round =>
      obtain ⟨i, rfl, rfl, rfl, hi⟩ := hrel
      by_cases h1 : i < ek
      · have d1 : decide (i < ek) = true := decide_eq_true h1
        have i0' : (0 : Int) ≤ (i : Int) := Int.natCast_nonneg i
        have i8 : (i : Int) < 8 := by omega
        have HS := Aside0.mk (Math.ones_step ⟨i, by omega⟩)
        have H1 := Aside0.mk h1
        clear h1
        go_wp2
        go_roundw
        case rel => exact ⟨i + 1, by rw [← HS.out], rfl, trivial, by have := H1.out; omega⟩
        case measure => have := H1.out; simp [intOf] <;> omega
      · have d1 : decide (i < ek) = false := decide_eq_false h1
        obtain rfl : ek = i := by omega
        clear h1 hi
        have hB1 := HB1.out.size
        by_cases hk : ek < 8
        · have k1 : decide ((ek : Int) < 8) = true := decide_eq_true (by omega)
          have ht := Math.top_lt HN.out (by rw [HE.out]; exact hk)
          rw [HE.out] at ht
          have hfirst : Aside0 (Go.bits .or .u8 ((256 - 2 ^ (8 - ek) : Nat) : Int) ((n : Int) / 2 ^ (8 * ek) % 256) = ((256 - 2 ^ (8 - ek) + n / 256 ^ ek : Nat) : Int)) := ⟨by
            have e1 : ((n : Int) / 2 ^ (8 * ek) % 256) = ((n / 256 ^ ek : Nat) : Int) := by
              have hs : (2 : Nat) ^ (7 - ek) ≤ 128 := Nat.pow_le_pow_right (show 0 < 2 by decide) (show 7 - ek ≤ 7 by omega)
              rw [show ((n : Int) / 2 ^ (8 * ek)) = ((n / 256 ^ ek : Nat) : Int) by rw [show (256 : Nat) ^ ek = 2 ^ (8 * ek) by rw [Nat.pow_mul]]; simp]
              generalize n / 256 ^ ek = y at ht
              omega
            rw [e1]; exact Math.mark_or hk ht⟩
          clear ht hk
          go_wp2_with (at_builtin; refine print_append_num (w0 := w) w.heap.size rfl _ _ 22 5 .u8 1 rfl Try.underlying22 info5 (by decide) (.slice A1 l0.length cA1) l0 _ rfl rfl HO1.out HB1.out hB1 (by omega) ?_; intro v2 w2 hown2 hb2 hg2 hat2; have HO2 := Aside0.mk hown2; have HB2 := Aside0.mk hb2; clear hown2 hb2 hg2 hat2)
          have HO3 : Aside0 (w2.ownsRow w.heap.size 5 1 v2 (l0 ++ [((256 - 2 ^ (8 - ek) + n / 256 ^ ek : Nat) : Int)]).length (nums .u8 (l0 ++ [((256 - 2 ^ (8 - ek) + n / 256 ^ ek : Nat) : Int)]))) := ⟨by have := HO2.out; rw [hfirst.out] at this; exact this⟩
          clear HO2
          go_loopw [5, 9] (fun v5 v9 wr => ∃ (d : Nat) (xs : List Int), v9 = .int .i64 ((d : Int) - 1) ∧ d ≤ 8 ∧ Aside0 (xs ++ Math.be d n = r1) ∧ Aside0 (xs.length + d ≤ l0.length + 9) ∧ Aside0 (wr.ownsRow w.heap.size 5 1 v5 xs.length (nums .u8 xs)) ∧ Aside0 (Below w.heap.size w wr)) (fun _ v9 _ => (intOf v9 + 1).toNat)
          case atStart => exact ⟨ek, _, rfl, he8, ⟨by rw [← H.out, Math.numB_cons HN.out, HE.out, List.append_assoc]; rfl⟩, ⟨by rw [List.length_append, List.length_singleton]; omega⟩, HO3, HB2⟩
          case round =>
            obtain ⟨d, xs, rfl, hd, HX, HL, HOx, HBx⟩ := hrel
            cases d with
            | zero =>
              obtain rfl : xs = r1 := by have := HX.out; rw [Math.be, List.append_nil] at this; exact this
              clear HX HL
              go_wp2
              go_ret
              exact ⟨_, rfl, Kd.R_of_own HOx.out (fun _ _ => trivial), HBx.out⟩
            | succ m =>
              have hM : Aside0 (((m + 1 : Nat) : Int) - 1 = (m : Int)) := ⟨by omega⟩
              rw [hM.out]
              have hBx := HBx.out.size
              have hlx : xs.length + 1 ≤ 140737488355328 := by have := HL.out; omega
              obtain ⟨A3, c3, rfl⟩ := own_slice HOx.out
              have hy : Aside0 ((n : Int) / 2 ^ (8 * m) % 256 = ((n / 256 ^ m % 256 : Nat) : Int)) := ⟨by rw [show (256 : Nat) ^ m = 2 ^ (8 * m) by rw [Nat.pow_mul]]; simp⟩
              go_wp2_with (at_builtin; refine print_append_num (w0 := w) w.heap.size rfl _ _ 22 5 .u8 1 rfl Try.underlying22 info5 (by decide) (.slice A3 xs.length c3) xs _ rfl rfl HOx.out HBx.out hBx (by omega) ?_; intro v4 w4 hown4 hb4 hg4 hat4; have HO4 := Aside0.mk hown4; have HB4 := Aside0.mk hb4; clear hown4 hb4 hg4 hat4)
              go_roundw
              case rel => exact ⟨m, _, rfl, by omega, ⟨by have := HX.out; rw [Math.be] at this; rw [hy.out, List.append_assoc]; exact this⟩, ⟨by have := HL.out; rw [List.length_append, List.length_singleton]; omega⟩, HO4, HB4⟩
              case measure => simp [intOf] <;> omega
        · have k1 : decide ((ek : Int) < 8) = false := decide_eq_false (by omega)
          have ht := Math.top_8 HN.out (by rw [HE.out]; omega)
          rw [HE.out] at ht
          have hfirst : Aside0 (((256 - 2 ^ (8 - ek) : Nat) : Int) = ((256 - 2 ^ (8 - ek) + n / 256 ^ ek : Nat) : Int)) := ⟨by rw [ht, Nat.add_zero]⟩
          clear ht hk
          go_wp2_with (at_builtin; refine print_append_num (w0 := w) w.heap.size rfl _ _ 22 5 .u8 1 rfl Try.underlying22 info5 (by decide) (.slice A1 l0.length cA1) l0 _ rfl rfl HO1.out HB1.out hB1 (by omega) ?_; intro v2 w2 hown2 hb2 hg2 hat2; have HO2 := Aside0.mk hown2; have HB2 := Aside0.mk hb2; clear hown2 hb2 hg2 hat2)
          have HO3 : Aside0 (w2.ownsRow w.heap.size 5 1 v2 (l0 ++ [((256 - 2 ^ (8 - ek) + n / 256 ^ ek : Nat) : Int)]).length (nums .u8 (l0 ++ [((256 - 2 ^ (8 - ek) + n / 256 ^ ek : Nat) : Int)]))) := ⟨by have := HO2.out; rw [hfirst.out] at this; exact this⟩
          clear HO2
          go_loopw [5, 9] (fun v5 v9 wr => ∃ (d : Nat) (xs : List Int), v9 = .int .i64 ((d : Int) - 1) ∧ d ≤ 8 ∧ Aside0 (xs ++ Math.be d n = r1) ∧ Aside0 (xs.length + d ≤ l0.length + 9) ∧ Aside0 (wr.ownsRow w.heap.size 5 1 v5 xs.length (nums .u8 xs)) ∧ Aside0 (Below w.heap.size w wr)) (fun _ v9 _ => (intOf v9 + 1).toNat)
          case atStart => exact ⟨ek, _, rfl, he8, ⟨by rw [← H.out, Math.numB_cons HN.out, HE.out, List.append_assoc]; rfl⟩, ⟨by rw [List.length_append, List.length_singleton]; omega⟩, HO3, HB2⟩
          case round =>
            obtain ⟨d, xs, rfl, hd, HX, HL, HOx, HBx⟩ := hrel
            cases d with
            | zero =>
              obtain rfl : xs = r1 := by have := HX.out; rw [Math.be, List.append_nil] at this; exact this
              clear HX HL
              go_wp2
              go_ret
              exact ⟨_, rfl, Kd.R_of_own HOx.out (fun _ _ => trivial), HBx.out⟩
            | succ m =>
              have hM : Aside0 (((m + 1 : Nat) : Int) - 1 = (m : Int)) := ⟨by omega⟩
              rw [hM.out]
              have hBx := HBx.out.size
              have hlx : xs.length + 1 ≤ 140737488355328 := by have := HL.out; omega
              obtain ⟨A3, c3, rfl⟩ := own_slice HOx.out
              have hy : Aside0 ((n : Int) / 2 ^ (8 * m) % 256 = ((n / 256 ^ m % 256 : Nat) : Int)) := ⟨by rw [show (256 : Nat) ^ m = 2 ^ (8 * m) by rw [Nat.pow_mul]]; simp⟩
              go_wp2_with (at_builtin; refine print_append_num (w0 := w) w.heap.size rfl _ _ 22 5 .u8 1 rfl Try.underlying22 info5 (by decide) (.slice A3 xs.length c3) xs _ rfl rfl HOx.out HBx.out hBx (by omega) ?_; intro v4 w4 hown4 hb4 hg4 hat4; have HO4 := Aside0.mk hown4; have HB4 := Aside0.mk hb4; clear hown4 hb4 hg4 hat4)
              go_roundw
              case rel => exact ⟨m, _, rfl, by omega, ⟨by have := HX.out; rw [Math.be] at this; rw [hy.out, List.append_assoc]; exact this⟩, ⟨by have := HL.out; rw [List.length_append, List.length_singleton]; omega⟩, HO4, HB4⟩
              case measure => simp [intOf] <;> omega
  · rw [if_neg c1] at h
    cases h
end Go.Proofs.Ytecfoepcgammcaa.HandF
