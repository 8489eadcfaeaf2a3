/- A contract by hand, in the printer's form: the reference's put. -/
import Derived.Test.YtecpmglijgpknaaHandF
import Derived.Test.YtecpmglijgpknaaMath
namespace Go.Proofs.Ytecpmglijgpknaa.HandF
set_option linter.unusedVariables false
set_option linter.unusedSimpArgs false
open Go.RowKit Go.Proofs.Ytecpmglijgpknaa.Blocks Go.Proofs.Ytecpmglijgpknaa.Hand Go.Proofs.Ytecpmglijgpknaa.X Go.Proofs.Ytecpmglijgpknaa.Math
open Go.Proofs.YtecpmglijgpknaaW.PrintWords Go.Proofs.YtecpmglijgpknaaW.PrintLast Go.Proofs.YtecpmglijgpknaaW.PrintMore

def pannierref01_put.f (l0 : List Int) (a1 a2 a3 : Int) : Option (List Int × Int) :=
  if 0 ≤ a1 ∧ (a1 + 7) / 8 = l0.length ∧ l0.length + 9 ≤ 140737488355328 ∧ 0 ≤ a3 ∧ a3 ≤ 64 ∧ 0 ≤ a2 ∧ a2 < 18446744073709551616 then
    some ((highs a2 a3.toNat).foldl stepB (l0, a1)) else none

theorem bitAt_nat (v m : Nat) (hv : v < 18446744073709551616) (hm : m < 64) : bitAt (v : Int) m = decide (v / 2 ^ m % 2 = 1) := by
  unfold bitAt
  have h1 : (2 : Nat) ^ m < 18446744073709551616 := by
    have := Nat.pow_lt_pow_right (show 1 < 2 by decide) hm
    exact this
  have e : IntKind.u64.wrap (2 ^ m) = ((2 ^ m : Nat) : Int) := by
    rw [IntKind.wrap_u64]
    have : ((2 : Int) ^ m) = ((2 ^ m : Nat) : Int) := by simp
    rw [this]
    generalize 2 ^ m = y at h1
    omega
  rw [e, u64_and_nat _ _ hv h1, nat_bit]
  have hp : 0 < 2 ^ m := Nat.pow_pos (by decide)
  have h2 : v / 2 ^ m % 2 < 2 := Nat.mod_lt _ (by decide)
  rcases Nat.lt_or_ge (v / 2 ^ m % 2) 1 with h | h
  · have : v / 2 ^ m % 2 = 0 := by omega
    rw [this]
    simp
  · have h3 : v / 2 ^ m % 2 = 1 := by omega
    rw [h3]
    have hp2 : ((2 : Int) ^ m) ≠ 0 := by
      have : ((2 ^ m : Nat) : Int) ≠ 0 := by omega
      simpa using this
    simp [hp2]

theorem ref_bit (v m : Nat) (hv : v < 18446744073709551616) : Go.bits .and .u64 ((v : Int) / 2 ^ m) 1 = ((v / 2 ^ m % 2 : Nat) : Int) := by
  have e : ((v : Int) / 2 ^ m) = ((v / 2 ^ m : Nat) : Int) := by simp
  rw [e, show (1 : Int) = ((1 : Nat) : Int) from rfl, u64_and_nat _ _ (Nat.lt_of_le_of_lt (Nat.div_le_self _ _) hv) (by decide), nat_mask1]

theorem own_made0 (W : World) (base n : Nat) (h : base ≤ W.heap.size) (hn : n ≤ 281474976710656) : (W.alloc (.cells (madeCells #[.int .u8 0] n) 5)).ownsRow base 5 1 (.slice (some ⟨W.heap.size, 0, none⟩) 0 n) ([] : List Int).length (encs (Value.int .u8) []) :=
  World.ownsRow_made W _ n h (by unfold maxLen; omega) (by rw [size_madeCells]; simp)

theorem ref_set {base g p cap : Nat} {w0 W : World} {zs : List Int} {q x : Int} (hl : zs.length = p + 1) (hq : q / 8 = (p : Int)) (HO : W.ownsRow base 5 1 (.slice (some ⟨g, 0, none⟩) (p + 1) cap) (p + 1) (nums .u8 zs)) (HB : Below base w0 W) :
    ((W.setCell ⟨g, (q / 8).toNat, none⟩ (.int .u8 x)).drew).ownsRow base 5 1 (.slice (some ⟨g, 0, none⟩) (p + 1) cap) (zs.set p x).length (nums .u8 (zs.set p x)) ∧ Below base w0 ((W.setCell ⟨g, (q / 8).toNat, none⟩ (.int .u8 x)).drew) := by
  have hst := (YtecpmglijgpknaaW.PrintWords.own_store HO (q / 8) x).1
  have hp : (q / 8).toNat = p := by omega
  have hb : base ≤ g := own_base HO g rfl
  rw [hp] at hst ⊢
  rw [List.length_set, hl]
  exact ⟨hst.drew, (HB.setCell (p := ⟨g, p, none⟩) hb _).drew⟩

theorem step_app {ys : List Int} {q : Int} (h : q % 8 = 0) (hq : q / 8 = (ys.length : Int)) :
    stepB (ys, q) true = ((ys ++ [0]).set ys.length (Go.bits .or .u8 (rd (ys ++ [0]) (q / 8)) 128), q + 1) ∧ stepB (ys, q) false = (ys ++ [0], q + 1) := by
  unfold stepB
  rw [if_pos h, hq]
  simp [h]

theorem step_same {ys : List Int} {p : Nat} {q : Int} (h : ¬ q % 8 = 0) (hl : ys.length = p + 1) (hq : q / 8 = (p : Int)) :
    stepB (ys, q) true = (ys.set p (Go.bits .or .u8 (rd ys (q / 8)) (128 / 2 ^ (q % 8).toNat)), q + 1) ∧ stepB (ys, q) false = (ys, q + 1) := by
  unfold stepB
  rw [if_neg h, hq]
  simp [hl]

set_option maxRecDepth 100000 in
set_option maxHeartbeats 2000000 in
theorem pannierref01_put.calls (A0 : Option Addr) (c0 : Nat) (l0 : List Int) (a1 a2 a3 : Int) (r1 : List Int) (r2 : Int) (w : World) (hr0 : Kd.C (Kd.int .u8) w A0 l0.length l0) (hc0 : l0.length ≤ c0) (h : pannierref01_put.f l0 a1 a2 a3 = some (r1, r2)) :
    Calls Try.prog 25 #[.slice A0 l0.length c0, .int .i64 a1, .int .u64 a2, .int .i64 a3] w fun e w' => ∃ v0_ : Value, e = .returned (.tuple #[v0_, .int .i64 r2]) ∧ Kd.R (Kd.int .u8) 5 w' w.heap.size (fun _ => True) v0_ r1 ∧ Below w.heap.size w w' := by
  unfold pannierref01_put.f at h
  by_cases c1 : 0 ≤ a1 ∧ (a1 + 7) / 8 = l0.length ∧ l0.length + 9 ≤ 140737488355328 ∧ 0 ≤ a3 ∧ a3 ≤ 64 ∧ 0 ≤ a2 ∧ a2 < 18446744073709551616
  · rw [if_pos c1] at h
    obtain ⟨g1, g2, g3, g4, g5, g6, g7⟩ := c1
    have H := Aside0.mk (Option.some.inj h)
    have HR0 := Aside0.mk hr0
    clear h hr0
    obtain ⟨v, rfl⟩ := Int.eq_ofNat_of_zero_le g6
    obtain ⟨wd, rfl⟩ := Int.eq_ofNat_of_zero_le g4
    have G2 := Aside0.mk g2
    have G7 : Aside0 (v < 18446744073709551616) := ⟨by omega⟩
    clear g2 g6 g4 g7
    obtain ⟨i0, hi0, hz0, hz1, hz2⟩ := info_parts info5
    have hmk : ∀ W : World, (Instr.makeSlice 22 (.int .i64 0) (.int .i64 ((l0.length : Int) + 9))).run Try.prog W = .ok (.slice (some ⟨W.heap.size, 0, none⟩) 0 (l0.length + 9)) (W.alloc (.cells (madeCells #[.int .u8 0] (l0.length + 9)) 5)) := fun W => by
      have := run_make (P := Try.prog) W 22 5 i0 (.int .u8 0) Try.underlying22 hi0 hz0 .i64 .i64 0 ((l0.length : Int) + 9) (Int.le_refl _) (by omega) (by rw [hz2]; omega) (by omega)
      rw [hz1] at this
      rw [this, show ((l0.length : Int) + 9).toNat = l0.length + 9 by omega]
      simp [Value.cells]
    go_enter Try.func25, Try.ntmps25
    go_wp2_with (at_builtin; refine print_append_row_of (w0 := w) (Value.int .u8) 0 w.heap.size rfl _ _ 22 5 (.int .u8 0) 1 rfl Try.underlying22 info5 rfl (by decide) (fun _ => rfl) _ [] l0 A0 l0.length c0 rfl rfl (own_made0 w _ _ (Nat.le_refl _) (by omega)) (Kd.reads_of_C (d := 0) (h1 := fun _ => rfl) (Kd.C_alloc HR0.out _)) ((Below.refl _ _).alloc (Nat.le_refl _) _) (by simp) (by simp only [List.length_nil]; omega) ?_; intro v1 w1 hown1 hb1 _ _; have Hown := Aside0.mk hown1; have HB := Aside0.mk hb1; clear hown1 hb1)
    go_loopw [1, 10, 11] (fun v1 v10 v11 wr => ∃ d : Nat, d ≤ wd ∧ v11 = .int .i64 ((d : Int) - 1) ∧ v1 = .int .i64 (((highs v wd).take (wd - d)).foldl stepB (l0, a1)).2 ∧
        Aside0 (wr.ownsRow w.heap.size 5 1 v10 (((highs v wd).take (wd - d)).foldl stepB (l0, a1)).1.length (nums .u8 (((highs v wd).take (wd - d)).foldl stepB (l0, a1)).1)) ∧ Aside0 (Below w.heap.size w wr))
      (fun _ _ v11 _ => (intOf v11 + 1).toNat)
    case atStart => exact ⟨wd, Nat.le_refl _, rfl, by rw [Nat.sub_self]; rfl, by rw [Nat.sub_self]; exact Hown, HB⟩
    case round =>
      obtain ⟨d, hd, rfl, rfl, HO, HBl⟩ := hrel
      have hinv := fold_inv ((highs v wd).take (wd - d)) (l0, a1) G2.out
      rw [List.length_take, highs_length, Nat.min_eq_left (by omega)] at hinv
      have hnext : ∀ m, d = m + 1 → ((highs v wd).take (wd - m)).foldl stepB (l0, a1) = stepB (((highs v wd).take (wd - d)).foldl stepB (l0, a1)) (bitAt v m) := by
        intro m hm
        have hx : (highs v wd)[wd - d]? = some (bitAt v (wd - 1 - (wd - d))) := highs_at (by omega)
        rw [show wd - m = (wd - d) + 1 by omega, List.take_add_one, hx, List.foldl_append, show wd - 1 - (wd - d) = m by omega]
        rfl
      have hend : d = 0 → ((highs v wd).take (wd - d)).foldl stepB (l0, a1) = (r1, r2) := by
        intro h0
        rw [h0, Nat.sub_zero, List.take_of_length_le (by rw [highs_length]; omega)]
        exact H.out
      obtain ⟨s, hs⟩ : ∃ s, ((highs v wd).take (wd - d)).foldl stepB (l0, a1) = s := ⟨_, rfl⟩
      rw [hs] at HO hinv hnext hend ⊢
      cases d with
      | zero =>
        obtain rfl := hend rfl
        clear hnext hinv hend hs
        go_wp2
        go_ret2
        exact ⟨_, rfl, Kd.R_of_own HO.out (fun _ _ => trivial), HBl.out⟩
      | succ m =>
        have hnx := Aside0.mk (hnext m rfl)
        obtain ⟨ys, q⟩ := s
        obtain ⟨hlen, hq⟩ := hinv
        dsimp only at hlen hq HO
        have hG2 := G2.out
        have hq0 : 0 ≤ q := by omega
        have hq1 : q ≤ 1125899906842624 * 8 := by omega
        have hyl : ys.length + 1 ≤ 140737488355328 := by omega
        have hm64 : m < 64 := by omega
        have hbit := ref_bit v m G7.out
        have hbv := Aside0.mk (bitAt_nat v m G7.out hm64)
        have hM : Aside0 (((m + 1 : Nat) : Int) - 1 = (m : Int)) := ⟨by omega⟩
        clear hnext hend hs
        have hB1 := HBl.out.size
        obtain ⟨A1, cA1, rfl⟩ := own_slice HO.out
        rw [hM.out]
        have Hlen : Aside0 ((q + 7) / 8 = (ys.length : Int)) := ⟨hlen⟩
        clear hlen hq hG2
        by_cases hb : v / 2 ^ m % 2 = 1
        · have hbd : (Go.bits .and .u64 ((v : Int) / 2 ^ m) 1 == 1) = true := by rw [hbit, hb]; rfl
          have hbt := Aside0.mk (hbv.out.trans (decide_eq_true hb))
          clear hb hbit
          by_cases h8 : q % 8 = 0
          · have hqd : q / 8 = (ys.length : Int) := by have := Hlen.out; omega
            have Hq := Aside0.mk hqd
            have Hst := Aside0.mk (step_app h8 hqd)
            clear hqd
            go_wp2_with (at_builtin; refine print_append_num (w0 := w) w.heap.size rfl _ _ 22 5 .u8 1 rfl Try.underlying22 info5 (by decide) (.slice A1 ys.length cA1) ys 0 rfl rfl HO.out HBl.out hB1 (by omega) ?_; intro v2 w2 hown2 hb2 hg2 hat2; have HO2 := Aside0.mk hown2; have HB2 := Aside0.mk hb2; clear hown2 hb2 hg2 hat2; obtain ⟨A2, c2, rfl⟩ := own_slice HO2.out)
            obtain ⟨g, cap, hsv, hbg, _⟩ := HO2.out.form (by simp)
            simp only [Value.slice.injEq] at hsv
            obtain ⟨rfl, _, rfl⟩ := hsv
            rw [List.length_append, List.length_singleton] at HO2
            have hcell := YtecpmglijgpknaaW.PrintWords.own_at HO2.out (q / 8) (by omega) (by have := Hq.out; omega)
            have hcg := hcell.1
            have hfg := hcell.2
            clear hcell
            have hq80 : 0 ≤ q / 8 := by omega
            have hq81 : q / 8 < (ys.length : Int) + 1 := by have := Hq.out; omega
            have hq82 : (q / 8).toNat < ys.length + 1 := by omega
            go_region
            have hset := ref_set (x := Go.bits .or .u8 (rd (ys ++ [0]) (q / 8)) 128) (by simp) Hq.out HO2.out HB2.out
            obtain ⟨W3, hW3⟩ : ∃ W3, (w2.setCell ⟨g, (q / 8).toNat, none⟩ (.int .u8 (Go.bits .or .u8 (rd (ys ++ [0]) (q / 8)) 128))).drew = W3 := ⟨_, rfl⟩
            rw [hW3] at hset ⊢
            have HO3 := Aside0.mk hset.1
            have HB3 := Aside0.mk hset.2
            clear hset hW3 hcg hfg
            go_wp2
            go_roundw
            case rel =>
              refine ⟨m, by omega, rfl, ?_, ?_, HB3⟩
              · rw [hnx.out, hbt.out, Hst.out.1]
              · rw [hnx.out, hbt.out, Hst.out.1]
                exact HO3
            case measure => simp [intOf] <;> omega
          · obtain ⟨p, hp⟩ : ∃ p, ys.length = p + 1 := ⟨ys.length - 1, by have := Hlen.out; omega⟩
            have hqd : q / 8 = (p : Int) := by have := Hlen.out; omega
            have Hq := Aside0.mk hqd
            have Hst := Aside0.mk (step_same h8 hp hqd)
            have h8b : (q % 8 == 0) = false := by simpa using h8
            obtain ⟨g, cap, hsv, hbg, _⟩ := HO.out.form (by omega)
            simp only [Value.slice.injEq] at hsv
            obtain ⟨rfl, _, rfl⟩ := hsv
            have HO2 : Aside0 (wr.ownsRow w.heap.size 5 1 (.slice (some ⟨g, 0, none⟩) (p + 1) cA1) (p + 1) (nums .u8 ys)) := ⟨by rw [← hp]; exact HO.out⟩
            have hcell := YtecpmglijgpknaaW.PrintWords.own_at HO2.out (q / 8) (by omega) (by omega)
            have hcg := hcell.1
            have hfg := hcell.2
            have Hp := Aside0.mk hp
            have H8 := Aside0.mk h8
            have hq80 : 0 ≤ q / 8 := by omega
            have hq81 : q / 8 < (p : Int) + 1 := by omega
            have hq82 : (q / 8).toNat < p + 1 := by omega
            rw [hp]
            clear hcell hqd hp h8 HO
            go_wp2
            go_region
            have hset := ref_set (x := Go.bits .or .u8 (rd ys (q / 8)) (128 / 2 ^ (q % 8).toNat)) Hp.out Hq.out HO2.out HBl.out
            obtain ⟨W3, hW3⟩ : ∃ W3, (wr.setCell ⟨g, (q / 8).toNat, none⟩ (.int .u8 (Go.bits .or .u8 (rd ys (q / 8)) (128 / 2 ^ (q % 8).toNat)))).drew = W3 := ⟨_, rfl⟩
            rw [hW3] at hset ⊢
            have HO3 := Aside0.mk hset.1
            have HB3 := Aside0.mk hset.2
            clear hset hW3 hcg hfg
            go_wp2
            go_roundw
            case rel =>
              refine ⟨m, by omega, rfl, ?_, ?_, HB3⟩
              · rw [hnx.out, hbt.out, Hst.out.1]
              · rw [hnx.out, hbt.out, Hst.out.1]
                exact HO3
            case measure => simp [intOf] <;> omega
        · have hbd : (Go.bits .and .u64 ((v : Int) / 2 ^ m) 1 == 1) = false := by rw [hbit, show v / 2 ^ m % 2 = 0 by omega]; rfl
          have hbt := Aside0.mk (hbv.out.trans (decide_eq_false hb))
          clear hb hbit
          by_cases h8 : q % 8 = 0
          · have hqd : q / 8 = (ys.length : Int) := by have := Hlen.out; omega
            have Hst := Aside0.mk (step_app h8 hqd)
            clear hqd
            go_wp2_with (at_builtin; refine print_append_num (w0 := w) w.heap.size rfl _ _ 22 5 .u8 1 rfl Try.underlying22 info5 (by decide) (.slice A1 ys.length cA1) ys 0 rfl rfl HO.out HBl.out hB1 (by omega) ?_; intro v2 w2 hown2 hb2 hg2 hat2; have HO2 := Aside0.mk hown2; have HB2 := Aside0.mk hb2; clear hown2 hb2 hg2 hat2; obtain ⟨A2, c2, rfl⟩ := own_slice HO2.out)
            go_wp2
            go_roundw
            case rel =>
              refine ⟨m, by omega, rfl, ?_, ?_, HB2⟩
              · rw [hnx.out, hbt.out, Hst.out.2]
              · rw [hnx.out, hbt.out, Hst.out.2]
                exact ⟨by have := HO2.out; rw [List.length_append, List.length_singleton] at this ⊢; exact this⟩
            case measure => simp [intOf] <;> omega
          · obtain ⟨p, hp⟩ : ∃ p, ys.length = p + 1 := ⟨ys.length - 1, by have := Hlen.out; omega⟩
            have hqd : q / 8 = (p : Int) := by have := Hlen.out; omega
            have Hst := Aside0.mk (step_same h8 hp hqd)
            have h8b : (q % 8 == 0) = false := by simpa using h8
            clear hqd hp h8
            go_wp2
            go_roundw
            case rel =>
              refine ⟨m, by omega, rfl, ?_, ?_, HBl⟩
              · rw [hnx.out, hbt.out, Hst.out.2]
              · rw [hnx.out, hbt.out, Hst.out.2]
                exact HO
            case measure => simp [intOf] <;> omega
  · rw [if_neg c1] at h
    cases h
end Go.Proofs.Ytecpmglijgpknaa.HandF
