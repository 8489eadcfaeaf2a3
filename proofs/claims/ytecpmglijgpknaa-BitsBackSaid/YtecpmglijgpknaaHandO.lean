/- A contract by hand, in the printer's form: PutOwn of package bits. -/
import Derived.Lib.ItoaNum
import Derived.Test.YtecpmglijgpknaaHandF
namespace Go.Proofs.Ytecpmglijgpknaa.HandF
set_option linter.unusedVariables false
set_option linter.unusedSimpArgs false
open Go.RowKit Go.Proofs.Ytecpmglijgpknaa.Blocks Go.Proofs.Ytecpmglijgpknaa.Hand Go.Proofs.Ytecpmglijgpknaa.X
open Go.Proofs.YtecpmglijgpknaaW.PrintWords Go.Proofs.YtecpmglijgpknaaW.PrintLast Go.Proofs.YtecpmglijgpknaaW.PrintMore

/-- A row, with a number's own bits behind it. -/
def ownBits (s : List Int × Int) (v : Int) : List Int × Int := (highs (v + 1) (Lib.bitLen (v + 1).toNat)).foldl stepB ((highs 0 (Lib.bitLen (v + 1).toNat - 1)).foldl stepB s)

def bits_PutOwn.f (l0 : List Int) (a1 a2 : Int) : Option (List Int × Int × Int) :=
  (bits_Right.f l0 a1).bind fun r => if r = true then
    (if a2 > 4611686018427387903 then some ([], 0, 2) else
        if 0 ≤ a1 ∧ 0 ≤ a2 ∧ (a1 + 7) / 8 = l0.length ∧ l0.length + 18 ≤ 140737488355328 then some ((ownBits (l0, a1) a2).1, (ownBits (l0, a1) a2).2, 0) else none)
    else some ([], 0, 2)

theorem own_len (v : Int) (h0 : 0 ≤ v) (h1 : v ≤ 4611686018427387903) : ∃ kk : Nat, Lib.bitLen (v + 1).toNat = kk + 1 ∧ kk ≤ 62 := by
  have h2 := Lib.bitLenAux_bounds 64 (v + 1).toNat (by omega) (by omega)
  have h3 := Lib.bitLen_le (v + 1).toNat 63 (by omega) (by omega)
  have h4 : 1 ≤ Lib.bitLen (v + 1).toNat := h2.1
  exact ⟨Lib.bitLen (v + 1).toNat - 1, by omega, by omega⟩

set_option maxRecDepth 100000 in
set_option maxHeartbeats 2000000 in
theorem bits_PutOwn.calls (A0 : Option Addr) (c0 : Nat) (l0 : List Int) (a1 a2 : Int) (r1 : List Int) (r2 r3 : Int) (w : World) (hr0 : Kd.C (Kd.int .u8) w A0 l0.length l0) (hc0 : l0.length ≤ c0) (h : bits_PutOwn.f l0 a1 a2 = some (r1, r2, r3)) :
    Calls Try.prog 15 #[.slice A0 l0.length c0, .int .i64 a1, .int .u64 a2] w fun e w' => ∃ v0_ : Value, e = .returned (.tuple #[v0_, .int .i64 r2, .int .i64 r3]) ∧ Kd.R (Kd.int .u8) 5 w' w.heap.size (fun _ => True) v0_ r1 ∧ Below w.heap.size w w' := by
  unfold bits_PutOwn.f at h
  obtain ⟨t, ht, h⟩ := Option.bind_eq_some_iff.1 h
  have HR0 := Aside0.mk hr0
  have HT := Aside0.mk ht
  clear hr0 ht
  cases t with
  | false =>
    rw [if_neg (by decide)] at h
    simp only [Option.some.injEq, Prod.mk.injEq] at h
    obtain ⟨rfl, rfl, rfl⟩ := h
    go_enter Try.func15, Try.ntmps15
    go_wp2_with (go_at_call 13; (with_reducible refine (bits_Right.calls _ _ l0 a1 false _ HR0.out hc0 HT.out).mono ?_); rintro e w' ⟨rfl, ⟨nd, rfl⟩⟩)
    go_ret3
    exact ⟨_, rfl, Kd.R_nil _ _ _ _ _, pw_below_drewN (Below.refl _ _) _⟩
  | true =>
    rw [if_pos rfl] at h
    by_cases c1 : a2 > 4611686018427387903
    · rw [if_pos c1] at h
      simp only [Option.some.injEq, Prod.mk.injEq] at h
      obtain ⟨rfl, rfl, rfl⟩ := h
      have d1 : decide (4611686018427387903 < a2) = true := decide_eq_true c1
      clear c1
      go_enter Try.func15, Try.ntmps15
      go_wp2_with (go_at_call 13; (with_reducible refine (bits_Right.calls _ _ l0 a1 true _ HR0.out hc0 HT.out).mono ?_); rintro e w' ⟨rfl, ⟨nd, rfl⟩⟩)
      go_ret3
      exact ⟨_, rfl, Kd.R_nil _ _ _ _ _, pw_below_drewN (Below.refl _ _) _⟩
    · rw [if_neg c1] at h
      have d1 : decide (4611686018427387903 < a2) = false := decide_eq_false c1
      by_cases c4 : 0 ≤ a1 ∧ 0 ≤ a2 ∧ (a1 + 7) / 8 = l0.length ∧ l0.length + 18 ≤ 140737488355328
      · rw [if_pos c4] at h
        simp only [Option.some.injEq, Prod.mk.injEq] at h
        obtain ⟨e1, e2, rfl⟩ := h
        obtain ⟨g1, g5, g2, g3⟩ := c4
        obtain ⟨kk, hk, hk2⟩ := own_len a2 g5 (by omega)
        have hL : bits_Len64.f (a2 + 1) = some ((kk : Int) + 1) := by
          unfold bits_Len64.f
          rw [if_pos ⟨by omega, by omega⟩, hk]
          rfl
        obtain ⟨s1, hs1⟩ : ∃ s1, (highs 0 kk).foldl stepB (l0, a1) = s1 := ⟨_, rfl⟩
        obtain ⟨s2, hs2⟩ : ∃ s2, (highs (a2 + 1) (kk + 1)).foldl stepB s1 = s2 := ⟨_, rfl⟩
        have hown2 : ownBits (l0, a1) a2 = s2 := by unfold ownBits; rw [hk, Nat.add_sub_cancel, hs1, hs2]
        rw [hown2] at e1 e2
        have hi := fold_inv (highs 0 kk) (l0, a1) g2
        rw [hs1, highs_length] at hi
        have G2 := Aside0.mk g2
        have E1 := Aside0.mk e1
        have E2 := Aside0.mk e2
        have HL := Aside0.mk hL
        have HS1 := Aside0.mk hs1
        have HS2 := Aside0.mk hs2
        have HI := Aside0.mk hi
        have HN : Aside0 (((kk + 1 : Nat) : Int) = (kk : Int) + 1) := ⟨by omega⟩
        have g6 : a2 ≤ 4611686018427387903 := by omega
        clear c1 g2 e1 e2 hL hs1 hs2 hi hk hown2
        go_enter Try.func15, Try.ntmps15
        go_wp2_with (go_at_call 13; (with_reducible refine (bits_Right.calls _ _ l0 a1 true _ HR0.out hc0 HT.out).mono ?_); rintro e w' ⟨rfl, ⟨nd, rfl⟩⟩)
        refine (clone_calls _ _ l0 _ (Kd.C_drewN HR0.out _) (by omega)).mono ?_
        rintro e wc ⟨vc, rfl, hown, hbc⟩
        obtain ⟨Ac, cc, rfl⟩ := own_slice hown
        have HC := Aside0.mk hown
        have HB := Aside0.mk hbc
        clear hown hbc
        go_wp2_with fail
        refine (bits_Len64.calls _ _ _ HL.out).mono ?_
        rintro e w' ⟨rfl, ⟨ne, rfl⟩⟩
        go_wp2_with fail
        have hbw : Below w.heap.size w wc := (pw_below_drewN (Below.refl w.heap.size w) _).trans HB.out
        have hsz : w.heap.size ≤ wc.heap.size := hbw.size
        have hrow1 : RowIs w.heap.size wc.heap.size (l0, a1) ((wc.alloc (.cells #[.slice Ac l0.length cc, .int .i64 a1] 44)).drewN ne) := ⟨_, alloc_new wc _, pw_own_below (HC.out.alloc _) (pw_below_drewN (Below.refl _ _) _)⟩
        have hb1 : Below w.heap.size w ((wc.alloc (.cells #[.slice Ac l0.length cc, .int .i64 a1] 44)).drewN ne) := pw_below_drewN (hbw.alloc hsz _) _
        refine (row_put w.heap.size wc.heap.size w _ l0 a1 0 kk (by omega) (by omega) g1 G2.out (by omega) hrow1 hb1 hsz hb1.size).mono ?_
        rintro e w3 ⟨⟨rv, rfl⟩, hrow3, hb3⟩
        rw [Int.toNat_natCast, HS1.out] at hrow3
        have HR3 := Aside0.mk hrow3
        have HB3 := Aside0.mk hb3
        clear hrow3 hb3 hrow1 hb1 hbw
        obtain ⟨ys, m⟩ := s1
        have hm := HI.out
        dsimp only at hm
        go_wp2_with fail
        refine (row_put w.heap.size wc.heap.size w _ ys m (a2 + 1) ((kk : Int) + 1) (by omega) (by omega) (by omega) hm.1 (by have := G2.out; omega) HR3.out HB3.out hsz HB3.out.size).mono ?_
        rintro e w4 ⟨⟨rv4, rfl⟩, hrow4, hb4⟩
        rw [show ((kk : Int) + 1).toNat = kk + 1 by omega, HS2.out] at hrow4
        obtain ⟨sv, hb1, ho1⟩ := hrow4
        have Ho1 := Aside0.mk ho1
        have Hb3 := Aside0.mk hb4
        rw [E1.out, E2.out] at *
        have hc0 := cell0 hb1
        have hc1 := cell1 hb1
        clear hb1 ho1 hb4 hsz hm
        go_wp2_with fail
        go_quiet (fail)
        go_wp2
        go_ret3
        exact ⟨_, rfl, Kd.R_of_own (pw_own_below Ho1.out (pw_below_drewN (Below.refl _ _) _)) (fun _ _ => trivial), pw_below_drewN Hb3.out _⟩
      · rw [if_neg c4] at h
        cases h
end Go.Proofs.Ytecpmglijgpknaa.HandF
