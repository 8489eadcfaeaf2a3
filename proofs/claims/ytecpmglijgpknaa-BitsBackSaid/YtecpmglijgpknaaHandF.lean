/- Contracts by hand, in the printer's form: bits.Len64, Put, PutOwn, TakeOwn of package bits, and the reference's put. -/
import Derived.Test.YtecpmglijgpknaaHandA
import Derived.Test.YtecpmglijgpknaaShelf
import Derived.Test.YtecpmglijgpknaaHandN
import Derived.Test.YtecpmglijgpknaaX13
namespace Go.Proofs.Ytecpmglijgpknaa.HandF
set_option linter.unusedVariables false
set_option linter.unusedSimpArgs false
open Go.RowKit Go.Proofs.Ytecpmglijgpknaa.Blocks Go.Proofs.Ytecpmglijgpknaa.Hand Go.Proofs.Ytecpmglijgpknaa.X
open Go.Proofs.YtecpmglijgpknaaW.PrintWords Go.Proofs.YtecpmglijgpknaaW.PrintLast Go.Proofs.YtecpmglijgpknaaW.PrintMore

def bits_Len64.f (a0 : Int) : Option Int := if 0 ≤ a0 ∧ a0 ≤ 18446744073709551615 then some (Lib.bitLen a0.toNat : Int) else none
theorem bits_Len64.calls (a0 : Int) (r : Int) (w : World) (h : bits_Len64.f a0 = some r) :
    Calls Try.prog 21 #[.int .u64 a0] w fun e w' => e = .returned (.int .i64 r) ∧ Drawn0 w w' := by
  unfold bits_Len64.f at h
  by_cases hb : 0 ≤ a0 ∧ a0 ≤ 18446744073709551615
  · rw [if_pos hb] at h
    obtain rfl := Option.some.inj h
    exact (Try.bits_Len64 a0 w hb.1 hb.2).mono fun e w' ⟨he, hw⟩ => ⟨he, by rw [hw]; exact Drawn0.refl _⟩
  · rw [if_neg hb] at h
    cases h

def bits_Put.f (l0 : List Int) (a1 a2 a3 : Int) : Option (List Int × Int × Int) :=
  (bits_Right.f l0 a1).bind fun r => if r = true then
    (if a3 < 0 then some ([], 0, 2) else if a3 > 64 then some ([], 0, 2) else
      (bits_Len64.f a2).bind fun k => if k > a3 then some ([], 0, 2) else
        if 0 ≤ a1 ∧ (a1 + 7) / 8 = l0.length ∧ l0.length + 9 ≤ 140737488355328 then some (((highs a2 a3.toNat).foldl stepB (l0, a1)).1, ((highs a2 a3.toNat).foldl stepB (l0, a1)).2, 0) else none)
    else some ([], 0, 2)

theorem row_put (base br : Nat) (w0 w : World) (xs : List Int) (nn v wd : Int) (h0 : 0 ≤ wd) (hwd : wd ≤ 64) (hnn : 0 ≤ nn) (hr : (nn + 7) / 8 = xs.length) (hl : xs.length + 9 ≤ 140737488355328)
    (hrow : RowIs base br (xs, nn) w) (hB : Below base w0 w) (hbr : base ≤ br) (hbase : base ≤ w.heap.size) :
    Calls Try.prog 23 #[.pointer (some ⟨br, 0, none⟩), .int .u64 v, .int .i64 wd] w fun e w' =>
      (∃ r, e = .returned r) ∧ RowIs base br ((highs v wd.toNat).foldl stepB (xs, nn)) w' ∧ Below base w0 w' := by
  obtain ⟨n, rfl⟩ := Int.eq_ofNat_of_zero_le h0
  rw [Int.toNat_natCast]
  exact callsIn_wide.1 (row_put_calls base br w0 w xs nn v n (by omega) hnn hr hl hrow hB hbr hbase)

set_option maxRecDepth 100000 in
set_option maxHeartbeats 2000000 in
theorem bits_Put.calls (A0 : Option Addr) (c0 : Nat) (l0 : List Int) (a1 a2 a3 : Int) (r1 : List Int) (r2 r3 : Int) (w : World) (hr0 : Kd.C (Kd.int .u8) w A0 l0.length l0) (hc0 : l0.length ≤ c0) (h : bits_Put.f l0 a1 a2 a3 = some (r1, r2, r3)) :
    Calls Try.prog 11 #[.slice A0 l0.length c0, .int .i64 a1, .int .u64 a2, .int .i64 a3] w fun e w' => ∃ v0_ : Value, e = .returned (.tuple #[v0_, .int .i64 r2, .int .i64 r3]) ∧ Kd.R (Kd.int .u8) 5 w' w.heap.size (fun _ => True) v0_ r1 ∧ Below w.heap.size w w' := by
  unfold bits_Put.f at h
  obtain ⟨t, ht, h⟩ := Option.bind_eq_some_iff.1 h
  have HR0 := Aside0.mk hr0
  have HT := Aside0.mk ht
  clear hr0 ht
  cases t with
  | false =>
    rw [if_neg (by decide)] at h
    simp only [Option.some.injEq, Prod.mk.injEq] at h
    obtain ⟨rfl, rfl, rfl⟩ := h
    go_enter Try.func11, Try.ntmps11
    go_wp2_with (go_at_call 13; (with_reducible refine (bits_Right.calls _ _ l0 a1 false _ HR0.out hc0 HT.out).mono ?_); rintro e w' ⟨rfl, ⟨nd, rfl⟩⟩)
    go_ret3
    exact ⟨_, rfl, Kd.R_nil _ _ _ _ _, pw_below_drewN (Below.refl _ _) _⟩
  | true =>
    rw [if_pos rfl] at h
    by_cases c1 : a3 < 0
    · rw [if_pos c1] at h
      simp only [Option.some.injEq, Prod.mk.injEq] at h
      obtain ⟨rfl, rfl, rfl⟩ := h
      have d1 : decide (a3 < 0) = true := decide_eq_true c1
      clear c1
      go_enter Try.func11, Try.ntmps11
      go_wp2_with (go_at_call 13; (with_reducible refine (bits_Right.calls _ _ l0 a1 true _ HR0.out hc0 HT.out).mono ?_); rintro e w' ⟨rfl, ⟨nd, rfl⟩⟩)
      go_ret3
      exact ⟨_, rfl, Kd.R_nil _ _ _ _ _, pw_below_drewN (Below.refl _ _) _⟩
    · rw [if_neg c1] at h
      have d1 : decide (a3 < 0) = false := decide_eq_false c1
      by_cases c2 : a3 > 64
      · rw [if_pos c2] at h
        simp only [Option.some.injEq, Prod.mk.injEq] at h
        obtain ⟨rfl, rfl, rfl⟩ := h
        have d2 : decide (64 < a3) = true := decide_eq_true c2
        clear c1 c2
        go_enter Try.func11, Try.ntmps11
        go_wp2_with (go_at_call 13; (with_reducible refine (bits_Right.calls _ _ l0 a1 true _ HR0.out hc0 HT.out).mono ?_); rintro e w' ⟨rfl, ⟨nd, rfl⟩⟩)
        go_ret3
        exact ⟨_, rfl, Kd.R_nil _ _ _ _ _, pw_below_drewN (Below.refl _ _) _⟩
      · rw [if_neg c2] at h
        have d2 : decide (64 < a3) = false := decide_eq_false c2
        obtain ⟨k, hk, h⟩ := Option.bind_eq_some_iff.1 h
        have HK := Aside0.mk hk
        clear hk
        by_cases c3 : k > a3
        · rw [if_pos c3] at h
          simp only [Option.some.injEq, Prod.mk.injEq] at h
          obtain ⟨rfl, rfl, rfl⟩ := h
          have d3 : decide (a3 < k) = true := decide_eq_true c3
          clear c1 c2 c3
          go_enter Try.func11, Try.ntmps11
          go_wp2_with (first | (go_at_call 13; (with_reducible refine (bits_Right.calls _ _ l0 a1 true _ HR0.out hc0 HT.out).mono ?_); rintro e w' ⟨rfl, ⟨nd, rfl⟩⟩) | (go_at_call 21; (with_reducible refine (bits_Len64.calls a2 k _ HK.out).mono ?_); rintro e w' ⟨rfl, ⟨ne, rfl⟩⟩))
          go_ret3
          exact ⟨_, rfl, Kd.R_nil _ _ _ _ _, pw_below_drewN (Below.refl _ _) _⟩
        · rw [if_neg c3] at h
          have d3 : decide (a3 < k) = false := decide_eq_false c3
          by_cases c4 : 0 ≤ a1 ∧ (a1 + 7) / 8 = l0.length ∧ l0.length + 9 ≤ 140737488355328
          · rw [if_pos c4] at h
            simp only [Option.some.injEq, Prod.mk.injEq] at h
            obtain ⟨e1, e2, rfl⟩ := h
            obtain ⟨g1, g2, g3⟩ := c4
            have G2 := Aside0.mk g2
            have E1 := Aside0.mk e1
            have E2 := Aside0.mk e2
            have g4 : 0 ≤ a3 := by omega
            have g5 : a3 ≤ 64 := by omega
            clear c1 c2 c3 g2 e1 e2
            go_enter Try.func11, Try.ntmps11
            go_wp2_with (first | (go_at_call 13; (with_reducible refine (bits_Right.calls _ _ l0 a1 true _ HR0.out hc0 HT.out).mono ?_); rintro e w' ⟨rfl, ⟨nd, rfl⟩⟩) | (go_at_call 21; (with_reducible refine (bits_Len64.calls a2 k _ HK.out).mono ?_); rintro e w' ⟨rfl, ⟨ne, rfl⟩⟩))
            refine (clone_calls _ _ l0 _ (Kd.C_drewN HR0.out _) (by omega)).mono ?_
            rintro e wc ⟨vc, rfl, hown, hbc⟩
            obtain ⟨Ac, cc, rfl⟩ := own_slice hown
            have HC := Aside0.mk hown
            have HB := Aside0.mk hbc
            clear hown hbc
            go_wp2_with fail
            have hbw : Below w.heap.size w wc := (pw_below_drewN (Below.refl w.heap.size w) _).trans HB.out
            have hsz : w.heap.size ≤ wc.heap.size := hbw.size
            refine (row_put w.heap.size wc.heap.size w _ l0 a1 a2 a3 g4 g5 g1 G2.out g3 ⟨_, alloc_new wc _, HC.out.alloc _⟩ (hbw.alloc hsz _) hsz (by simp; omega)).mono ?_
            rintro e w3 ⟨⟨rv, rfl⟩, ⟨sv, hb1, ho1⟩, hb3⟩
            have Ho1 := Aside0.mk ho1
            have Hb3 := Aside0.mk hb3
            rw [E1.out, E2.out] at *
            have hc0 := cell0 hb1
            have hc1 := cell1 hb1
            clear hb1 ho1 hb3 hbw hsz
            go_wp2_with fail
            go_quiet (fail)
            go_wp2
            go_ret3
            exact ⟨_, rfl, Kd.R_of_own (pw_own_below Ho1.out (pw_below_drewN (Below.refl _ _) _)) (fun _ _ => trivial), pw_below_drewN Hb3.out _⟩
          · rw [if_neg c4] at h
            cases h
end Go.Proofs.Ytecpmglijgpknaa.HandF
