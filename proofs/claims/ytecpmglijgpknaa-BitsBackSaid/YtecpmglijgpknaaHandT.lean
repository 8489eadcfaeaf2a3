/- A contract by hand, in the printer's form: TakeOwn of package bits. -/
import Derived.Test.YtecpmglijgpknaaHandF
import Derived.Test.YtecpmglijgpknaaMath
import Derived.WalkMore
namespace Go.Proofs.Ytecpmglijgpknaa.HandF
set_option linter.unusedVariables false
set_option linter.unusedSimpArgs false
open Go.RowKit Go.Proofs.Ytecpmglijgpknaa.Blocks Go.Proofs.Ytecpmglijgpknaa.Hand Go.Proofs.Ytecpmglijgpknaa.X Go.Proofs.Ytecpmglijgpknaa.Math
open Go.Proofs.YtecpmglijgpknaaW.PrintWords Go.Proofs.YtecpmglijgpknaaW.PrintLast Go.Proofs.YtecpmglijgpknaaW.PrintMore

/-- How many noughts stand ahead of the first one. -/
def scan (l : List Int) (n p : Nat) : Nat → Nat → Option Nat
  | 0, _ => none
  | f + 1, k => if n ≤ p + k ∨ 62 < k then none else if bitN l (p + k) = 1 then some k else scan l n p f (k + 1)
/-- What stands behind k noughts. -/
def ownOf (l : List Int) (n p k : Nat) : Option (Nat × Nat) :=
  if n - p < 2 * k + 1 then none else if 4611686018427387903 < takeN l (p + k) (k + 1) - 1 then none else some (takeN l (p + k) (k + 1) - 1, p + 2 * k + 1)
def ownAt (l : List Int) (n p : Nat) : Option (Nat × Nat) := (scan l n p 64 0).bind fun k => ownOf l n p k
def ownRes (o : Option (Nat × Nat)) : Int × Int × Int := match o with | none => (0, 0, 10) | some (v, q) => (v, q, 0)
def bytesB (l : List Int) : Bool := l.all fun x => decide (0 ≤ x ∧ x ≤ 255)
theorem bytesB_iff {l : List Int} (h : bytesB l = true) : Bytes l := fun x hx => of_decide_eq_true (List.all_eq_true.1 h x hx)

def bits_TakeOwn.f (l0 : List Int) (a1 a2 : Int) : Option (Int × Int × Int) :=
  (bits_Right.f l0 a1).bind fun r => if r = true then
    (if a2 < 0 then some (0, 0, 2) else if a2 > a1 then some (0, 0, 2) else
        if bytesB l0 = true ∧ a1 ≤ 8 * l0.length ∧ l0.length ≤ 140737488355328 then some (ownRes (ownAt l0 a1.toNat a2.toNat)) else none)
    else some (0, 0, 2)

theorem take_calls {l : List Int} (hb : Bytes l) (hl : l.length ≤ 140737488355328) (q x : Int) (p W : Nat) (hq : q = (p : Int)) (hx : x = (W : Int)) (hW : W ≤ 64) (hp : p + W ≤ 8 * l.length) (A : Option Addr) (c : Nat) (w : World) (hr : Kd.C (Kd.int .u8) w A l.length l) (hc : l.length ≤ c) :
    Calls Try.prog 27 #[.slice A l.length c, .int .i64 q, .int .i64 x] w fun e w' => e = .returned (.int .u64 ((takeN l p W : Nat) : Int)) ∧ Drawn0 w w' := by
  subst hq hx
  exact bits_take.calls _ A c l _ _ _ w hr hc (take_some hb hl p W hW hp)
theorem takeN_one (l : List Int) (p : Nat) : takeN l p 1 = bitN l p := by simp [takeN]
theorem takeN_top (l : List Int) (p : Nat) (h : bitN l p = 1) (w : Nat) : 1 ≤ takeN l p (w + 1) := by
  induction w with
  | zero => rw [takeN_one, h]; exact Nat.le_refl _
  | succ w ih => rw [takeN]; omega

set_option maxRecDepth 100000 in
set_option maxHeartbeats 2000000 in
theorem bits_TakeOwn.calls (A0 : Option Addr) (c0 : Nat) (l0 : List Int) (a1 a2 : Int) (r1 r2 r3 : Int) (w : World) (hr0 : Kd.C (Kd.int .u8) w A0 l0.length l0) (hc0 : l0.length ≤ c0) (h : bits_TakeOwn.f l0 a1 a2 = some (r1, r2, r3)) :
    Calls Try.prog 19 #[.slice A0 l0.length c0, .int .i64 a1, .int .i64 a2] w fun e w' => e = .returned (.tuple #[.int .u64 r1, .int .i64 r2, .int .i64 r3]) ∧ Drawn0 w w' := by
  unfold bits_TakeOwn.f at h
  obtain ⟨t, ht, h⟩ := Option.bind_eq_some_iff.1 h
  have HR0 := Aside0.mk hr0
  have HT := Aside0.mk ht
  clear hr0 ht
  cases t with
  | false =>
    rw [if_neg (by decide)] at h
    simp only [Option.some.injEq, Prod.mk.injEq] at h
    obtain ⟨rfl, rfl, rfl⟩ := h
    go_enter Try.func19, Try.ntmps19
    go_wp2_with fail
    go_step3
    go_wp2_with (go_at_call 13; (with_reducible refine (bits_Right.calls _ _ l0 a1 false _ HR0.out hc0 HT.out).mono ?_); rintro e w' ⟨rfl, ⟨nd, rfl⟩⟩)
    rw [Exit.noGoto_ret]
    go_ret3
    exact ⟨rfl, (Drawn0.refl _).step _⟩
  | true =>
    rw [if_pos rfl] at h
    by_cases c1 : a2 < 0
    · rw [if_pos c1] at h
      simp only [Option.some.injEq, Prod.mk.injEq] at h
      obtain ⟨rfl, rfl, rfl⟩ := h
      have d1 : decide (a2 < 0) = true := decide_eq_true c1
      clear c1
      go_enter Try.func19, Try.ntmps19
      go_wp2_with fail
      go_step3
      go_wp2_with (go_at_call 13; (with_reducible refine (bits_Right.calls _ _ l0 a1 true _ HR0.out hc0 HT.out).mono ?_); rintro e w' ⟨rfl, ⟨nd, rfl⟩⟩)
      rw [Exit.noGoto_ret]
      go_ret3
      exact ⟨rfl, (Drawn0.refl _).step _⟩
    · rw [if_neg c1] at h
      have d1 : decide (a2 < 0) = false := decide_eq_false c1
      by_cases c2 : a2 > a1
      · rw [if_pos c2] at h
        simp only [Option.some.injEq, Prod.mk.injEq] at h
        obtain ⟨rfl, rfl, rfl⟩ := h
        have d2 : decide (a1 < a2) = true := decide_eq_true c2
        clear c1 c2
        go_enter Try.func19, Try.ntmps19
        go_wp2_with fail
        go_step3
        go_wp2_with (go_at_call 13; (with_reducible refine (bits_Right.calls _ _ l0 a1 true _ HR0.out hc0 HT.out).mono ?_); rintro e w' ⟨rfl, ⟨nd, rfl⟩⟩)
        rw [Exit.noGoto_ret]
        go_ret3
        exact ⟨rfl, (Drawn0.refl _).step _⟩
      · rw [if_neg c2] at h
        by_cases c4 : bytesB l0 = true ∧ a1 ≤ 8 * l0.length ∧ l0.length ≤ 140737488355328
        · rw [if_pos c4] at h
          obtain ⟨hb, g2, g3⟩ := c4
          have HB := Aside0.mk (bytesB_iff hb)
          clear hb
          obtain ⟨p, rfl⟩ := Int.eq_ofNat_of_zero_le (show 0 ≤ a2 by omega)
          obtain ⟨n, rfl⟩ := Int.eq_ofNat_of_zero_le (show 0 ≤ a1 by omega)
          rw [Int.toNat_natCast, Int.toNat_natCast] at h
          have d2 : decide (n < p) = false := decide_eq_false (by omega)
          have g4 : p ≤ n := by omega
          have d0 : decide ((p : Int) < 0) = false := decide_eq_false (by omega)
          unfold ownAt at h
          obtain ⟨S, hS⟩ : ∃ S, scan l0 n p 64 0 = S := ⟨_, rfl⟩
          rw [hS] at h
          have H := Aside0.mk h
          have HS0 := Aside0.mk hS
          clear h c1 c2 d1 hS
          go_enter Try.func19, Try.ntmps19
          go_wp2_with fail
          go_step3
          go_wp2_with (go_at_call 13; (with_reducible refine (bits_Right.calls _ _ l0 n true _ HR0.out hc0 HT.out).mono ?_); rintro e w' ⟨rfl, ⟨nd, rfl⟩⟩)
          go_step3
          go_wp2_with fail
          go_loopw [9] (fun v wr => ∃ k m : Nat, v = .int .i64 (k : Int) ∧ wr = w.drewN m ∧ k ≤ 63 ∧ Aside0 (scan l0 n p (64 - k) k = S)) (fun v _ => 64 - (intOf v).toNat)
          case atStart => exact ⟨0, nd, rfl, rfl, by omega, HS0⟩
          case round =>
            obtain ⟨k, m, rfl, rfl, hk, HS⟩ := hrel
            have hs := HS.out
            rw [show 64 - k = (63 - k) + 1 by omega] at hs
            simp only [scan] at hs
            have hH := H.out
            by_cases q1 : n ≤ p + k
            · rw [if_pos (.inl q1)] at hs
              rw [← hs] at hH
              simp only [Option.bind_none, ownRes, Option.some.injEq, Prod.mk.injEq] at hH
              obtain ⟨rfl, rfl, rfl⟩ := hH
              have b1 : decide ((n : Int) ≤ (p : Int) + (k : Int)) = true := decide_eq_true (by omega)
              clear hs HS H q1
              go_wp2
              rw [Exit.noGoto_ret]
              go_ret3
              exact ⟨rfl, (Drawn0.refl _).step _⟩
            · have b1 : decide ((n : Int) ≤ (p : Int) + (k : Int)) = false := decide_eq_false (by omega)
              by_cases q2 : 62 < k
              · rw [if_pos (.inr q2)] at hs
                rw [← hs] at hH
                simp only [Option.bind_none, ownRes, Option.some.injEq, Prod.mk.injEq] at hH
                obtain ⟨rfl, rfl, rfl⟩ := hH
                have b2 : decide ((62 : Int) < (k : Int)) = true := decide_eq_true (by omega)
                clear hs HS H q1 q2
                go_wp2
                rw [Exit.noGoto_ret]
                go_ret3
                exact ⟨rfl, (Drawn0.refl _).step _⟩
              · have b2 : decide ((62 : Int) < (k : Int)) = false := decide_eq_false (by omega)
                rw [if_neg (by omega)] at hs
                have q1' : p + k < n := by omega
                have q2' : k ≤ 62 := by omega
                by_cases q3 : bitN l0 (p + k) = 1
                · rw [if_pos q3] at hs
                  rw [← hs] at hH
                  simp only [Option.bind_some] at hH
                  have Hr := Aside0.mk hH
                  have hx1 := takeN_top l0 (p + k) q3 k
                  have Q3 := Aside0.mk q3
                  clear hs HS q3 q1 q2 H hH
                  obtain ⟨X, hX⟩ : ∃ X, takeN l0 (p + k) (k + 1) = X + 1 := ⟨takeN l0 (p + k) (k + 1) - 1, by omega⟩
                  have hX2 : X < 18446744073709551615 := by
                    have h1 := takeN_lt l0 (p + k) (k + 1)
                    have h2 := Nat.pow_le_pow_right (show 0 < 2 by decide) (show k + 1 ≤ 63 by omega)
                    have h3 : (2 : Nat) ^ 63 = 9223372036854775808 := by decide
                    omega
                  have HX := Aside0.mk hX
                  clear hx1 hX
                  by_cases q4 : n - p < 2 * k + 1
                  · have hr := Hr.out
                    unfold ownOf at hr
                    rw [if_pos q4] at hr
                    simp only [ownRes, Option.some.injEq, Prod.mk.injEq] at hr
                    obtain ⟨rfl, rfl, rfl⟩ := hr
                    have b3 : decide ((n : Int) - (p : Int) < 2 * (k : Int) + 1) = true := decide_eq_true (by omega)
                    clear q4
                    go_wp2_with fail
                    (with_reducible refine (take_calls HB.out g3 _ _ (p + k) 1 ?hqa ?hxa ?h1a ?h2a _ _ _ ?h3a hc0).mono ?_)
                    case hqa => omega
                    case hxa => rfl
                    case h1a => decide
                    case h2a => omega
                    case h3a => exact Kd.C_drewN HR0.out _
                    rw [takeN_one, Q3.out]
                    rintro e w' ⟨rfl, ⟨ne, rfl⟩⟩
                    go_wp2
                    rw [Exit.noGoto_ret]
                    go_ret3
                    exact ⟨rfl, (Drawn0.refl _).step _⟩
                  · have hr := Hr.out
                    unfold ownOf at hr
                    rw [if_neg q4, HX.out, Nat.add_sub_cancel] at hr
                    have b3 : decide ((n : Int) - (p : Int) < 2 * (k : Int) + 1) = false := decide_eq_false (by omega)
                    have q4' : 2 * k + 1 ≤ n - p := by omega
                    clear q4
                    by_cases q5 : 4611686018427387903 < X
                    · rw [if_pos q5] at hr
                      simp only [ownRes, Option.some.injEq, Prod.mk.injEq] at hr
                      obtain ⟨rfl, rfl, rfl⟩ := hr
                      have b4 : decide ((4611686018427387903 : Int) < (X : Int)) = true := decide_eq_true (by omega)
                      clear q5
                      go_wp2_with fail
                      (with_reducible refine (take_calls HB.out g3 _ _ (p + k) 1 ?hqb ?hxb ?h1b ?h2b _ _ _ ?h3b hc0).mono ?_)
                      case hqb => omega
                      case hxb => rfl
                      case h1b => decide
                      case h2b => omega
                      case h3b => exact Kd.C_drewN HR0.out _
                      rw [takeN_one, Q3.out]
                      rintro e w' ⟨rfl, ⟨ne, rfl⟩⟩
                      go_wp2_with fail
                      (with_reducible refine (take_calls HB.out g3 _ _ (p + k) (k + 1) ?jqb ?jxb ?j1b ?j2b _ _ _ ?j3b hc0).mono ?_)
                      case jqb => omega
                      case jxb => omega
                      case j1b => omega
                      case j2b => omega
                      case j3b => exact Kd.C_drewN HR0.out _
                      rw [HX.out, show ((X + 1 : Nat) : Int) = (X : Int) + 1 by omega]
                      rintro e w' ⟨rfl, ⟨nf, rfl⟩⟩
                      go_wp2
                      rw [Exit.noGoto_ret]
                      go_ret3
                      exact ⟨rfl, (Drawn0.refl _).step _⟩
                    · rw [if_neg q5] at hr
                      simp only [ownRes, Option.some.injEq, Prod.mk.injEq] at hr
                      obtain ⟨rfl, rfl, rfl⟩ := hr
                      have b4 : decide ((4611686018427387903 : Int) < (X : Int)) = false := decide_eq_false (by omega)
                      have hnum : Aside0 (((p + 2 * k + 1 : Nat) : Int) = (p : Int) + 2 * (k : Int) + 1) := ⟨by omega⟩
                      clear q5
                      go_wp2_with fail
                      (with_reducible refine (take_calls HB.out g3 _ _ (p + k) 1 ?hqc ?hxc ?h1c ?h2c _ _ _ ?h3c hc0).mono ?_)
                      case hqc => omega
                      case hxc => rfl
                      case h1c => decide
                      case h2c => omega
                      case h3c => exact Kd.C_drewN HR0.out _
                      rw [takeN_one, Q3.out]
                      rintro e w' ⟨rfl, ⟨ne, rfl⟩⟩
                      go_wp2_with fail
                      (with_reducible refine (take_calls HB.out g3 _ _ (p + k) (k + 1) ?jqc ?jxc ?j1c ?j2c _ _ _ ?j3c hc0).mono ?_)
                      case jqc => omega
                      case jxc => omega
                      case j1c => omega
                      case j2c => omega
                      case j3c => exact Kd.C_drewN HR0.out _
                      rw [HX.out, show ((X + 1 : Nat) : Int) = (X : Int) + 1 by omega]
                      rintro e w' ⟨rfl, ⟨nf, rfl⟩⟩
                      go_wp2
                      rw [Exit.noGoto_ret]
                      go_ret3
                      exact ⟨by rw [hnum.out]; rfl, (Drawn0.refl _).step _⟩
                · rw [if_neg q3] at hs
                  have hs2 : scan l0 n p (64 - (k + 1)) (k + 1) = S := by rw [show 64 - (k + 1) = 63 - k by omega]; exact hs
                  have hz : bitN l0 (p + k) = 0 := by have := bitN_lt l0 (p + k); omega
                  have Hz := Aside0.mk hz
                  have HS2 := Aside0.mk hs2
                  clear hs hs2 HS q3 q1 q2 hH hz
                  go_wp2_with fail
                  (with_reducible refine (take_calls HB.out g3 _ _ (p + k) 1 ?hq1 ?hx1 ?h11 ?h21 _ _ _ ?h31 hc0).mono ?_)
                  case hq1 => omega
                  case hx1 => rfl
                  case h11 => decide
                  case h21 => omega
                  case h31 => exact Kd.C_drewN HR0.out _
                  rw [takeN_one, Hz.out]
                  rintro e w' ⟨rfl, ⟨ne, rfl⟩⟩
                  go_wp2
                  go_roundw
                  case rel => exact ⟨k + 1, _, by go_num, rfl, by omega, HS2⟩
                  case measure => simp [intOf]; omega
        · rw [if_neg c4] at h
          cases h
end Go.Proofs.Ytecpmglijgpknaa.HandF
