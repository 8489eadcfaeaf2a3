/- Plain facts of chapter 2: the reference's follow; the marks of a first byte. -/
import Derived.Test.YtecfoepcgammcaaNumMath
import Derived.Test.YtecfoepcgammcaaX30
namespace Go.Proofs.Ytecfoepcgammcaa.Math
set_option linter.unusedVariables false
set_option linter.unusedSimpArgs false
open Go.RowKit Go.Proofs.Ytecfoepcgammcaa.X Go.Proofs.Ytecfoepcgammcaa.HandF
open Go.Proofs.YtecfoepcgammcaaW.PrintWords Go.Proofs.YtecfoepcgammcaaW.PrintLast Go.Proofs.YtecfoepcgammcaaW.PrintMore

theorem shr_pos {n s : Nat} (hs : s ≤ 64) : shr .u64 (n : Int) (s : Int) > 0 ↔ 2 ^ s ≤ n := by
  rw [shr_nat n s hs]
  have hp : 0 < 2 ^ s := Nat.pow_pos (by decide)
  constructor
  · intro h
    rcases Nat.lt_or_ge n (2 ^ s) with h' | h'
    · rw [Nat.div_eq_of_lt h'] at h; exact absurd h (by decide)
    · exact h'
  · intro h
    have := Nat.div_pos h hp
    exact Int.natCast_pos.2 this

theorem follow_loop {n : Nat} (hn : n < 18446744073709551616) (d : Nat) : ∀ i, i + d = ex n → pannierref02_follow.l0 (d + 1) (n : Int) (i : Int) = some ((ex n : Nat) : Int) := by
  have h8 := ex_le n
  induction d with
  | zero =>
    intro i hi
    obtain rfl : i = ex n := by omega
    have e1 : wrap64 (7 * ((ex n : Nat) : Int)) = ((7 * ex n : Nat) : Int) := by rw [wrap_small (by omega) (by omega)]; omega
    have e2 : wrap64 (7 + ((7 * ex n : Nat) : Int)) = ((7 + 7 * ex n : Nat) : Int) := by rw [wrap_small (by omega) (by omega)]; omega
    rw [pannierref02_follow.l0, e1, e2]
    clear e1 e2
    by_cases hk : ex n < 8
    · have hlt := ex_lt hn hk
      rw [if_pos (by omega), if_pos (Int.natCast_nonneg _), if_neg]
      intro h
      have h1 : 7 + 7 * ex n ≤ 64 := by omega
      have := (shr_pos h1).1 h
      rw [Nat.add_comm 7] at this
      omega
    · rw [if_neg (by omega)]
  | succ d ih =>
    intro i hi
    have hge := ex_ge hn (by omega)
    have hp := Nat.pow_le_pow_right (show 0 < 2 by decide) (show 7 + 7 * i ≤ 7 * ex n by omega)
    have hs : shr .u64 (n : Int) ((7 + 7 * i : Nat) : Int) > 0 := (shr_pos (by omega)).2 (Nat.le_trans hp hge)
    have h1 := ih (i + 1) (by omega)
    have c1 : (i : Int) < 8 := by omega
    have e1 : wrap64 (7 * (i : Int)) = ((7 * i : Nat) : Int) := by rw [wrap_small (by omega) (by omega)]; omega
    have e2 : wrap64 (7 + ((7 * i : Nat) : Int)) = ((7 + 7 * i : Nat) : Int) := by rw [wrap_small (by omega) (by omega)]; omega
    have e3 : wrap64 ((i : Int) + 1) = ((i + 1 : Nat) : Int) := by rw [wrap_small (by omega) (by omega)]; omega
    rw [pannierref02_follow.l0, if_pos c1, e1, e2, if_pos (Int.natCast_nonneg _), if_pos hs, e3]
    exact h1

theorem follow_ev {n : Nat} (hn : n < 18446744073709551616) : Ev (fun k => pannierref02_follow.f k (n : Int)) ((ex n : Nat) : Int) :=
  Ev.of (fun k => pannierref02_follow.mono _ k) (k := ex n + 1) (follow_loop hn (ex n) 0 (by omega))

theorem ones_step : ∀ i : Fin 8, Go.bits .or .u8 ((256 - 2 ^ (8 - i.val) : Nat) : Int) ((128 : Int) / 2 ^ i.val) = ((256 - 2 ^ (8 - (i.val + 1)) : Nat) : Int) := by decide +kernel
end Go.Proofs.Ytecfoepcgammcaa.Math
