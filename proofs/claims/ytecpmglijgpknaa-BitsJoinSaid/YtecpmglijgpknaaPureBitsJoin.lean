/- The plain law of BitsJoin: two numbers laid one behind the other are one number laid. -/
import Derived.Test.YtecpmglijgpknaaX4
import Derived.Test.YtecpmglijgpknaaSpecB
namespace Go.Proofs.Ytecpmglijgpknaa.Math
set_option linter.unusedVariables false
set_option linter.unusedSimpArgs false
open Go.RowKit Go.Proofs.Ytecpmglijgpknaa.X Go.Proofs.YtecpmglijgpknaaW.PrintWords Go.Proofs.YtecpmglijgpknaaW.PrintLast Go.Proofs.YtecpmglijgpknaaW.PrintMore Go.Proofs.Ytecpmglijgpknaa.HandF Go.Proofs.Ytecpmglijgpknaa.Hand

theorem bitLen_lt {x w : Nat} (hx : x < 18446744073709551616) (h : Lib.bitLen x ≤ w) : x < 2 ^ w := by
  by_cases h0 : x = 0
  · subst h0; exact Nat.pow_pos (by decide)
  · have := (Lib.bitLenAux_bounds 64 x hx h0).2.2
    exact Nat.lt_of_lt_of_le this (Nat.pow_le_pow_right (by decide) h)

theorem highs_join (x y a b : Nat) (hy : y < 2 ^ b) (hab : a + b ≤ 64) (hx : x * 2 ^ b + y < 18446744073709551616) :
    highs ((x * 2 ^ b + y : Nat) : Int) (a + b) = highs (x : Int) a ++ highs (y : Int) b := by
  have hp : 0 < 2 ^ b := Nat.pow_pos (by decide)
  have hx1 : x ≤ x * 2 ^ b := Nat.le_mul_of_pos_right _ hp
  apply List.ext_getElem
  · simp [highs_length]
  intro i h1 h2
  rw [highs_length] at h1
  have e1 : (highs ((x * 2 ^ b + y : Nat) : Int) (a + b))[i]'(by rw [highs_length]; exact h1) = bitAt ((x * 2 ^ b + y : Nat) : Int) (a + b - 1 - i) := by simp [highs]
  rw [e1, bitAt_nat _ _ hx (by omega)]
  by_cases hi : i < a
  · have e2 : (highs (x : Int) a ++ highs (y : Int) b)[i]'h2 = bitAt (x : Int) (a - 1 - i) := by
      rw [List.getElem_append_left (by rw [highs_length]; exact hi)]; simp [highs]
    rw [e2, bitAt_nat _ _ (by omega) (by omega), show a + b - 1 - i = b + (a - 1 - i) by omega, Nat.pow_add, ← Nat.div_div_eq_div_mul]
    rw [show (x * 2 ^ b + y) / 2 ^ b = x by rw [Nat.add_comm, Nat.add_mul_div_right _ _ hp, Nat.div_eq_of_lt hy]; omega]
  · have e2 : (highs (x : Int) a ++ highs (y : Int) b)[i]'h2 = bitAt (y : Int) (b - 1 - (i - a)) := by
      rw [List.getElem_append_right (by rw [highs_length]; omega)]; simp [highs, highs_length]
    rw [e2, bitAt_nat _ _ (by omega) (by omega), show a + b - 1 - i = b - 1 - (i - a) by omega]
    obtain ⟨m, hm⟩ : ∃ m, b - 1 - (i - a) = m := ⟨_, rfl⟩
    have hmb : m + 1 ≤ b := by omega
    rw [hm]
    have e3 : (x * 2 ^ b + y) / 2 ^ m % 2 = y / 2 ^ m % 2 := by
      have e4 : x * 2 ^ b = x * 2 ^ (b - m - 1) * 2 * 2 ^ m := by
        rw [Nat.mul_assoc (x * 2 ^ (b - m - 1)), Nat.mul_assoc x, ← Nat.pow_succ', ← Nat.pow_add, show b - m - 1 + (m + 1) = b by omega]
      rw [e4, Nat.add_comm, Nat.add_mul_div_right _ _ (Nat.pow_pos (by decide)), Nat.add_mul_mod_self_right]
    rw [e3]

theorem putRes_ok {l : List Int} {n : Nat} {v w : Nat} (h : Row l n) (hw : w ≤ 64) (hv : Lib.bitLen v ≤ w) :
    putRes l (n : Int) (v : Int) (w : Int) = (((highs v w).foldl stepB (l, (n : Int))).1, ((highs v w).foldl stepB (l, (n : Int))).2, 0) := by
  unfold putRes
  rw [if_pos ⟨h.right, by omega, by omega, by rw [Int.toNat_natCast]; omega⟩, Int.toNat_natCast]

theorem shl_join {x y b : Nat} (hb : b < 64) (hy : y < 2 ^ b) (hx : x * 2 ^ b + y < 18446744073709551616) : Go.bits .or .u64 (shl .u64 (x : Int) (b : Int)) (y : Int) = ((x * 2 ^ b + y : Nat) : Int) := by
  have e1 : shl .u64 (x : Int) (b : Int) = ((x * 2 ^ b : Nat) : Int) := by
    unfold shl
    rw [Int.toNat_natCast, Nat.min_eq_left (by show b ≤ 64; omega), IntKind.wrap_u64]
    have : ((x : Int) * 2 ^ b) = ((x * 2 ^ b : Nat) : Int) := by simp
    rw [this]
    omega
  rw [e1, u64_or_nat _ _ (by omega) (by omega), nat_join b _ _ (Nat.mul_mod_left _ _) hy]

theorem wrap_add {a b : Nat} (h : a + b ≤ 64) : wrap64 ((a : Int) + (b : Int)) = ((a + b : Nat) : Int) := by rw [wrap_small (by omega) (by omega)]; omega

theorem BitsJoin_res {l : List Int} {n v1 v2 w1 w2 : Int} (hb : Bytes l) (hl : l.length + 4096 ≤ 140737488355328) (n0 : -9223372036854775808 ≤ n) (n1 : n ≤ 9223372036854775807) (p0 : 0 ≤ v1) (p1 : v1 < 18446744073709551616) (q0 : 0 ≤ v2) (q1 : v2 < 18446744073709551616) (hw1 : -9223372036854775808 ≤ w1 ∧ w1 ≤ 9223372036854775807) (hw2 : -9223372036854775808 ≤ w2 ∧ w2 ≤ 9223372036854775807) :
    pannierlaw01_BitsJoin.f 2 l n v1 v2 w1 w2 = some true := by
  unfold pannierlaw01_BitsJoin.f
  rw [shown_some, Option.bind_some]
  by_cases c1 : w1 < 0
  · rw [if_pos c1]; simp [pannierlaw01_BitsJoin.j0]
  rw [if_neg c1]
  by_cases c2 : w2 < 0
  · rw [if_pos c2]; simp [pannierlaw01_BitsJoin.j0]
  rw [if_neg c2]
  by_cases c3 : w1 > 64
  · rw [if_pos c3]; simp [pannierlaw01_BitsJoin.j0]
  rw [if_neg c3, wrap_small (by omega) (by omega)]
  by_cases c4 : w2 > 64 - w1
  · rw [decide_eq_true c4]; simp [pannierlaw01_BitsJoin.j0]
  rw [decide_eq_false c4]
  obtain ⟨x, rfl⟩ := Int.eq_ofNat_of_zero_le p0
  obtain ⟨y, rfl⟩ := Int.eq_ofNat_of_zero_le q0
  obtain ⟨a, rfl⟩ := Int.eq_ofNat_of_zero_le (show 0 ≤ w1 by omega)
  obtain ⟨b, rfl⟩ := Int.eq_ofNat_of_zero_le (show 0 ≤ w2 by omega)
  simp only [pannierlaw01_BitsJoin.j0]
  rw [if_neg (by decide), put_res hb (by omega) n0 n1 p0 p1, Option.bind_some]
  by_cases e1 : rightB l n = true ∧ Lib.bitLen x ≤ a
  · obtain ⟨hr, hx⟩ := e1
    obtain ⟨N, rfl⟩ := Int.eq_ofNat_of_zero_le (rightB_iff.1 hr).1
    have hrow := Row.of_right hb hr
    obtain ⟨l1, f1, r1, _, _⟩ := row_fold (highs (x : Int) a) hrow
    rw [highs_length] at f1 r1
    have hlen1 := r1.len
    have hlen0 := hrow.len
    rw [putRes_ok hrow (by omega) hx, f1]
    dsimp only
    rw [put_res r1.bytes (by omega) (by omega) (by omega) q0 q1, Option.bind_some, if_pos rfl]
    by_cases hy : Lib.bitLen y ≤ b
    · rw [putRes_ok r1 (by omega) hy]
      obtain ⟨l2, f2, r2, _, _⟩ := row_fold (highs (y : Int) b) r1
      rw [highs_length] at f2 r2
      rw [f2]
      simp only [pannierlaw01_BitsJoin.j1]
      rw [if_neg (by decide)]
      have hxl := bitLen_lt (by omega) hx
      have hyl := bitLen_lt (by omega) hy
      have hab : a + b ≤ 64 := by omega
      by_cases hb64 : b < 64
      · have hjl : x * 2 ^ b + y < 2 ^ (a + b) := by
          have h1 : (x + 1) * 2 ^ b ≤ 2 ^ a * 2 ^ b := Nat.mul_le_mul_right _ hxl
          rw [← Nat.pow_add, Nat.add_mul, Nat.one_mul] at h1
          omega
        have hj64 : x * 2 ^ b + y < 18446744073709551616 := Nat.lt_of_lt_of_le hjl (Nat.pow_le_pow_right (show 0 < 2 by decide) hab)
        have hjb : Lib.bitLen (x * 2 ^ b + y) ≤ a + b := Lib.bitLen_le _ _ (by omega) hjl
        rw [if_pos (by omega), if_pos (by omega), shl_join hb64 hyl hj64, wrap_add hab, put_res hb (by omega) n0 n1 (by omega) (by omega), Option.bind_some, if_pos trivial, putRes_ok hrow hab hjb, highs_join x y a b hyl (by omega) hj64, List.foldl_append, f1, f2]
        simp
      · rw [if_neg (by omega), wrap_add hab, put_res hb (by omega) n0 n1 q0 q1, Option.bind_some, if_pos trivial]
        obtain rfl : a = 0 := by omega
        have hz : x = 0 := by simpa using hxl
        subst hz
        have h0 : highs ((0 : Nat) : Int) 0 = [] := rfl
        rw [h0] at f1
        simp only [List.foldl_nil, Prod.mk.injEq] at f1
        obtain ⟨rfl, _⟩ := f1
        rw [Nat.zero_add, putRes_ok hrow (by omega) hy]
        rw [Nat.add_zero] at f2
        rw [f2]
        simp
    · have hp2 : putRes l1 ((N + a : Nat) : Int) (y : Int) (b : Int) = ([], 0, 2) := by
        unfold putRes
        rw [if_neg (by rw [Int.toNat_natCast]; omega)]
      rw [hp2]
      simp [pannierlaw01_BitsJoin.j1]
  · have hp1 : putRes l n (x : Int) (a : Int) = ([], 0, 2) := by
      unfold putRes
      rw [if_neg (by rw [Int.toNat_natCast]; exact fun h => e1 ⟨h.1, by omega⟩)]
    rw [hp1]
    dsimp only
    rw [put_res (fun x hx => by simp at hx) (by simp) (by decide) (by decide) q0 q1, Option.bind_some, if_neg (by decide)]
    simp [pannierlaw01_BitsJoin.j1]
end Go.Proofs.Ytecpmglijgpknaa.Math
namespace Go.Proofs.Ytecpmglijgpknaa.Pure
open Go.RowKit Go.Proofs.Ytecpmglijgpknaa.X Go.Proofs.Ytecpmglijgpknaa.Math

theorem BitsJoin : pannierlaw01_BitsJoin.Pure := by
  intro l n v1 v2 w1 w2 hl hl2 hx hn hv1 hv2 hw1 hw2
  have hb := bytes_of_wf hx
  obtain ⟨n0, n1⟩ := i64_of_wf hn
  obtain ⟨p0, p1⟩ := u64_of_wf hv1
  obtain ⟨q0, q1⟩ := u64_of_wf hv2
  exact ⟨2, BitsJoin_res hb (by omega) n0 n1 p0 p1 q0 q1 (i64_of_wf hw1) (i64_of_wf hw2)⟩

end Go.Proofs.Ytecpmglijgpknaa.Pure
