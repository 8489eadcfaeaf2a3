/- Plain facts of chapter 2: a number that was laid is read. -/
import Derived.Test.YtecfoepcgammcaaOneMath
namespace Go.Proofs.Ytecfoepcgammcaa.Math
set_option linter.unusedVariables false
set_option linter.unusedSimpArgs false
open Go.RowKit Go.Proofs.Ytecfoepcgammcaa.X Go.Proofs.Ytecfoepcgammcaa.HandF
open Go.Proofs.YtecfoepcgammcaaW.PrintWords Go.Proofs.YtecfoepcgammcaaW.PrintLast Go.Proofs.YtecfoepcgammcaaW.PrintMore

theorem be_inj : ∀ (d a b : Nat), be d a = be d b → a % 256 ^ d = b % 256 ^ d
  | 0, a, b, _ => by simp [Nat.mod_one]
  | d + 1, a, b, h => by
    rw [be, be] at h
    injection h with h1 h2
    have ih := be_inj d a b h2
    have h3 : a / 256 ^ d % 256 = b / 256 ^ d % 256 := Int.ofNat.inj h1
    rw [mod_split, mod_split, ih, h3]

theorem lz_mark : ∀ k : Fin 9, ∀ t : Fin 128, (t.val < 2 ^ (7 - k.val) ∧ (k.val = 8 → t.val = 0)) → lz ((256 - 2 ^ (8 - k.val)) + t.val) = k.val ∧ ((256 - 2 ^ (8 - k.val)) + t.val) % 2 ^ (7 - k.val) = t.val := by decide +kernel

theorem numAt_back {l : List Int} (hb : Bytes l) {p n : Nat} (hn : n < 18446744073709551616) (hp : p + (ex n + 1) ≤ l.length) (h : (l.drop p).take (ex n + 1) = numB n) : numAt l p = some (n, p + 1 + ex n) := by
  have hk := ex_le n
  have hpl : p < l.length := by omega
  rw [numB_cons hn, List.drop_eq_getElem_cons hpl, List.take_succ_cons] at h
  injection h with h1 h2
  have hrd : rd l (p : Int) = l[p] := by unfold rd; rw [Int.toNat_natCast, List.getD_eq_getElem?_getD, List.getElem?_eq_getElem hpl]; rfl
  have ht7 : n / 256 ^ ex n < 2 ^ (7 - ex n) ∧ (ex n = 8 → n / 256 ^ ex n = 0) := by
    by_cases h8 : ex n < 8
    · exact ⟨top_lt hn h8, fun h => by omega⟩
    · have h88 : ex n = 8 := by omega
      have := top_8 hn h88
      exact ⟨by rw [this]; exact Nat.pow_pos (by decide), fun _ => this⟩
  have h128 : 2 ^ (7 - ex n) ≤ 128 := Nat.pow_le_pow_right (show 0 < 2 by decide) (show 7 - ex n ≤ 7 by omega)
  have hm := lz_mark ⟨ex n, by omega⟩ ⟨n / 256 ^ ex n, by omega⟩ ht7
  simp only at hm
  obtain ⟨m1, m2⟩ := hm
  have hx : (rd l (p : Int)).toNat = (256 - 2 ^ (8 - ex n)) + n / 256 ^ ex n := by rw [hrd, h1, Int.toNat_natCast]
  have hroom : (n / 256 ^ ex n + 1) * 256 ^ ex n ≤ 18446744073709551616 := by
    refine Nat.le_trans (Nat.mul_le_mul_right _ ht7.1) ?_
    rw [show (256 : Nat) ^ ex n = 2 ^ (8 * ex n) by rw [Nat.pow_mul], ← Nat.pow_add]
    exact Nat.pow_le_pow_right (show 0 < 2 by decide) (show 7 - ex n + 8 * ex n ≤ 64 by omega)
  obtain ⟨i1, i2⟩ := acc_be hb (ex n) (p + 1) (n / 256 ^ ex n) hroom (by omega)
  rw [h2] at i2
  have hmod := be_inj _ _ _ i2
  have hA : acc l (p + 1) (ex n) (n / 256 ^ ex n) = n := by
    have e1 := Nat.div_add_mod (acc l (p + 1) (ex n) (n / 256 ^ ex n)) (256 ^ ex n)
    have e2 := Nat.div_add_mod n (256 ^ ex n)
    rw [i1, hmod] at e1
    exact e1.symm.trans e2
  unfold numAt
  rw [hx, m1, m2, hA, if_neg (by omega), if_pos rfl]
end Go.Proofs.Ytecfoepcgammcaa.Math
