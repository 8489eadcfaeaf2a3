/- Plain facts of chapter 2: bytes that are a number are its bytes. -/
import Derived.Test.YtecfoepcgammcaaTakeMath
namespace Go.Proofs.Ytecfoepcgammcaa.Math
set_option linter.unusedVariables false
set_option linter.unusedSimpArgs false
open Go.RowKit Go.Proofs.Ytecfoepcgammcaa.X Go.Proofs.Ytecfoepcgammcaa.HandF
open Go.Proofs.YtecfoepcgammcaaW.PrintWords Go.Proofs.YtecfoepcgammcaaW.PrintLast Go.Proofs.YtecfoepcgammcaaW.PrintMore

theorem lz_top : ∀ x : Fin 256, x.val = (256 - 2 ^ (8 - lz x.val)) + x.val % 2 ^ (7 - lz x.val) := by decide +kernel

theorem acc_be {l : List Int} (hb : Bytes l) : ∀ (d p v : Nat), (v + 1) * 256 ^ d ≤ 18446744073709551616 → p + d ≤ l.length →
    acc l p d v / 256 ^ d = v ∧ be d (acc l p d v) = (l.drop p).take d
  | 0, p, v, h, hp => by simp [acc, be]
  | d + 1, p, v, h, hp => by
    obtain ⟨h0, h1⟩ := rd_byte hb (p : Int)
    obtain ⟨x, hx⟩ := Int.eq_ofNat_of_zero_le h0
    rw [hx] at h1
    have hx256 : x < 256 := by omega
    have hP : 0 < 256 ^ d := Nat.pow_pos (by decide)
    have hs := Nat.pow_succ 256 d
    have hle : (v + 1) * 256 * 256 ^ d ≤ 18446744073709551616 := by rw [Nat.mul_assoc, ← Nat.pow_succ']; exact h
    have hv : (v + 1) * 256 ≤ 18446744073709551616 := Nat.le_trans (Nat.le_mul_of_pos_right _ hP) hle
    have hv2 : v * 256 < 18446744073709551616 := by omega
    have hjoin : (v * 256 % 18446744073709551616) ||| (rd l (p : Int)).toNat = v * 256 + x := by
      rw [hx, Int.toNat_natCast, Nat.mod_eq_of_lt hv2, nat_join 8 _ _ (Nat.mul_mod_left _ _) hx256]
    rw [acc, hjoin]
    have hlt : (v * 256 + x + 1) * 256 ^ d ≤ 18446744073709551616 := Nat.le_trans (Nat.mul_le_mul_right _ (by omega)) hle
    obtain ⟨i1, i2⟩ := acc_be hb d (p + 1) (v * 256 + x) hlt (by omega)
    constructor
    · rw [hs, ← Nat.div_div_eq_div_mul, i1]
      omega
    · rw [be, i1, i2, show (v * 256 + x) % 256 = x by omega]
      have hpl : p < l.length := by omega
      rw [List.drop_eq_getElem_cons hpl, List.take_succ_cons]
      congr 1
      have hrd : rd l (p : Int) = l[p] := by unfold rd; rw [Int.toNat_natCast, List.getD_eq_getElem?_getD, List.getElem?_eq_getElem hpl]; rfl
      rw [← hrd, hx]

theorem numAt_one {l : List Int} (hb : Bytes l) {p v q : Nat} (h : numAt l p = some (v, q)) : (l.take q).drop p = numB v ∧ v < 18446744073709551616 ∧ q ≤ l.length ∧ p < q := by
  unfold numAt at h
  obtain ⟨h0, h1⟩ := rd_byte hb (p : Int)
  obtain ⟨x, hx⟩ := Int.eq_ofNat_of_zero_le h0
  rw [hx] at h1
  rw [hx, Int.toNat_natCast] at h
  have hx256 : x < 256 := by omega
  by_cases c1 : l.length - p ≤ lz x
  · rw [if_pos c1] at h; cases h
  rw [if_neg c1] at h
  by_cases c2 : ex (acc l (p + 1) (lz x) (x % 2 ^ (7 - lz x))) = lz x
  · rw [if_pos c2] at h
    simp only [Option.some.injEq, Prod.mk.injEq] at h
    obtain ⟨hv, rfl⟩ := h
    have hz := lz_le x
    have hvl : acc l (p + 1) (lz x) (x % 2 ^ (7 - lz x)) < 18446744073709551616 := acc_lt hb _ _ _ (Nat.lt_of_le_of_lt (Nat.mod_le _ _) (by omega))
    have hroom : (x % 2 ^ (7 - lz x) + 1) * 256 ^ lz x ≤ 18446744073709551616 := by
      have hm := Nat.mod_lt x (show 0 < 2 ^ (7 - lz x) from Nat.pow_pos (by decide))
      refine Nat.le_trans (Nat.mul_le_mul_right _ hm) ?_
      rw [show (256 : Nat) ^ lz x = 2 ^ (8 * lz x) by rw [Nat.pow_mul], ← Nat.pow_add]
      exact Nat.pow_le_pow_right (show 0 < 2 by decide) (show 7 - lz x + 8 * lz x ≤ 64 by omega)
    obtain ⟨i1, i2⟩ := acc_be hb (lz x) (p + 1) _ hroom (by omega)
    have ht := lz_top ⟨x, hx256⟩
    simp only at ht
    have hpl : p < l.length := by omega
    have hrd : rd l (p : Int) = l[p] := by unfold rd; rw [Int.toNat_natCast, List.getD_eq_getElem?_getD, List.getElem?_eq_getElem hpl]; rfl
    rw [hv] at c2 hvl i1 i2
    refine ⟨?_, hvl, by omega, by omega⟩
    rw [numB_cons hvl, c2, i1, i2, ← ht, ← hx, hrd]
    rw [List.drop_take, show p + 1 + lz x - p = lz x + 1 by omega, List.drop_eq_getElem_cons hpl, List.take_succ_cons]
  · rw [if_neg c2] at h; cases h
end Go.Proofs.Ytecfoepcgammcaa.Math
