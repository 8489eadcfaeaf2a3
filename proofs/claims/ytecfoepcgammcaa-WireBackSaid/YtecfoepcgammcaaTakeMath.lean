/- Plain facts of chapter 2: which number bytes are; the program's and the reference's. -/
import Derived.Test.YtecfoepcgammcaaNumRef
import Derived.Test.YtecfoepcgammcaaX15
import Derived.Test.YtecfoepcgammcaaX16
namespace Go.Proofs.Ytecfoepcgammcaa.Math
set_option linter.unusedVariables false
set_option linter.unusedSimpArgs false
open Go.RowKit Go.Proofs.Ytecfoepcgammcaa.X Go.Proofs.Ytecfoepcgammcaa.HandF
open Go.Proofs.YtecfoepcgammcaaW.PrintWords Go.Proofs.YtecfoepcgammcaaW.PrintLast Go.Proofs.YtecfoepcgammcaaW.PrintMore

/-- How many ones a byte begins with. -/
def lz (x : Nat) : Nat := 8 - Lib.bitLen (255 - x)
theorem lz_le (x : Nat) : lz x ≤ 8 := Nat.sub_le _ _
theorem lz_bits : ∀ x : Fin 256, ∀ j : Fin 8, (j.val < lz x.val → x.val / 2 ^ (7 - j.val) % 2 = 1) ∧ (j.val = lz x.val → x.val / 2 ^ (7 - j.val) % 2 = 0) := by decide +kernel
theorem not_byte : ∀ x : Fin 256, Go.bits .xor .u8 IntKind.u8.max ((x.val : Nat) : Int) = ((255 - x.val : Nat) : Int) ∧ (8 : Int) - ((Lib.bitLen (255 - x.val) : Nat) : Int) = ((lz x.val : Nat) : Int) := by decide +kernel
theorem low_bits : ∀ k : Fin 9, ∀ x : Fin 256, IntKind.u64.wrap (Go.bits .and .u8 ((x.val : Nat) : Int) (shr .u8 127 ((k.val : Nat) : Int))) = ((x.val % 2 ^ (7 - k.val) : Nat) : Int) := by decide +kernel
theorem low_bits2 : ∀ k : Fin 7, ∀ x : Fin 256, Go.bits .and .u64 (IntKind.u64.wrap ((x.val : Nat) : Int)) (IntKind.u64.wrap ((shl .u64 1 ((7 - k.val : Nat) : Int)) - 1)) = ((x.val % 2 ^ (7 - k.val) : Nat) : Int) := by decide +kernel
theorem one_bit : ∀ j : Fin 8, ∀ x : Fin 256, Go.bits .and .u8 (shr .u8 ((x.val : Nat) : Int) ((7 - j.val : Nat) : Int)) 1 = ((x.val / 2 ^ (7 - j.val) % 2 : Nat) : Int) := by decide +kernel

theorem rd_byte {l : List Int} (h : Bytes l) (i : Int) : 0 ≤ rd l i ∧ rd l i ≤ 255 := by
  unfold rd
  rw [List.getD_eq_getElem?_getD]
  cases hi : l[i.toNat]? with
  | none => simp
  | some x => exact h x (List.mem_of_getElem? hi)

/-- d bytes more behind a number. -/
def acc (l : List Int) : Nat → Nat → Nat → Nat
  | _, 0, v => v
  | p, d + 1, v => acc l (p + 1) d ((v * 256 % 18446744073709551616) ||| (rd l (p : Int)).toNat)
theorem acc_lt {l : List Int} (hb : Bytes l) : ∀ (d p v : Nat), v < 18446744073709551616 → acc l p d v < 18446744073709551616
  | 0, p, v, h => h
  | d + 1, p, v, h => acc_lt hb d (p + 1) _ (Nat.or_lt_two_pow (n := 64) (Nat.mod_lt _ (by decide)) (by have := rd_byte hb (p : Int); omega))
theorem step_lt {l : List Int} (hb : Bytes l) (p v : Nat) : ((v * 256 % 18446744073709551616) ||| (rd l (p : Int)).toNat) < 18446744073709551616 :=
  Nat.or_lt_two_pow (n := 64) (Nat.mod_lt _ (by decide)) (by have := rd_byte hb (p : Int); omega)
theorem acc_step {l : List Int} (hb : Bytes l) (p v : Nat) : Go.bits .or .u64 (IntKind.u64.wrap ((v : Int) * 256)) (IntKind.u64.wrap (rd l (p : Int))) = (((v * 256 % 18446744073709551616) ||| (rd l (p : Int)).toNat : Nat) : Int) := by
  obtain ⟨h0, h1⟩ := rd_byte hb (p : Int)
  obtain ⟨x, hx⟩ := Int.eq_ofNat_of_zero_le h0
  rw [hx] at h1 ⊢
  have e1 : IntKind.u64.wrap ((v : Int) * 256) = ((v * 256 % 18446744073709551616 : Nat) : Int) := by rw [IntKind.wrap_u64]; omega
  have e2 : IntKind.u64.wrap (x : Int) = (x : Int) := by rw [IntKind.wrap_u64]; omega
  rw [e1, e2, u64_or_nat _ _ (Nat.mod_lt _ (by decide)) (by omega), Int.toNat_natCast]

/-- What a number's bytes come to: the number, and where it ends. -/
def numAt (l : List Int) (p : Nat) : Option (Nat × Nat) :=
  if l.length - p ≤ lz (rd l (p : Int)).toNat then none
  else if ex (acc l (p + 1) (lz (rd l (p : Int)).toNat) ((rd l (p : Int)).toNat % 2 ^ (7 - lz (rd l (p : Int)).toNat))) = lz (rd l (p : Int)).toNat then
    some (acc l (p + 1) (lz (rd l (p : Int)).toNat) ((rd l (p : Int)).toNat % 2 ^ (7 - lz (rd l (p : Int)).toNat)), p + 1 + lz (rd l (p : Int)).toNat) else none
def numRes (o : Option (Nat × Nat)) : Int × Int × Int := match o with | none => (0, 0, 20) | some (v, q) => ((v : Int), (q : Int), 0)
def takeNum (l : List Int) (p : Int) : Int × Int × Int := if 0 ≤ p ∧ p < l.length then numRes (numAt l p.toNat) else (0, 0, 20)

theorem take_loop {l : List Int} (hb : Bytes l) (hl : l.length ≤ 140737488371712) (p K : Nat) (hK : K ≤ 8) (hp : p + K < l.length) (d : Nat) :
    ∀ (i v : Nat), v < 18446744073709551616 → i + d = K → wire_TakeNumber.l0 (d + 1) l (p : Int) (K : Int) (v : Int) (K : Int) (i : Int) =
      some (if ex (acc l (p + 1 + i) d v) = K then (((acc l (p + 1 + i) d v : Nat) : Int), ((p + 1 + K : Nat) : Int), 0) else (0, 0, 20)) := by
  induction d with
  | zero =>
    intro i v hv hi
    have e1 : wrap64 ((p : Int) + 1) = ((p + 1 : Nat) : Int) := by rw [wrap_small (by omega) (by omega)]; omega
    have e2 : wrap64 (((p + 1 : Nat) : Int) + (K : Int)) = ((p + 1 + K : Nat) : Int) := by rw [wrap_small (by omega) (by omega)]; omega
    rw [wire_TakeNumber.l0, if_neg (by omega), extra_some hv, Option.bind_some, acc, e1, e2]
    by_cases hc : ex v = K
    · rw [if_pos (by omega), if_pos hc]
    · rw [if_neg (by omega), if_neg hc]
  | succ d ih =>
    intro i v hv hi
    have h1 := ih (i + 1) _ (step_lt hb (p + 1 + i) v) (by omega)
    have hs := acc_step hb (p + 1 + i) v
    have c1 : (i : Int) < (K : Int) := by omega
    have c2 : ((p + 1 + i : Nat) : Int) < (l.length : Int) := by omega
    have e1 : wrap64 ((p : Int) + 1) = ((p + 1 : Nat) : Int) := by rw [wrap_small (by omega) (by omega)]; omega
    have e2 : wrap64 (((p + 1 : Nat) : Int) + (i : Int)) = ((p + 1 + i : Nat) : Int) := by rw [wrap_small (by omega) (by omega)]; omega
    have e3 : wrap64 ((i : Int) + 1) = ((i + 1 : Nat) : Int) := by rw [wrap_small (by omega) (by omega)]; omega
    rw [wire_TakeNumber.l0, if_pos c1, e1, e2, if_pos (Int.natCast_nonneg _), if_pos c2, hs, e3]
    exact h1

theorem take_ev {l : List Int} (hb : Bytes l) (hl : l.length ≤ 140737488371712) (p : Int) : Ev (fun k => wire_TakeNumber.f k l p) (takeNum l p) := by
  refine Ev.of (fun k => wire_TakeNumber.mono _ _ k) (k := 12) ?_
  unfold wire_TakeNumber.f takeNum
  by_cases c1 : p < 0
  · rw [if_pos c1, if_neg (by omega)]; simp [wire_TakeNumber.j0]
  rw [if_neg c1]
  by_cases c2 : p ≥ (l.length : Int)
  · rw [decide_eq_true c2, if_neg (by omega)]; simp [wire_TakeNumber.j0]
  rw [decide_eq_false c2, if_pos (by omega)]
  obtain ⟨q, rfl⟩ := Int.eq_ofNat_of_zero_le (show 0 ≤ p by omega)
  rw [Int.toNat_natCast]
  obtain ⟨h0, h1⟩ := rd_byte hb (q : Int)
  obtain ⟨x, hx⟩ := Int.eq_ofNat_of_zero_le h0
  have hx256 : x < 256 := by omega
  have hn := not_byte ⟨x, hx256⟩
  simp only at hn
  have hz := lz_le x
  have e1 : wrap64 ((l.length : Int) - (q : Int)) = (l.length : Int) - (q : Int) := wrap_small (by omega) (by omega)
  have hlow := low_bits ⟨lz x, by omega⟩ ⟨x, hx256⟩
  simp only at hlow
  have hlz : bits_LeadingZeros8.f (((255 - x : Nat) : Int)) = some ((lz x : Nat) : Int) := by
    unfold bits_LeadingZeros8.f
    rw [if_pos (by omega), Int.toNat_natCast, hn.2]
  simp only [wire_TakeNumber.j0]
  rw [if_neg (by decide), if_pos (Int.natCast_nonneg q), if_pos (by omega), hx, hn.1, hlz, Option.bind_some, e1, hlow]
  unfold numAt
  rw [hx, Int.toNat_natCast]
  by_cases c3 : l.length - q ≤ lz x
  · rw [if_pos (by omega), if_pos c3]; rfl
  rw [if_neg (by omega), if_neg c3, if_pos (Int.natCast_nonneg _)]
  have hm : x % 2 ^ (7 - lz x) < 18446744073709551616 := Nat.lt_of_le_of_lt (Nat.mod_le _ _) (by omega)
  have hlo := take_loop hb hl q (lz x) hz (by omega) (lz x) 0 (x % 2 ^ (7 - lz x)) hm (by omega)
  have hmono : ∀ e, wire_TakeNumber.l0 (lz x + 1 + e) l (q : Int) ((lz x : Nat) : Int) ((x % 2 ^ (7 - lz x) : Nat) : Int) ((lz x : Nat) : Int) ((0 : Nat) : Int) = _ := fun e => by
    induction e with
    | zero => exact hlo
    | succ e ih => exact (wire_TakeNumber.mono_l _).2 _ _ _ _ _ _ _ ih
  have h11 := hmono (10 - lz x)
  rw [show lz x + 1 + (10 - lz x) = 11 by omega, Nat.add_zero] at h11
  refine Eq.trans h11 ?_
  by_cases c4 : ex (acc l (q + 1) (lz x) (x % 2 ^ (7 - lz x))) = lz x
  · rw [if_pos c4, if_pos c4]; rfl
  · rw [if_neg c4, if_neg c4]; rfl

theorem ref_loop {l : List Int} (hb : Bytes l) (hl : l.length ≤ 140737488371712) (p K : Nat) (hK : K ≤ 8) (hp : p + K < l.length) (d : Nat) :
    ∀ (i v : Nat), v < 18446744073709551616 → i + d = K → ∃ k0, ∀ k, k0 ≤ k → pannierref02_TakeNumber.l1 k l (p : Int) (K : Int) (v : Int) ((i + 1 : Nat) : Int) =
      some (if ex (acc l (p + 1 + i) d v) = K then (((acc l (p + 1 + i) d v : Nat) : Int), ((p + 1 + K : Nat) : Int), 0) else (0, 0, 20)) := by
  induction d with
  | zero =>
    intro i v hv hi
    obtain ⟨k0, hf⟩ := follow_ev hv
    dsimp only at hf
    refine ⟨k0 + 1, fun k hk => ?_⟩
    obtain ⟨j, rfl⟩ : ∃ j, k = j + 1 := ⟨k - 1, by omega⟩
    have e1 : wrap64 ((p : Int) + (K : Int)) = ((p + K : Nat) : Int) := by rw [wrap_small (by omega) (by omega)]; omega
    have e2 : wrap64 (((p + K : Nat) : Int) + 1) = ((p + 1 + K : Nat) : Int) := by rw [wrap_small (by omega) (by omega)]; omega
    rw [pannierref02_TakeNumber.l1, if_neg (by omega), hf j (by omega), Option.bind_some, acc, e1, e2]
    by_cases hc : ex v = K
    · rw [if_pos (by omega), if_pos hc]
    · rw [if_neg (by omega), if_neg hc]
  | succ d ih =>
    intro i v hv hi
    obtain ⟨k0, h1⟩ := ih (i + 1) _ (step_lt hb (p + 1 + i) v) (by omega)
    refine ⟨k0 + 1, fun k hk => ?_⟩
    obtain ⟨j, rfl⟩ : ∃ j, k = j + 1 := ⟨k - 1, by omega⟩
    have hs := acc_step hb (p + 1 + i) v
    have c1 : ((i + 1 : Nat) : Int) ≤ (K : Int) := by omega
    have c2 : ((p + 1 + i : Nat) : Int) < (l.length : Int) := by omega
    have h2 := h1 j (by omega)
    have e1 : wrap64 ((p : Int) + ((i + 1 : Nat) : Int)) = ((p + 1 + i : Nat) : Int) := by rw [wrap_small (by omega) (by omega)]; omega
    have e3 : wrap64 (((i + 1 : Nat) : Int) + 1) = ((i + 1 + 1 : Nat) : Int) := by rw [wrap_small (by omega) (by omega)]; omega
    rw [pannierref02_TakeNumber.l1, if_pos c1, e1, if_pos (Int.natCast_nonneg _), if_pos c2, hs, e3]
    exact h2

theorem ref_tail {l : List Int} (hb : Bytes l) (hl : l.length ≤ 140737488371712) (p x : Nat) (hp : p < l.length) (hx : rd l (p : Int) = (x : Int)) (hx256 : x < 256) :
    ∃ k0, ∀ k, k0 ≤ k → pannierref02_TakeNumber.j2 k l (p : Int) ((lz x : Nat) : Int) = some (numRes (numAt l p)) := by
  have hz := lz_le x
  unfold numAt
  rw [hx, Int.toNat_natCast]
  have e1 : wrap64 ((l.length : Int) - (p : Int)) = (l.length : Int) - (p : Int) := wrap_small (by omega) (by omega)
  have e2 : wrap64 (((lz x : Nat) : Int) + 1) = ((lz x : Nat) : Int) + 1 := wrap_small (by omega) (by omega)
  by_cases c3 : l.length - p ≤ lz x
  · refine ⟨1, fun k hk => ?_⟩
    obtain ⟨j, rfl⟩ : ∃ j, k = j + 1 := ⟨k - 1, by omega⟩
    simp only [pannierref02_TakeNumber.j2]
    rw [e1, e2, if_pos (by omega), if_pos c3]
    rfl
  have hm : x % 2 ^ (7 - lz x) < 18446744073709551616 := Nat.lt_of_le_of_lt (Nat.mod_le _ _) (by omega)
  obtain ⟨k0, h0⟩ := ref_loop hb hl p (lz x) hz (by omega) (lz x) 0 (x % 2 ^ (7 - lz x)) hm (by omega)
  rw [Nat.add_zero] at h0
  have hend : (if ex (acc l (p + 1) (lz x) (x % 2 ^ (7 - lz x))) = lz x then (((acc l (p + 1) (lz x) (x % 2 ^ (7 - lz x)) : Nat) : Int), ((p + 1 + lz x : Nat) : Int), (0 : Int)) else (0, 0, 20)) =
      numRes (if ex (acc l (p + 1) (lz x) (x % 2 ^ (7 - lz x))) = lz x then some (acc l (p + 1) (lz x) (x % 2 ^ (7 - lz x)), p + 1 + lz x) else none) := by
    by_cases c4 : ex (acc l (p + 1) (lz x) (x % 2 ^ (7 - lz x))) = lz x
    · rw [if_pos c4, if_pos c4]; rfl
    · rw [if_neg c4, if_neg c4]; rfl
  rw [hend] at h0
  refine ⟨k0 + 2, fun k hk => ?_⟩
  obtain ⟨j, rfl⟩ : ∃ j, k = j + 2 := ⟨k - 2, by omega⟩
  have h1 := h0 j (by omega)
  simp only [pannierref02_TakeNumber.j2, pannierref02_TakeNumber.j3]
  rw [e1, e2, if_neg (by omega), if_neg c3]
  by_cases c5 : lz x < 7
  · have e3 : wrap64 (7 - ((lz x : Nat) : Int)) = ((7 - lz x : Nat) : Int) := by rw [wrap_small (by omega) (by omega)]; omega
    have hlow := low_bits2 ⟨lz x, c5⟩ ⟨x, hx256⟩
    simp only at hlow
    rw [if_pos (by omega), if_pos (Int.natCast_nonneg p), if_pos (by omega), e3, if_pos (Int.natCast_nonneg _), hx, hlow]
    exact h1
  · have hmod : x % 2 ^ (7 - lz x) = 0 := by rw [show 7 - lz x = 0 by omega]; exact Nat.mod_one x
    rw [if_neg (by omega)]
    rw [hmod] at h1 ⊢
    exact h1

theorem ref_ones {l : List Int} (hb : Bytes l) (hl : l.length ≤ 140737488371712) (p x : Nat) (hp : p < l.length) (hx : rd l (p : Int) = (x : Int)) (hx256 : x < 256) (d : Nat) :
    ∀ j, j + d = lz x → ∃ k0, ∀ k, k0 ≤ k → pannierref02_TakeNumber.l0 k l (p : Int) (j : Int) = some (numRes (numAt l p)) := by
  have hz := lz_le x
  induction d with
  | zero =>
    intro j hj
    obtain rfl : j = lz x := by omega
    obtain ⟨k0, h0⟩ := ref_tail hb hl p x hp hx hx256
    refine ⟨k0 + 1, fun k hk => ?_⟩
    obtain ⟨i, rfl⟩ : ∃ i, k = i + 1 := ⟨k - 1, by omega⟩
    have h1 := h0 i (by omega)
    rw [pannierref02_TakeNumber.l0]
    by_cases c8 : lz x < 8
    · have e3 : wrap64 (7 - ((lz x : Nat) : Int)) = ((7 - lz x : Nat) : Int) := by rw [wrap_small (by omega) (by omega)]; omega
      have hbit := one_bit ⟨lz x, c8⟩ ⟨x, hx256⟩
      have hz0 := (lz_bits ⟨x, hx256⟩ ⟨lz x, c8⟩).2 rfl
      simp only at hbit hz0
      rw [if_pos (by omega), if_pos (Int.natCast_nonneg p), if_pos (by omega), e3, if_pos (Int.natCast_nonneg _), hx, hbit, hz0, if_neg (by decide)]
      exact h1
    · rw [if_neg (by omega)]
      exact h1
  | succ d ih =>
    intro j hj
    obtain ⟨k0, h0⟩ := ih (j + 1) (by omega)
    refine ⟨k0 + 1, fun k hk => ?_⟩
    obtain ⟨i, rfl⟩ : ∃ i, k = i + 1 := ⟨k - 1, by omega⟩
    have h1 := h0 i (by omega)
    have c8 : j < 8 := by omega
    have hbit := one_bit ⟨j, c8⟩ ⟨x, hx256⟩
    have hz1 := (lz_bits ⟨x, hx256⟩ ⟨j, c8⟩).1 (by show j < lz x; omega)
    simp only at hbit hz1
    have c1 : (j : Int) < 8 := by omega
    have c2 : (p : Int) < (l.length : Int) := by omega
    have e3 : wrap64 (7 - (j : Int)) = ((7 - j : Nat) : Int) := by rw [wrap_small (by omega) (by omega)]; omega
    have e4 : wrap64 ((j : Int) + 1) = ((j + 1 : Nat) : Int) := by rw [wrap_small (by omega) (by omega)]; omega
    rw [pannierref02_TakeNumber.l0, if_pos c1, if_pos (Int.natCast_nonneg p), if_pos c2, e3, if_pos (Int.natCast_nonneg _), hx, hbit, hz1, if_pos (by decide), e4]
    exact h1

theorem reftake_ev {l : List Int} (hb : Bytes l) (hl : l.length ≤ 140737488371712) (p : Int) : Ev (fun k => pannierref02_TakeNumber.f k l p) (takeNum l p) := by
  have h20 : ∀ k, 1 ≤ k → pannierref02_TakeNumber.j0 k l p true = some (0, 0, 20) := fun k hk => by
    obtain ⟨i, rfl⟩ : ∃ i, k = i + 1 := ⟨k - 1, by omega⟩
    simp [pannierref02_TakeNumber.j0]
  by_cases c1 : p < 0
  · refine ⟨1, fun k hk => ?_⟩
    dsimp only
    unfold pannierref02_TakeNumber.f takeNum
    rw [if_pos c1, if_neg (by omega), h20 k hk]
  by_cases c2 : p ≥ (l.length : Int)
  · refine ⟨1, fun k hk => ?_⟩
    dsimp only
    unfold pannierref02_TakeNumber.f takeNum
    rw [if_neg c1, decide_eq_true c2, if_neg (by omega), h20 k hk]
  obtain ⟨q, rfl⟩ := Int.eq_ofNat_of_zero_le (show 0 ≤ p by omega)
  obtain ⟨h0, h1⟩ := rd_byte hb (q : Int)
  obtain ⟨x, hx⟩ := Int.eq_ofNat_of_zero_le h0
  obtain ⟨k0, hk0⟩ := ref_ones hb hl q x (by omega) hx (by omega) (lz x) 0 (by omega)
  refine ⟨k0 + 1, fun k hk => ?_⟩
  obtain ⟨i, rfl⟩ : ∃ i, k = i + 1 := ⟨k - 1, by omega⟩
  have h2 := hk0 i (by omega)
  dsimp only
  unfold pannierref02_TakeNumber.f takeNum
  rw [if_neg c1, decide_eq_false c2, if_pos (by omega), Int.toNat_natCast]
  simp only [pannierref02_TakeNumber.j0]
  rw [if_neg (by decide)]
  exact h2
end Go.Proofs.Ytecfoepcgammcaa.Math
