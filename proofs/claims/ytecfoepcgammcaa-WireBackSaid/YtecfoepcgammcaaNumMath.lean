/- Plain facts of chapter 2: a number's bytes. -/
import Derived.Test.YtecfoepcgammcaaMath
import Derived.Lib.ItoaNum
import Derived.Lib.Bytes
namespace Go.Proofs.Ytecfoepcgammcaa.Math
set_option linter.unusedVariables false
set_option linter.unusedSimpArgs false
open Go.RowKit Go.Proofs.Ytecfoepcgammcaa.X Go.Proofs.Ytecfoepcgammcaa.HandF
open Go.Proofs.YtecfoepcgammcaaW.PrintWords Go.Proofs.YtecfoepcgammcaaW.PrintLast Go.Proofs.YtecfoepcgammcaaW.PrintMore

/-- How many bytes follow a number's first one. -/
def ex (n : Nat) : Nat := min 8 ((Lib.bitLen n - 1) / 7)
theorem ex_le (n : Nat) : ex n ≤ 8 := Nat.min_le_left _ _
theorem ex_lt {n : Nat} (hn : n < 18446744073709551616) (h : ex n < 8) : n < 2 ^ (7 * ex n + 7) := by
  by_cases h0 : n = 0
  · subst h0; exact Nat.pow_pos (by decide)
  have h2 := (Lib.bitLenAux_bounds 64 n hn h0).2.2
  have h3 : n < 2 ^ Lib.bitLen n := h2
  refine Nat.lt_of_lt_of_le h3 (Nat.pow_le_pow_right (by decide) ?_)
  unfold ex at h ⊢
  omega
theorem ex_ge {n : Nat} (hn : n < 18446744073709551616) (h : 0 < ex n) : 2 ^ (7 * ex n) ≤ n := by
  by_cases h0 : n = 0
  · subst h0; exact absurd h (by decide)
  have h2 : 1 ≤ Lib.bitLen n ∧ 2 ^ (Lib.bitLen n - 1) ≤ n := ⟨(Lib.bitLenAux_bounds 64 n hn h0).1, (Lib.bitLenAux_bounds 64 n hn h0).2.1⟩
  refine Nat.le_trans (Nat.pow_le_pow_right (by decide) ?_) h2.2
  unfold ex at h ⊢
  omega
/-- Which count it is. -/
theorem ex_eq {n k : Nat} (hn : n < 18446744073709551616) (hk : k ≤ 8) (h1 : k < 8 → n < 2 ^ (7 * k + 7)) (h2 : 0 < k → 2 ^ (7 * k) ≤ n) : ex n = k := by
  rcases Nat.lt_trichotomy (ex n) k with h | h | h
  · have a := ex_lt hn (by omega)
    have b := h2 (by omega)
    have := Nat.pow_le_pow_right (show 0 < 2 by decide) (show 7 * ex n + 7 ≤ 7 * k by omega)
    omega
  · exact h
  · have a := h1 (by have := ex_le n; omega)
    have b := ex_ge hn (by omega)
    have := Nat.pow_le_pow_right (show 0 < 2 by decide) (show 7 * k + 7 ≤ 7 * ex n by omega)
    omega

/-- A number's last m digits of 256, the highest first. -/
def be : Nat → Nat → List Int
  | 0, _ => []
  | m + 1, v => ((v / 256 ^ m % 256 : Nat) : Int) :: be m v
theorem be_length : ∀ m v, (be m v).length = m
  | 0, v => rfl
  | m + 1, v => by rw [be, List.length_cons, be_length]
theorem be_bytes : ∀ m v, Bytes (be m v)
  | 0, v => fun x hx => by simp [be] at hx
  | m + 1, v => fun x hx => by
    rw [be] at hx
    rcases List.mem_cons.1 hx with rfl | h
    · have := Nat.mod_lt (v / 256 ^ m) (show 0 < 256 by decide); omega
    · exact be_bytes m v x h

theorem u8_lt {a b : Nat} (ha : a < 256) (hb : b < 256) : (UInt8.ofNat a < UInt8.ofNat b) ↔ a < b := by
  rw [UInt8.lt_iff_toNat_lt]
  simp [Nat.mod_eq_of_lt ha, Nat.mod_eq_of_lt hb]
theorem u8_eq {a b : Nat} (ha : a < 256) (hb : b < 256) : (UInt8.ofNat a = UInt8.ofNat b) ↔ a = b := by
  rw [← UInt8.toNat_inj]
  simp [Nat.mod_eq_of_lt ha, Nat.mod_eq_of_lt hb]

def bs (l : List Int) : List UInt8 := l.map fun n => UInt8.ofNat n.toNat
theorem str_bs (l : List Int) : (strOfNums l).toList = bs l := by rw [Lib.toList_data]; rfl

theorem mod_split (v m : Nat) : v % 256 ^ (m + 1) = (v / 256 ^ m % 256) * 256 ^ m + v % 256 ^ m := by
  rw [Nat.pow_succ, Nat.mod_mul, Nat.add_comm, Nat.mul_comm]

theorem be_less : ∀ (m v u : Nat), Op.bytesLess (bs (be m v)) (bs (be m u)) = decide (v % 256 ^ m < u % 256 ^ m)
  | 0, v, u => by simp [be, bs, Op.bytesLess, Nat.mod_one]
  | m + 1, v, u => by
    have ih := be_less m v u
    have ha := Nat.mod_lt (v / 256 ^ m) (show 0 < 256 by decide)
    have hb := Nat.mod_lt (u / 256 ^ m) (show 0 < 256 by decide)
    have hr := Nat.mod_lt v (show 0 < 256 ^ m from Nat.pow_pos (by decide))
    have hs := Nat.mod_lt u (show 0 < 256 ^ m from Nat.pow_pos (by decide))
    rw [mod_split, mod_split]
    unfold bs at ih ⊢
    rw [be, be, List.map_cons, List.map_cons, Op.bytesLess, ih]
    rw [Int.toNat_natCast, Int.toNat_natCast]
    generalize v / 256 ^ m % 256 = a at ha
    generalize u / 256 ^ m % 256 = b at hb
    generalize v % 256 ^ m = r at hr
    generalize u % 256 ^ m = s at hs
    generalize 256 ^ m = P at hr hs
    rw [Bool.eq_iff_iff]
    simp only [Bool.or_eq_true, decide_eq_true_eq, Bool.and_eq_true, beq_iff_eq, u8_lt ha hb, u8_eq ha hb]
    rcases Nat.lt_trichotomy a b with h | h | h
    · have := Nat.mul_le_mul_right P (show a + 1 ≤ b by omega)
      rw [Nat.add_mul, Nat.one_mul] at this
      omega
    · subst h; omega
    · have := Nat.mul_le_mul_right P (show b + 1 ≤ a by omega)
      rw [Nat.add_mul, Nat.one_mul] at this
      omega

theorem bytesLess_irrefl : ∀ x : List UInt8, Op.bytesLess x x = false
  | [] => rfl
  | a :: x => by rw [Op.bytesLess, bytesLess_irrefl x]; simp

theorem bytesLess_asymm : ∀ x y : List UInt8, Op.bytesLess x y = true → Op.bytesLess y x = false
  | [], [], h => by simp [Op.bytesLess] at h
  | _ :: _, [], h => by simp [Op.bytesLess] at h
  | [], _ :: _, h => by simp [Op.bytesLess]
  | a :: x, b :: y, h => by
    rw [Op.bytesLess] at h ⊢
    simp only [Bool.or_eq_true, decide_eq_true_eq, Bool.and_eq_true, beq_iff_eq] at h
    rw [Bool.or_eq_false_iff, decide_eq_false_iff_not, Bool.and_eq_false_iff, beq_eq_false_iff_ne]
    rcases h with h | ⟨rfl, h⟩
    · exact ⟨fun h' => by rw [UInt8.lt_iff_toNat_lt] at h h'; omega, .inl fun e => by subst e; rw [UInt8.lt_iff_toNat_lt] at h; omega⟩
    · exact ⟨fun h' => by rw [UInt8.lt_iff_toNat_lt] at h'; omega, .inr (bytesLess_asymm x y h)⟩

/-- A number as its bytes say it: the mark stands in front. -/
def numN (n : Nat) : Nat := (256 - 2 ^ (8 - ex n)) * 256 ^ ex n + n
def numB (n : Nat) : List Int := be (ex n + 1) (numN n)

theorem pow_small {k : Nat} (hk : k ≤ 8) : 2 ^ (8 - k) ≤ 256 ∧ 0 < 2 ^ (8 - k) := ⟨Nat.pow_le_pow_right (show 0 < 2 by decide) (show 8 - k ≤ 8 by omega), Nat.pow_pos (by decide)⟩

/-- The number's own part of its first byte is small. -/
theorem top_lt {n : Nat} (hn : n < 18446744073709551616) (h : ex n < 8) : n / 256 ^ ex n < 2 ^ (7 - ex n) := by
  have a := ex_lt hn h
  apply Nat.div_lt_of_lt_mul
  have e : 256 ^ ex n * 2 ^ (7 - ex n) = 2 ^ (7 * ex n + 7) := by
    rw [show (256 : Nat) = 2 ^ 8 from rfl, ← Nat.pow_mul, ← Nat.pow_add]
    congr 1
    omega
  rw [e]; exact a
theorem top_8 {n : Nat} (hn : n < 18446744073709551616) (h : ex n = 8) : n / 256 ^ ex n = 0 := by
  rw [h]; exact Nat.div_eq_of_lt hn

theorem numN_first {n : Nat} (hn : n < 18446744073709551616) : numN n / 256 ^ ex n = (256 - 2 ^ (8 - ex n)) + n / 256 ^ ex n ∧ numN n / 256 ^ ex n < 256 := by
  have hp : 0 < 256 ^ ex n := Nat.pow_pos (by decide)
  have e : numN n / 256 ^ ex n = (256 - 2 ^ (8 - ex n)) + n / 256 ^ ex n := by
    unfold numN
    rw [Nat.add_comm, Nat.add_mul_div_right _ _ hp, Nat.add_comm]
  refine ⟨e, ?_⟩
  rw [e]
  obtain ⟨p1, p2⟩ := pow_small (ex_le n)
  by_cases h8 : ex n < 8
  · have := top_lt hn h8
    have e2 : 2 ^ (8 - ex n) = 2 * 2 ^ (7 - ex n) := by rw [← Nat.pow_succ']; congr 1; omega
    omega
  · have := top_8 hn (by have := ex_le n; omega)
    omega

theorem numN_lt {n : Nat} (hn : n < 18446744073709551616) : numN n < 256 ^ (ex n + 1) := by
  have := (numN_first hn).2
  rw [Nat.pow_succ]
  exact (Nat.div_lt_iff_lt_mul (Nat.pow_pos (by decide))).1 this |> fun h => by rw [Nat.mul_comm]; exact h

theorem numB_less {a b : Nat} (ha : a < 18446744073709551616) (hb : b < 18446744073709551616) (h : a < b) : Op.bytesLess (bs (numB a)) (bs (numB b)) = true := by
  rcases Nat.lt_trichotomy (ex a) (ex b) with he | he | he
  · obtain ⟨a1, a2⟩ := numN_first ha
    obtain ⟨b1, b2⟩ := numN_first hb
    have t := top_lt ha (by have := ex_le b; omega)
    have hlt : numN a / 256 ^ ex a < numN b / 256 ^ ex b := by
      rw [a1, b1]
      have p1 := pow_small (ex_le a)
      have p2 := pow_small (ex_le b)
      have e2 : 2 ^ (8 - ex a) = 2 * 2 ^ (7 - ex a) := by rw [← Nat.pow_succ']; congr 1; have := ex_le b; omega
      have e3 := Nat.pow_le_pow_right (show 0 < 2 by decide) (show 8 - ex b ≤ 7 - ex a by omega)
      generalize b / 256 ^ ex b = i
      generalize a / 256 ^ ex a = g at t
      omega
    unfold numB bs
    rw [be, be, List.map_cons, List.map_cons, Op.bytesLess, Int.toNat_natCast, Int.toNat_natCast, Nat.mod_eq_of_lt a2, Nat.mod_eq_of_lt b2]
    simp only [Bool.or_eq_true, decide_eq_true_eq, u8_lt a2 b2]
    exact .inl hlt
  · unfold numB
    rw [he, be_less]
    have h1 := numN_lt ha
    have h2 := numN_lt hb
    rw [he] at h1
    rw [Nat.mod_eq_of_lt h1, Nat.mod_eq_of_lt h2]
    unfold numN
    rw [he]
    exact decide_eq_true (by omega)
  · have g1 := ex_ge ha (by omega)
    have g2 := ex_lt hb (by have := ex_le a; omega)
    have := Nat.pow_le_pow_right (show 0 < 2 by decide) (show 7 * ex b + 7 ≤ 7 * ex a by omega)
    omega

/-! ### wire.Number comes to these bytes -/
theorem extra_some {n : Nat} (hn : n < 18446744073709551616) : wire_extra.f (n : Int) = some ((ex n : Nat) : Int) := by
  unfold wire_extra.f bits_Len64.f
  rw [if_pos (by omega), Option.bind_some, Int.toNat_natCast]
  have hb : Lib.bitLen n ≤ 64 := Lib.bitLen_le n 64 (by decide) hn
  unfold ex
  generalize Lib.bitLen n = b at hb
  rw [wrap_small (x := (b : Int) - 1) (by omega) (by omega)]
  have e : mx 0 ((b : Int) - 1) = ((b - 1 : Nat) : Int) := by unfold mx; split <;> omega
  rw [e, wrap_small (by omega) (by omega)]
  congr 1
  unfold mn
  split <;> omega

theorem shr_nat (n s : Nat) (hs : s ≤ 64) : shr .u64 (n : Int) (s : Int) = ((n / 2 ^ s : Nat) : Int) := by
  unfold shr
  rw [Int.toNat_natCast, Nat.min_eq_left (by show s ≤ 64; exact hs)]
  simp

theorem num_loop {n e : Nat} (he : e ≤ 8) (d : Nat) : ∀ (i : Nat) (l : List Int), i + d = e → l.length + d < 140737488355328 → wire_Number.l0 (d + 1) (n : Int) (e : Int) l (e : Int) (i : Int) = some (l ++ be d n) := by
  induction d with
  | zero =>
    intro i l hi hl
    simp only [wire_Number.l0]
    rw [if_neg (by omega), be, List.append_nil]
  | succ d ih =>
    intro i l hi hl
    have e1 : wrap64 ((e : Int) - 1) = (e : Int) - 1 := wrap_small (by omega) (by omega)
    have e2 : wrap64 ((e : Int) - 1 - (i : Int)) = ((d : Nat) : Int) := by rw [wrap_small (by omega) (by omega)]; omega
    have e3 : wrap64 (8 * ((d : Nat) : Int)) = ((8 * d : Nat) : Int) := by rw [wrap_small (by omega) (by omega)]; omega
    have e4 : wrap64 ((i : Int) + 1) = ((i + 1 : Nat) : Int) := by rw [wrap_small (by omega) (by omega)]; omega
    have E := Aside0.mk (And.intro e1 (And.intro e2 (And.intro e3 e4)))
    clear e1 e2 e3 e4
    have c1 : (i : Int) < (e : Int) := by omega
    have c2 : l.length < 140737488355328 := by omega
    have h256 : 2 ^ (8 * d) = 256 ^ d := by rw [Nat.pow_mul]
    have hs := shr_nat n (8 * d) (by omega)
    rw [h256] at hs
    have := ih (i + 1) (l ++ [((n / 256 ^ d % 256 : Nat) : Int)]) (by omega) (by rw [List.length_append, List.length_singleton]; omega)
    obtain ⟨e1, e2, e3, e4⟩ := E.out
    rw [wire_Number.l0, if_pos c1, e1, e2, e3, if_pos (Int.natCast_nonneg _), if_pos c2, hs, e4, show (((n / 256 ^ d : Nat) : Int) % 256) = ((n / 256 ^ d % 256 : Nat) : Int) by simp, this, be, List.append_assoc]
    rfl

theorem be_low (n c k : Nat) : ∀ d, d ≤ k → be d (c * 256 ^ k + n) = be d n
  | 0, _ => rfl
  | d + 1, h => by
    rw [be, be, be_low n c k d (by omega)]
    congr 2
    have e : c * 256 ^ k = c * 256 ^ (k - d - 1) * 256 * 256 ^ d := by
      rw [Nat.mul_assoc (c * 256 ^ (k - d - 1)), Nat.mul_assoc c, ← Nat.pow_succ', ← Nat.pow_add]
      congr 2
      omega
    rw [e, Nat.add_comm, Nat.add_mul_div_right _ _ (Nat.pow_pos (by decide)), Nat.add_mul_mod_self_right]

theorem numB_cons {n : Nat} (hn : n < 18446744073709551616) : numB n = (((256 - 2 ^ (8 - ex n)) + n / 256 ^ ex n : Nat) : Int) :: be (ex n) n := by
  obtain ⟨a1, a2⟩ := numN_first hn
  unfold numB
  rw [be, Nat.mod_eq_of_lt a2, a1]
  congr 1
  unfold numN
  exact be_low n _ _ _ (Nat.le_refl _)

theorem marks : ∀ k : Fin 9, shl .u8 255 ((8 - k.val : Nat) : Int) = ((256 - 2 ^ (8 - k.val) : Nat) : Int) := by decide +kernel

theorem mark_or {k x : Nat} (hk : k < 8) (hx : x < 2 ^ (7 - k)) : Go.bits .or .u8 ((256 - 2 ^ (8 - k) : Nat) : Int) (x : Int) = (((256 - 2 ^ (8 - k)) + x : Nat) : Int) := by
  have h2 : 2 ^ (7 - k) ≤ 128 := Nat.pow_le_pow_right (show 0 < 2 by decide) (show 7 - k ≤ 7 by omega)
  obtain ⟨p1, p2⟩ := pow_small (show k ≤ 8 by omega)
  have e2 : 2 ^ (8 - k) = 2 * 2 ^ (7 - k) := by rw [← Nat.pow_succ']; congr 1; omega
  rw [u8_or_nat _ _ (by omega) (by omega), nat_join (8 - k) _ _ ?_ (by omega)]
  have e3 : 256 = 2 ^ (8 - k) * 2 ^ k := by rw [← Nat.pow_add, show 8 - k + k = 8 by omega]
  rw [e3, show 2 ^ (8 - k) * 2 ^ k - 2 ^ (8 - k) = 2 ^ (8 - k) * (2 ^ k - 1) by rw [Nat.mul_sub, Nat.mul_one], Nat.mul_mod_right]

theorem number_some {l : List Int} {n : Nat} (hn : n < 18446744073709551616) (hl : l.length + 9 < 140737488355328) : Ev (fun k => wire_Number.f k l (n : Int)) (l ++ numB n) := by
  refine Ev.of (k := 12) (fun k => wire_Number.mono _ _ k) ?_
  have hk := ex_le n
  have ha := numB_cons hn
  have hw1 : wrap64 (8 - ((ex n : Nat) : Int)) = ((8 - ex n : Nat) : Int) := by rw [wrap_small (by omega) (by omega)]; omega
  have hw2 : wrap64 (8 * ((ex n : Nat) : Int)) = ((8 * ex n : Nat) : Int) := by rw [wrap_small (by omega) (by omega)]; omega
  have E := Aside0.mk (And.intro hw1 hw2)
  clear hw1 hw2
  have hj : ∀ x : Int, x = (((256 - 2 ^ (8 - ex n)) + n / 256 ^ ex n : Nat) : Int) → wire_Number.j0 12 l (n : Int) ((ex n : Nat) : Int) x = some (l ++ numB n) := by
    rintro x rfl
    have hlen : l.length < 140737488355328 := by omega
    have hlo := num_loop (n := n) hk (ex n) 0 (l ++ [(((256 - 2 ^ (8 - ex n)) + n / 256 ^ ex n : Nat) : Int)]) (by omega) (by rw [List.length_append, List.length_singleton]; omega)
    have hmono : ∀ e, wire_Number.l0 (ex n + 1 + e) (n : Int) ((ex n : Nat) : Int) (l ++ [(((256 - 2 ^ (8 - ex n)) + n / 256 ^ ex n : Nat) : Int)]) ((ex n : Nat) : Int) ((0 : Nat) : Int) = _ := fun e => by
      induction e with
      | zero => exact hlo
      | succ e ih => exact (wire_Number.mono_l _).2 _ _ _ _ _ _ ih
    have h11 := hmono (10 - ex n)
    rw [show ex n + 1 + (10 - ex n) = 11 by omega] at h11
    simp only [wire_Number.j0]
    unfold slices_Clone_byte_byte.f
    rw [if_pos (by omega), Option.bind_some, if_pos hlen, ha]
    refine Eq.trans h11 ?_
    rw [List.append_assoc]
    rfl
  unfold wire_Number.f
  rw [extra_some hn, Option.bind_some, E.out.1, if_pos (Int.natCast_nonneg _)]
  have hm := marks ⟨ex n, by omega⟩
  simp only at hm
  by_cases h8 : ex n < 8
  · have ht := top_lt hn h8
    have hs := shr_nat n (8 * ex n) (by omega)
    rw [show 2 ^ (8 * ex n) = 256 ^ ex n by rw [Nat.pow_mul]] at hs
    have hx : (((n / 256 ^ ex n : Nat) : Int) % 256) = ((n / 256 ^ ex n : Nat) : Int) := by
      have : 2 ^ (7 - ex n) ≤ 128 := Nat.pow_le_pow_right (show 0 < 2 by decide) (show 7 - ex n ≤ 7 by omega)
      generalize n / 256 ^ ex n = y at ht
      omega
    rw [if_pos (by omega), E.out.2, if_pos (Int.natCast_nonneg _), hm, hs, hx, mark_or h8 ht]
    exact hj _ rfl
  · have h88 : ex n = 8 := by omega
    have ht := top_8 hn h88
    rw [if_neg (by omega), hm]
    exact hj _ (by rw [ht, Nat.add_zero])
end Go.Proofs.Ytecfoepcgammcaa.Math
