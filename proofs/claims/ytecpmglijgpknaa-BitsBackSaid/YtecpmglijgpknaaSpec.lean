/- Plain facts: what Right, Take and the reference's Right, bit, Take come to. -/
import Derived.Test.YtecpmglijgpknaaMath
import Derived.Test.YtecpmglijgpknaaX13
import Derived.Test.YtecpmglijgpknaaX14
import Derived.Test.YtecpmglijgpknaaX17
import Derived.Test.YtecpmglijgpknaaX18
import Derived.Test.YtecpmglijgpknaaX26
namespace Go.Proofs.Ytecpmglijgpknaa.Math
set_option linter.unusedVariables false
set_option linter.unusedSimpArgs false
open Go.RowKit Go.Proofs.Ytecpmglijgpknaa.X
open Go.Proofs.YtecpmglijgpknaaW.PrintWords Go.Proofs.YtecpmglijgpknaaW.PrintLast Go.Proofs.YtecpmglijgpknaaW.PrintMore

/-- Is a row of n bits? -/
def rightB (l : List Int) (n : Int) : Bool := decide (0 ≤ n) && decide ((n + 7) / 8 = (l.length : Int)) && (List.range (8 * l.length)).all fun i => decide ((i : Int) < n) || bitN l i == 0
theorem rightB_iff {l : List Int} {n : Int} : rightB l n = true ↔ 0 ≤ n ∧ (n + 7) / 8 = (l.length : Int) ∧ ∀ i : Nat, i < 8 * l.length → n ≤ i → bitN l i = 0 := by
  unfold rightB
  simp only [Bool.and_eq_true, decide_eq_true_eq, List.all_eq_true, List.mem_range, Bool.or_eq_true, beq_iff_eq, and_assoc]
  refine ⟨fun ⟨h1, h2, h3⟩ => ⟨h1, h2, fun i hi hn => (h3 i hi).resolve_left (by omega)⟩, fun ⟨h1, h2, h3⟩ => ⟨h1, h2, fun i hi => ?_⟩⟩
  rcases Int.lt_or_le (i : Int) n with h | h
  · exact .inl h
  · exact .inr (h3 i hi h)

theorem tail_bits : ∀ x : Fin 256, ∀ r : Fin 8, (x.val * 2 ^ r.val % 256 == 0) = (List.range 8).all fun j => decide (j < r.val) || x.val / 2 ^ (7 - j) % 2 == 0 := by decide +kernel

theorem right_some {l : List Int} {n : Int} (hb : Bytes l) (hl : l.length ≤ 140737488355328) (h0 : -9223372036854775808 ≤ n) (h1 : n ≤ 9223372036854775807) : bits_Right.f l n = some (rightB l n) := by
  unfold bits_Right.f
  by_cases c1 : n < 0
  · rw [if_pos c1]
    have : rightB l n = false := by
      cases h : rightB l n
      · rfl
      · have := (rightB_iff.1 h).1; omega
    rw [this]
  · rw [if_neg c1, wrap_small (x := 8 * (l.length : Int)) (by omega) (by omega)]
    by_cases c2 : n > 8 * (l.length : Int)
    · rw [if_pos c2]
      have : rightB l n = false := by
        cases h : rightB l n
        · rfl
        · have := (rightB_iff.1 h).2.1; omega
      rw [this]
    · rw [if_neg c2, wrap_small (x := n + 7) (by omega) (by omega), Int.tdiv_eq_ediv_of_nonneg (by omega), Int.tmod_eq_emod_of_nonneg (by omega), wrap_small (x := (n + 7) / 8) (by omega) (by omega)]
      by_cases c3 : (n + 7) / 8 = (l.length : Int)
      · rw [if_pos c3]
        by_cases c4 : n % 8 = 0
        · rw [if_pos c4]
          have : rightB l n = true := rightB_iff.2 ⟨by omega, c3, fun i hi hn => by omega⟩
          rw [this]
        · rw [if_neg c4, wrap_small (x := (l.length : Int) - 1) (by omega) (by omega), if_pos (by omega), if_pos (by omega), if_pos (by omega)]
          obtain ⟨p, hp⟩ : ∃ p : Nat, l.length = p + 1 := ⟨l.length - 1, by omega⟩
          obtain ⟨m, rfl⟩ := Int.eq_ofNat_of_zero_le (show 0 ≤ n by omega)
          rw [show (l.length : Int) - 1 = (p : Int) by omega]
          obtain ⟨b0, b1⟩ := rd_byte hb (p : Int)
          obtain ⟨x, hx⟩ := Int.eq_ofNat_of_zero_le b0
          rw [hx] at b1 ⊢
          have hs : shl .u8 (x : Int) ((m : Int) % 8) = ((x * 2 ^ (m % 8) % 256 : Nat) : Int) := by
            unfold shl
            rw [show ((m : Int) % 8).toNat = m % 8 by omega, Nat.min_eq_left (by show _ ≤ 8; omega), IntKind.wrap_u8]
            simp
          have hbit : ∀ j, j < 8 → bitN l (8 * p + j) = x / 2 ^ (7 - j) % 2 := fun j hj => by
            unfold bitN
            rw [show (8 * p + j) / 8 = p by omega, show (8 * p + j) % 8 = j by omega, hx, Int.toNat_natCast]
          have ht := tail_bits ⟨x, by omega⟩ ⟨m % 8, by omega⟩
          simp only at ht
          rw [hs]
          have e1 : (((x * 2 ^ (m % 8) % 256 : Nat) : Int) == 0) = (x * 2 ^ (m % 8) % 256 == 0) := by
            rw [Bool.eq_iff_iff]; simp only [beq_iff_eq]; omega
          rw [e1, ht]
          congr 1
          rw [Bool.eq_iff_iff, rightB_iff]
          simp only [List.all_eq_true, List.mem_range, Bool.or_eq_true, decide_eq_true_eq, beq_iff_eq]
          constructor
          · intro h
            refine ⟨by omega, c3, fun i hi hn => ?_⟩
            have hi2 : i = 8 * p + (i - 8 * p) := by omega
            rw [hi2, hbit _ (by omega)]
            exact (h (i - 8 * p) (by omega)).resolve_left (by omega)
          · intro h j hj
            rcases Nat.lt_or_ge j (m % 8) with h' | h'
            · exact .inl h'
            · refine .inr ?_
              rw [← hbit j hj]
              exact h.2.2 _ (by omega) (by omega)
      · rw [if_neg c3]
        have : rightB l n = false := by
          cases h : rightB l n
          · rfl
          · have := (rightB_iff.1 h).2.1; omega
        rw [this]

theorem bit_some {l : List Int} (hb : Bytes l) (hl : l.length ≤ 140737488355328) (i : Nat) (hi : i < 8 * l.length) : pannierref01_bit.f l (i : Int) = some ((bitN l i : Nat) : Int) := by
  unfold pannierref01_bit.f
  have h1 : (Int.tdiv (i : Int) 8) = ((i / 8 : Nat) : Int) := by rw [Int.tdiv_eq_ediv_of_nonneg (by omega)]; omega
  have hm : (7 - Int.tmod (i : Int) 8) = ((7 - i % 8 : Nat) : Int) := by rw [Int.tmod_eq_emod_of_nonneg (by omega)]; omega
  rw [h1, hm, wrap_small (x := ((i / 8 : Nat) : Int)) (by omega) (by omega), wrap_small (x := ((7 - i % 8 : Nat) : Int)) (by omega) (by omega), if_pos (by omega), if_pos (by omega), if_pos (by omega)]
  congr 1
  obtain ⟨h0, h2⟩ := rd_byte hb ((i / 8 : Nat) : Int)
  unfold shr bitN
  obtain ⟨x, hx⟩ := Int.eq_ofNat_of_zero_le h0
  rw [hx] at h2 ⊢
  rw [Int.toNat_natCast, Int.toNat_natCast, Nat.min_eq_left (by show _ ≤ 8; omega)]
  have e : ((x : Int) / 2 ^ (7 - i % 8)) = ((x / 2 ^ (7 - i % 8) : Nat) : Int) := by simp
  have hlt : x / 2 ^ (7 - i % 8) < 256 := Nat.lt_of_le_of_lt (Nat.div_le_self _ _) (by omega)
  rw [e]
  generalize x / 2 ^ (7 - i % 8) = y at hlt
  have e2 : IntKind.u64.wrap (y : Int) = (y : Int) := by rw [IntKind.wrap_u64]; omega
  rw [e2, show (1 : Int) = ((1 : Nat) : Int) from rfl, u64_and_nat _ _ (by omega) (by decide), nat_mask1]

theorem refright_loop {l : List Int} (hb : Bytes l) (hl : l.length ≤ 140737488355328) (d : Nat) : ∀ i : Nat, i + d = 8 * l.length →
    pannierref01_Right.l0 (d + 1) l (i : Int) = some ((List.range (8 * l.length)).all fun j => decide (j < i) || bitN l j == 0) := by
  induction d with
  | zero =>
    intro i hi
    unfold pannierref01_Right.l0
    rw [wrap_small (by omega) (by omega), if_neg (by omega)]
    congr 1
    symm
    simp only [List.all_eq_true, List.mem_range, Bool.or_eq_true, decide_eq_true_eq]
    exact fun j hj => .inl (by omega)
  | succ d ih =>
    intro i hi
    unfold pannierref01_Right.l0
    rw [wrap_small (x := 8 * (l.length : Int)) (by omega) (by omega), if_pos (by omega), bit_some hb hl i (by omega)]
    simp only [Option.bind_some]
    by_cases hz : bitN l i = 0
    · rw [if_pos (by omega), wrap_small (by omega) (by omega)]
      have := ih (i + 1) (by omega)
      rw [show (i : Int) + 1 = ((i + 1 : Nat) : Int) by omega, this]
      congr 1
      rw [Bool.eq_iff_iff]
      simp only [List.all_eq_true, List.mem_range, Bool.or_eq_true, decide_eq_true_eq, beq_iff_eq]
      refine ⟨fun h j hj => ?_, fun h j hj => ?_⟩
      · rcases h j hj with h' | h'
        · rcases Nat.lt_or_ge j i with h2 | h2
          · exact .inl h2
          · obtain rfl : j = i := by omega
            exact .inr hz
        · exact .inr h'
      · rcases h j hj with h' | h'
        · exact .inl (by omega)
        · exact .inr h'
    · rw [if_neg (by omega)]
      congr 1
      symm
      rw [Bool.eq_false_iff]
      intro h
      have := List.all_eq_true.1 h i (List.mem_range.2 (by omega))
      simp [hz] at this

theorem refright_some {l : List Int} {n : Int} (hb : Bytes l) (hl : l.length ≤ 140737488355328) (h0 : -9223372036854775808 ≤ n) (h1 : n ≤ 9223372036854775807) : pannierref01_Right.f 10 l n = some (rightB l n) := by
  unfold pannierref01_Right.f
  by_cases c1 : n < 0
  · rw [if_pos c1]
    have : rightB l n = false := by
      cases h : rightB l n
      · rfl
      · have := (rightB_iff.1 h).1; omega
    rw [this]
    simp [pannierref01_Right.j0]
  · rw [if_neg c1, wrap_small (x := 8 * (l.length : Int)) (by omega) (by omega)]
    by_cases c2 : n > 8 * (l.length : Int)
    · rw [if_pos c2]
      have : rightB l n = false := by
        cases h : rightB l n
        · rfl
        · have := (rightB_iff.1 h).2.1; omega
      rw [this]
      simp [pannierref01_Right.j0]
    · rw [if_neg c2, wrap_small (x := 8 * (l.length : Int) - n) (by omega) (by omega)]
      by_cases c3 : 8 * (l.length : Int) - n ≥ 8
      · rw [decide_eq_true c3]
        have : rightB l n = false := by
          cases h : rightB l n
          · rfl
          · have := (rightB_iff.1 h).2.1; omega
        rw [this]
        simp [pannierref01_Right.j0]
      · rw [decide_eq_false c3]
        obtain ⟨m, rfl⟩ := Int.eq_ofNat_of_zero_le (show 0 ≤ n by omega)
        have hloop := refright_loop hb hl (8 * l.length - m) m (by omega)
        have hmono : ∀ d, d ≤ 8 → pannierref01_Right.l0 (d + 1) l (m : Int) = some ((List.range (8 * l.length)).all fun j => decide (j < m) || bitN l j == 0) → pannierref01_Right.l0 9 l (m : Int) = some ((List.range (8 * l.length)).all fun j => decide (j < m) || bitN l j == 0) := by
          intro d hd h
          have : ∀ e, pannierref01_Right.l0 (d + 1 + e) l (m : Int) = some ((List.range (8 * l.length)).all fun j => decide (j < m) || bitN l j == 0) := by
            intro e
            induction e with
            | zero => exact h
            | succ e ih => exact (pannierref01_Right.mono_l _).2 _ _ _ ih
          have := this (8 - d)
          rwa [show d + 1 + (8 - d) = 9 by omega] at this
        have h9 := hmono _ (by omega) hloop
        show pannierref01_Right.j0 10 l (m : Int) false = _
        simp only [pannierref01_Right.j0]
        rw [if_neg (by decide), h9]
        congr 1
        rw [Bool.eq_iff_iff, rightB_iff]
        simp only [List.all_eq_true, List.mem_range, Bool.or_eq_true, decide_eq_true_eq, beq_iff_eq]
        refine ⟨fun h => ⟨by omega, by omega, fun i hi hn => (h i hi).resolve_left (by omega)⟩, fun h i hi => ?_⟩
        rcases Nat.lt_or_ge i m with h' | h'
        · exact .inl h'
        · exact .inr (h.2.2 i hi (by omega))
end Go.Proofs.Ytecpmglijgpknaa.Math
