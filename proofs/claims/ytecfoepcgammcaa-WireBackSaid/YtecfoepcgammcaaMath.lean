/- Plain facts of chapter 2: rounds, the sums, what a number's bytes are. -/
import Derived.Laws.BitsAllLaws
import Derived.DataShut
import Derived.Test.YtecfoepcgammcaaX13
import Derived.Test.YtecfoepcgammcaaX14
import Derived.Test.YtecfoepcgammcaaX11
namespace Go.Proofs.Ytecfoepcgammcaa.Math
set_option linter.unusedVariables false
set_option linter.unusedSimpArgs false
open Go.RowKit Go.Proofs.Ytecfoepcgammcaa.X Go.Proofs.Ytecfoepcgammcaa.HandF
open Go.Proofs.YtecfoepcgammcaaW.PrintWords Go.Proofs.YtecfoepcgammcaaW.PrintLast Go.Proofs.YtecfoepcgammcaaW.PrintMore

def Bytes (l : List Int) : Prop := ∀ x ∈ l, 0 ≤ x ∧ x ≤ 255
theorem bytes_of_wf {l : List Int} (h : ∀ x ∈ l, (Lit.int .u8 x).wf = true) : Bytes l := by
  intro x hx
  have := h x hx
  rw [Lit.wf_int_iff] at this
  simp [IntKind.min, IntKind.max, IntKind.signed, IntKind.bits] at this
  omega
theorem i64_of_wf {x : Int} (h : (Lit.int .i64 x).wf = true) : -9223372036854775808 ≤ x ∧ x ≤ 9223372036854775807 := by
  rw [Lit.wf_int_iff] at h
  simp [IntKind.min, IntKind.max, IntKind.signed, IntKind.bits] at h
  omega
theorem u64_of_wf {x : Int} (h : (Lit.int .u64 x).wf = true) : 0 ≤ x ∧ x < 18446744073709551616 := by
  rw [Lit.wf_int_iff] at h
  simp [IntKind.min, IntKind.max, IntKind.signed, IntKind.bits] at h
  omega
theorem wrap_small {x : Int} (h0 : -9223372036854775808 ≤ x) (h1 : x ≤ 9223372036854775807) : wrap64 x = x := by unfold wrap64; omega

/-- From some count of rounds on, it tells r. -/
def Ev {α : Type} (f : Nat → Option α) (r : α) : Prop := ∃ k0, ∀ k, k0 ≤ k → f k = some r
theorem Ev.of {α : Type} {f : Nat → Option α} {r : α} (hm : ∀ k, LeO (f k) (f (k + 1))) {k : Nat} (h : f k = some r) : Ev f r := by
  refine ⟨k, fun j hj => ?_⟩
  obtain ⟨e, rfl⟩ : ∃ e, j = k + e := ⟨j - k, by omega⟩
  clear hj
  induction e with
  | zero => exact h
  | succ e ih => exact hm _ _ ih

/-! ### The reference's sum -/
theorem and_one (c : Int) : Go.bits .and .u32 c 1 = 0 ∨ Go.bits .and .u32 c 1 = 1 := by
  show IntKind.u32.wrap ((BitVec.ofInt 32 c &&& BitVec.ofInt 32 1).toNat : Int) = 0 ∨ _ = 1
  have h : (BitVec.ofInt 32 c &&& BitVec.ofInt 32 1).toNat < 2 := by
    rw [BitVec.toNat_and]
    have : (BitVec.ofInt 32 1).toNat = 1 := by decide
    rw [this, nat_mask1]
    exact Nat.mod_lt _ (by decide)
  show IntKind.u32.wrap ((BitVec.ofInt 32 c &&& BitVec.ofInt 32 1).toNat : Int) = 0 ∨ IntKind.u32.wrap ((BitVec.ofInt 32 c &&& BitVec.ofInt 32 1).toNat : Int) = 1
  generalize (BitVec.ofInt 32 c &&& BitVec.ofInt 32 1).toNat = y at h
  have : y = 0 ∨ y = 1 := by omega
  rcases this with rfl | rfl
  · exact .inl (by decide)
  · exact .inr (by decide)

theorem refsum_inner (l : List Int) (i : Int) (R : Int) : ∀ (n : Nat) (c : Int), n ≤ 8 →
    (∃ k0, ∀ k, k0 ≤ k → pannierref02_Sum.l0 k l (crcIter n c) (wrap64 (i + 1)) = some R) → ∃ k0, ∀ k, k0 ≤ k → pannierref02_Sum.l1 k l c i ((8 - n : Nat) : Int) = some R
  | 0, c, hn, ⟨k0, h⟩ => by
    refine ⟨k0 + 1, fun k hk => ?_⟩
    obtain ⟨j, rfl⟩ : ∃ j, k = j + 1 := ⟨k - 1, by omega⟩
    simp only [pannierref02_Sum.l1]
    rw [if_neg (by decide)]
    exact h j (by omega)
  | n + 1, c, hn, h => by
    obtain ⟨k0, h0⟩ := refsum_inner l i R n (crcBit c) (by omega) h
    refine ⟨k0 + 1, fun k hk => ?_⟩
    obtain ⟨j, rfl⟩ : ∃ j, k = j + 1 := ⟨k - 1, by omega⟩
    have e1 : wrap64 (((8 - (n + 1) : Nat) : Int) + 1) = ((8 - n : Nat) : Int) := by rw [wrap_small (by omega) (by omega)]; omega
    have hlt : ((8 - (n + 1) : Nat) : Int) < 8 := by clear e1; omega
    have h1 := h0 j (by clear e1; omega)
    simp only [pannierref02_Sum.l1]
    rw [if_pos hlt, e1]
    unfold crcBit at h1
    rcases and_one c with ha | ha
    · rw [if_pos ha] at h1
      rw [if_neg (by rw [ha]; decide)]
      exact h1
    · rw [if_neg (by rw [ha]; decide)] at h1
      rw [if_pos ha]
      exact h1

theorem refsum_outer (l : List Int) (hl : l.length ≤ 140737488355328) (d : Nat) : ∀ (i : Nat) (c : Int), i + d = l.length →
    ∃ k0, ∀ k, k0 ≤ k → pannierref02_Sum.l0 k l c (i : Int) = some (Go.bits .xor .u32 (crcList c (l.drop i)) 4294967295) := by
  induction d with
  | zero =>
    intro i c hi
    refine ⟨1, fun k hk => ?_⟩
    obtain ⟨j, rfl⟩ : ∃ j, k = j + 1 := ⟨k - 1, by omega⟩
    simp only [pannierref02_Sum.l0]
    rw [if_neg (by omega), show i = l.length by omega, List.drop_length]
    rfl
  | succ d ih =>
    intro i c hi
    have hil : i < l.length := by omega
    obtain ⟨k0, h0⟩ := ih (i + 1) (crcByte c l[i]) (by omega)
    have e1 : wrap64 ((i : Int) + 1) = ((i + 1 : Nat) : Int) := by rw [wrap_small (by omega) (by omega)]; omega
    rw [← e1] at h0
    obtain ⟨k1, h1⟩ := refsum_inner l (i : Int) _ 8 (Go.bits .xor .u32 c (l[i] % 4294967296)) (Nat.le_refl _) ⟨k0, h0⟩
    clear e1 h0
    have hrd : rd l (i : Int) = l[i] := by unfold rd; rw [Int.toNat_natCast, List.getD_eq_getElem?_getD, List.getElem?_eq_getElem hil]; rfl
    refine ⟨k1 + 1, fun k hk => ?_⟩
    obtain ⟨j, rfl⟩ : ∃ j, k = j + 1 := ⟨k - 1, by omega⟩
    simp only [pannierref02_Sum.l0]
    rw [if_pos (by omega), if_pos (Int.natCast_nonneg i), hrd, List.drop_eq_getElem_cons hil]
    exact h1 j (by omega)

theorem xor_comm32 (a b : Int) : Go.bits .xor .u32 a b = Go.bits .xor .u32 b a := by
  show IntKind.u32.wrap ((BitVec.ofInt 32 a ^^^ BitVec.ofInt 32 b).toNat : Int) = IntKind.u32.wrap ((BitVec.ofInt 32 b ^^^ BitVec.ofInt 32 a).toNat : Int)
  rw [BitVec.xor_comm]

theorem refsum_some (l : List Int) (hl : l.length ≤ 140737488355328) : ∃ S, wire_Sum.f l = some S ∧ Ev (fun k => pannierref02_Sum.f k l) S := by
  refine ⟨Go.bits .xor .u32 4294967295 (crcList 4294967295 l), if_pos hl, ?_⟩
  obtain ⟨k0, h0⟩ := refsum_outer l hl l.length 0 4294967295 (by omega)
  refine ⟨k0, fun k hk => ?_⟩
  have := h0 k hk
  rw [List.drop_zero, xor_comm32] at this
  exact this

theorem shown_some : pannierlaw02_shown.f 20 = some true := by decide +kernel
theorem shown_ev : Ev (fun k => pannierlaw02_shown.f k) true := Ev.of (fun k => pannierlaw02_shown.mono k) shown_some
end Go.Proofs.Ytecfoepcgammcaa.Math
