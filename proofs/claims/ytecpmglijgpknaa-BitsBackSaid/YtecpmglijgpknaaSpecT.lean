/- Plain facts: what both Takes come to; the shown example; rounds enough. -/
import Derived.Test.YtecpmglijgpknaaSpec
import Derived.DataShut
import Derived.Test.YtecpmglijgpknaaX10
namespace Go.Proofs.Ytecpmglijgpknaa.Math
set_option linter.unusedVariables false
set_option linter.unusedSimpArgs false
open Go.RowKit Go.Proofs.Ytecpmglijgpknaa.X Go.Proofs.Ytecpmglijgpknaa.HandF
open Go.Proofs.YtecpmglijgpknaaW.PrintWords Go.Proofs.YtecpmglijgpknaaW.PrintLast Go.Proofs.YtecpmglijgpknaaW.PrintMore

/-- From some count of rounds on, it tells r. -/
def Ev {α : Type} (f : Nat → Option α) (r : α) : Prop := ∃ k0, ∀ k, k0 ≤ k → f k = some r
theorem Ev.of {α : Type} {f : Nat → Option α} {r : α} (hm : ∀ k, LeO (f k) (f (k + 1))) {k : Nat} (h : f k = some r) : Ev f r := by
  refine ⟨k, fun j hj => ?_⟩
  obtain ⟨e, rfl⟩ : ∃ e, j = k + e := ⟨j - k, by omega⟩
  clear hj
  induction e with
  | zero => exact h
  | succ e ih => exact hm _ _ ih

theorem shown_some : pannierlaw01_shown.f = some true := by decide +kernel

theorem bytes_of_wf {l : List Int} (h : ∀ x ∈ l, (Lit.int .u8 x).wf = true) : Bytes l := by
  intro x hx
  have := h x hx
  rw [Lit.wf_int_iff] at this
  simp [IntKind.min, IntKind.max, IntKind.signed, IntKind.bits] at this
  omega
theorem i64_of_wf {x : Int} (h : (Lit.int .i64 x).wf = true) : -9223372036854775808 ≤ x ∧ x ≤ 9223372036854775807 := by
  rw [Lit.wf_int_iff] at h
  simp [IntKind.min, IntKind.max, IntKind.signed, IntKind.bits] at h
  omega
theorem u64_of_wf {x : Int} (h : (Lit.int .u64 x).wf = true) : 0 ≤ x ∧ x < 18446744073709551616 := by
  rw [Lit.wf_int_iff] at h
  simp [IntKind.min, IntKind.max, IntKind.signed, IntKind.bits] at h
  omega

/-- What Take tells. -/
def takeRes (l : List Int) (n p w : Int) : Int × Int :=
  if rightB l n = true ∧ 0 ≤ w ∧ w ≤ 64 ∧ 0 ≤ p ∧ p ≤ n then (if n - p < w then (0, 10) else (((takeN l p.toNat w.toNat : Nat) : Int), 0)) else (0, 2)

theorem take_res {l : List Int} {n p w : Int} (hb : Bytes l) (hl : l.length ≤ 140737488355328) (h0 : -9223372036854775808 ≤ n) (h1 : n ≤ 9223372036854775807) :
    Ev (fun k => bits_Take.f k l n p w) (takeRes l n p w) := by
  refine Ev.of (k := 67) (fun k => bits_Take.mono _ _ _ _ k) ?_
  unfold bits_Take.f takeRes
  rw [right_some hb hl h0 h1]
  simp only [Option.bind_some]
  cases hr : rightB l n with
  | false => simp [bits_Take.j0]
  | true =>
    obtain ⟨r0, r1, r2⟩ := rightB_iff.1 hr
    rw [if_pos rfl]
    by_cases c1 : w < 0
    · rw [if_pos c1, if_neg (by omega)]; simp [bits_Take.j0]
    rw [if_neg c1]
    by_cases c2 : w > 64
    · rw [if_pos c2, if_neg (by omega)]; simp [bits_Take.j0]
    rw [if_neg c2]
    by_cases c3 : p < 0
    · rw [if_pos c3, if_neg (by omega)]; simp [bits_Take.j0]
    rw [if_neg c3]
    by_cases c4 : p > n
    · rw [decide_eq_true c4, if_neg (by omega)]; simp [bits_Take.j0]
    rw [decide_eq_false c4, if_pos ⟨rfl, by omega, by omega, by omega, by omega⟩]
    simp only [bits_Take.j0]
    rw [if_neg (by decide), wrap_small (x := n - p) (by omega) (by omega)]
    by_cases c5 : n - p < w
    · rw [if_pos c5, if_pos c5]
    rw [if_neg c5, if_neg c5]
    obtain ⟨W, rfl⟩ := Int.eq_ofNat_of_zero_le (show 0 ≤ w by omega)
    obtain ⟨q, rfl⟩ := Int.eq_ofNat_of_zero_le (show 0 ≤ p by omega)
    have ht := take_some hb hl q W (by omega) (by omega)
    have he : Ev (fun k => bits_take.f k l (q : Int) (W : Int)) _ := Ev.of (fun k => bits_take.mono _ _ _ k) ht
    have h66 : bits_take.f 66 l (q : Int) (W : Int) = some ((takeN l q W : Nat) : Int) := by
      have : ∀ e, bits_take.f (W + 1 + e) l (q : Int) (W : Int) = some ((takeN l q W : Nat) : Int) := fun e => by
        induction e with
        | zero => exact ht
        | succ e ih => exact bits_take.mono _ _ _ _ _ ih
      have := this (65 - W)
      rwa [show W + 1 + (65 - W) = 66 by omega] at this
    rw [h66]
    rfl

theorem shl_or2 (x b : Nat) (hx : x < 9223372036854775808) (hb : b < 2) : Go.bits .or .u64 (IntKind.u64.wrap ((x : Int) * 2)) (b : Int) = ((2 * x + b : Nat) : Int) := by
  have e2 : IntKind.u64.wrap (b : Int) = (b : Int) := by rw [IntKind.wrap_u64]; omega
  have := shl_or x b hx hb
  rwa [e2] at this

theorem takeN_63 (l : List Int) (p w : Nat) (h : w ≤ 63) : takeN l p w < 9223372036854775808 :=
  Nat.lt_of_lt_of_le (takeN_lt l p w) (Nat.pow_le_pow_right (show 0 < 2 by decide) h)

theorem reftake_loop {l : List Int} (hb : Bytes l) (hl : l.length ≤ 140737488355328) (p W : Nat) (hW : W ≤ 64) (hp : p + W ≤ 8 * l.length) (d : Nat) :
    ∀ w, w + d = W → pannierref01_Take.l0 (d + 1) l (p : Int) (W : Int) (takeN l p w : Int) (w : Int) = some (((takeN l p W : Nat) : Int), 0) := by
  induction d with
  | zero =>
    intro w hw
    obtain rfl : w = W := by omega
    unfold pannierref01_Take.l0
    rw [if_neg (Int.lt_irrefl _)]
  | succ d ih =>
    intro w hw
    have e1 : wrap64 ((p : Int) + (w : Int)) = ((p + w : Nat) : Int) := by rw [wrap_small (by omega) (by omega)]; omega
    have e2 : wrap64 ((w : Int) + 1) = ((w + 1 : Nat) : Int) := by rw [wrap_small (by omega) (by omega)]; omega
    have hlt : (w : Int) < (W : Int) := by omega
    have hbit := bit_some hb hl (p + w) (by omega)
    have h3 := shl_or2 _ _ (takeN_63 l p w (by omega)) (bitN_lt l (p + w))
    have := ih (w + 1) (by omega)
    rw [takeN] at this
    unfold pannierref01_Take.l0
    rw [if_pos hlt, e1, hbit, Option.bind_some, h3, e2]
    exact this

theorem reftake_res {l : List Int} {n p w : Int} (hb : Bytes l) (hl : l.length ≤ 140737488355328) (h0 : -9223372036854775808 ≤ n) (h1 : n ≤ 9223372036854775807) :
    Ev (fun k => pannierref01_Take.f k l n p w) (takeRes l n p w) := by
  refine Ev.of (k := 80) (fun k => pannierref01_Take.mono _ _ _ _ k) ?_
  obtain ⟨k0, hk0⟩ := Ev.of (fun k => pannierref01_Right.mono _ _ k) (refright_some (n := n) hb hl h0 h1)
  have hright : pannierref01_Right.f 80 l n = some (rightB l n) := by
    have : ∀ e, pannierref01_Right.f (10 + e) l n = some (rightB l n) := fun e => by
      induction e with
      | zero => exact refright_some hb hl h0 h1
      | succ e ih => exact pannierref01_Right.mono _ _ _ _ ih
    exact this 70
  unfold pannierref01_Take.f takeRes
  rw [hright]
  simp only [Option.bind_some]
  cases hr : rightB l n with
  | false => simp [pannierref01_Take.j0]
  | true =>
    obtain ⟨r0, r1, r2⟩ := rightB_iff.1 hr
    rw [if_pos rfl]
    by_cases c1 : w < 0
    · rw [if_pos c1, if_neg (by omega)]; simp [pannierref01_Take.j0]
    rw [if_neg c1]
    by_cases c2 : w > 64
    · rw [if_pos c2, if_neg (by omega)]; simp [pannierref01_Take.j0]
    rw [if_neg c2]
    by_cases c3 : p < 0
    · rw [if_pos c3, if_neg (by omega)]; simp [pannierref01_Take.j0]
    rw [if_neg c3]
    by_cases c4 : p > n
    · rw [decide_eq_true c4, if_neg (by omega)]; simp [pannierref01_Take.j0]
    rw [decide_eq_false c4, if_pos ⟨rfl, by omega, by omega, by omega, by omega⟩]
    simp only [pannierref01_Take.j0]
    rw [if_neg (by decide), wrap_small (x := n - p) (by omega) (by omega)]
    by_cases c5 : n - p < w
    · rw [if_pos c5, if_pos c5]
    rw [if_neg c5, if_neg c5]
    obtain ⟨W, rfl⟩ := Int.eq_ofNat_of_zero_le (show 0 ≤ w by omega)
    obtain ⟨q, rfl⟩ := Int.eq_ofNat_of_zero_le (show 0 ≤ p by omega)
    have ht := reftake_loop hb hl q W (by omega) (by omega) W 0 (by omega)
    have : ∀ e, pannierref01_Take.l0 (W + 1 + e) l (q : Int) (W : Int) 0 0 = some (((takeN l q W : Nat) : Int), 0) := fun e => by
      induction e with
      | zero => exact ht
      | succ e ih => exact (pannierref01_Take.mono_l _).2 _ _ _ _ _ _ ih
    have := this (78 - W)
    rwa [show W + 1 + (78 - W) = 79 by omega] at this
end Go.Proofs.Ytecpmglijgpknaa.Math
