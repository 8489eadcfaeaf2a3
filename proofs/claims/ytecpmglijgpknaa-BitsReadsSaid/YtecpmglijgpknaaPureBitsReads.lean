/- The plain law of BitsReads: TakeOwn against the reference's. -/
import Derived.Test.YtecpmglijgpknaaX7
import Derived.Test.YtecpmglijgpknaaSpecT
namespace Go.Proofs.Ytecpmglijgpknaa.Pure
set_option linter.unusedVariables false
set_option linter.unusedSimpArgs false
open Go.RowKit Go.Proofs.Ytecpmglijgpknaa.X Go.Proofs.YtecpmglijgpknaaW.PrintWords Go.Proofs.YtecpmglijgpknaaW.PrintLast Go.Proofs.YtecpmglijgpknaaW.PrintMore Go.Proofs.Ytecpmglijgpknaa.Math Go.Proofs.Ytecpmglijgpknaa.HandF

/-- What TakeOwn tells. -/
def takeOwnRes (l : List Int) (n p : Int) : Int × Int × Int :=
  if rightB l n = true ∧ 0 ≤ p ∧ p ≤ n then ownRes (ownAt l n.toNat p.toNat) else (0, 0, 2)

theorem bytesB_of {l : List Int} (h : Bytes l) : bytesB l = true := List.all_eq_true.2 fun x hx => decide_eq_true (h x hx)

theorem takeown_res {l : List Int} {n p : Int} (hb : Bytes l) (hl : l.length ≤ 140737488355328) (h0 : -9223372036854775808 ≤ n) (h1 : n ≤ 9223372036854775807) : bits_TakeOwn.f l n p = some (takeOwnRes l n p) := by
  unfold bits_TakeOwn.f takeOwnRes
  rw [right_some hb hl h0 h1, Option.bind_some]
  cases hr : rightB l n with
  | false => simp
  | true =>
    obtain ⟨r0, r1, r2⟩ := rightB_iff.1 hr
    rw [if_pos rfl]
    by_cases c1 : p < 0
    · rw [if_pos c1, if_neg (by omega)]
    rw [if_neg c1]
    by_cases c2 : p > n
    · rw [if_pos c2, if_neg (by omega)]
    rw [if_neg c2, if_pos ⟨bytesB_of hb, by omega, hl⟩, if_pos ⟨rfl, by omega, by omega⟩]

theorem scan_none (l : List Int) (n p f k : Nat) (h : 62 < k) : scan l n p f k = none := by
  cases f with
  | zero => rfl
  | succ f => simp only [scan]; rw [if_pos (.inr h)]

theorem mn_small {x : Int} (h : x ≤ 64) : mn x 64 = x := by unfold mn; rw [if_neg (by omega)]

theorem ref_tail {l : List Int} {n p k : Nat} (hb : Bytes l) (hl : l.length ≤ 140737488355328) (hr : rightB l (n : Int) = true) (hn : n ≤ 8 * l.length) (hp : p + k ≤ n) (hbit : p + k < n → bitN l (p + k) = 1) :
    ∃ k0, ∀ j, k0 ≤ j → ((pannierref01_Take.f j l (n : Int) ((p + k : Nat) : Int) (mn ((k + 1 : Nat) : Int) 64)).bind fun bt188 => (if ((k + 1 : Nat) : Int) > 63 then (some (0, 0, 10)) else (if bt188.2 = 0 then (if bt188.1 > 4611686018427387904 then (some (0, 0, 10)) else (some (IntKind.u64.wrap (bt188.1 - 1), wrap64 (((p + k : Nat) : Int) + ((k + 1 : Nat) : Int)), 0))) else (some (0, 0, 10))))) =
      some (ownRes ((scan l n p (64 - k) k).bind fun k => ownOf l n p k)) := by
  obtain ⟨k0, h0⟩ := reftake_res (n := n) (p := ((p + k : Nat) : Int)) (w := mn ((k + 1 : Nat) : Int) 64) hb hl (by omega) (by omega)
  dsimp only at h0
  refine ⟨k0, fun j hj => ?_⟩
  rw [h0 j hj, Option.bind_some]
  by_cases c1 : 62 < k
  · rw [if_pos (by omega), scan_none _ _ _ _ _ c1]
    rfl
  rw [if_neg (by omega), mn_small (by omega)]
  by_cases c2 : n ≤ p + k
  · have hT : takeRes l (n : Int) ((p + k : Nat) : Int) ((k + 1 : Nat) : Int) = (0, 10) := by
      unfold takeRes
      rw [if_pos ⟨hr, by omega, by omega, by omega, by omega⟩, if_pos (by omega)]
    have hS : scan l n p (64 - k) k = none := by
      rw [show 64 - k = (63 - k) + 1 by omega]
      simp only [scan]
      rw [if_pos (.inl c2)]
    rw [hT, hS]
    rfl
  have hS : scan l n p (64 - k) k = some k := by
    rw [show 64 - k = (63 - k) + 1 by omega]
    simp only [scan]
    rw [if_neg (by omega), if_pos (hbit (by omega))]
  rw [hS, Option.bind_some]
  by_cases c3 : n - p < 2 * k + 1
  · have hT : takeRes l (n : Int) ((p + k : Nat) : Int) ((k + 1 : Nat) : Int) = (0, 10) := by
      unfold takeRes
      rw [if_pos ⟨hr, by omega, by omega, by omega, by omega⟩, if_pos (by omega)]
    unfold ownOf
    rw [hT, if_pos c3]
    rfl
  have hT : takeRes l (n : Int) ((p + k : Nat) : Int) ((k + 1 : Nat) : Int) = (((takeN l (p + k) (k + 1) : Nat) : Int), 0) := by
    unfold takeRes
    rw [if_pos ⟨hr, by omega, by omega, by omega, by omega⟩, if_neg (by omega), Int.toNat_natCast, Int.toNat_natCast]
  have ht := takeN_top l (p + k) (hbit (by omega)) k
  have hlt := takeN_63 l (p + k) (k + 1) (by omega)
  unfold ownOf
  rw [hT, if_neg c3, if_pos rfl]
  obtain ⟨X, hX⟩ : ∃ X, takeN l (p + k) (k + 1) = X := ⟨_, rfl⟩
  rw [hX] at ht hlt ⊢
  dsimp only
  by_cases c4 : 4611686018427387903 < X - 1
  · rw [if_pos c4, if_pos (show (X : Int) > 4611686018427387904 by omega)]
    rfl
  rw [if_neg c4, if_neg (show ¬ (X : Int) > 4611686018427387904 by omega)]
  have e1 : IntKind.u64.wrap ((X : Int) - 1) = ((X - 1 : Nat) : Int) := by rw [IntKind.wrap_u64]; omega
  have e2 : wrap64 (((p + k : Nat) : Int) + ((k + 1 : Nat) : Int)) = ((p + 2 * k + 1 : Nat) : Int) := by rw [Math.wrap_small (by omega) (by omega)]; omega
  rw [e1, e2]
  rfl

theorem ref_loop {l : List Int} {n p : Nat} (hb : Bytes l) (hl : l.length ≤ 140737488355328) (hr : rightB l (n : Int) = true) (hn : n ≤ 8 * l.length) (d : Nat) :
    ∀ k, p + k + d = n → ∃ k0, ∀ j, k0 ≤ j → pannierref01_TakeOwn.l0 j l (n : Int) ((p + k : Nat) : Int) ((k + 1 : Nat) : Int) = some (ownRes ((scan l n p (64 - k) k).bind fun k => ownOf l n p k)) := by
  induction d with
  | zero =>
    intro k hk
    obtain ⟨k0, h0⟩ := ref_tail (p := p) (k := k) hb hl hr hn (by omega) (fun h => by omega)
    refine ⟨k0 + 1, fun j hj => ?_⟩
    obtain ⟨i, rfl⟩ : ∃ i, j = i + 1 := ⟨j - 1, by omega⟩
    unfold pannierref01_TakeOwn.l0
    rw [if_neg (by omega)]
    exact h0 i (by omega)
  | succ d ih =>
    intro k hk
    have hbit := bit_some hb hl (p + k) (by omega)
    by_cases hz : bitN l (p + k) = 0
    · obtain ⟨k0, h0⟩ := ih (k + 1) (by omega)
      refine ⟨k0 + 1, fun j hj => ?_⟩
      obtain ⟨i, rfl⟩ : ∃ i, j = i + 1 := ⟨j - 1, by omega⟩
      have e1 : wrap64 (((p + k : Nat) : Int) + 1) = ((p + (k + 1) : Nat) : Int) := by rw [Math.wrap_small (by omega) (by omega)]; omega
      have e2 : wrap64 (((k + 1 : Nat) : Int) + 1) = ((k + 1 + 1 : Nat) : Int) := by rw [Math.wrap_small (by omega) (by omega)]; omega
      have hs : scan l n p (64 - k) k = scan l n p (64 - (k + 1)) (k + 1) := by
        by_cases c1 : 62 < k
        · rw [scan_none _ _ _ _ _ c1, scan_none _ _ _ _ _ (by omega)]
        · rw [show 64 - k = (63 - k) + 1 by omega, show 64 - (k + 1) = 63 - k by omega]
          simp only [scan]
          rw [if_neg (by omega), if_neg (by omega)]
      unfold pannierref01_TakeOwn.l0
      rw [if_pos (by omega), hbit, Option.bind_some, if_pos (by omega), e1, e2, hs]
      exact h0 i (by omega)
    · obtain ⟨k0, h0⟩ := ref_tail (p := p) (k := k) hb hl hr hn (by omega) (fun h => by have := bitN_lt l (p + k); omega)
      refine ⟨k0 + 1, fun j hj => ?_⟩
      obtain ⟨i, rfl⟩ : ∃ i, j = i + 1 := ⟨j - 1, by omega⟩
      unfold pannierref01_TakeOwn.l0
      rw [if_pos (by omega), hbit, Option.bind_some, if_neg (by omega)]
      exact h0 i (by omega)

theorem reftakeown_res {l : List Int} {n p : Int} (hb : Bytes l) (hl : l.length ≤ 140737488355328) (h0 : -9223372036854775808 ≤ n) (h1 : n ≤ 9223372036854775807) :
    ∃ k0, ∀ j, k0 ≤ j → pannierref01_TakeOwn.f j l n p = some (takeOwnRes l n p) := by
  obtain ⟨k1, hk1⟩ := Math.Ev.of (fun k => pannierref01_Right.mono _ _ k) (refright_some (n := n) hb hl h0 h1)
  dsimp only at hk1
  unfold takeOwnRes
  cases hr : rightB l n with
  | false =>
    refine ⟨k1 + 1, fun j hj => ?_⟩
    obtain ⟨i, rfl⟩ : ∃ i, j = i + 1 := ⟨j - 1, by omega⟩
    unfold pannierref01_TakeOwn.f
    rw [hk1 _ (by omega), hr, Option.bind_some]
    simp [pannierref01_TakeOwn.j0]
  | true =>
    obtain ⟨r0, r1, r2⟩ := rightB_iff.1 hr
    by_cases c1 : p < 0
    · refine ⟨k1 + 1, fun j hj => ?_⟩
      obtain ⟨i, rfl⟩ : ∃ i, j = i + 1 := ⟨j - 1, by omega⟩
      unfold pannierref01_TakeOwn.f
      rw [hk1 _ (by omega), hr, Option.bind_some, if_pos rfl, if_pos c1, if_neg (by omega)]
      simp [pannierref01_TakeOwn.j0]
    by_cases c2 : p > n
    · refine ⟨k1 + 1, fun j hj => ?_⟩
      obtain ⟨i, rfl⟩ : ∃ i, j = i + 1 := ⟨j - 1, by omega⟩
      unfold pannierref01_TakeOwn.f
      rw [hk1 _ (by omega), hr, Option.bind_some, if_pos rfl, if_neg c1, decide_eq_true c2, if_neg (by omega)]
      simp [pannierref01_TakeOwn.j0]
    obtain ⟨N, rfl⟩ := Int.eq_ofNat_of_zero_le r0
    obtain ⟨P, rfl⟩ := Int.eq_ofNat_of_zero_le (show 0 ≤ p by omega)
    obtain ⟨k2, hk2⟩ := ref_loop (p := P) hb hl hr (by omega) (N - P) 0 (by omega)
    refine ⟨k1 + k2 + 1, fun j hj => ?_⟩
    obtain ⟨i, rfl⟩ : ∃ i, j = i + 1 := ⟨j - 1, by omega⟩
    have h3 := hk2 i (by omega)
    unfold pannierref01_TakeOwn.f
    rw [hk1 _ (by omega), hr, Option.bind_some, if_pos rfl, if_neg c1, decide_eq_false c2, if_pos ⟨rfl, by omega, by omega⟩, Int.toNat_natCast, Int.toNat_natCast]
    simp only [pannierref01_TakeOwn.j0]
    rw [if_neg (by decide)]
    unfold ownAt
    exact h3

theorem BitsReads : pannierlaw01_BitsReads.Pure := by
  intro l n p hl hl2 hx hn hp
  have hb := bytes_of_wf hx
  obtain ⟨n0, n1⟩ := i64_of_wf hn
  obtain ⟨k1, h1⟩ := reftakeown_res (p := p) hb (by omega) n0 n1
  refine ⟨k1, ?_⟩
  unfold pannierlaw01_BitsReads.f
  rw [shown_some, takeown_res hb (by omega) n0 n1, h1 _ (Nat.le_refl _)]
  simp

end Go.Proofs.Ytecpmglijgpknaa.Pure
