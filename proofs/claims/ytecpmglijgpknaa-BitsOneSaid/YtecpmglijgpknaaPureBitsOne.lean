/- The plain law of BitsOne: a number read from its own code has that very code. -/
import Derived.Test.YtecpmglijgpknaaX9
import Derived.Test.YtecpmglijgpknaaSpecO
namespace Go.Proofs.Ytecpmglijgpknaa.Math
set_option linter.unusedVariables false
set_option linter.unusedSimpArgs false
open Go.RowKit Go.Proofs.Ytecpmglijgpknaa.X Go.Proofs.YtecpmglijgpknaaW.PrintWords Go.Proofs.YtecpmglijgpknaaW.PrintLast Go.Proofs.YtecpmglijgpknaaW.PrintMore Go.Proofs.Ytecpmglijgpknaa.HandF Go.Proofs.Ytecpmglijgpknaa.Hand

theorem take_bit {l : List Int} {m i : Nat} (hr : Row l m) (hl : l.length ≤ 140737488355328) (hi : i < m) : ∃ k0, ∀ k, k0 ≤ k → bits_Take.f k l (m : Int) (i : Int) 1 = some (((bitN l i : Nat) : Int), 0) := by
  have hlen := hr.len
  obtain ⟨k0, h0⟩ := take_res (n := (m : Int)) (p := (i : Int)) (w := 1) hr.bytes hl (by omega) (by omega)
  refine ⟨k0, fun k hk => ?_⟩
  have h1 := h0 k hk
  dsimp only at h1
  rw [h1]
  unfold takeRes
  rw [if_pos ⟨hr.right, by omega, by omega, by omega, by omega⟩, if_neg (by omega), Int.toNat_natCast, show (1 : Int).toNat = 1 from rfl]
  simp [takeN]

theorem one_loop {l l' : List Int} {n p c : Nat} (hr : Row l n) (hl : l.length ≤ 140737488355328) (hr' : Row l' c) (hl' : l'.length ≤ 140737488355328) (hpn : p + c ≤ n) (heq : ∀ j, j < c → bitN l (p + j) = bitN l' j) (d : Nat) :
    ∀ j, j + d = c → ∃ k0, ∀ k, k0 ≤ k → pannierlaw01_BitsOne.l0 k l (n : Int) (p : Int) true l' (c : Int) (j : Int) = some true := by
  induction d with
  | zero =>
    intro j hj
    refine ⟨1, fun k hk => ?_⟩
    obtain ⟨i, rfl⟩ : ∃ i, k = i + 1 := ⟨k - 1, by omega⟩
    simp only [pannierlaw01_BitsOne.l0]
    rw [if_neg (by omega)]
  | succ d ih =>
    intro j hj
    have hlen := hr.len
    have hlen' := hr'.len
    obtain ⟨k1, h1⟩ := take_bit hr hl (show p + j < n by omega)
    obtain ⟨k2, h2⟩ := take_bit hr' hl' (show j < c by omega)
    obtain ⟨k3, h3⟩ := ih (j + 1) (by omega)
    refine ⟨k1 + k2 + k3 + 1, fun k hk => ?_⟩
    obtain ⟨i, rfl⟩ : ∃ i, k = i + 1 := ⟨k - 1, by omega⟩
    have g1 := h1 i (by omega)
    have g2 := h2 i (by omega)
    have g3 := h3 i (by omega)
    have e1 : wrap64 ((p : Int) + (j : Int)) = ((p + j : Nat) : Int) := by rw [wrap_small (by omega) (by omega)]; omega
    have e2 : wrap64 ((j : Int) + 1) = ((j + 1 : Nat) : Int) := by rw [wrap_small (by omega) (by omega)]; omega
    have hjc : (j : Int) < (c : Int) := Int.ofNat_lt.2 (Nat.lt_of_lt_of_le (Nat.lt_succ_self j) (hj ▸ Nat.le_add_right_of_le (Nat.le_refl _) |> fun _ => by clear e1 e2; omega))
    have hb := heq j (by clear e1 e2; omega)
    clear h1 h2 h3
    simp only [pannierlaw01_BitsOne.l0]
    rw [if_pos hjc, e1, g1, Option.bind_some, g2, Option.bind_some, if_pos rfl, if_pos rfl, if_pos (by rw [hb]), e2]
    exact g3
end Go.Proofs.Ytecpmglijgpknaa.Math
namespace Go.Proofs.Ytecpmglijgpknaa.Pure
set_option linter.unusedVariables false
set_option linter.unusedSimpArgs false
open Go.RowKit Go.Proofs.Ytecpmglijgpknaa.X Go.Proofs.Ytecpmglijgpknaa.Math Go.Proofs.Ytecpmglijgpknaa.HandF

theorem BitsOne : pannierlaw01_BitsOne.Pure := by
  intro l n p hl hl2 hx hn hp
  have hb := bytes_of_wf hx
  obtain ⟨n0, n1⟩ := i64_of_wf hn
  have hsome := takeown_is (p := p) hb (by omega) n0 n1
  by_cases c1 : rightB l n = true ∧ 0 ≤ p ∧ p ≤ n
  · obtain ⟨hr, p0, p1⟩ := c1
    obtain ⟨N, rfl⟩ := Int.eq_ofNat_of_zero_le (rightB_iff.1 hr).1
    obtain ⟨P, rfl⟩ := Int.eq_ofNat_of_zero_le p0
    have hrow := Row.of_right hb hr
    have hlen := hrow.len
    unfold takeOwnIs at hsome
    rw [if_pos ⟨hr, p0, p1⟩, Int.toNat_natCast, Int.toNat_natCast] at hsome
    cases ho : ownAt l N P with
    | none =>
      rw [ho] at hsome
      refine ⟨0, ?_⟩
      unfold pannierlaw01_BitsOne.f
      rw [shown_some, Option.bind_some, hsome, Option.bind_some]
      simp [ownRes]
    | some vq =>
      obtain ⟨v, q⟩ := vq
      rw [ho] at hsome
      obtain ⟨hc, hq, hqn⟩ := ownAt_some ho
      have hz := (zeros_spec hc.1).2.1
      obtain ⟨l', e1, r1, _, c2⟩ := putOwn_is Row.nil hc.1 (by simp)
      rw [Nat.zero_add] at e1 r1
      have hlen' := r1.len
      obtain ⟨k0, h0⟩ := one_loop (p := P) hrow (by omega) r1 (by omega) (by omega) (fun j hj => by
        rw [hc.2 j hj]
        have := c2.2 j hj
        rw [Nat.zero_add] at this
        exact this.symm) (2 * zeros v + 1) 0 (by omega)
      refine ⟨k0 + 1, ?_⟩
      unfold pannierlaw01_BitsOne.f
      rw [shown_some, Option.bind_some, hsome, Option.bind_some]
      have e3 : wrap64 ((q : Int) - (P : Int)) = ((2 * zeros v + 1 : Nat) : Int) := by rw [Math.wrap_small (by omega) (by omega)]; omega
      have g0 := h0 k0 (Nat.le_refl _)
      clear h0
      have e4 : bits_PutOwn.f [] 0 (v : Int) = some (l', ((2 * zeros v + 1 : Nat) : Int), 0) := e1
      simp only [ownRes]
      rw [if_pos trivial, e4, Option.bind_some]
      simp only [pannierlaw01_BitsOne.j0]
      rw [if_pos trivial, e3]
      rw [if_neg (by simp)]
      exact g0
  · unfold takeOwnIs at hsome
    rw [if_neg c1] at hsome
    refine ⟨0, ?_⟩
    unfold pannierlaw01_BitsOne.f
    rw [shown_some, Option.bind_some, hsome, Option.bind_some]
    simp

end Go.Proofs.Ytecpmglijgpknaa.Pure
