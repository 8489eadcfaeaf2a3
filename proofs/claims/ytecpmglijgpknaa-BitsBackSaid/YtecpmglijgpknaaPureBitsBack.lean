/- The plain law of BitsBack: numbers laid one behind the other by their own codes are read back. -/
import Derived.Test.YtecpmglijgpknaaX8
import Derived.Test.YtecpmglijgpknaaSpecO
namespace Go.Proofs.Ytecpmglijgpknaa.Math
set_option linter.unusedVariables false
set_option linter.unusedSimpArgs false
open Go.RowKit Go.Proofs.Ytecpmglijgpknaa.X Go.Proofs.YtecpmglijgpknaaW.PrintWords Go.Proofs.YtecpmglijgpknaaW.PrintLast Go.Proofs.YtecpmglijgpknaaW.PrintMore Go.Proofs.Ytecpmglijgpknaa.HandF Go.Proofs.Ytecpmglijgpknaa.Hand

/-- From place p to place q stand these numbers' own codes. -/
def Codes (l : List Int) : Nat → List Nat → Nat → Prop
  | p, [], q => p = q
  | p, v :: vs, q => CodeAt l p v ∧ Codes l (p + (2 * zeros v + 1)) vs q
theorem Codes.le {l : List Int} : ∀ {vs : List Nat} {p q : Nat}, Codes l p vs q → p ≤ q
  | [], p, q, h => Nat.le_of_eq h
  | v :: vs, p, q, h => by have := Codes.le h.2; omega
theorem Codes.keep {l l' : List Int} : ∀ {vs : List Nat} {p q : Nat}, Codes l p vs q → (∀ i, i < q → bitN l' i = bitN l i) → Codes l' p vs q
  | [], p, q, h, _ => h
  | v :: vs, p, q, h, hk => by
    have hle := Codes.le h.2
    exact ⟨⟨h.1.1, fun j hj => by rw [hk _ (by omega)]; exact h.1.2 j hj⟩, Codes.keep h.2 hk⟩
theorem Codes.snoc {l : List Int} {v : Nat} : ∀ {vs : List Nat} {p q : Nat}, Codes l p vs q → CodeAt l q v → Codes l p (vs ++ [v]) (q + (2 * zeros v + 1))
  | [], p, q, h, hc => by
    have h' : p = q := h
    subst h'
    exact ⟨hc, rfl⟩
  | u :: vs, p, q, h, hc => ⟨h.1, Codes.snoc h.2 hc⟩

theorem takeown_code {l : List Int} {n p v : Nat} (hr : Row l n) (hl : l.length ≤ 140737488355328) (h : CodeAt l p v) (hn : p + (2 * zeros v + 1) ≤ n) :
    bits_TakeOwn.f l (n : Int) (p : Int) = some ((v : Int), ((p + (2 * zeros v + 1) : Nat) : Int), 0) := by
  have hlen := hr.len
  rw [takeown_is hr.bytes hl (by omega) (by omega)]
  unfold takeOwnIs
  rw [if_pos ⟨hr.right, by omega, by omega⟩, Int.toNat_natCast, Int.toNat_natCast, ownAt_code h hn]
  rfl

theorem back_take {l : List Int} {n : Nat} {vs0 : List Nat} (hr : Row l n) (hl : l.length ≤ 1000000) (hc : vs0.length ≤ 1000000) : ∀ (vs : List Nat) (i p : Nat), vs0.drop i = vs → i ≤ vs0.length → Codes l p vs n →
    ∃ k, pannierlaw01_BitsBack.l1 k true l (n : Int) (vs0.map fun (v : Nat) => (v : Int)) (p : Int) (i : Int) = some true
  | [], i, p, hd, hi, h => by
    have hp : p = n := h
    subst hp
    have hlen := hr.len
    have hil : vs0.length ≤ i := List.drop_eq_nil_iff.1 hd
    refine ⟨1, ?_⟩
    simp only [pannierlaw01_BitsBack.l1]
    rw [List.length_map, if_neg (by omega), if_pos trivial, if_pos trivial, right_some hr.bytes (by omega) (by omega) (by omega), hr.right]
    rfl
  | v :: vs, i, p, hd, hi, h => by
    have hlen := hr.len
    have hil : i < vs0.length := by
      rcases Nat.lt_or_ge i vs0.length with h' | h'
      · exact h'
      · rw [List.drop_eq_nil_iff.2 h'] at hd; simp at hd
    have hle := Codes.le h.2
    have hv : vs0[i]? = some v := by
      have := congrArg (fun L => L[0]?) hd
      simpa using this
    have hdrop : vs0.drop (i + 1) = vs := by
      have := congrArg (List.drop 1) hd
      rw [List.drop_drop] at this
      simpa [Nat.add_comm] using this
    obtain ⟨k, hk⟩ := back_take hr hl hc vs (i + 1) (p + (2 * zeros v + 1)) hdrop (by omega) h.2
    have hrd : rd (vs0.map fun (v : Nat) => (v : Int)) (i : Int) = (v : Int) := by
      rw [rd_at, List.getD_eq_getElem?_getD, List.getElem?_map, hv]; rfl
    have e1 : wrap64 ((i : Int) + 1) = ((i + 1 : Nat) : Int) := by rw [wrap_small (by omega) (by omega)]; omega
    have ht := takeown_code hr (by omega) h.1 hle
    have c1 : (i : Int) < (((vs0.map fun (v : Nat) => (v : Int)).length : Nat) : Int) := by rw [List.length_map]; clear e1; omega
    have c2 : (0 : Int) ≤ (i : Int) := Int.natCast_nonneg i
    have c3 : ¬ ((p + (2 * zeros v + 1) : Nat) : Int) ≤ (p : Int) := by clear e1; omega
    refine ⟨k + 1, ?_⟩
    simp only [pannierlaw01_BitsBack.l1]
    rw [if_pos c1, ht, Option.bind_some, if_pos rfl, if_pos c2, if_pos hrd.symm, if_neg c3, e1]
    exact hk

theorem back_put {xs : List Int} (hx : ∀ x ∈ xs, 0 ≤ x ∧ x < 18446744073709551616) (d : Nat) :
    ∀ (i n : Nat) (l : List Int) (vs : List Nat), i + d = min xs.length 200 → Row l n → Codes l 0 vs n → n ≤ 125 * i → vs.length ≤ i →
      ∃ k, pannierlaw01_BitsBack.l0 k xs true l (n : Int) (vs.map fun (v : Nat) => (v : Int)) (i : Int) = some true := by
  induction d with
  | zero =>
    intro i n l vs hi hr hc hn hv
    have hlen := hr.len
    obtain ⟨k, hk⟩ := back_take (vs0 := vs) hr (by omega) (by omega) vs 0 0 rfl (by omega) hc
    refine ⟨k + 2, ?_⟩
    have hj : pannierlaw01_BitsBack.j1 (k + 1) xs true l (n : Int) (vs.map fun (v : Nat) => (v : Int)) (i : Int) false = some true := by
      simp only [pannierlaw01_BitsBack.j1]
      rw [if_neg (by decide)]
      exact hk
    simp only [pannierlaw01_BitsBack.l0]
    by_cases c1 : (i : Int) < (xs.length : Int)
    · rw [if_pos c1, decide_eq_false (by omega)]; exact hj
    · rw [if_neg c1]; exact hj
  | succ d ih =>
    intro i n l vs hi hr hc hn hv
    have hlen := hr.len
    have hix : i < xs.length := by omega
    have hrd : rd xs (i : Int) = xs[i] := by rw [rd_at, List.getD_eq_getElem?_getD, List.getElem?_eq_getElem hix]; rfl
    obtain ⟨x0, x1⟩ := hx xs[i] (List.getElem_mem hix)
    rw [← hrd] at x0 x1
    obtain ⟨v, hvv⟩ := Int.eq_ofNat_of_zero_le x0
    rw [hvv] at x1
    have e1 : wrap64 ((i : Int) + 1) = ((i + 1 : Nat) : Int) := by rw [wrap_small (by omega) (by omega)]; omega
    have E1 := Aside0.mk e1
    clear e1
    have c1 : (i : Int) < (xs.length : Int) := by omega
    have c2 : (0 : Int) ≤ (i : Int) := Int.natCast_nonneg i
    have c3 : (i : Int) < 200 := by omega
    by_cases hb : v ≤ 4611686018427387903
    · obtain ⟨l', e, r', hk', hc'⟩ := putOwn_is hr hb (by omega)
      have hz := (zeros_spec hb).2.1
      obtain ⟨k, hk⟩ := ih (i + 1) (n + (2 * zeros v + 1)) l' (vs ++ [v]) (by omega) r' (Codes.snoc (Codes.keep hc hk') hc') (by omega) (by simp; omega)
      refine ⟨k + 2, ?_⟩
      have d1 : decide ((v : Int) < 4611686018427387904) = true := decide_eq_true (by omega)
      have c4 : (vs.map fun (v : Nat) => (v : Int)).length < 17592186044416 := by rw [List.length_map]; omega
      simp only [pannierlaw01_BitsBack.l0]
      rw [if_pos c1, decide_eq_true c3]
      simp only [pannierlaw01_BitsBack.j1]
      rw [if_pos trivial, if_pos c2, if_pos c1, hvv, e, Option.bind_some, d1, if_neg (show ¬ (((0 : Int) == 0) != true) = true by decide), if_pos rfl, if_pos c4, E1.out]
      rw [List.map_append] at hk
      exact hk
    · obtain ⟨k, hk⟩ := ih (i + 1) n l vs (by omega) hr hc (by omega) (by omega)
      refine ⟨k + 2, ?_⟩
      have e : bits_PutOwn.f l (n : Int) (v : Int) = some ([], 0, 2) := by
        rw [putown_res hr.bytes (by omega) (by omega) (by omega) (by omega)]
        unfold putOwnRes
        rw [if_neg (by omega)]
      have d1 : decide ((v : Int) < 4611686018427387904) = false := decide_eq_false (by omega)
      simp only [pannierlaw01_BitsBack.l0]
      rw [if_pos c1, decide_eq_true c3]
      simp only [pannierlaw01_BitsBack.j1]
      rw [if_pos trivial, if_pos c2, if_pos c1, hvv, e, Option.bind_some, d1, if_neg (by decide), if_neg (by decide), E1.out]
      exact hk
end Go.Proofs.Ytecpmglijgpknaa.Math
namespace Go.Proofs.Ytecpmglijgpknaa.Pure
set_option linter.unusedVariables false
set_option linter.unusedSimpArgs false
open Go.RowKit Go.Proofs.Ytecpmglijgpknaa.X Go.Proofs.Ytecpmglijgpknaa.Math Go.Proofs.Ytecpmglijgpknaa.HandF

theorem BitsBack : pannierlaw01_BitsBack.Pure := by
  intro l hl hl2 hx
  obtain ⟨k, hk⟩ := back_put (xs := l) (fun x hx' => u64_of_wf (hx x hx')) (min l.length 200) 0 0 [] [] (by omega) Row.nil rfl (by omega) (by simp)
  refine ⟨k, ?_⟩
  unfold pannierlaw01_BitsBack.f
  rw [shown_some, Option.bind_some]
  exact hk

end Go.Proofs.Ytecpmglijgpknaa.Pure
