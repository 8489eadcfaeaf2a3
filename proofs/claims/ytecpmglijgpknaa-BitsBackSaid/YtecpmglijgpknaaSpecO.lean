/- Plain facts: the bits that a number's own code is, laid and read. -/
import Derived.Test.YtecpmglijgpknaaSpecB
import Derived.Test.YtecpmglijgpknaaHandT
namespace Go.Proofs.Ytecpmglijgpknaa.Math
set_option linter.unusedVariables false
set_option linter.unusedSimpArgs false
open Go.RowKit Go.Proofs.Ytecpmglijgpknaa.X Go.Proofs.YtecpmglijgpknaaW.PrintWords Go.Proofs.YtecpmglijgpknaaW.PrintLast Go.Proofs.YtecpmglijgpknaaW.PrintMore Go.Proofs.Ytecpmglijgpknaa.HandF Go.Proofs.Ytecpmglijgpknaa.Hand

/-- What TakeOwn tells. -/
def takeOwnIs (l : List Int) (n p : Int) : Int × Int × Int :=
  if rightB l n = true ∧ 0 ≤ p ∧ p ≤ n then ownRes (ownAt l n.toNat p.toNat) else (0, 0, 2)

theorem takeown_is {l : List Int} {n p : Int} (hb : Bytes l) (hl : l.length ≤ 140737488355328) (h0 : -9223372036854775808 ≤ n) (h1 : n ≤ 9223372036854775807) : bits_TakeOwn.f l n p = some (takeOwnIs l n p) := by
  unfold bits_TakeOwn.f takeOwnIs
  rw [right_some hb hl h0 h1, Option.bind_some]
  cases hr : rightB l n with
  | false => simp
  | true =>
    obtain ⟨r0, r1, r2⟩ := rightB_iff.1 hr
    rw [if_pos rfl]
    by_cases c1 : p < 0
    · rw [if_pos c1, if_neg (by omega)]
    rw [if_neg c1]
    by_cases c2 : p > n
    · rw [if_pos c2, if_neg (by omega)]
    rw [if_neg c2, if_pos ⟨List.all_eq_true.2 fun x hx => decide_eq_true (hb x hx), by omega, hl⟩, if_pos ⟨rfl, by omega, by omega⟩]

theorem takeN_bit (l : List Int) (p : Nat) : ∀ w i, i < w → takeN l p w / 2 ^ (w - 1 - i) % 2 = bitN l (p + i)
  | 0, i, h => absurd h (by omega)
  | w + 1, i, h => by
    have hb := bitN_lt l (p + w)
    rw [takeN]
    by_cases hi : i = w
    · subst hi
      rw [show i + 1 - 1 - i = 0 by omega, Nat.pow_zero, Nat.div_one]
      omega
    · have ih := takeN_bit l p w i (by omega)
      rw [show w + 1 - 1 - i = (w - 1 - i) + 1 by omega, Nat.pow_succ', ← Nat.div_div_eq_div_mul, show (2 * takeN l p w + bitN l (p + w)) / 2 = takeN l p w by omega]
      exact ih

theorem takeN_of_bits (l : List Int) (p : Nat) : ∀ w v, v < 2 ^ w → (∀ i, i < w → bitN l (p + i) = v / 2 ^ (w - 1 - i) % 2) → takeN l p w = v
  | 0, v, hv, _ => by simp at hv; simp [takeN, hv]
  | w + 1, v, hv, h => by
    have hp := Nat.pow_succ 2 w
    have ih := takeN_of_bits l p w (v / 2) (by omega) (fun i hi => by
      rw [h i (by omega), show w + 1 - 1 - i = (w - 1 - i) + 1 by omega, Nat.pow_succ', ← Nat.div_div_eq_div_mul])
    have hl := h w (by omega)
    rw [show w + 1 - 1 - w = 0 by omega, Nat.pow_zero, Nat.div_one] at hl
    rw [takeN, ih, hl]
    omega

theorem takeN_ge (l : List Int) (p : Nat) (h : bitN l p = 1) : ∀ w, 2 ^ w ≤ takeN l p (w + 1)
  | 0 => by rw [takeN]; simp [takeN, h]
  | w + 1 => by
    have := takeN_ge l p h w
    rw [takeN, Nat.pow_succ]
    omega

/-- How many noughts a number's own code begins with. -/
def zeros (v : Nat) : Nat := Lib.bitLen (v + 1) - 1
theorem zeros_spec {v : Nat} (h : v ≤ 4611686018427387903) : Lib.bitLen (v + 1) = zeros v + 1 ∧ zeros v ≤ 62 ∧ 2 ^ zeros v ≤ v + 1 ∧ v + 1 < 2 ^ (zeros v + 1) := by
  have h2 := Lib.bitLenAux_bounds 64 (v + 1) (by omega) (by omega)
  have h3 := Lib.bitLen_le (v + 1) 63 (by omega) (by omega)
  have h4 : Lib.bitLen (v + 1) = zeros v + 1 := by unfold zeros; have : 1 ≤ Lib.bitLen (v + 1) := h2.1; omega
  have h5 : 2 ^ (Lib.bitLen (v + 1) - 1) ≤ v + 1 ∧ v + 1 < 2 ^ Lib.bitLen (v + 1) := h2.2
  rw [h4, Nat.add_sub_cancel] at h5
  exact ⟨h4, by omega, h5.1, h5.2⟩
theorem zeros_eq {v k : Nat} (h : v ≤ 4611686018427387903) (h1 : 2 ^ k ≤ v + 1) (h2 : v + 1 < 2 ^ (k + 1)) : zeros v = k := by
  obtain ⟨_, _, a, b⟩ := zeros_spec h
  have c := (Nat.pow_lt_pow_iff_right (show 1 < 2 by decide)).1 (Nat.lt_of_le_of_lt h1 b)
  have d := (Nat.pow_lt_pow_iff_right (show 1 < 2 by decide)).1 (Nat.lt_of_le_of_lt a h2)
  omega

/-- Bit j of a number's own code. -/
def codeBit (v j : Nat) : Nat := if j < zeros v then 0 else (v + 1) / 2 ^ (zeros v - (j - zeros v)) % 2
theorem codeBit_top {v : Nat} (h : v ≤ 4611686018427387903) : codeBit v (zeros v) = 1 := by
  obtain ⟨_, _, a, b⟩ := zeros_spec h
  unfold codeBit
  rw [if_neg (by omega), Nat.sub_self, Nat.sub_zero]
  have h1 : (v + 1) / 2 ^ zeros v = 1 := by
    apply Nat.div_eq_of_lt_le
    · omega
    · rw [Nat.pow_succ] at b; omega
  rw [h1]

def code (v : Nat) : List Bool := highs 0 (zeros v) ++ highs ((v + 1 : Nat) : Int) (zeros v + 1)
theorem code_length (v : Nat) : (code v).length = 2 * zeros v + 1 := by unfold code; rw [List.length_append, highs_length, highs_length]; omega
theorem code_at {v : Nat} (h : v ≤ 4611686018427387903) {j : Nat} (hj : j < (code v).length) : ((code v)[j]).toNat = codeBit v j := by
  obtain ⟨_, z, a, b⟩ := zeros_spec h
  have hj' := hj
  rw [code_length] at hj'
  unfold codeBit
  by_cases hz : j < zeros v
  · have e0 : (code v)[j]? = some (bitAt ((0 : Nat) : Int) (zeros v - 1 - j)) := by
      unfold code
      rw [List.getElem?_append_left (by rw [highs_length]; exact hz), highs_at hz]
      rfl
    have e1 : (code v)[j] = bitAt ((0 : Nat) : Int) (zeros v - 1 - j) := by
      rw [List.getElem?_eq_getElem hj] at e0
      exact Option.some.inj e0
    rw [e1, if_pos hz, bitAt_nat _ _ (by decide) (by omega)]
    simp
  · have e0 : (code v)[j]? = some (bitAt ((v + 1 : Nat) : Int) (zeros v - (j - zeros v))) := by
      unfold code
      rw [List.getElem?_append_right (by rw [highs_length]; omega), highs_length, highs_at (by omega), Nat.add_sub_cancel]
    have e1 : (code v)[j] = bitAt ((v + 1 : Nat) : Int) (zeros v - (j - zeros v)) := by
      rw [List.getElem?_eq_getElem hj] at e0
      exact Option.some.inj e0
    rw [e1, if_neg hz, bitAt_nat _ _ (by omega) (by omega)]
    have := Nat.mod_lt ((v + 1) / 2 ^ (zeros v - (j - zeros v))) (show 0 < 2 by decide)
    rcases Nat.lt_or_ge ((v + 1) / 2 ^ (zeros v - (j - zeros v)) % 2) 1 with h' | h'
    · rw [show (v + 1) / 2 ^ (zeros v - (j - zeros v)) % 2 = 0 by omega]; rfl
    · rw [show (v + 1) / 2 ^ (zeros v - (j - zeros v)) % 2 = 1 by omega]; rfl

theorem ownBits_code {v : Nat} (h : v ≤ 4611686018427387903) (s : List Int × Int) : ownBits s (v : Int) = (code v).foldl stepB s := by
  obtain ⟨e, _⟩ := zeros_spec h
  unfold ownBits code
  rw [show ((v : Int) + 1).toNat = v + 1 by omega, e, Nat.add_sub_cancel, List.foldl_append]
  rfl

theorem own_row {l : List Int} {m v : Nat} (hr : Row l m) (h : v ≤ 4611686018427387903) :
    ∃ l', ownBits (l, (m : Int)) (v : Int) = (l', ((m + (2 * zeros v + 1) : Nat) : Int)) ∧ Row l' (m + (2 * zeros v + 1)) ∧ (∀ i, i < m → bitN l' i = bitN l i) ∧ ∀ j, j < 2 * zeros v + 1 → bitN l' (m + j) = codeBit v j := by
  obtain ⟨l', e1, r1, k1, b1⟩ := row_fold (code v) hr
  rw [code_length] at e1 r1
  refine ⟨l', by rw [ownBits_code h, e1], r1, k1, fun j hj => ?_⟩
  have hj' : j < (code v).length := by rw [code_length]; exact hj
  rw [b1 j hj', code_at h]

theorem scan_at {l : List Int} {n p kk : Nat} (hk : kk ≤ 62) (hn : p + kk < n) (hz : ∀ i, i < kk → bitN l (p + i) = 0) (h1 : bitN l (p + kk) = 1) (d : Nat) :
    ∀ k, k + d = kk → scan l n p (64 - k) k = some kk := by
  induction d with
  | zero =>
    intro k h
    obtain rfl : k = kk := by omega
    rw [show 64 - k = (63 - k) + 1 by omega]
    simp only [scan]
    rw [if_neg (by omega), if_pos h1]
  | succ d ih =>
    intro k h
    rw [show 64 - k = (63 - k) + 1 by omega]
    simp only [scan]
    have := hz k (by omega)
    rw [if_neg (by omega), if_neg (by omega)]
    have := ih (k + 1) (by omega)
    rwa [show 64 - (k + 1) = 63 - k by omega] at this

/-- A number's own code stands in a row, from a place on. -/
def CodeAt (l : List Int) (p v : Nat) : Prop := v ≤ 4611686018427387903 ∧ ∀ j, j < 2 * zeros v + 1 → bitN l (p + j) = codeBit v j

theorem ownAt_code {l : List Int} {n p v : Nat} (h : CodeAt l p v) (hn : p + (2 * zeros v + 1) ≤ n) : ownAt l n p = some (v, p + (2 * zeros v + 1)) := by
  obtain ⟨hv, hc⟩ := h
  obtain ⟨e, z, a, b⟩ := zeros_spec hv
  have hz : ∀ i, i < zeros v → bitN l (p + i) = 0 := fun i hi => by rw [hc i (by omega)]; unfold codeBit; rw [if_pos hi]
  have h1 : bitN l (p + zeros v) = 1 := by rw [hc _ (by omega), codeBit_top hv]
  have hs := scan_at (n := n) z (by omega) hz h1 (zeros v) 0 (by omega)
  have ht : takeN l (p + zeros v) (zeros v + 1) = v + 1 := takeN_of_bits _ _ _ _ b fun i hi => by
    rw [Nat.add_assoc, hc (zeros v + i) (by omega)]
    unfold codeBit
    rw [if_neg (by omega), show zeros v + i - zeros v = i by omega, show zeros v + 1 - 1 - i = zeros v - i by omega]
  unfold ownAt
  rw [show (64 : Nat) = 64 - 0 from rfl, hs, Option.bind_some]
  unfold ownOf
  rw [if_neg (by omega), ht, Nat.add_sub_cancel, if_neg (by omega)]
  rfl

theorem scan_some {l : List Int} {n p : Nat} : ∀ f k r, scan l n p f k = some r → k ≤ r ∧ r ≤ 62 ∧ p + r < n ∧ bitN l (p + r) = 1 ∧ ∀ i, k ≤ i → i < r → bitN l (p + i) = 0
  | 0, k, r, h => by simp [scan] at h
  | f + 1, k, r, h => by
    simp only [scan] at h
    by_cases c1 : n ≤ p + k ∨ 62 < k
    · rw [if_pos c1] at h; simp at h
    rw [if_neg c1] at h
    by_cases c2 : bitN l (p + k) = 1
    · rw [if_pos c2] at h
      obtain rfl := Option.some.inj h
      exact ⟨Nat.le_refl _, by omega, by omega, c2, fun i h1 h2 => by omega⟩
    rw [if_neg c2] at h
    obtain ⟨a, b, c, d, e⟩ := scan_some f (k + 1) r h
    refine ⟨by omega, b, c, d, fun i h1 h2 => ?_⟩
    rcases Nat.eq_or_lt_of_le h1 with rfl | h3
    · have := bitN_lt l (p + k); omega
    · exact e i h3 h2

theorem ownAt_some {l : List Int} {n p v q : Nat} (h : ownAt l n p = some (v, q)) : CodeAt l p v ∧ q = p + (2 * zeros v + 1) ∧ q ≤ n := by
  unfold ownAt at h
  obtain ⟨k, hk, h⟩ := Option.bind_eq_some_iff.1 h
  obtain ⟨_, k62, kn, k1, kz⟩ := scan_some _ _ _ hk
  unfold ownOf at h
  by_cases c1 : n - p < 2 * k + 1
  · rw [if_pos c1] at h; simp at h
  rw [if_neg c1] at h
  by_cases c2 : 4611686018427387903 < takeN l (p + k) (k + 1) - 1
  · rw [if_pos c2] at h; simp at h
  rw [if_neg c2] at h
  simp only [Option.some.injEq, Prod.mk.injEq] at h
  obtain ⟨hv, rfl⟩ := h
  have hge := takeN_ge l (p + k) k1 k
  have hpos : 0 < 2 ^ k := Nat.pow_pos (by decide)
  have hlt := takeN_lt l (p + k) (k + 1)
  have hv1 : takeN l (p + k) (k + 1) = v + 1 := by omega
  have hvm : v ≤ 4611686018427387903 := by omega
  have hzk : zeros v = k := zeros_eq hvm (by omega) (by omega)
  refine ⟨⟨hvm, fun j hj => ?_⟩, by rw [hzk]; omega, by omega⟩
  unfold codeBit
  rw [hzk] at hj ⊢
  by_cases c3 : j < k
  · rw [if_pos c3]; exact kz j (Nat.zero_le _) c3
  · rw [if_neg c3, ← hv1]
    have := takeN_bit l (p + k) (k + 1) (j - k) (by omega)
    rw [show k + 1 - 1 - (j - k) = k - (j - k) by omega, show p + k + (j - k) = p + j by omega] at this
    exact this.symm

theorem putOwn_is {l : List Int} {m v : Nat} (hr : Row l m) (h : v ≤ 4611686018427387903) (hl : l.length + 18 ≤ 140737488355328) :
    ∃ l', bits_PutOwn.f l (m : Int) (v : Int) = some (l', ((m + (2 * zeros v + 1) : Nat) : Int), 0) ∧ Row l' (m + (2 * zeros v + 1)) ∧ (∀ i, i < m → bitN l' i = bitN l i) ∧ CodeAt l' m v := by
  obtain ⟨l', e, r, k, b⟩ := own_row hr h
  have hlen := hr.len
  refine ⟨l', ?_, r, k, h, b⟩
  rw [putown_res hr.bytes hl (by omega) (by omega) (by omega)]
  unfold putOwnRes
  rw [if_pos ⟨hr.right, by omega⟩, e]
end Go.Proofs.Ytecpmglijgpknaa.Math
