/- What trees mean, point by point: plain. -/
import Derived.Test.YtlhaofbncoijfaaTree
namespace Go.Proofs.Ytlhaofbncoijfaa.Tree
set_option linter.unusedVariables false
set_option linter.unusedSimpArgs false
namespace T
/-- Has a tree the p-th of 2^n pieces? -/
def has : Nat → T → Nat → Bool
  | _, leaf b, _ => b
  | 0, node _ _, _ => false
  | n + 1, node a b, p => if p < 2 ^ n then has n a p else has n b (p - 2 ^ n)
theorem has_leaf (n : Nat) (b : Bool) (p : Nat) : has n (leaf b) p = b := by cases n <;> rfl
theorem has_left {n : Nat} {a b : T} {p : Nat} (h : p < 2 ^ n) : has (n + 1) (node a b) p = has n a p := by rw [has, if_pos h]
theorem has_right {n : Nat} {a b : T} {p : Nat} : has (n + 1) (node a b) (p + 2 ^ n) = has n b p := by rw [has, if_neg (by omega), Nat.add_sub_cancel]
theorem half {n p : Nat} (h : p < 2 ^ (n + 1)) : p < 2 ^ n ∨ ∃ q, p = q + 2 ^ n ∧ q < 2 ^ n := by
  rw [Nat.pow_succ] at h
  rcases Nat.lt_or_ge p (2 ^ n) with h1 | h1
  · exact .inl h1
  · exact .inr ⟨p - 2 ^ n, by omega, by omega⟩
theorem left_lt {n p : Nat} (h : p < 2 ^ n) : p < 2 ^ (n + 1) := by rw [Nat.pow_succ]; omega
theorem right_lt {n p : Nat} (h : p < 2 ^ n) : p + 2 ^ n < 2 ^ (n + 1) := by rw [Nat.pow_succ]; omega
/-- No node of two leafs alike. -/
def Nf : T → Prop
  | leaf _ => True
  | node a b => Nf a ∧ Nf b ∧ ¬ (a.isLeaf = true ∧ b.isLeaf = true ∧ a.isOne = b.isOne)
theorem join_nf {a b : T} (ha : Nf a) (hb : Nf b) : Nf (join a b) := by
  unfold join
  split
  · trivial
  · rename_i h
    refine ⟨ha, hb, fun ⟨h1, h2, h3⟩ => h ?_⟩
    rw [h1, h2, h3]
    simp
theorem norm_nf : ∀ t : T, Nf t.norm
  | leaf b => trivial
  | node a b => join_nf (norm_nf a) (norm_nf b)
theorem norm_of_nf : ∀ {t : T}, Nf t → t.norm = t
  | leaf b, _ => rfl
  | node a b, ⟨ha, hb, h⟩ => by
    rw [norm, norm_of_nf ha, norm_of_nf hb, join, if_neg]
    intro h2
    simp only [Bool.and_eq_true, beq_iff_eq] at h2
    exact h ⟨h2.1.1, h2.1.2, h2.2⟩
theorem has_join {n : Nat} (a b : T) (p : Nat) : has (n + 1) (join a b) p = has (n + 1) (node a b) p := by
  unfold join
  split
  · rename_i h
    simp only [Bool.and_eq_true, beq_iff_eq] at h
    cases a with
    | node x y => simp [isLeaf] at h
    | leaf x => cases b with
      | node x y => simp [isLeaf] at h
      | leaf y =>
        simp only [isOne] at h
        rw [has_leaf, has, has_leaf, has_leaf, ← h.2]
        simp [isOne]
  · rfl
theorem has_norm : ∀ (n : Nat) (t : T) (p : Nat), t.depth ≤ n → has n t.norm p = has n t p
  | n, leaf b, p, _ => rfl
  | 0, node a b, p, h => by simp [depth] at h
  | n + 1, node a b, p, h => by
    simp only [depth] at h
    rw [norm, has_join, has, has, has_norm n a p (by omega), has_norm n b _ (by omega)]
theorem pow_pos' (n : Nat) : 0 < 2 ^ n := Nat.pow_pos (by decide)
/-- What has the same pieces is the same normal form. -/
theorem canon : ∀ (n : Nat) {a b : T}, Nf a → Nf b → a.depth ≤ n → b.depth ≤ n → (∀ p, p < 2 ^ n → has n a p = has n b p) → a = b
  | n, leaf x, leaf y, _, _, _, _, h => by have := h 0 (pow_pos' n); rw [has_leaf, has_leaf] at this; rw [this]
  | 0, leaf x, node c d, _, _, _, h, _ => by simp [depth] at h
  | 0, node a b, _, _, _, h, _, _ => by simp [depth] at h
  | n + 1, leaf x, node c d, _, hb, _, hd, h => by
    simp only [depth] at hd
    have hc := canon n (a := leaf x) (b := c) trivial hb.1 (by simp [depth]) (by omega) (fun p hp => by have := h p (left_lt hp); rw [has_leaf, has_left hp] at this; rw [has_leaf]; exact this)
    have hd' := canon n (a := leaf x) (b := d) trivial hb.2.1 (by simp [depth]) (by omega) (fun p hp => by have := h _ (right_lt hp); rw [has_leaf, has_right] at this; rw [has_leaf]; exact this)
    exact absurd ⟨by rw [← hc]; rfl, by rw [← hd']; rfl, by rw [← hc, ← hd']⟩ hb.2.2
  | n + 1, node a b, leaf y, ha, _, hd, _, h => by
    simp only [depth] at hd
    have hc := canon n (a := a) (b := leaf y) ha.1 trivial (by omega) (by simp [depth]) (fun p hp => by have := h p (left_lt hp); rw [has_leaf, has_left hp] at this; rw [has_leaf]; exact this)
    have hd' := canon n (a := b) (b := leaf y) ha.2.1 trivial (by omega) (by simp [depth]) (fun p hp => by have := h _ (right_lt hp); rw [has_leaf, has_right] at this; rw [has_leaf]; exact this)
    exact absurd ⟨by rw [hc]; rfl, by rw [hd']; rfl, by rw [hc, hd']⟩ ha.2.2
  | n + 1, node a b, node c d, ha, hb, h1, h2, h => by
    simp only [depth] at h1 h2
    have hc := canon n (a := a) (b := c) ha.1 hb.1 (by omega) (by omega) (fun p hp => by have := h p (left_lt hp); rw [has_left hp, has_left hp] at this; exact this)
    have hd' := canon n (a := b) (b := d) ha.2.1 hb.2.1 (by omega) (by omega) (fun p hp => by have := h _ (right_lt hp); rw [has_right, has_right] at this; exact this)
    rw [hc, hd']
/-- A node that is a normal form has some piece, and lacks some. -/
theorem some_of {n : Nat} {t : T} (b : Bool) (ht : Nf t) (hd : t.depth ≤ n) (hne : t ≠ leaf b) : ∃ p, p < 2 ^ n ∧ has n t p = !b := by
  refine Classical.byContradiction fun h => hne (canon n ht (b := leaf b) trivial hd (by simp [depth]) (fun p hp => ?_))
  rw [has_leaf]
  cases hb : has n t p <;> cases b <;> first | rfl | exact absurd ⟨p, hp, hb⟩ h
theorem join_depth (a b : T) : (join a b).depth ≤ 1 + max a.depth b.depth := by
  unfold join
  split
  · simp [depth]
  · exact Nat.le_refl _
/-- Are two apart? -/
def Apart (n : Nat) (a b : T) : Prop := ∀ p, p < 2 ^ n → ¬ (has n a p = true ∧ has n b p = true)
theorem sum_spec : ∀ (n : Nat) (a b : T), Nf a → Nf b → a.depth ≤ n → b.depth ≤ n →
    ((sum a b).2 = true ↔ Apart n a b) ∧ ((sum a b).2 = true → Nf (sum a b).1 ∧ (sum a b).1.depth ≤ n ∧ ∀ p, p < 2 ^ n → has n (sum a b).1 p = (has n a p || has n b p))
  | n, leaf false, b, _, hb, _, hd => by
    refine ⟨⟨fun _ p hp h => by rw [has_leaf] at h; exact absurd h.1 (by decide), fun _ => rfl⟩, fun _ => ⟨hb, hd, fun p hp => ?_⟩⟩
    simp [sum, has_leaf]
  | n, leaf true, leaf true, _, _, _, _ => by
    refine ⟨⟨fun h => by simp [sum] at h, fun h => absurd ⟨has_leaf n true 0, has_leaf n true 0⟩ (h 0 (pow_pos' n))⟩, fun h => by simp [sum] at h⟩
  | n, leaf true, leaf false, _, _, _, _ => by
    refine ⟨⟨fun _ p hp h => by rw [has_leaf, has_leaf] at h; exact absurd h.2 (by decide), fun _ => rfl⟩, fun _ => ⟨trivial, by simp [sum, depth], fun p hp => ?_⟩⟩
    simp [sum, has_leaf]
  | n, leaf true, node c d, _, hb, _, hd => by
    refine ⟨⟨fun h => by simp [sum] at h, fun h => ?_⟩, fun h => by simp [sum] at h⟩
    obtain ⟨p, hp, hh⟩ := some_of false hb hd (by simp)
    exact absurd ⟨has_leaf n true p, hh⟩ (h p hp)
  | n, node a b, leaf true, ha, _, hd, _ => by
    refine ⟨⟨fun h => by simp [sum] at h, fun h => ?_⟩, fun h => by simp [sum] at h⟩
    obtain ⟨p, hp, hh⟩ := some_of false ha hd (by simp)
    exact absurd ⟨hh, has_leaf n true p⟩ (h p hp)
  | n, node a b, leaf false, ha, _, hd, _ => by
    refine ⟨⟨fun _ p hp h => by rw [has_leaf] at h; exact absurd h.2 (by decide), fun _ => rfl⟩, fun _ => ⟨ha, hd, fun p hp => ?_⟩⟩
    simp [sum, has_leaf]
  | 0, node a b, node c d, _, _, h, _ => by simp [depth] at h
  | n + 1, node a b, node c d, ha, hb, h1, h2 => by
    simp only [depth] at h1 h2
    obtain ⟨i1, j1⟩ := sum_spec n a c ha.1 hb.1 (by omega) (by omega)
    obtain ⟨i2, j2⟩ := sum_spec n b d ha.2.1 hb.2.1 (by omega) (by omega)
    simp only [sum, Bool.and_eq_true]
    refine ⟨⟨fun ⟨h3, h4⟩ p hp h => ?_, fun h => ⟨i1.2 fun p hp h3 => h p (left_lt hp) ⟨by rw [has_left hp]; exact h3.1, by rw [has_left hp]; exact h3.2⟩, i2.2 fun p hp h3 => h _ (right_lt hp) ⟨by rw [has_right]; exact h3.1, by rw [has_right]; exact h3.2⟩⟩⟩, fun ⟨h3, h4⟩ => ?_⟩
    · rcases half hp with hq | ⟨q, rfl, hq⟩
      · rw [has_left hq, has_left hq] at h; exact i1.1 h3 p hq h
      · rw [has_right, has_right] at h; exact i2.1 h4 q hq h
    · obtain ⟨k1, k2, k3⟩ := j1 h3
      obtain ⟨l1, l2, l3⟩ := j2 h4
      refine ⟨join_nf k1 l1, Nat.le_trans (join_depth _ _) (by omega), fun p hp => ?_⟩
      rw [has_join]
      rcases half hp with hq | ⟨q, rfl, hq⟩
      · rw [has_left hq, has_left hq, has_left hq, k3 p hq]
      · rw [has_right, has_right, has_right, l3 q hq]
/-- A split's two. -/
theorem split_spec : ∀ (n : Nat) (t : T), t.depth ≤ n → ∀ p, p < 2 ^ (n + 1) → (has (n + 1) t.split.1 p || has (n + 1) t.split.2 p) = has (n + 1) t p ∧ ¬ (has (n + 1) t.split.1 p = true ∧ has (n + 1) t.split.2 p = true)
  | n, leaf b, _, p, hp => by
    cases b
    · simp [split, has_leaf]
    · simp only [split, if_true, has_leaf]
      rcases half hp with hq | ⟨q, rfl, hq⟩
      · simp [has_left hq, has_leaf]
      · simp [has_right, has_leaf]
  | 0, node a b, h, p, hp => by simp [depth] at h
  | n + 1, node a b, h, p, hp => by
    simp only [depth] at h
    simp only [split]
    split
    · rename_i hn
      rcases half hp with hq | ⟨q, rfl, hq⟩
      · rw [has_left hq, has_left hq, has_left hq, has_leaf]
        cases a with
        | leaf x => simp only [isNone] at hn; rw [has_leaf]; simp at hn; simp [hn]
        | node x y => simp [isNone] at hn
      · rw [has_right, has_right, has_right]
        exact split_spec n b (by omega) q hq
    · split
      · rename_i hn
        rcases half hp with hq | ⟨q, rfl, hq⟩
        · rw [has_left hq, has_left hq, has_left hq]
          exact split_spec n a (by omega) p hq
        · rw [has_right, has_right, has_right, has_leaf]
          cases b with
          | leaf x => simp only [isNone] at hn; rw [has_leaf]; simp at hn; simp [hn]
          | node x y => simp [isNone] at hn
      · rcases half hp with hq | ⟨q, rfl, hq⟩
        · rw [has_left hq, has_left hq, has_left hq, has_leaf]; simp
        · rw [has_right, has_right, has_right, has_leaf]; simp
theorem split_depth : ∀ t : T, t.split.1.depth ≤ t.depth + 1 ∧ t.split.2.depth ≤ t.depth + 1
  | leaf b => by cases b <;> simp [split, depth]
  | node a b => by
    have ha := split_depth a
    have hb := split_depth b
    simp only [split]
    split
    · simp only [depth]; omega
    · split
      · simp only [depth]; omega
      · simp only [depth]; omega
/-- More levels tell the same. -/
theorem has_double : ∀ (n : Nat) (t : T) (p : Nat), t.depth ≤ n → has (n + 1) t (2 * p) = has n t p ∧ has (n + 1) t (2 * p + 1) = has n t p
  | n, leaf b, p, _ => by simp [has_leaf]
  | 0, node a b, p, h => by simp [depth] at h
  | n + 1, node a b, p, h => by
    simp only [depth] at h
    have hp : 2 ^ (n + 1) = 2 * 2 ^ n := by rw [Nat.pow_succ, Nat.mul_comm]
    have ha := has_double n a p (by omega)
    have hb := has_double n b (p - 2 ^ n) (by omega)
    rw [has, has, has]
    by_cases hq : p < 2 ^ n
    · rw [if_pos (by omega), if_pos hq, if_pos (by omega)]; exact ha
    · rw [if_neg (by omega), if_neg hq, if_neg (by omega), show 2 * p - 2 ^ (n + 1) = 2 * (p - 2 ^ n) by omega, show 2 * p + 1 - 2 ^ (n + 1) = 2 * (p - 2 ^ n) + 1 by omega]; exact hb
end T
end Go.Proofs.Ytlhaofbncoijfaa.Tree
