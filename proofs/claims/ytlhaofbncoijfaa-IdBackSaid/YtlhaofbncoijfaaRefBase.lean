/- Norm, Right and Equal of the program and of the reference, and what the laws share. -/
import Derived.Test.YtlhaofbncoijfaaTree
import Derived.Test.YtlhaofbncoijfaaHandQ
import Derived.Test.YtlhaofbncoijfaaHandH
import Derived.Test.YtlhaofbncoijfaaHandM
import Derived.Test.YtlhaofbncoijfaaX18
import Derived.Test.YtlhaofbncoijfaaX45
import Derived.Test.YtlhaofbncoijfaaRightMath
import Derived.Test.YtlhaofbncoijfaaX37
import Derived.Test.YtlhaofbncoijfaaX19
import Derived.Test.YtlhaofbncoijfaaX14
import Derived.Deep.RegionHeld3
import Derived.Test.YtlhaofbncoijfaaKids
import Derived.Deep.Slices
import Derived.Deep.Fields
import Derived.ChangeSame
import Derived.SizedLaws
namespace Go.Proofs.Ytlhaofbncoijfaa.Tree
set_option linter.unusedVariables false
set_option linter.unusedSimpArgs false
namespace T
/-- Has a tree the p-th of 2^n pieces? -/
def has : Nat → T → Nat → Bool
  | _, leaf b, _ => b
  | 0, node _ _, _ => false
  | n + 1, node a b, p => if p < 2 ^ n then has n a p else has n b (p - 2 ^ n)
theorem has_leaf (n : Nat) (b : Bool) (p : Nat) : has n (leaf b) p = b := by cases n <;> rfl
theorem has_left {n : Nat} {a b : T} {p : Nat} (h : p < 2 ^ n) : has (n + 1) (node a b) p = has n a p := by rw [has, if_pos h]
theorem has_right {n : Nat} {a b : T} {p : Nat} : has (n + 1) (node a b) (p + 2 ^ n) = has n b p := by rw [has, if_neg (by omega), Nat.add_sub_cancel]
theorem half {n p : Nat} (h : p < 2 ^ (n + 1)) : p < 2 ^ n ∨ ∃ q, p = q + 2 ^ n ∧ q < 2 ^ n := by
  rw [Nat.pow_succ] at h
  rcases Nat.lt_or_ge p (2 ^ n) with h1 | h1
  · exact .inl h1
  · exact .inr ⟨p - 2 ^ n, by omega, by omega⟩
theorem left_lt {n p : Nat} (h : p < 2 ^ n) : p < 2 ^ (n + 1) := by rw [Nat.pow_succ]; omega
theorem right_lt {n p : Nat} (h : p < 2 ^ n) : p + 2 ^ n < 2 ^ (n + 1) := by rw [Nat.pow_succ]; omega
/-- No node of two leafs alike. -/
def Nf : T → Prop
  | leaf _ => True
  | node a b => Nf a ∧ Nf b ∧ ¬ (a.isLeaf = true ∧ b.isLeaf = true ∧ a.isOne = b.isOne)
theorem join_nf {a b : T} (ha : Nf a) (hb : Nf b) : Nf (join a b) := by
  unfold join
  split
  · trivial
  · rename_i h
    refine ⟨ha, hb, fun ⟨h1, h2, h3⟩ => h ?_⟩
    rw [h1, h2, h3]
    simp
theorem norm_nf : ∀ t : T, Nf t.norm
  | leaf b => trivial
  | node a b => join_nf (norm_nf a) (norm_nf b)
theorem norm_of_nf : ∀ {t : T}, Nf t → t.norm = t
  | leaf b, _ => rfl
  | node a b, ⟨ha, hb, h⟩ => by
    rw [norm, norm_of_nf ha, norm_of_nf hb, join, if_neg]
    intro h2
    simp only [Bool.and_eq_true, beq_iff_eq] at h2
    exact h ⟨h2.1.1, h2.1.2, h2.2⟩
theorem has_join {n : Nat} (a b : T) (p : Nat) : has (n + 1) (join a b) p = has (n + 1) (node a b) p := by
  unfold join
  split
  · rename_i h
    simp only [Bool.and_eq_true, beq_iff_eq] at h
    cases a with
    | node x y => simp [isLeaf] at h
    | leaf x => cases b with
      | node x y => simp [isLeaf] at h
      | leaf y =>
        simp only [isOne] at h
        rw [has_leaf, has, has_leaf, has_leaf, ← h.2]
        simp [isOne]
  · rfl
theorem has_norm : ∀ (n : Nat) (t : T) (p : Nat), t.depth ≤ n → has n t.norm p = has n t p
  | n, leaf b, p, _ => rfl
  | 0, node a b, p, h => by simp [depth] at h
  | n + 1, node a b, p, h => by
    simp only [depth] at h
    rw [norm, has_join, has, has, has_norm n a p (by omega), has_norm n b _ (by omega)]
theorem pow_pos' (n : Nat) : 0 < 2 ^ n := Nat.pow_pos (by decide)
/-- What has the same pieces is the same normal form. -/
theorem canon : ∀ (n : Nat) {a b : T}, Nf a → Nf b → a.depth ≤ n → b.depth ≤ n → (∀ p, p < 2 ^ n → has n a p = has n b p) → a = b
  | n, leaf x, leaf y, _, _, _, _, h => by have := h 0 (pow_pos' n); rw [has_leaf, has_leaf] at this; rw [this]
  | 0, leaf x, node c d, _, _, _, h, _ => by simp [depth] at h
  | 0, node a b, _, _, _, h, _, _ => by simp [depth] at h
  | n + 1, leaf x, node c d, _, hb, _, hd, h => by
    simp only [depth] at hd
    have hc := canon n (a := leaf x) (b := c) trivial hb.1 (by simp [depth]) (by omega) (fun p hp => by have := h p (left_lt hp); rw [has_leaf, has_left hp] at this; rw [has_leaf]; exact this)
    have hd' := canon n (a := leaf x) (b := d) trivial hb.2.1 (by simp [depth]) (by omega) (fun p hp => by have := h _ (right_lt hp); rw [has_leaf, has_right] at this; rw [has_leaf]; exact this)
    exact absurd ⟨by rw [← hc]; rfl, by rw [← hd']; rfl, by rw [← hc, ← hd']⟩ hb.2.2
  | n + 1, node a b, leaf y, ha, _, hd, _, h => by
    simp only [depth] at hd
    have hc := canon n (a := a) (b := leaf y) ha.1 trivial (by omega) (by simp [depth]) (fun p hp => by have := h p (left_lt hp); rw [has_leaf, has_left hp] at this; rw [has_leaf]; exact this)
    have hd' := canon n (a := b) (b := leaf y) ha.2.1 trivial (by omega) (by simp [depth]) (fun p hp => by have := h _ (right_lt hp); rw [has_leaf, has_right] at this; rw [has_leaf]; exact this)
    exact absurd ⟨by rw [hc]; rfl, by rw [hd']; rfl, by rw [hc, hd']⟩ ha.2.2
  | n + 1, node a b, node c d, ha, hb, h1, h2, h => by
    simp only [depth] at h1 h2
    have hc := canon n (a := a) (b := c) ha.1 hb.1 (by omega) (by omega) (fun p hp => by have := h p (left_lt hp); rw [has_left hp, has_left hp] at this; exact this)
    have hd' := canon n (a := b) (b := d) ha.2.1 hb.2.1 (by omega) (by omega) (fun p hp => by have := h _ (right_lt hp); rw [has_right, has_right] at this; exact this)
    rw [hc, hd']
/-- A node that is a normal form has some piece, and lacks some. -/
theorem some_of {n : Nat} {t : T} (b : Bool) (ht : Nf t) (hd : t.depth ≤ n) (hne : t ≠ leaf b) : ∃ p, p < 2 ^ n ∧ has n t p = !b := by
  refine Classical.byContradiction fun h => hne (canon n ht (b := leaf b) trivial hd (by simp [depth]) (fun p hp => ?_))
  rw [has_leaf]
  cases hb : has n t p <;> cases b <;> first | rfl | exact absurd ⟨p, hp, hb⟩ h
theorem join_depth (a b : T) : (join a b).depth ≤ 1 + max a.depth b.depth := by
  unfold join
  split
  · simp [depth]
  · exact Nat.le_refl _
/-- Are two apart? -/
def Apart (n : Nat) (a b : T) : Prop := ∀ p, p < 2 ^ n → ¬ (has n a p = true ∧ has n b p = true)
theorem sum_spec : ∀ (n : Nat) (a b : T), Nf a → Nf b → a.depth ≤ n → b.depth ≤ n →
    ((sum a b).2 = true ↔ Apart n a b) ∧ ((sum a b).2 = true → Nf (sum a b).1 ∧ (sum a b).1.depth ≤ n ∧ ∀ p, p < 2 ^ n → has n (sum a b).1 p = (has n a p || has n b p))
  | n, leaf false, b, _, hb, _, hd => by
    refine ⟨⟨fun _ p hp h => by rw [has_leaf] at h; exact absurd h.1 (by decide), fun _ => rfl⟩, fun _ => ⟨hb, hd, fun p hp => ?_⟩⟩
    simp [sum, has_leaf]
  | n, leaf true, leaf true, _, _, _, _ => by
    refine ⟨⟨fun h => by simp [sum] at h, fun h => absurd ⟨has_leaf n true 0, has_leaf n true 0⟩ (h 0 (pow_pos' n))⟩, fun h => by simp [sum] at h⟩
  | n, leaf true, leaf false, _, _, _, _ => by
    refine ⟨⟨fun _ p hp h => by rw [has_leaf, has_leaf] at h; exact absurd h.2 (by decide), fun _ => rfl⟩, fun _ => ⟨trivial, by simp [sum, depth], fun p hp => ?_⟩⟩
    simp [sum, has_leaf]
  | n, leaf true, node c d, _, hb, _, hd => by
    refine ⟨⟨fun h => by simp [sum] at h, fun h => ?_⟩, fun h => by simp [sum] at h⟩
    obtain ⟨p, hp, hh⟩ := some_of false hb hd (by simp)
    exact absurd ⟨has_leaf n true p, hh⟩ (h p hp)
  | n, node a b, leaf true, ha, _, hd, _ => by
    refine ⟨⟨fun h => by simp [sum] at h, fun h => ?_⟩, fun h => by simp [sum] at h⟩
    obtain ⟨p, hp, hh⟩ := some_of false ha hd (by simp)
    exact absurd ⟨hh, has_leaf n true p⟩ (h p hp)
  | n, node a b, leaf false, ha, _, hd, _ => by
    refine ⟨⟨fun _ p hp h => by rw [has_leaf] at h; exact absurd h.2 (by decide), fun _ => rfl⟩, fun _ => ⟨ha, hd, fun p hp => ?_⟩⟩
    simp [sum, has_leaf]
  | 0, node a b, node c d, _, _, h, _ => by simp [depth] at h
  | n + 1, node a b, node c d, ha, hb, h1, h2 => by
    simp only [depth] at h1 h2
    obtain ⟨i1, j1⟩ := sum_spec n a c ha.1 hb.1 (by omega) (by omega)
    obtain ⟨i2, j2⟩ := sum_spec n b d ha.2.1 hb.2.1 (by omega) (by omega)
    simp only [sum, Bool.and_eq_true]
    refine ⟨⟨fun ⟨h3, h4⟩ p hp h => ?_, fun h => ⟨i1.2 fun p hp h3 => h p (left_lt hp) ⟨by rw [has_left hp]; exact h3.1, by rw [has_left hp]; exact h3.2⟩, i2.2 fun p hp h3 => h _ (right_lt hp) ⟨by rw [has_right]; exact h3.1, by rw [has_right]; exact h3.2⟩⟩⟩, fun ⟨h3, h4⟩ => ?_⟩
    · rcases half hp with hq | ⟨q, rfl, hq⟩
      · rw [has_left hq, has_left hq] at h; exact i1.1 h3 p hq h
      · rw [has_right, has_right] at h; exact i2.1 h4 q hq h
    · obtain ⟨k1, k2, k3⟩ := j1 h3
      obtain ⟨l1, l2, l3⟩ := j2 h4
      refine ⟨join_nf k1 l1, Nat.le_trans (join_depth _ _) (by omega), fun p hp => ?_⟩
      rw [has_join]
      rcases half hp with hq | ⟨q, rfl, hq⟩
      · rw [has_left hq, has_left hq, has_left hq, k3 p hq]
      · rw [has_right, has_right, has_right, l3 q hq]
/-- A split's two. -/
theorem split_spec : ∀ (n : Nat) (t : T), t.depth ≤ n → ∀ p, p < 2 ^ (n + 1) → (has (n + 1) t.split.1 p || has (n + 1) t.split.2 p) = has (n + 1) t p ∧ ¬ (has (n + 1) t.split.1 p = true ∧ has (n + 1) t.split.2 p = true)
  | n, leaf b, _, p, hp => by
    cases b
    · simp [split, has_leaf]
    · simp only [split, if_true, has_leaf]
      rcases half hp with hq | ⟨q, rfl, hq⟩
      · simp [has_left hq, has_leaf]
      · simp [has_right, has_leaf]
  | 0, node a b, h, p, hp => by simp [depth] at h
  | n + 1, node a b, h, p, hp => by
    simp only [depth] at h
    simp only [split]
    split
    · rename_i hn
      rcases half hp with hq | ⟨q, rfl, hq⟩
      · rw [has_left hq, has_left hq, has_left hq, has_leaf]
        cases a with
        | leaf x => simp only [isNone] at hn; rw [has_leaf]; simp at hn; simp [hn]
        | node x y => simp [isNone] at hn
      · rw [has_right, has_right, has_right]
        exact split_spec n b (by omega) q hq
    · split
      · rename_i hn
        rcases half hp with hq | ⟨q, rfl, hq⟩
        · rw [has_left hq, has_left hq, has_left hq]
          exact split_spec n a (by omega) p hq
        · rw [has_right, has_right, has_right, has_leaf]
          cases b with
          | leaf x => simp only [isNone] at hn; rw [has_leaf]; simp at hn; simp [hn]
          | node x y => simp [isNone] at hn
      · rcases half hp with hq | ⟨q, rfl, hq⟩
        · rw [has_left hq, has_left hq, has_left hq, has_leaf]; simp
        · rw [has_right, has_right, has_right, has_leaf]; simp
theorem split_depth : ∀ t : T, t.split.1.depth ≤ t.depth + 1 ∧ t.split.2.depth ≤ t.depth + 1
  | leaf b => by cases b <;> simp [split, depth]
  | node a b => by
    have ha := split_depth a
    have hb := split_depth b
    simp only [split]
    split
    · simp only [depth]; omega
    · split
      · simp only [depth]; omega
      · simp only [depth]; omega
/-- More levels tell the same. -/
theorem has_double : ∀ (n : Nat) (t : T) (p : Nat), t.depth ≤ n → has (n + 1) t (2 * p) = has n t p ∧ has (n + 1) t (2 * p + 1) = has n t p
  | n, leaf b, p, _ => by simp [has_leaf]
  | 0, node a b, p, h => by simp [depth] at h
  | n + 1, node a b, p, h => by
    simp only [depth] at h
    have hp : 2 ^ (n + 1) = 2 * 2 ^ n := by rw [Nat.pow_succ, Nat.mul_comm]
    have ha := has_double n a p (by omega)
    have hb := has_double n b (p - 2 ^ n) (by omega)
    rw [has, has, has]
    by_cases hq : p < 2 ^ n
    · rw [if_pos (by omega), if_pos hq, if_pos (by omega)]; exact ha
    · rw [if_neg (by omega), if_neg hq, if_neg (by omega), show 2 * p - 2 ^ (n + 1) = 2 * (p - 2 ^ n) by omega, show 2 * p + 1 - 2 ^ (n + 1) = 2 * (p - 2 ^ n) + 1 by omega]; exact hb
end T
end Go.Proofs.Ytlhaofbncoijfaa.Tree
namespace Go.Proofs.Ytlhaofbncoijfaa.HandF
set_option linter.unusedVariables false
set_option linter.unusedSimpArgs false
open Go.RowKit Go.Proofs.Ytlhaofbncoijfaa.X Go.Proofs.Ytlhaofbncoijfaa.Tree Go.Proofs.Ytlhaofbncoijfaa.Blocks
open Go.Proofs.YtlhaofbncoijfaaW.PrintWords Go.Proofs.YtlhaofbncoijfaaW.PrintLast Go.Proofs.YtlhaofbncoijfaaW.PrintMore

def pannierlaw04_shown.f : Option Bool := some true
theorem Show28 (k : Kd2) (t : T) (w : World) (hk : k.1 = t.toS) (ht : t.right) (hl : k.1.f1.length ≤ k.2.2) (hC : Kd.C k24 w k.2.1 k.1.f1.length k.1.f1) :
    Calls Try.prog 28 #[kv k] w fun e w' => e = .returned (.tuple #[.string ⟨t.norm.text.toArray⟩, .int .i64 0]) ∧ Below w.heap.size w w' := by
  obtain ⟨s, A, c⟩ := k
  dsimp only at hk
  subst hk
  refine id_Show.calls t.toS.f0 A c t.toS.f1 _ _ w hC hl ?_
  unfold id_Show.f
  rw [S24_eta, right_T, decide_eq_true ht, if_pos rfl, T.of_toS]
  rfl
theorem SplitS_one : SplitS ⟨true, []⟩ = ((T.node (.leaf true) (.leaf false)).toS, (T.node (.leaf false) (.leaf true)).toS, 0) := by
  have h : NormS ⟨true, []⟩ = (⟨true, []⟩, 0) := NormS_right (.leaf true) (by decide)
  unfold SplitS
  rw [h, if_pos rfl]
  rw [show T.ofS ((⟨true, []⟩ : S24), (0 : Int)).1 = some (.leaf true) from T.of_toS (.leaf true)]
  exact if_pos (by decide)
set_option maxRecDepth 100000 in
set_option maxHeartbeats 40000000 in
theorem pannierlaw04_shown.calls (r : Bool) (w : World) (h : pannierlaw04_shown.f = some r) :
    Calls Try.prog 12 #[] w fun e w' => e = .returned (.bool r) ∧ Below w.heap.size w w' := by
  obtain rfl : true = r := by simpa [pannierlaw04_shown.f] using h
  clear h
  have hu24 := Try.underlying24
  have hu22 := Try.underlying22
  have hu9 := Try.underlying9
  go_enter Try.func12, Try.ntmps12
  go_wp2_with fail
  refine (Split15 (⟨true, []⟩, none, 0) w (Nat.le_refl _) (Kd.C_nil _ _)).mono ?_
  rintro e w1 ⟨k1, k2, rfl, h1, h2, f1, f2, hb1⟩
  rw [SplitS_one] at h1 h2
  dsimp only at h1 h2
  have H1 := Lib.hid h1
  have H2 := Lib.hid h2
  have F1 := Lib.hid f1
  have F2 := Lib.hid f2
  have HB1 := Lib.hid hb1
  have es : (SplitS ⟨true, []⟩).2.2 = 0 := by rw [SplitS_one]
  clear h1 h2 f1 f2 hb1
  dsimp only
  rw [es]
  clear es
  go_wp2_with fail
  obtain ⟨W4, hW4⟩ : ∃ W4, (w1.alloc (.cells #[.bool k1.1.f0, .slice k1.2.1 k1.1.f1.length k1.2.2] 24)).alloc (.cells #[.bool k2.1.f0, .slice k2.2.1 k2.1.f1.length k2.2.2] 24) = W4 := ⟨_, rfl⟩
  have hb4 : Below w1.heap.size w1 W4 := by rw [← hW4]; exact ((Below.refl _ _).alloc (Nat.le_refl _) _).alloc (by simp) _
  have gq : W4.heap[w1.heap.size + 1]? = some (.cells #[.bool k2.1.f0, .slice k2.2.1 k2.1.f1.length k2.2.2] 24 (0, 0)) := by
    rw [← hW4]; have := blk_new (w1.alloc (.cells #[.bool k1.1.f0, .slice k1.2.1 k1.1.f1.length k1.2.2] 24)) (.cells #[.bool k2.1.f0, .slice k2.2.1 k2.1.f1.length k2.2.2] 24); rwa [World.size_alloc] at this
  rw [hW4]
  have HB4 := Lib.hid (HB1.out.trans (hb4.mono HB1.out.size))
  have F1' := Lib.hid (F1.out.below hb4)
  have F2' := Lib.hid (F2.out.below hb4)
  have GQ := Lib.hid gq
  clear hb4 gq hW4
  refine (Show28 k1 _ W4 H1.out (by decide) F1'.out.1 F1'.out.now).mono ?_
  rintro e w5 ⟨rfl, hb5⟩
  have HB5 := Lib.hid (HB4.out.trans (hb5.mono HB4.out.size))
  have F2'' := Lib.hid (F2'.out.below hb5)
  have q0 := cell0 (blk_below GQ.out hb5)
  have q1 := cell1 (blk_below GQ.out hb5)
  clear hb5
  rw [show (⟨(T.node (.leaf true) (.leaf false)).norm.text.toArray⟩ : ByteArray) = ⟨#[40, 49, 44, 48, 41]⟩ from rfl]
  go_wp2_with fail
  refine (Show28 k2 _ w5 H2.out (by decide) F2''.out.1 F2''.out.now).mono ?_
  rintro e w6 ⟨rfl, hb6⟩
  have HB6 := Lib.hid (HB5.out.trans (hb6.mono HB5.out.size))
  clear hb6 q0 q1
  rw [show (⟨(T.node (.leaf false) (.leaf true)).norm.text.toArray⟩ : ByteArray) = ⟨#[40, 48, 44, 49, 41]⟩ from rfl]
  go_wp2_with fail
  go_ret
  exact ⟨rfl, HB6.out⟩
end Go.Proofs.Ytlhaofbncoijfaa.HandF
namespace Go.Proofs.Ytlhaofbncoijfaa.Tree
set_option linter.unusedVariables false
set_option linter.unusedSimpArgs false
open Go.RowKit Go.Proofs.Ytlhaofbncoijfaa.X Go.Proofs.Ytlhaofbncoijfaa.Tree.T Go.Proofs.Ytlhaofbncoijfaa.HandF
open Go.Proofs.YtlhaofbncoijfaaW.PrintWords Go.Proofs.YtlhaofbncoijfaaW.PrintLast Go.Proofs.YtlhaofbncoijfaaW.PrintMore

theorem pow_cast (n : Nat) : ((2 ^ n : Nat) : Int) = (2 : Int) ^ n := by simp
/-- A piece lies in a range. -/
def inR (x : S63) (q : Int) : Prop := x.f0 ≤ q ∧ q < x.f1
theorem rl_range : ∀ (n : Nat) (t : T) (f : Int), ∀ x ∈ rl n t f, f ≤ x.f0 ∧ x.f0 < x.f1 ∧ x.f1 ≤ f + 2 ^ n
  | n, leaf b, f, x, hx => by
    have hp : (0 : Int) < 2 ^ n := Int.pow_pos (by decide)
    rw [rl_leaf] at hx
    cases b
    · simp at hx
    · simp at hx
      subst hx
      exact ⟨Int.le_refl _, by show f < f + 2 ^ n; omega, Int.le_refl _⟩
  | 0, node a b, f, x, hx => by simp [rl] at hx
  | n + 1, node a b, f, x, hx => by
    have hp : (0 : Int) < 2 ^ n := Int.pow_pos (by decide)
    have hs : (2 : Int) ^ (n + 1) = 2 ^ n * 2 := Int.pow_succ 2 n
    rw [rl, List.mem_append] at hx
    rcases hx with hx | hx
    · have := rl_range n a f x hx
      omega
    · have := rl_range n b _ x hx
      omega
theorem rl_has : ∀ (n : Nat) (t : T) (f : Int), t.depth ≤ n → ∀ p, p < 2 ^ n → (has n t p = true ↔ ∃ x ∈ rl n t f, inR x (f + (p : Int)))
  | n, leaf b, f, _, p, hp => by
    have hc := pow_cast n
    rw [has_leaf, rl_leaf]
    cases b
    · simp
    · simp only [if_pos, List.mem_singleton, exists_eq_left, true_iff]
      refine ⟨?_, ?_⟩
      · show f ≤ f + p; omega
      · show f + (p : Int) < f + 2 ^ n; rw [← hc]; omega
  | 0, node a b, f, hd, p, hp => by simp [depth] at hd
  | n + 1, node a b, f, hd, p, hp => by
    simp only [depth] at hd
    have hc := pow_cast n
    rcases half hp with hq | ⟨q, rfl, hq⟩
    · rw [has_left hq, rl_has n a f (by omega) p hq, rl]
      constructor
      · rintro ⟨x, hx, hi⟩
        exact ⟨x, List.mem_append_left _ hx, hi⟩
      · rintro ⟨x, hx, hi⟩
        rcases List.mem_append.1 hx with hx | hx
        · exact ⟨x, hx, hi⟩
        · have := rl_range n b _ x hx
          unfold inR at hi
          omega
    · rw [has_right, rl_has n b (f + 2 ^ n) (by omega) q hq, rl]
      have e : f + ((q + 2 ^ n : Nat) : Int) = f + 2 ^ n + (q : Int) := by rw [Int.natCast_add, hc]; omega
      rw [e]
      constructor
      · rintro ⟨x, hx, hi⟩
        exact ⟨x, List.mem_append_right _ hx, hi⟩
      · rintro ⟨x, hx, hi⟩
        rcases List.mem_append.1 hx with hx | hx
        · have := rl_range n a _ x hx
          unfold inR at hi
          omega
        · exact ⟨x, hx, hi⟩
/-- Ranges cut to a range. -/
def withinL (a b : Int) : List S63 → List S63
  | [] => []
  | x :: r => (if mx x.f0 a < mn x.f1 b then [⟨mx x.f0 a, mn x.f1 b⟩] else []) ++ withinL a b r
theorem withinL_length (a b : Int) : ∀ l : List S63, (withinL a b l).length ≤ l.length
  | [] => Nat.le_refl _
  | x :: r => by
    have := withinL_length a b r
    rw [withinL, List.length_append, List.length_cons]
    split <;> simp <;> omega
theorem rd63_drop {l : List S63} {i : Nat} (h : i < l.length) : rd_T63 l (i : Int) = l[i] ∧ l.drop i = l[i] :: l.drop (i + 1) := by
  refine ⟨?_, List.drop_eq_getElem_cons h⟩
  unfold rd_T63
  rw [Int.toNat_natCast, List.getD_eq_getElem?_getD, List.getElem?_eq_getElem h]
  rfl
theorem wrap_next (i : Nat) (h : i ≤ 1000000000) : wrap64 ((i : Int) + 1) = ((i + 1 : Nat) : Int) := by unfold wrap64; omega
theorem within_l0 (l : List S63) (a s : Int) (hw : IntKind.u64.wrap (a + s) = a + s) (hl : l.length ≤ 1000000) : ∀ (m i k : Nat) (acc : List S63), l.length - i = m → i ≤ l.length → acc.length ≤ i → m + 1 ≤ k →
    pannierref04_within.l0 k l a s acc (i : Int) = some (acc ++ withinL a (a + s) (l.drop i)) := by
  intro m
  induction m with
  | zero =>
    intro i k acc hm hi ha hk
    obtain ⟨k, rfl⟩ : ∃ j, k = j + 1 := ⟨k - 1, by omega⟩
    rw [pannierref04_within.l0, if_neg (by omega), show i = l.length by omega, List.drop_length, withinL, List.append_nil]
  | succ m ih =>
    intro i k acc hm hi ha hk
    obtain ⟨k, rfl⟩ : ∃ j, k = j + 1 := ⟨k - 1, by omega⟩
    obtain ⟨h1, h2⟩ := rd63_drop (l := l) (i := i) (by omega)
    rw [pannierref04_within.l0, if_pos (by omega), if_pos (by omega), h1, hw, h2, withinL, wrap_next i (by omega)]
    by_cases hc : mx l[i].f0 a < mn l[i].f1 (a + s)
    · rw [if_pos hc, if_pos hc, if_pos (by omega), ih (i + 1) k _ (by omega) (by omega) (by rw [List.length_append, List.length_singleton]; omega) (by omega), List.append_assoc]
    · rw [if_neg hc, if_neg hc, ih (i + 1) k _ (by omega) (by omega) (by omega) (by omega), List.nil_append]
theorem within_f (l : List S63) (a s : Int) (hw : IntKind.u64.wrap (a + s) = a + s) (hl : l.length ≤ 1000000) (k : Nat) (hk : l.length + 1 ≤ k) : pannierref04_within.f k l a s = some (withinL a (a + s) l) := by
  unfold pannierref04_within.f
  have := within_l0 l a s hw hl l.length 0 k [] (by omega) (by omega) (by simp) hk
  simpa using this
theorem mem_within (a b : Int) : ∀ (l : List S63) (y : S63), y ∈ withinL a b l ↔ ∃ x ∈ l, mx x.f0 a < mn x.f1 b ∧ y = ⟨mx x.f0 a, mn x.f1 b⟩
  | [], y => by simp [withinL]
  | x :: r, y => by
    rw [withinL, List.mem_append, mem_within a b r]
    by_cases hc : mx x.f0 a < mn x.f1 b
    · rw [if_pos hc]; simp [hc]
    · rw [if_neg hc]; simp [hc]
theorem mx_le (a b c : Int) : mx a b ≤ c ↔ a ≤ c ∧ b ≤ c := by unfold mx; split <;> omega
theorem lt_mn (a b c : Int) : c < mn a b ↔ c < a ∧ c < b := by unfold mn; split <;> omega
/-- Does some piece lie in both? -/
def meetL (a b : List S63) : Bool := a.any fun x => !(withinL x.f0 x.f1 b).isEmpty
theorem meet_l0 (a b : List S63) (ha : ∀ x ∈ a, 0 ≤ x.f0 ∧ x.f0 < x.f1 ∧ x.f1 ≤ 4294967296) (hla : a.length ≤ 1000000) (hlb : b.length ≤ 1000000) : ∀ (m i k : Nat), a.length - i = m → i ≤ a.length → m + b.length + 2 ≤ k →
    pannierref04_meet.l0 k a b (i : Int) = some (meetL (a.drop i) b) := by
  intro m
  induction m with
  | zero =>
    intro i k hm hi hk
    obtain ⟨k, rfl⟩ : ∃ j, k = j + 1 := ⟨k - 1, by omega⟩
    rw [pannierref04_meet.l0, if_neg (by omega), show i = a.length by omega, List.drop_length]
    rfl
  | succ m ih =>
    intro i k hm hi hk
    obtain ⟨k, rfl⟩ : ∃ j, k = j + 1 := ⟨k - 1, by omega⟩
    obtain ⟨h1, h2⟩ := rd63_drop (l := a) (i := i) (by omega)
    have hx := ha a[i] (List.getElem_mem _)
    have e1 : IntKind.u64.wrap (a[i].f1 - a[i].f0) = a[i].f1 - a[i].f0 := u64_small _ (by omega) (by omega)
    have e2 : IntKind.u64.wrap (a[i].f0 + (a[i].f1 - a[i].f0)) = a[i].f0 + (a[i].f1 - a[i].f0) := u64_small _ (by omega) (by omega)
    rw [pannierref04_meet.l0, if_pos (by omega), if_pos (by omega), h1, e1, within_f b _ _ e2 hlb k (by omega), Option.bind_some, h2, wrap_next i (by omega), ih (i + 1) k (by omega) (by omega) (by omega)]
    rw [show a[i].f0 + (a[i].f1 - a[i].f0) = a[i].f1 by omega]
    simp only [meetL, List.any_cons]
    cases hw : withinL a[i].f0 a[i].f1 b with
    | nil => rw [if_neg (by simp)]; rfl
    | cons y r => rw [if_pos (by simp)]; rfl
theorem meet_f (a b : List S63) (ha : ∀ x ∈ a, 0 ≤ x.f0 ∧ x.f0 < x.f1 ∧ x.f1 ≤ 4294967296) (hla : a.length ≤ 1000000) (hlb : b.length ≤ 1000000) (k : Nat) (hk : a.length + b.length + 2 ≤ k) : pannierref04_meet.f k a b = some (meetL a b) := by
  unfold pannierref04_meet.f
  exact meet_l0 a b ha hla hlb a.length 0 k (by omega) (by omega) hk
/-- Two trees' pieces meet where both have a piece. -/
theorem meet_T {t u : T} (ht : t.depth ≤ 32) (hu : u.depth ≤ 32) : meetL (rl 32 t 0) (rl 32 u 0) = true ↔ ∃ p, p < 2 ^ 32 ∧ has 32 t p = true ∧ has 32 u p = true := by
  unfold meetL
  rw [List.any_eq_true]
  constructor
  · rintro ⟨x, hx, hw⟩
    cases hl : withinL x.f0 x.f1 (rl 32 u 0) with
    | nil => rw [hl] at hw; cases hw
    | cons z r =>
      obtain ⟨y, hy, hlt, _⟩ := (mem_within _ _ _ z).1 (by rw [hl]; exact List.mem_cons_self)
      have rx := rl_range 32 t 0 x hx
      have ry := rl_range 32 u 0 y hy
      have h1 := (mx_le y.f0 x.f0 (mx y.f0 x.f0)).1 (Int.le_refl _)
      have h2 := (lt_mn y.f1 x.f1 _).1 hlt
      have hb : (0 : Int) + 2 ^ 32 = 4294967296 := by decide
      rw [hb] at rx ry
      have hq : ((mx y.f0 x.f0).toNat : Int) = mx y.f0 x.f0 := Int.toNat_of_nonneg (by omega)
      have hlt32 : (mx y.f0 x.f0).toNat < 2 ^ 32 := by
        have : (2 : Nat) ^ 32 = 4294967296 := by decide
        omega
      refine ⟨(mx y.f0 x.f0).toNat, hlt32, ?_, ?_⟩
      · rw [rl_has 32 t 0 ht _ hlt32, hq]
        exact ⟨x, hx, by unfold inR; omega⟩
      · rw [rl_has 32 u 0 hu _ hlt32, hq]
        exact ⟨y, hy, by unfold inR; omega⟩
  · rintro ⟨p, hp, h1, h2⟩
    obtain ⟨x, hx, hix⟩ := (rl_has 32 t 0 ht p hp).1 h1
    obtain ⟨y, hy, hiy⟩ := (rl_has 32 u 0 hu p hp).1 h2
    refine ⟨x, hx, ?_⟩
    have : (⟨mx y.f0 x.f0, mn y.f1 x.f1⟩ : S63) ∈ withinL x.f0 x.f1 (rl 32 u 0) := (mem_within _ _ _ _).2 ⟨y, hy, (by
      unfold inR at hix hiy
      rw [lt_mn]
      have h3 := (mx_le y.f0 x.f0 (0 + (p : Int))).2 ⟨hiy.1, hix.1⟩
      omega), rfl⟩
    cases hl : withinL x.f0 x.f1 (rl 32 u 0) with
    | nil => rw [hl] at this; cases this
    | cons z r => rfl
end Go.Proofs.Ytlhaofbncoijfaa.Tree
namespace Go.Proofs.Ytlhaofbncoijfaa.Tree
set_option linter.unusedVariables false
set_option linter.unusedSimpArgs false
open Go.RowKit Go.Proofs.Ytlhaofbncoijfaa.X Go.Proofs.Ytlhaofbncoijfaa.Tree.T Go.Proofs.Ytlhaofbncoijfaa.HandF

theorem count_pos : ∀ t : T, 1 ≤ t.count
  | leaf _ => Nat.le_refl _
  | node a b => by simp only [T.count]; omega
/-- Is a value a tree up to a depth and a count? -/
def Fits (s : S24) (m : Nat) (left : Nat) (r : Int) : Prop :=
  (r = -1 ∧ ¬ ∃ t : T, t.toS = s ∧ t.depth ≤ m ∧ t.count ≤ left) ∨ ∃ t : T, t.toS = s ∧ t.depth ≤ m ∧ t.count ≤ left ∧ r = (left : Int) - t.count
theorem right_f : ∀ (m : Nat) (s : S24) (left k : Nat), m ≤ 1000 → left ≤ 100000 → 5 * m + 6 ≤ k → ∃ r, pannierref04_right.f k s.f0 s.f1 (m : Int) (left : Int) = some r ∧ Fits s m left r := by
  intro m
  induction m with
  | zero =>
    rintro ⟨b, l⟩ left k hm hleft hk
    obtain ⟨k, rfl⟩ : ∃ j, k = j + 4 := ⟨k - 4, by omega⟩
    have hw : wrap64 ((left : Int) - 1) = (left : Int) - 1 := by unfold wrap64; omega
    dsimp only
    rw [show k + 4 = k + 3 + 1 from rfl, pannierref04_right.f, hw]
    by_cases h0 : (left : Int) - 1 < 0
    · rw [if_pos h0, show k + 3 = k + 2 + 1 from rfl, pannierref04_right.j0, if_pos rfl]
      exact ⟨-1, rfl, .inl ⟨rfl, fun ⟨t, _, _, h⟩ => by have := count_pos t; omega⟩⟩
    · rw [if_neg h0]
      match l with
      | [] =>
        rw [if_pos (by simp), show k + 3 = k + 2 + 1 from rfl, pannierref04_right.j0, if_neg (by decide), show k + 2 = k + 1 + 1 from rfl, pannierref04_right.l0, if_neg (by simp)]
        exact ⟨_, rfl, .inr ⟨leaf b, rfl, Nat.le_refl _, by simp only [T.count]; omega, by simp only [T.count]; omega⟩⟩
      | [x, y] =>
        rw [if_neg (by simp), if_pos (by simp)]
        have hno : ¬ ∃ t : T, t.toS = ⟨b, [x, y]⟩ ∧ t.depth ≤ 0 ∧ t.count ≤ left := by
          rintro ⟨t, ht, hd, _⟩
          cases t with
          | leaf c => simp [T.toS] at ht
          | node c d => simp only [T.depth] at hd; omega
        cases b
        · rw [if_neg (by decide), show k + 3 = k + 2 + 1 from rfl, pannierref04_right.j0, if_pos (by simp)]
          exact ⟨-1, rfl, .inl ⟨rfl, hno⟩⟩
        · rw [if_pos rfl, show k + 3 = k + 2 + 1 from rfl, pannierref04_right.j0, if_pos rfl]
          exact ⟨-1, rfl, .inl ⟨rfl, hno⟩⟩
      | [x] =>
        rw [if_neg (by simp), if_neg (by simp), show k + 3 = k + 2 + 1 from rfl, pannierref04_right.j0, if_pos rfl]
        exact ⟨-1, rfl, .inl ⟨rfl, fun ⟨t, ht, _⟩ => by cases t <;> simp [T.toS] at ht⟩⟩
      | x :: y :: z :: r =>
        rw [if_neg (by simp; omega), if_neg (by simp; omega), show k + 3 = k + 2 + 1 from rfl, pannierref04_right.j0, if_pos rfl]
        exact ⟨-1, rfl, .inl ⟨rfl, fun ⟨t, ht, _⟩ => by cases t <;> simp [T.toS] at ht⟩⟩
  | succ m ih =>
    rintro ⟨b, l⟩ left k hm hleft hk
    obtain ⟨k, rfl⟩ : ∃ j, k = j + 6 := ⟨k - 6, by omega⟩
    have hw : wrap64 ((left : Int) - 1) = (left : Int) - 1 := by unfold wrap64; omega
    have hwm : wrap64 (((m + 1 : Nat) : Int) - 1) = (m : Int) := by unfold wrap64; omega
    have w0 : wrap64 (0 + 1) = 1 := by decide +kernel
    have w1 : wrap64 (1 + 1) = 2 := by decide +kernel
    dsimp only
    rw [show k + 6 = k + 5 + 1 from rfl, pannierref04_right.f, hw]
    by_cases h0 : (left : Int) - 1 < 0
    · rw [if_pos h0, show k + 5 = k + 4 + 1 from rfl, pannierref04_right.j0, if_pos rfl]
      exact ⟨-1, rfl, .inl ⟨rfl, fun ⟨t, _, _, h⟩ => by have := count_pos t; omega⟩⟩
    · rw [if_neg h0]
      match l with
      | [] =>
        rw [if_pos (by simp), show k + 5 = k + 4 + 1 from rfl, pannierref04_right.j0, if_neg (by decide), show k + 4 = k + 3 + 1 from rfl, pannierref04_right.l0, if_neg (by simp)]
        exact ⟨_, rfl, .inr ⟨leaf b, rfl, Nat.zero_le _, by simp only [T.count]; omega, by simp only [T.count]; omega⟩⟩
      | [x] =>
        rw [if_neg (by simp), if_neg (by simp), show k + 5 = k + 4 + 1 from rfl, pannierref04_right.j0, if_pos rfl]
        exact ⟨-1, rfl, .inl ⟨rfl, fun ⟨t, ht, _⟩ => by cases t <;> simp [T.toS] at ht⟩⟩
      | x :: y :: z :: r =>
        rw [if_neg (by simp; omega), if_neg (by simp; omega), show k + 5 = k + 4 + 1 from rfl, pannierref04_right.j0, if_pos rfl]
        exact ⟨-1, rfl, .inl ⟨rfl, fun ⟨t, ht, _⟩ => by cases t <;> simp [T.toS] at ht⟩⟩
      | [x, y] =>
        rw [if_neg (by simp), if_pos (by simp)]
        cases b
        · have hz : ((((m + 1 : Nat) : Int)) == 0) = false := by simp; omega
          rw [if_neg (by decide), hz, show k + 5 = k + 4 + 1 from rfl, pannierref04_right.j0, if_neg (by decide)]
          have r0 : rd_T24 [x, y] 0 = x := rfl
          have r1 : rd_T24 [x, y] 1 = y := rfl
          obtain ⟨L, hL⟩ : ∃ L : Nat, (L : Int) = (left : Int) - 1 := ⟨left - 1, by omega⟩
          rw [← hL]
          obtain ⟨ra, ea, fa⟩ := ih x L (k + 3) (by omega) (by omega) (by omega)
          rw [show k + 4 = k + 3 + 1 from rfl, pannierref04_right.l0, if_pos (by simp), if_pos (by omega), if_pos (by omega), r0, hwm, ea, Option.bind_some, w0]
          have kids : ∀ t : T, t.toS = ⟨false, [x, y]⟩ → ∃ c d : T, t = node c d ∧ c.toS = x ∧ d.toS = y := by
            intro t ht
            cases t with
            | leaf c => simp [T.toS] at ht
            | node c d =>
              simp only [T.toS, S24.mk.injEq, List.cons.injEq, and_true, true_and] at ht
              exact ⟨c, d, rfl, ht.1, ht.2⟩
          rcases fa with ⟨rfl, hno⟩ | ⟨ta, hta, hda, hca, rfl⟩
          · rw [show k + 3 = k + 2 + 1 from rfl, pannierref04_right.l0, if_pos (by simp), if_neg (by omega)]
            refine ⟨-1, rfl, .inl ⟨rfl, ?_⟩⟩
            rintro ⟨t, ht, hd, hc⟩
            obtain ⟨c, d, rfl, hc', hd'⟩ := kids t ht
            simp only [T.depth, T.count] at hd hc
            exact hno ⟨c, hc', by omega, by omega⟩
          · obtain ⟨L2, hL2⟩ : ∃ L2 : Nat, (L2 : Int) = (L : Int) - ta.count := ⟨L - ta.count, by omega⟩
            rw [← hL2]
            obtain ⟨rb, eb, fb⟩ := ih y L2 (k + 2) (by omega) (by omega) (by omega)
            rw [show k + 3 = k + 2 + 1 from rfl, pannierref04_right.l0, if_pos (by simp), if_pos (by omega), if_pos (by omega), r1, hwm, eb, Option.bind_some, w1, show k + 2 = k + 1 + 1 from rfl, pannierref04_right.l0, if_neg (by simp)]
            rcases fb with ⟨rfl, hno⟩ | ⟨tb, htb, hdb, hcb, rfl⟩
            · refine ⟨-1, rfl, .inl ⟨rfl, ?_⟩⟩
              rintro ⟨t, ht, hd, hc⟩
              obtain ⟨c, d, rfl, hc', hd'⟩ := kids t ht
              simp only [T.depth, T.count] at hd hc
              obtain rfl : c = ta := toS_inj (hc'.trans hta.symm)
              exact hno ⟨d, hd', by omega, by omega⟩
            · refine ⟨_, rfl, .inr ⟨node ta tb, by rw [T.toS, hta, htb], by simp only [T.depth]; omega, by simp only [T.count]; omega, by simp only [T.count]; omega⟩⟩
        · rw [if_pos rfl, show k + 5 = k + 4 + 1 from rfl, pannierref04_right.j0, if_pos rfl]
          exact ⟨-1, rfl, .inl ⟨rfl, fun ⟨t, ht, _⟩ => by cases t <;> simp [T.toS] at ht⟩⟩
/-- The reference's Right is Right. -/
theorem refRight_f (s : S24) (k : Nat) (hk : 200 ≤ k) : pannierref04_Right.f k s.f0 s.f1 = some (rightB s) := by
  obtain ⟨r, e, h⟩ := right_f 32 s 2047 k (by omega) (by omega) (by omega)
  unfold pannierref04_Right.f
  rw [show (32 : Int) = ((32 : Nat) : Int) from rfl, show (2047 : Int) = ((2047 : Nat) : Int) from rfl, e, Option.bind_some]
  congr 1
  rcases h with ⟨rfl, hno⟩ | ⟨t, ht, hd, hc, rfl⟩
  · cases hb : rightB s
    · rfl
    · obtain ⟨t, h1, h2⟩ := (right_iff s).1 hb
      exact absurd ⟨t, h1, h2.1, h2.2⟩ hno
  · rw [(right_iff s).2 ⟨t, ht, hd, hc⟩]
    exact decide_eq_true (by omega)
end Go.Proofs.Ytlhaofbncoijfaa.Tree
namespace Go.Proofs.Ytlhaofbncoijfaa.Tree
set_option linter.unusedVariables false
set_option linter.unusedSimpArgs false
open Go.RowKit Go.Proofs.Ytlhaofbncoijfaa.X Go.Proofs.Ytlhaofbncoijfaa.Tree.T Go.Proofs.Ytlhaofbncoijfaa.HandF
open Go.Proofs.YtlhaofbncoijfaaW.PrintWords Go.Proofs.YtlhaofbncoijfaaW.PrintLast Go.Proofs.YtlhaofbncoijfaaW.PrintMore

/-- The sum over 2 ^ n points. -/
def tot : Nat → (Nat → Nat) → Nat
  | 0, g => g 0
  | n + 1, g => tot n g + tot n (fun p => g (p + 2 ^ n))
theorem tot_congr : ∀ (n : Nat) {g h : Nat → Nat}, (∀ p, p < 2 ^ n → g p = h p) → tot n g = tot n h
  | 0, g, h, e => e 0 (by decide)
  | n + 1, g, h, e => by
    rw [tot, tot, tot_congr n (fun p hp => e p (left_lt hp)), tot_congr n (g := fun p => g (p + 2 ^ n)) (h := fun p => h (p + 2 ^ n)) (fun p hp => e _ (right_lt hp))]
theorem tot_add : ∀ (n : Nat) (g h : Nat → Nat), tot n (fun p => g p + h p) = tot n g + tot n h
  | 0, g, h => rfl
  | n + 1, g, h => by
    rw [tot, tot, tot, tot_add n, tot_add n (fun p => g (p + 2 ^ n)) (fun p => h (p + 2 ^ n))]
    omega
theorem tot_const : ∀ (n c : Nat), tot n (fun _ => c) = c * 2 ^ n
  | 0, c => by simp [tot]
  | n + 1, c => by rw [tot, tot_const n, Nat.pow_succ, ← Nat.mul_assoc]; omega
theorem tot_le : ∀ (n : Nat) {g : Nat → Nat}, (∀ p, p < 2 ^ n → g p ≤ 1) → tot n g ≤ 2 ^ n
  | 0, g, h => h 0 (by decide)
  | n + 1, g, h => by
    have h1 := tot_le n (g := g) (fun p hp => h p (left_lt hp))
    have h2 := tot_le n (g := fun p => g (p + 2 ^ n)) (fun p hp => h _ (right_lt hp))
    rw [tot, Nat.pow_succ]
    omega
theorem tot_full : ∀ (n : Nat) {g : Nat → Nat}, (∀ p, p < 2 ^ n → g p ≤ 1) → tot n g = 2 ^ n → ∀ p, p < 2 ^ n → g p = 1
  | 0, g, h, e, p, hp => by
    have : p = 0 := by simpa using hp
    rw [this]; exact e
  | n + 1, g, h, e, p, hp => by
    have h1 := tot_le n (g := g) (fun p hp => h p (left_lt hp))
    have h2 := tot_le n (g := fun p => g (p + 2 ^ n)) (fun p hp => h _ (right_lt hp))
    rw [tot, Nat.pow_succ] at e
    rcases half hp with hq | ⟨q, rfl, hq⟩
    · exact tot_full n (g := g) (fun p hp => h p (left_lt hp)) (by omega) p hq
    · exact tot_full n (g := fun p => g (p + 2 ^ n)) (fun p hp => h _ (right_lt hp)) (by omega) q hq
/-- How long ranges are together. -/
def lenS : List S63 → Int
  | [] => 0
  | x :: r => (x.f1 - x.f0) + lenS r
theorem lenS_append : ∀ a b : List S63, lenS (a ++ b) = lenS a + lenS b
  | [], b => by simp [lenS]
  | x :: r, b => by rw [List.cons_append, lenS, lenS, lenS_append r b]; omega
theorem lenS_rl : ∀ (n : Nat) (t : T) (f : Int), t.depth ≤ n → lenS (rl n t f) = (tot n (fun p => (has n t p).toNat) : Nat)
  | n, leaf b, f, _ => by
    have hc := pow_cast n
    rw [rl_leaf, tot_congr n (h := fun _ => b.toNat) (fun p _ => by rw [has_leaf]), tot_const]
    cases b
    · simp [lenS]
    · simp only [if_pos, lenS, Bool.toNat_true, Nat.one_mul, hc]
      omega
  | 0, node a b, f, hd => by simp [depth] at hd
  | n + 1, node a b, f, hd => by
    simp only [depth] at hd
    rw [rl, lenS_append, lenS_rl n a f (by omega), lenS_rl n b _ (by omega), tot]
    rw [tot_congr n (g := fun p => (has (n + 1) (node a b) p).toNat) (h := fun p => (has n a p).toNat) (fun p hp => by rw [has_left hp])]
    rw [tot_congr n (g := fun p => (has (n + 1) (node a b) (p + 2 ^ n)).toNat) (h := fun p => (has n b p).toNat) (fun p hp => by rw [has_right])]
    omega
theorem lenS_nonneg : ∀ l : List S63, (∀ x ∈ l, 0 ≤ x.f0 ∧ x.f0 < x.f1 ∧ x.f1 ≤ 4294967296) → 0 ≤ lenS l
  | [], _ => Int.le_refl _
  | x :: r, h => by
    have h1 := h x (by simp)
    have h2 := lenS_nonneg r (fun y hy => h y (by simp [hy]))
    rw [lenS]
    omega
theorem Means_T (t : T) (h : t.right) : pannierref04_Means.f t.toS.f0 t.toS.f1 = some (rl 32 t 0) := by
  unfold pannierref04_Means.f
  rw [S24_eta, of_toS]
  exact if_pos h
theorem rl32 (t : T) : ∀ x ∈ rl 32 t 0, 0 ≤ x.f0 ∧ x.f0 < x.f1 ∧ x.f1 ≤ 4294967296 := fun x hx => by
  have := rl_range 32 t 0 x hx
  have hb : (0 : Int) + 2 ^ 32 = 4294967296 := by decide
  rwa [hb] at this
end Go.Proofs.Ytlhaofbncoijfaa.Tree
namespace Go.Proofs.Ytlhaofbncoijfaa.Tree
set_option linter.unusedVariables false
set_option linter.unusedSimpArgs false
open Go.RowKit Go.Proofs.Ytlhaofbncoijfaa.X Go.Proofs.Ytlhaofbncoijfaa.Tree.T Go.Proofs.Ytlhaofbncoijfaa.HandF
open Go.Proofs.YtlhaofbncoijfaaW.PrintWords Go.Proofs.YtlhaofbncoijfaaW.PrintLast Go.Proofs.YtlhaofbncoijfaaW.PrintMore

/-- Is a place in a range? -/
def inB (x : S63) (q : Int) : Bool := decide (x.f0 ≤ q) && decide (q < x.f1)
/-- How many ranges have a place. -/
def cntR : List S63 → Int → Nat
  | [], _ => 0
  | x :: r, q => (inB x q).toNat + cntR r q
theorem cntR_append : ∀ (a b : List S63) (q : Int), cntR (a ++ b) q = cntR a q + cntR b q
  | [], b, q => by simp [cntR]
  | x :: r, b, q => by rw [List.cons_append, cntR, cntR, cntR_append r b, Nat.add_assoc]
theorem cntR_out {a b q : Int} : ∀ {l : List S63}, (∀ x ∈ l, a ≤ x.f0 ∧ x.f1 ≤ b) → (q < a ∨ b ≤ q) → cntR l q = 0
  | [], _, _ => rfl
  | x :: r, h, hq => by
    have h1 := h x (by simp)
    rw [cntR, cntR_out (fun y hy => h y (by simp [hy])) hq]
    have : inB x q = false := by unfold inB; rw [Bool.and_eq_false_iff, decide_eq_false_iff_not, decide_eq_false_iff_not]; omega
    rw [this]; rfl
theorem cntR_rl : ∀ (n : Nat) (t : T) (f : Int), t.depth ≤ n → ∀ p : Nat, p < 2 ^ n → cntR (rl n t f) (f + (p : Int)) = (has n t p).toNat
  | n, leaf b, f, _, p, hp => by
    have hc := pow_cast n
    rw [has_leaf, rl_leaf]
    cases b
    · rfl
    · rw [if_pos rfl, cntR, cntR]
      have : inB ⟨f, f + 2 ^ n⟩ (f + (p : Int)) = true := by
        unfold inB
        rw [Bool.and_eq_true, decide_eq_true_iff, decide_eq_true_iff]
        dsimp only
        omega
      rw [this]; rfl
  | 0, node a b, f, hd, p, hp => by simp [depth] at hd
  | n + 1, node a b, f, hd, p, hp => by
    simp only [depth] at hd
    have hc := pow_cast n
    rw [rl, cntR_append]
    rcases half hp with hq | ⟨q, rfl, hq⟩
    · rw [has_left hq, cntR_rl n a f (by omega) p hq, cntR_out (a := f + 2 ^ n) (b := f + 2 ^ n + 2 ^ n) (fun x hx => by have := rl_range n b _ x hx; omega) (by omega)]
      rfl
    · have e : f + ((q + 2 ^ n : Nat) : Int) = f + 2 ^ n + (q : Int) := by rw [Int.natCast_add, hc]; omega
      rw [has_right, e, cntR_rl n b (f + 2 ^ n) (by omega) q hq, cntR_out (a := f) (b := f + 2 ^ n) (fun x hx => by have := rl_range n a _ x hx; omega) (by omega)]
      omega
theorem tot_in : ∀ (n : Nat) (x : S63) (a : Int), ((tot n (fun p => (inB x (a + (p : Int))).toNat) : Nat) : Int) = (if mx x.f0 a < mn x.f1 (a + 2 ^ n) then mn x.f1 (a + 2 ^ n) - mx x.f0 a else 0)
  | 0, x, a => by
    rw [tot]
    unfold inB mx mn
    by_cases h1 : x.f0 ≤ a <;> by_cases h2 : a < x.f1
    all_goals simp [h1, h2]
    all_goals (repeat' split)
    all_goals omega
  | n + 1, x, a => by
    have hp : (0 : Int) < 2 ^ n := Int.pow_pos (by decide)
    have hs : (2 : Int) ^ (n + 1) = 2 ^ n * 2 := Int.pow_succ 2 n
    have h1 := tot_in n x a
    have h2 := tot_in n x (a + 2 ^ n)
    rw [tot, Int.natCast_add, h1]
    rw [tot_congr n (g := fun p => (inB x (a + ((p + 2 ^ n : Nat) : Int))).toNat) (h := fun p => (inB x (a + 2 ^ n + (p : Int))).toNat) (fun p _ => by rw [Int.natCast_add, pow_cast n, show a + ((p : Int) + 2 ^ n) = a + 2 ^ n + (p : Int) by omega]), h2, hs]
    generalize (2 : Int) ^ n = P at hp
    unfold mx mn
    repeat' split
    all_goals omega
theorem lenS_within (n : Nat) (a : Int) : ∀ l : List S63, lenS (withinL a (a + 2 ^ n) l) = ((tot n (fun p => cntR l (a + (p : Int))) : Nat) : Int)
  | [] => by rw [tot_congr n (g := fun p => cntR [] (a + (p : Int))) (h := fun _ => 0) (fun p _ => rfl), tot_const]; simp [withinL, lenS]
  | x :: r => by
    rw [withinL, lenS_append, lenS_within n a r, tot_congr n (g := fun p => cntR (x :: r) (a + (p : Int))) (h := fun p => (inB x (a + (p : Int))).toNat + cntR r (a + (p : Int))) (fun p _ => rfl), tot_add, Int.natCast_add, tot_in n x a]
    split <;> simp [lenS]
theorem cntR_within (n : Nat) (a : Int) (p : Nat) (hp : p < 2 ^ n) : ∀ l : List S63, cntR (withinL a (a + 2 ^ n) l) (a + (p : Int)) = cntR l (a + (p : Int))
  | [] => rfl
  | x :: r => by
    have hc := pow_cast n
    rw [withinL, cntR_append, cntR_within n a p hp r, cntR]
    congr 1
    have key : inB x (a + (p : Int)) = (decide (mx x.f0 a < mn x.f1 (a + 2 ^ n)) && inB ⟨mx x.f0 a, mn x.f1 (a + 2 ^ n)⟩ (a + (p : Int))) := by
      rw [Bool.eq_iff_iff]
      unfold inB
      simp only [Bool.and_eq_true, decide_eq_true_eq]
      rw [mx_le, lt_mn]
      unfold mx mn
      constructor
      · intro h
        refine ⟨?_, ?_, ?_⟩
        · repeat' split
          all_goals omega
        · omega
        · omega
      · intro h; omega
    rw [key]
    by_cases hx : mx x.f0 a < mn x.f1 (a + 2 ^ n)
    · rw [if_pos hx, decide_eq_true hx, cntR, cntR]; simp
    · rw [if_neg hx, decide_eq_false hx, cntR]; simp
theorem within_range (a b : Int) (hab : a ≤ b) (l : List S63) : ∀ x ∈ withinL a b l, a ≤ x.f0 ∧ x.f0 < x.f1 ∧ x.f1 ≤ b := fun y hy => by
  obtain ⟨x, hx, hlt, rfl⟩ := (mem_within a b l y).1 hy
  dsimp only
  have h1 := (mx_le x.f0 a (mx x.f0 a)).1 (Int.le_refl _)
  refine ⟨h1.2, hlt, ?_⟩
  unfold mn
  split <;> omega
theorem tot_zero : ∀ (n : Nat) {g : Nat → Nat}, tot n g = 0 → ∀ p : Nat, p < 2 ^ n → g p = 0
  | 0, g, e, p, hp => by
    have : p = 0 := by simpa using hp
    rw [this]; exact e
  | n + 1, g, e, p, hp => by
    rw [tot] at e
    rcases half hp with hq | ⟨q, rfl, hq⟩
    · exact tot_zero n (g := g) (by omega) p hq
    · exact tot_zero n (g := fun p => g (p + 2 ^ n)) (by omega) q hq
theorem tree_l0 (a s : Int) (own : List S63) (ho : ∀ x ∈ own, 0 ≤ x.f0 ∧ x.f0 < x.f1 ∧ x.f1 ≤ 4294967296) (hl : own.length ≤ 1000000) : ∀ (c j k : Nat) (u : Int), own.length - j = c → j ≤ own.length → 0 ≤ u → u + lenS (own.drop j) ≤ 8589934592 → c + 1 ≤ k →
    pannierref04_tree.l0 k a s own u (j : Int) = if u + lenS (own.drop j) = 0 then pannierref04_tree.j1 (k - (c + 1)) a s own (u + lenS (own.drop j)) true else pannierref04_tree.j1 (k - (c + 1)) a s own (u + lenS (own.drop j)) (u + lenS (own.drop j) == s) := by
  intro c
  induction c with
  | zero =>
    intro j k u hc hj h0 hs hk
    obtain ⟨k, rfl⟩ : ∃ q, k = q + 1 := ⟨k - 1, by omega⟩
    rw [pannierref04_tree.l0, if_neg (by omega), show j = own.length by omega, List.drop_length, lenS, Int.add_zero]
    rfl
  | succ c ih =>
    intro j k u hc hj h0 hs hk
    obtain ⟨k, rfl⟩ : ∃ q, k = q + 1 := ⟨k - 1, by omega⟩
    obtain ⟨h1, h2⟩ := rd63_drop (l := own) (i := j) (by omega)
    have hx := ho own[j] (List.getElem_mem _)
    have hn := lenS_nonneg (own.drop (j + 1)) (fun y hy => ho y (List.mem_of_mem_drop hy))
    rw [h2, lenS] at hs ⊢
    rw [pannierref04_tree.l0, if_pos (by omega), if_pos (by omega), h1, wrap_next j (by omega), u64_small (u + own[j].f1) (by omega) (by omega), u64_small _ (by omega) (by omega), ih (j + 1) k _ (by omega) (by omega) (by omega) (by omega) (by omega)]
    rw [show k + 1 - (c + 1 + 1) = k - (c + 1) by omega, show u + own[j].f1 - own[j].f0 + lenS (own.drop (j + 1)) = u + (own[j].f1 - own[j].f0 + lenS (own.drop (j + 1))) by omega]
theorem node_f (a b : T) : pannierref04_node.f a.toS.f0 a.toS.f1 b.toS.f0 b.toS.f1 = some ((join a b).toS.f0, (join a b).toS.f1) := by
  unfold pannierref04_node.f
  cases a with
  | leaf x => cases b with
    | leaf y => cases x <;> cases y <;> simp [toS, join, isLeaf, isOne]
    | node c d => simp [toS, join, isLeaf]
  | node c d => cases b <;> simp [toS, join, isLeaf]
/-- The reference's tree, within 2 ^ n pieces from a on. -/
theorem tree_f (N : Nat) (hN : N ≤ 1000000) : ∀ (n : Nat) (l : List S63) (a : Int) (k : Nat), n ≤ 32 → 0 ≤ a → a + 2 ^ n ≤ 4294967296 → l.length ≤ N → (∀ p : Nat, p < 2 ^ n → cntR l (a + (p : Int)) ≤ 1) → (n + 1) * (N + 5) ≤ k →
    ∃ U : T, pannierref04_tree.f k l a (2 ^ n) = some (U.toS.f0, U.toS.f1) ∧ Nf U ∧ U.depth ≤ n ∧ ∀ p : Nat, p < 2 ^ n → (has n U p).toNat = cntR l (a + (p : Int)) := by
  intro n
  induction n with
  | zero =>
    intro l a k hn h0 h1 hl hc hk
    obtain ⟨k, rfl⟩ : ∃ q, k = q + 1 := ⟨k - 1, by omega⟩
    have hw := withinL_length a (a + 2 ^ 0) l
    have hr := within_range a (a + 2 ^ 0) (by simp; omega) l
    have hS := lenS_within 0 a l
    have hle := tot_le 0 hc
    have e1 := tree_l0 a (2 ^ 0) (withinL a (a + 2 ^ 0) l) (fun x hx => by have := hr x hx; omega) (by omega) (withinL a (a + 2 ^ 0) l).length 0 k 0 (by omega) (by omega) (by omega) (by rw [List.drop_zero, hS]; omega) (by omega)
    rw [List.drop_zero, hS, Int.natCast_zero, Int.zero_add] at e1
    rw [pannierref04_tree.f, within_f l a (2 ^ 0) (u64_small _ (by omega) (by omega)) (by omega) k (by omega), Option.bind_some, e1]
    obtain ⟨k2, hk2⟩ : ∃ q, k - ((withinL a (a + 2 ^ 0) l).length + 1) = q + 1 := ⟨k - ((withinL a (a + 2 ^ 0) l).length + 1) - 1, by omega⟩
    rw [hk2]
    by_cases hz : ((tot 0 (fun p => cntR l (a + (p : Int))) : Nat) : Int) = 0
    · rw [if_pos hz, pannierref04_tree.j1, if_pos rfl]
      refine ⟨leaf false, ?_, trivial, Nat.le_refl _, fun p hp => ?_⟩
      · rw [hz]; rfl
      · have hzz := tot_zero 0 (g := fun p => cntR l (a + (p : Int))) (by omega) p hp
        rw [has_leaf, hzz]; rfl
    · have ho : tot 0 (fun p => cntR l (a + (p : Int))) = 1 := by omega
      rw [if_neg hz, ho, pannierref04_tree.j1, if_pos (by decide)]
      refine ⟨leaf true, rfl, trivial, Nat.le_refl _, fun p hp => ?_⟩
      rw [has_leaf, tot_full 0 hc ho p hp]; rfl
  | succ n ih =>
    intro l a k hn h0 h1 hl hc hk
    obtain ⟨k, rfl⟩ : ∃ q, k = q + 1 := ⟨k - 1, by have : 0 < (n + 1 + 1) * (N + 5) := Nat.mul_pos (by omega) (by omega); omega⟩
    have hmul : (n + 1 + 1) * (N + 5) = (n + 1) * (N + 5) + (N + 5) := by rw [Nat.add_mul, Nat.one_mul]
    have hp : (0 : Int) < 2 ^ n := Int.pow_pos (by decide)
    have hs : (2 : Int) ^ (n + 1) = 2 ^ n * 2 := Int.pow_succ 2 n
    have hcast := pow_cast (n + 1)
    have hcastn := pow_cast n
    have hw := withinL_length a (a + 2 ^ (n + 1)) l
    have hr := within_range a (a + 2 ^ (n + 1)) (by omega) l
    have hS := lenS_within (n + 1) a l
    have hle := tot_le (n + 1) hc
    have e1 := tree_l0 a (2 ^ (n + 1)) (withinL a (a + 2 ^ (n + 1)) l) (fun x hx => by have := hr x hx; omega) (by omega) (withinL a (a + 2 ^ (n + 1)) l).length 0 k 0 (by omega) (by omega) (by omega) (by rw [List.drop_zero, hS]; omega) (by omega)
    rw [List.drop_zero, hS, Int.natCast_zero, Int.zero_add] at e1
    rw [pannierref04_tree.f, within_f l a (2 ^ (n + 1)) (u64_small _ (by omega) (by omega)) (by omega) k (by omega), Option.bind_some, e1]
    obtain ⟨k2, hk2⟩ : ∃ q, k - ((withinL a (a + 2 ^ (n + 1)) l).length + 1) = q + 1 := ⟨k - ((withinL a (a + 2 ^ (n + 1)) l).length + 1) - 1, by omega⟩
    rw [hk2]
    by_cases hz : ((tot (n + 1) (fun p => cntR l (a + (p : Int))) : Nat) : Int) = 0
    · rw [if_pos hz, pannierref04_tree.j1, if_pos rfl]
      refine ⟨leaf false, ?_, trivial, Nat.zero_le _, fun p hp => ?_⟩
      · rw [hz, show ((0 : Int) == 2 ^ (n + 1)) = false from beq_eq_false_iff_ne.2 (by omega)]; rfl
      · have hzz := tot_zero (n + 1) (g := fun p => cntR l (a + (p : Int))) (by omega) p hp
        rw [has_leaf, hzz]; rfl
    · rw [if_neg hz, pannierref04_tree.j1]
      by_cases ho : ((tot (n + 1) (fun p => cntR l (a + (p : Int))) : Nat) : Int) = 2 ^ (n + 1)
      · rw [ho, show ((2 : Int) ^ (n + 1) == 2 ^ (n + 1)) = true from beq_iff_eq.2 rfl, if_pos rfl]
        refine ⟨leaf true, rfl, trivial, Nat.zero_le _, fun p hp => ?_⟩
        rw [has_leaf, tot_full (n + 1) hc (by omega) p hp]; rfl
      · rw [beq_eq_false_iff_ne.2 ho, if_neg (by decide)]
        have hq : IntKind.u64.wrap (Int.tdiv (2 ^ (n + 1)) 2) = 2 ^ n := by
          rw [hs, Int.mul_tdiv_cancel _ (by decide)]
          exact u64_small _ (by omega) (by omega)
        have hcl : ∀ p : Nat, p < 2 ^ n → cntR (withinL a (a + 2 ^ (n + 1)) l) (a + (p : Int)) = cntR l (a + (p : Int)) := fun p hp => cntR_within (n + 1) a p (left_lt hp) l
        have hcr : ∀ p : Nat, p < 2 ^ n → cntR (withinL a (a + 2 ^ (n + 1)) l) (a + 2 ^ n + (p : Int)) = cntR l (a + ((p + 2 ^ n : Nat) : Int)) := fun p hp => by
          rw [← cntR_within (n + 1) a (p + 2 ^ n) (right_lt hp) l, Int.natCast_add, hcastn, show a + ((p : Int) + 2 ^ n) = a + 2 ^ n + (p : Int) by omega]
        obtain ⟨U, eU, nU, dU, pU⟩ := ih (withinL a (a + 2 ^ (n + 1)) l) a k2 (by omega) h0 (by omega) (by omega) (fun p hp => by rw [hcl p hp]; exact hc p (left_lt hp)) (by omega)
        obtain ⟨V, eV, nV, dV, pV⟩ := ih (withinL a (a + 2 ^ (n + 1)) l) (a + 2 ^ n) k2 (by omega) (by omega) (by omega) (by omega) (fun p hp => by rw [hcr p hp]; exact hc _ (right_lt hp)) (by omega)
        rw [hq, eU, Option.bind_some, u64_small (a + 2 ^ n) (by omega) (by omega), eV, Option.bind_some]
        dsimp only
        rw [node_f, Option.bind_some]
        refine ⟨join U V, rfl, join_nf nU nV, Nat.le_trans (join_depth U V) (by omega), fun p hp => ?_⟩
        rw [has_join]
        rcases half hp with hq | ⟨q, rfl, hq⟩
        · rw [has_left hq, pU p hq, hcl p hq]
        · rw [has_right, pV q hq, hcr q hq]
/-- The reference's tree of a tree's pieces is its normal form. -/
theorem tree_norm (t : T) (h : t.right) (k : Nat) (hk : 1000000 ≤ k) : pannierref04_tree.f k (rl 32 t 0) 0 4294967296 = some (t.norm.toS.f0, t.norm.toS.f1) := by
  have n1 := rl_length t 32 0
  have c1 := h.2
  have hcn : ∀ p : Nat, p < 2 ^ 32 → cntR (rl 32 t 0) (0 + (p : Int)) = (has 32 t p).toNat := fun p hp => cntR_rl 32 t 0 h.1 p hp
  obtain ⟨U, eU, nU, dU, pU⟩ := tree_f 2047 (by omega) 32 (rl 32 t 0) 0 k (by omega) (by omega) (by decide) (by omega) (fun p hp => by rw [hcn p hp]; cases has 32 t p <;> simp) (by omega)
  have : U = t.norm := canon 32 nU (norm_nf t) dU (norm_right h).1 fun p hp => by
    have h1 := pU p hp
    rw [hcn p hp] at h1
    rw [has_norm 32 t p h.1]
    cases hU : has 32 U p <;> cases hT : has 32 t p <;> rw [hU, hT] at h1 <;> first | rfl | (simp at h1)
  rw [← this]
  exact eU
end Go.Proofs.Ytlhaofbncoijfaa.Tree
namespace Go.Proofs.Ytlhaofbncoijfaa.Tree
set_option linter.unusedVariables false
set_option linter.unusedSimpArgs false
open Go.RowKit Go.Proofs.Ytlhaofbncoijfaa.X Go.Proofs.Ytlhaofbncoijfaa.Tree.T Go.Proofs.Ytlhaofbncoijfaa.HandF
open Go.Proofs.YtlhaofbncoijfaaW.PrintWords Go.Proofs.YtlhaofbncoijfaaW.PrintLast Go.Proofs.YtlhaofbncoijfaaW.PrintMore
theorem eqb_self (a : T) : eqb a a = true := eqb_iff.2 rfl
theorem Equal_T : ∀ (a b : T) (k : Nat), 5 * a.depth + 5 ≤ k → pannierref04_Equal.f k a.toS.f0 a.toS.f1 b.toS.f0 b.toS.f1 = some (T.eqb a b)
  | a, b, 0, h => by omega
  | a, b, 1, h => by omega
  | a, b, 2, h => by omega
  | a, b, 3, h => by omega
  | a, b, 4, h => by omega
  | leaf x, leaf y, k + 5, h => by
    cases x <;> cases y <;> simp [pannierref04_Equal.f, pannierref04_Equal.j0, pannierref04_Equal.l0, toS, eqb]
  | leaf x, node c d, k + 5, h => by
    cases x <;> simp [pannierref04_Equal.f, pannierref04_Equal.j0, pannierref04_Equal.l0, toS, eqb]
  | node a b, leaf y, k + 5, h => by
    cases y <;> simp [pannierref04_Equal.f, pannierref04_Equal.j0, pannierref04_Equal.l0, toS, eqb]
  | node a b, node c d, k + 5, h => by
    simp only [depth] at h
    have h1 := Equal_T a c (k + 2) (by omega)
    have h2 := Equal_T b d (k + 1) (by omega)
    have r0 : ∀ u v : S24, rd_T24 [u, v] 0 = u := fun _ _ => rfl
    have r1 : ∀ u v : S24, rd_T24 [u, v] 1 = v := fun _ _ => rfl
    have w0 : Go.RowKit.wrap64 (0 + 1) = 1 := by decide +kernel
    have w1 : Go.RowKit.wrap64 (1 + 1) = 2 := by decide +kernel
    rw [show k + 5 = k + 4 + 1 from rfl, pannierref04_Equal.f, toS, toS]
    dsimp only
    rw [if_neg (by decide)]
    rw [show k + 4 = k + 3 + 1 from rfl, pannierref04_Equal.j0, if_neg (by simp)]
    rw [show k + 3 = k + 2 + 1 from rfl, pannierref04_Equal.l0, if_pos (by simp), if_pos (by simp), if_pos (by simp), r0, r0, h1, Option.bind_some, eqb]
    cases eqb a c
    · rfl
    · rw [if_pos rfl, w0, show k + 2 = k + 1 + 1 from rfl, pannierref04_Equal.l0, if_pos (by simp), if_pos (by simp), if_pos (by simp), r1, r1, h2, Option.bind_some]
      cases eqb b d
      · rfl
      · rw [if_pos rfl, w1, pannierref04_Equal.l0, if_neg (by simp)]
        rfl
end Go.Proofs.Ytlhaofbncoijfaa.Tree

namespace Go.Proofs.Ytlhaofbncoijfaa.Tree
set_option linter.unusedVariables false
set_option linter.unusedSimpArgs false
open Go.RowKit Go.Proofs.Ytlhaofbncoijfaa.X Go.Proofs.Ytlhaofbncoijfaa.Tree.T Go.Proofs.Ytlhaofbncoijfaa.HandF
open Go.Proofs.YtlhaofbncoijfaaW.PrintWords Go.Proofs.YtlhaofbncoijfaaW.PrintLast Go.Proofs.YtlhaofbncoijfaaW.PrintMore
theorem refNorm_f (s : S24) (k : Nat) (hk : 1000000 ≤ k) : pannierref04_Norm.f k s.f0 s.f1 = some ((NormS s).1.f0, (NormS s).1.f1, (NormS s).2) := by
  unfold pannierref04_Norm.f
  rw [refRight_f s k (by omega), Option.bind_some]
  cases hr : rightB s
  · rw [if_neg (by decide), NormS_bad s hr]
  · obtain ⟨t, rfl, ht⟩ := (right_iff s).1 hr
    rw [if_pos rfl, Means_T t ht, Option.bind_some, tree_norm t ht k hk, Option.bind_some, NormS_right t ht]
theorem NormS_tree (s : S24) : ∃ t : T, (NormS s).1 = t.toS := by
  cases hr : rightB s
  · exact ⟨.leaf false, by rw [NormS_bad s hr]; rfl⟩
  · obtain ⟨t, rfl, ht⟩ := (right_iff s).1 hr
    exact ⟨t.norm, by rw [NormS_right t ht]⟩
theorem NormS_zero (s : S24) : ((NormS s).2 == 0) = rightB s := by
  cases hr : rightB s
  · rw [NormS_bad s hr]; rfl
  · obtain ⟨t, rfl, ht⟩ := (right_iff s).1 hr
    rw [NormS_right t ht]; rfl
end Go.Proofs.Ytlhaofbncoijfaa.Tree
namespace Go.Proofs.Ytlhaofbncoijfaa.HandF
set_option linter.unusedVariables false
set_option linter.unusedSimpArgs false
open Go.RowKit Go.Proofs.Ytlhaofbncoijfaa.X Go.Proofs.Ytlhaofbncoijfaa.Tree Go.Proofs.Ytlhaofbncoijfaa.Blocks
open Go.Proofs.YtlhaofbncoijfaaW.PrintWords Go.Proofs.YtlhaofbncoijfaaW.PrintLast Go.Proofs.YtlhaofbncoijfaaW.PrintMore
theorem Norm14 (k : Kd2) (w : World) (hl : k.1.f1.length ≤ k.2.2) (hC : Kd.C k24 w k.2.1 k.1.f1.length k.1.f1) :
    Calls Try.prog 14 #[kv k] w fun e w' => ∃ k' : Kd2, e = .returned (.tuple #[kv k', .int .i64 (NormS k.1).2]) ∧ k'.1 = (NormS k.1).1 ∧ Ft w' (fun j => w.heap.size ≤ j) k' ∧ Below w.heap.size w w' := by
  obtain ⟨⟨b, l⟩, A, c⟩ := k
  refine (pannierref04_Norm.calls 1000000 b A c l _ _ _ w hC hl (refNorm_f ⟨b, l⟩ 1000000 (Nat.le_refl _))).mono ?_
  rintro e w' ⟨v, rfl, hv, hb⟩
  obtain ⟨A', c', rfl⟩ := Kd.V_slice hv
  exact ⟨(⟨(NormS ⟨b, l⟩).1.f0, (NormS ⟨b, l⟩).1.f1⟩, A', c'), rfl, S24_eta _, Ft.ofV hv, hb⟩
theorem RefRight18 (k : Kd2) (w : World) (hl : k.1.f1.length ≤ k.2.2) (hC : Kd.C k24 w k.2.1 k.1.f1.length k.1.f1) :
    Calls Try.prog 18 #[kv k] w fun e w' => e = .returned (.bool (rightB k.1)) ∧ Below w.heap.size w w' := by
  obtain ⟨⟨b, l⟩, A, c⟩ := k
  exact pannierref04_Right.calls 200 b A c l _ w hC hl (refRight_f ⟨b, l⟩ 200 (Nat.le_refl _))
theorem Means38 (k : Kd2) (t : T) (w : World) (hk : k.1 = t.toS) (ht : t.right) (hl : k.1.f1.length ≤ k.2.2) (hC : Kd.C k24 w k.2.1 k.1.f1.length k.1.f1) :
    Calls Try.prog 38 #[kv k] w fun e w' => ∃ v : Value, e = .returned v ∧ Kd.R k63 63 w' w.heap.size (fun _ => True) v (rl 32 t 0) ∧ Below w.heap.size w w' := by
  obtain ⟨s, A, c⟩ := k
  dsimp only at hk
  subst hk
  exact pannierref04_Means.calls _ A c _ _ w hC hl (Means_T t ht)
theorem Equal19 (k m : Kd2) (a b : T) (w : World) (ha : k.1 = a.toS) (hb : m.1 = b.toS) (hk : k.1.f1.length ≤ k.2.2) (hkC : Kd.C k24 w k.2.1 k.1.f1.length k.1.f1) (hm : m.1.f1.length ≤ m.2.2) (hmC : Kd.C k24 w m.2.1 m.1.f1.length m.1.f1) :
    Calls Try.prog 19 #[kv k, kv m] w fun e w' => e = .returned (.bool (T.eqb a b)) ∧ Below w.heap.size w w' := by
  obtain ⟨s, A, c⟩ := k
  obtain ⟨u, B, d⟩ := m
  dsimp only at ha hb
  subst ha hb
  exact pannierref04_Equal.calls _ _ A c _ _ B d _ _ w hkC hk hmC hm (Equal_T a b _ (Nat.le_refl _))
theorem Ft.len {W : World} {ok : Nat → Prop} {k : Kd2} (h : Ft W ok k) : k.1.f1.length ≤ k.2.2 := h.1
/-- What lies: a tree's box, and its cells. -/
def box24 (W : World) (g : Nat) (k : Kd2) : Prop := W.heap[g]? = some (.cells #[.bool k.1.f0, .slice k.2.1 k.1.f1.length k.2.2] 24 (0, 0))
theorem box24.below {W W' : World} {g : Nat} {k : Kd2} (h : box24 W g k) (hb : Below W.heap.size W W') : box24 W' g k := blk_below h hb
theorem box24.new (W : World) (k : Kd2) : box24 (W.alloc (.cells #[.bool k.1.f0, .slice k.2.1 k.1.f1.length k.2.2] 24)) W.heap.size k := blk_new _ _
theorem box24.alloc {W : World} {g : Nat} {k : Kd2} {ob : Obj} (h : box24 W g k) : box24 (W.alloc ob) g k := blk_alloc h _
theorem box24.c0 {W : World} {g : Nat} {k : Kd2} (h : box24 W g k) : W.cell? ⟨g, 0, none⟩ = some (.bool k.1.f0) := cell0 h
theorem box24.c1 {W : World} {g : Nat} {k : Kd2} (h : box24 W g k) : W.cell? ⟨g, 1, none⟩ = some (.slice k.2.1 k.1.f1.length k.2.2) := cell1 h
theorem Right17 (k : Kd2) (w : World) (hl : k.1.f1.length ≤ k.2.2) (hC : Kd.C k24 w k.2.1 k.1.f1.length k.1.f1) :
    Calls Try.prog 17 #[.agg #[.bool k.1.f0, .slice k.2.1 k.1.f1.length k.2.2]] w fun e w' => e = .returned (.bool (rightB k.1)) ∧ Below w.heap.size w w' := right_calls k w ⟨hl, hC⟩
end Go.Proofs.Ytlhaofbncoijfaa.HandF

namespace Go.Proofs.Ytlhaofbncoijfaa.HandF
set_option linter.unusedVariables false
set_option linter.unusedSimpArgs false
set_option maxRecDepth 100000
open Go.RowKit Go.ChangeShapes Go.WideShapes Go.Deep Go.Proofs.Ytlhaofbncoijfaa.X
open Go.Proofs.YtlhaofbncoijfaaW.PrintWords Go.Proofs.YtlhaofbncoijfaaW.PrintLast Go.Proofs.YtlhaofbncoijfaaW.PrintMore

theorem cells24 : Try.prog.cellsOf 24 = 2 := by kernel_rfl
theorem cells4 : Try.prog.cellsOf 4 = 1 := by kernel_rfl
theorem cells22 : Try.prog.cellsOf 22 = 1 := by kernel_rfl


theorem open_cells {H : Type} {enc : TypeId × Value → H} {W : World} {base : Nat} {spare : Nat → Bool} {held : Bool} : ∀ (n : Nat) {cs : List Value} {y : DataW H × List MemPlace},
    DataW.trod enc Try.prog W base spare held n 24 cs = some y → ∃ k : Kd2, cs = [.bool k.1.f0, .slice k.2.1 k.1.f1.length k.2.2] ∧ k.1.f1.length ≤ k.2.2 ∧ Kd.C k24 W k.2.1 k.1.f1.length k.1.f1 := by
  intro n
  induction n using Nat.strongRecOn with
  | _ n ih =>
  intro cs y h
  obtain ⟨ys, m, hm, hy, hcl, hyl, hf⟩ := DataW.trod_struct Try.underlying24 h
  have f0 : DataW.trod enc Try.prog W base spare held m 4 ((cs.drop 0).take (Try.prog.cellsOf 4)) = ys[0]? := hf 0 _ rfl
  have f1 : DataW.trod enc Try.prog W base spare held m 22 ((cs.drop 1).take (Try.prog.cellsOf 22)) = ys[1]? := hf 1 _ rfl
  rw [cells4] at f0
  rw [cells22] at f1
  rw [cells24] at hcl
  match cs, hcl with
  | [c0, c1], _ =>
    match ys, hyl with
    | [y0, y1], _ =>
      obtain ⟨b, e0, _⟩ := DataW.trod_bool Try.underlying4 (show DataW.trod enc Try.prog W base spare held m 4 [c0] = some y0 from f0)
      cases e0
      have g1 : DataW.trod enc Try.prog W base spare held m 22 [c1] = some y1 := f1
      rcases DataW.trod_slice Try.underlying22 g1 with ⟨hc, _⟩ | ⟨a, len, cap, elems, rest, n', hn', hc, _, hb, hl, hmx, hlen, hel, _, _⟩
      · cases hc
        exact ⟨(⟨b, []⟩, none, 0), rfl, Nat.le_refl _, Kd.C_nil _ _⟩
      · cases hc
        rw [cells24] at hel
        obtain ⟨V, hV⟩ := (haveI : Inhabited S24 := ⟨z24⟩; choose_lt (n := len) (α := S24) (p := fun i p => ∃ cs', W.cells? base (a.add (i * 2)) 2 = some cs' ∧ k24.K W p cs') (fun i hil => by
          have h1 := hel i hil
          rw [List.getElem?_eq_getElem (by omega)] at h1
          obtain ⟨cs', h2, h3⟩ := Option.bind_eq_some_iff.1 h1
          obtain ⟨k, rfl, kl, kC⟩ := ih n' (by omega) h3
          exact ⟨k.1, _, h2, k24_mk W k.1 kl kC⟩))
        have hget : ∀ i (p : S24), ((List.range len).map V)[i]? = some p → i < len ∧ V i = p := fun i p hp => by
          rw [List.getElem?_map] at hp
          obtain ⟨j, hj, rfl⟩ := Option.map_eq_some_iff.1 hp
          obtain ⟨hjl, hje⟩ := List.getElem?_eq_some_iff.1 hj
          rw [List.getElem_range] at hje
          rw [List.length_range] at hjl
          subst hje
          exact ⟨hjl, rfl⟩
        refine ⟨(⟨b, (List.range len).map V⟩, some a, cap), by simp, by simpa using hl, rfl, ?_, fun _ => ⟨a, rfl, fun j p hj => ?_⟩⟩
        · have : cap ≤ maxLen := hmx
          unfold maxLen at this
          simp only [List.length_map, List.length_range]
          omega
        · obtain ⟨hjl, rfl⟩ := hget j p hj
          obtain ⟨cs', h1, h2⟩ := hV j hjl
          obtain ⟨_, hcl', hat⟩ := World.cells?_some h1
          refine ⟨cs', hcl', h2, fun i u hu => ?_⟩
          have hi2 : i < 2 := by have := (List.getElem?_eq_some_iff.1 hu).1; omega
          have := hat i hi2
          rw [Go.Deep.add_add] at this
          exact this.trans hu
/-- A tree that is an argument. -/
theorem open_tree {H : Type} {enc : TypeId × Value → H} {W : World} {base : Nat} {spare : Nat → Bool} {held : Bool} {r : Reach} {b0 : Nat} {v : Value} {d : DataW H} {ps : List MemPlace} (hval : Value.okWide Try.prog W r b0 24 v)
    (h : DataW.Trod enc Try.prog W base spare held 24 v d ps) : ∃ k : Kd2, v = kv k ∧ k.1.f1.length ≤ k.2.2 ∧ Kd.C k24 W k.2.1 k.1.f1.length k.1.f1 := by
  simp only [Value.okWide, Try.underlying24] at hval
  obtain ⟨cs, rfl, _, _⟩ := hval
  obtain ⟨fuel, hf⟩ := h
  obtain ⟨k, e, h1, h2⟩ := open_cells fuel hf
  refine ⟨k, ?_, h1, h2⟩
  have e' : cs.toList = [.bool k.1.f0, .slice k.2.1 k.1.f1.length k.2.2] := e
  show Value.agg cs = .agg #[.bool k.1.f0, .slice k.2.1 k.1.f1.length k.2.2]
  rw [show cs = cs.toList.toArray by simp, e']
end Go.Proofs.Ytlhaofbncoijfaa.HandF
