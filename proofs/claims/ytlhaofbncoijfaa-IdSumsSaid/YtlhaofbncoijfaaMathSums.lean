/- The law IdSums: its walks and its plain facts, in one text. -/
import Derived.Test.YtlhaofbncoijfaaTree
import Derived.Test.YtlhaofbncoijfaaKids
import Derived.Test.YtlhaofbncoijfaaBlocks
import Derived.LoopN
import Derived.Lib.Hide
import Derived.Test.YtlhaofbncoijfaaSum
import Derived.Test.YtlhaofbncoijfaaHandQ
import Derived.Test.YtlhaofbncoijfaaHandH
import Derived.Test.YtlhaofbncoijfaaX19
import Derived.Test.YtlhaofbncoijfaaHandM
import Derived.Test.YtlhaofbncoijfaaX18
import Derived.Test.YtlhaofbncoijfaaX45
import Derived.Test.YtlhaofbncoijfaaRightMath
import Derived.Test.YtlhaofbncoijfaaX37
import Derived.Test.YtlhaofbncoijfaaX14
import Derived.Deep.RegionHeld3
import Derived.Test.YtlhaofbncoijfaaX26
import Derived.Deep.Slices
import Derived.Deep.Fields
import Derived.ChangeSame
import Derived.SizedLaws
namespace Go.Proofs.Ytlhaofbncoijfaa.Tree
set_option linter.unusedVariables false
set_option linter.unusedSimpArgs false
namespace T
/-- Has a tree the p-th of 2^n pieces? -/
def has : Nat → T → Nat → Bool
  | _, leaf b, _ => b
  | 0, node _ _, _ => false
  | n + 1, node a b, p => if p < 2 ^ n then has n a p else has n b (p - 2 ^ n)
theorem has_leaf (n : Nat) (b : Bool) (p : Nat) : has n (leaf b) p = b := by cases n <;> rfl
theorem has_left {n : Nat} {a b : T} {p : Nat} (h : p < 2 ^ n) : has (n + 1) (node a b) p = has n a p := by rw [has, if_pos h]
theorem has_right {n : Nat} {a b : T} {p : Nat} : has (n + 1) (node a b) (p + 2 ^ n) = has n b p := by rw [has, if_neg (by omega), Nat.add_sub_cancel]
theorem half {n p : Nat} (h : p < 2 ^ (n + 1)) : p < 2 ^ n ∨ ∃ q, p = q + 2 ^ n ∧ q < 2 ^ n := by
  rw [Nat.pow_succ] at h
  rcases Nat.lt_or_ge p (2 ^ n) with h1 | h1
  · exact .inl h1
  · exact .inr ⟨p - 2 ^ n, by omega, by omega⟩
theorem left_lt {n p : Nat} (h : p < 2 ^ n) : p < 2 ^ (n + 1) := by rw [Nat.pow_succ]; omega
theorem right_lt {n p : Nat} (h : p < 2 ^ n) : p + 2 ^ n < 2 ^ (n + 1) := by rw [Nat.pow_succ]; omega
/-- No node of two leafs alike. -/
def Nf : T → Prop
  | leaf _ => True
  | node a b => Nf a ∧ Nf b ∧ ¬ (a.isLeaf = true ∧ b.isLeaf = true ∧ a.isOne = b.isOne)
theorem join_nf {a b : T} (ha : Nf a) (hb : Nf b) : Nf (join a b) := by
  unfold join
  split
  · trivial
  · rename_i h
    refine ⟨ha, hb, fun ⟨h1, h2, h3⟩ => h ?_⟩
    rw [h1, h2, h3]
    simp
theorem norm_nf : ∀ t : T, Nf t.norm
  | leaf b => trivial
  | node a b => join_nf (norm_nf a) (norm_nf b)
theorem norm_of_nf : ∀ {t : T}, Nf t → t.norm = t
  | leaf b, _ => rfl
  | node a b, ⟨ha, hb, h⟩ => by
    rw [norm, norm_of_nf ha, norm_of_nf hb, join, if_neg]
    intro h2
    simp only [Bool.and_eq_true, beq_iff_eq] at h2
    exact h ⟨h2.1.1, h2.1.2, h2.2⟩
theorem has_join {n : Nat} (a b : T) (p : Nat) : has (n + 1) (join a b) p = has (n + 1) (node a b) p := by
  unfold join
  split
  · rename_i h
    simp only [Bool.and_eq_true, beq_iff_eq] at h
    cases a with
    | node x y => simp [isLeaf] at h
    | leaf x => cases b with
      | node x y => simp [isLeaf] at h
      | leaf y =>
        simp only [isOne] at h
        rw [has_leaf, has, has_leaf, has_leaf, ← h.2]
        simp [isOne]
  · rfl
theorem has_norm : ∀ (n : Nat) (t : T) (p : Nat), t.depth ≤ n → has n t.norm p = has n t p
  | n, leaf b, p, _ => rfl
  | 0, node a b, p, h => by simp [depth] at h
  | n + 1, node a b, p, h => by
    simp only [depth] at h
    rw [norm, has_join, has, has, has_norm n a p (by omega), has_norm n b _ (by omega)]
theorem pow_pos' (n : Nat) : 0 < 2 ^ n := Nat.pow_pos (by decide)
/-- What has the same pieces is the same normal form. -/
theorem canon : ∀ (n : Nat) {a b : T}, Nf a → Nf b → a.depth ≤ n → b.depth ≤ n → (∀ p, p < 2 ^ n → has n a p = has n b p) → a = b
  | n, leaf x, leaf y, _, _, _, _, h => by have := h 0 (pow_pos' n); rw [has_leaf, has_leaf] at this; rw [this]
  | 0, leaf x, node c d, _, _, _, h, _ => by simp [depth] at h
  | 0, node a b, _, _, _, h, _, _ => by simp [depth] at h
  | n + 1, leaf x, node c d, _, hb, _, hd, h => by
    simp only [depth] at hd
    have hc := canon n (a := leaf x) (b := c) trivial hb.1 (by simp [depth]) (by omega) (fun p hp => by have := h p (left_lt hp); rw [has_leaf, has_left hp] at this; rw [has_leaf]; exact this)
    have hd' := canon n (a := leaf x) (b := d) trivial hb.2.1 (by simp [depth]) (by omega) (fun p hp => by have := h _ (right_lt hp); rw [has_leaf, has_right] at this; rw [has_leaf]; exact this)
    exact absurd ⟨by rw [← hc]; rfl, by rw [← hd']; rfl, by rw [← hc, ← hd']⟩ hb.2.2
  | n + 1, node a b, leaf y, ha, _, hd, _, h => by
    simp only [depth] at hd
    have hc := canon n (a := a) (b := leaf y) ha.1 trivial (by omega) (by simp [depth]) (fun p hp => by have := h p (left_lt hp); rw [has_leaf, has_left hp] at this; rw [has_leaf]; exact this)
    have hd' := canon n (a := b) (b := leaf y) ha.2.1 trivial (by omega) (by simp [depth]) (fun p hp => by have := h _ (right_lt hp); rw [has_leaf, has_right] at this; rw [has_leaf]; exact this)
    exact absurd ⟨by rw [hc]; rfl, by rw [hd']; rfl, by rw [hc, hd']⟩ ha.2.2
  | n + 1, node a b, node c d, ha, hb, h1, h2, h => by
    simp only [depth] at h1 h2
    have hc := canon n (a := a) (b := c) ha.1 hb.1 (by omega) (by omega) (fun p hp => by have := h p (left_lt hp); rw [has_left hp, has_left hp] at this; exact this)
    have hd' := canon n (a := b) (b := d) ha.2.1 hb.2.1 (by omega) (by omega) (fun p hp => by have := h _ (right_lt hp); rw [has_right, has_right] at this; exact this)
    rw [hc, hd']
/-- A node that is a normal form has some piece, and lacks some. -/
theorem some_of {n : Nat} {t : T} (b : Bool) (ht : Nf t) (hd : t.depth ≤ n) (hne : t ≠ leaf b) : ∃ p, p < 2 ^ n ∧ has n t p = !b := by
  refine Classical.byContradiction fun h => hne (canon n ht (b := leaf b) trivial hd (by simp [depth]) (fun p hp => ?_))
  rw [has_leaf]
  cases hb : has n t p <;> cases b <;> first | rfl | exact absurd ⟨p, hp, hb⟩ h
theorem join_depth (a b : T) : (join a b).depth ≤ 1 + max a.depth b.depth := by
  unfold join
  split
  · simp [depth]
  · exact Nat.le_refl _
/-- Are two apart? -/
def Apart (n : Nat) (a b : T) : Prop := ∀ p, p < 2 ^ n → ¬ (has n a p = true ∧ has n b p = true)
theorem sum_spec : ∀ (n : Nat) (a b : T), Nf a → Nf b → a.depth ≤ n → b.depth ≤ n →
    ((sum a b).2 = true ↔ Apart n a b) ∧ ((sum a b).2 = true → Nf (sum a b).1 ∧ (sum a b).1.depth ≤ n ∧ ∀ p, p < 2 ^ n → has n (sum a b).1 p = (has n a p || has n b p))
  | n, leaf false, b, _, hb, _, hd => by
    refine ⟨⟨fun _ p hp h => by rw [has_leaf] at h; exact absurd h.1 (by decide), fun _ => rfl⟩, fun _ => ⟨hb, hd, fun p hp => ?_⟩⟩
    simp [sum, has_leaf]
  | n, leaf true, leaf true, _, _, _, _ => by
    refine ⟨⟨fun h => by simp [sum] at h, fun h => absurd ⟨has_leaf n true 0, has_leaf n true 0⟩ (h 0 (pow_pos' n))⟩, fun h => by simp [sum] at h⟩
  | n, leaf true, leaf false, _, _, _, _ => by
    refine ⟨⟨fun _ p hp h => by rw [has_leaf, has_leaf] at h; exact absurd h.2 (by decide), fun _ => rfl⟩, fun _ => ⟨trivial, by simp [sum, depth], fun p hp => ?_⟩⟩
    simp [sum, has_leaf]
  | n, leaf true, node c d, _, hb, _, hd => by
    refine ⟨⟨fun h => by simp [sum] at h, fun h => ?_⟩, fun h => by simp [sum] at h⟩
    obtain ⟨p, hp, hh⟩ := some_of false hb hd (by simp)
    exact absurd ⟨has_leaf n true p, hh⟩ (h p hp)
  | n, node a b, leaf true, ha, _, hd, _ => by
    refine ⟨⟨fun h => by simp [sum] at h, fun h => ?_⟩, fun h => by simp [sum] at h⟩
    obtain ⟨p, hp, hh⟩ := some_of false ha hd (by simp)
    exact absurd ⟨hh, has_leaf n true p⟩ (h p hp)
  | n, node a b, leaf false, ha, _, hd, _ => by
    refine ⟨⟨fun _ p hp h => by rw [has_leaf] at h; exact absurd h.2 (by decide), fun _ => rfl⟩, fun _ => ⟨ha, hd, fun p hp => ?_⟩⟩
    simp [sum, has_leaf]
  | 0, node a b, node c d, _, _, h, _ => by simp [depth] at h
  | n + 1, node a b, node c d, ha, hb, h1, h2 => by
    simp only [depth] at h1 h2
    obtain ⟨i1, j1⟩ := sum_spec n a c ha.1 hb.1 (by omega) (by omega)
    obtain ⟨i2, j2⟩ := sum_spec n b d ha.2.1 hb.2.1 (by omega) (by omega)
    simp only [sum, Bool.and_eq_true]
    refine ⟨⟨fun ⟨h3, h4⟩ p hp h => ?_, fun h => ⟨i1.2 fun p hp h3 => h p (left_lt hp) ⟨by rw [has_left hp]; exact h3.1, by rw [has_left hp]; exact h3.2⟩, i2.2 fun p hp h3 => h _ (right_lt hp) ⟨by rw [has_right]; exact h3.1, by rw [has_right]; exact h3.2⟩⟩⟩, fun ⟨h3, h4⟩ => ?_⟩
    · rcases half hp with hq | ⟨q, rfl, hq⟩
      · rw [has_left hq, has_left hq] at h; exact i1.1 h3 p hq h
      · rw [has_right, has_right] at h; exact i2.1 h4 q hq h
    · obtain ⟨k1, k2, k3⟩ := j1 h3
      obtain ⟨l1, l2, l3⟩ := j2 h4
      refine ⟨join_nf k1 l1, Nat.le_trans (join_depth _ _) (by omega), fun p hp => ?_⟩
      rw [has_join]
      rcases half hp with hq | ⟨q, rfl, hq⟩
      · rw [has_left hq, has_left hq, has_left hq, k3 p hq]
      · rw [has_right, has_right, has_right, l3 q hq]
/-- A split's two. -/
theorem split_spec : ∀ (n : Nat) (t : T), t.depth ≤ n → ∀ p, p < 2 ^ (n + 1) → (has (n + 1) t.split.1 p || has (n + 1) t.split.2 p) = has (n + 1) t p ∧ ¬ (has (n + 1) t.split.1 p = true ∧ has (n + 1) t.split.2 p = true)
  | n, leaf b, _, p, hp => by
    cases b
    · simp [split, has_leaf]
    · simp only [split, if_true, has_leaf]
      rcases half hp with hq | ⟨q, rfl, hq⟩
      · simp [has_left hq, has_leaf]
      · simp [has_right, has_leaf]
  | 0, node a b, h, p, hp => by simp [depth] at h
  | n + 1, node a b, h, p, hp => by
    simp only [depth] at h
    simp only [split]
    split
    · rename_i hn
      rcases half hp with hq | ⟨q, rfl, hq⟩
      · rw [has_left hq, has_left hq, has_left hq, has_leaf]
        cases a with
        | leaf x => simp only [isNone] at hn; rw [has_leaf]; simp at hn; simp [hn]
        | node x y => simp [isNone] at hn
      · rw [has_right, has_right, has_right]
        exact split_spec n b (by omega) q hq
    · split
      · rename_i hn
        rcases half hp with hq | ⟨q, rfl, hq⟩
        · rw [has_left hq, has_left hq, has_left hq]
          exact split_spec n a (by omega) p hq
        · rw [has_right, has_right, has_right, has_leaf]
          cases b with
          | leaf x => simp only [isNone] at hn; rw [has_leaf]; simp at hn; simp [hn]
          | node x y => simp [isNone] at hn
      · rcases half hp with hq | ⟨q, rfl, hq⟩
        · rw [has_left hq, has_left hq, has_left hq, has_leaf]; simp
        · rw [has_right, has_right, has_right, has_leaf]; simp
theorem split_depth : ∀ t : T, t.split.1.depth ≤ t.depth + 1 ∧ t.split.2.depth ≤ t.depth + 1
  | leaf b => by cases b <;> simp [split, depth]
  | node a b => by
    have ha := split_depth a
    have hb := split_depth b
    simp only [split]
    split
    · simp only [depth]; omega
    · split
      · simp only [depth]; omega
      · simp only [depth]; omega
/-- More levels tell the same. -/
theorem has_double : ∀ (n : Nat) (t : T) (p : Nat), t.depth ≤ n → has (n + 1) t (2 * p) = has n t p ∧ has (n + 1) t (2 * p + 1) = has n t p
  | n, leaf b, p, _ => by simp [has_leaf]
  | 0, node a b, p, h => by simp [depth] at h
  | n + 1, node a b, p, h => by
    simp only [depth] at h
    have hp : 2 ^ (n + 1) = 2 * 2 ^ n := by rw [Nat.pow_succ, Nat.mul_comm]
    have ha := has_double n a p (by omega)
    have hb := has_double n b (p - 2 ^ n) (by omega)
    rw [has, has, has]
    by_cases hq : p < 2 ^ n
    · rw [if_pos (by omega), if_pos hq, if_pos (by omega)]; exact ha
    · rw [if_neg (by omega), if_neg hq, if_neg (by omega), show 2 * p - 2 ^ (n + 1) = 2 * (p - 2 ^ n) by omega, show 2 * p + 1 - 2 ^ (n + 1) = 2 * (p - 2 ^ n) + 1 by omega]; exact hb
end T
end Go.Proofs.Ytlhaofbncoijfaa.Tree
namespace Go.Proofs.Ytlhaofbncoijfaa.HandF
set_option linter.unusedVariables false
set_option linter.unusedSimpArgs false
open Go.RowKit Go.Proofs.Ytlhaofbncoijfaa.X Go.Proofs.Ytlhaofbncoijfaa.Tree Go.Proofs.Ytlhaofbncoijfaa.Blocks
open Go.Proofs.YtlhaofbncoijfaaW.PrintWords Go.Proofs.YtlhaofbncoijfaaW.PrintLast Go.Proofs.YtlhaofbncoijfaaW.PrintMore

/-- What slices.EqualFunc tells of two trees' kids. -/
def kidsEq : T → T → Bool
  | .leaf _, .leaf _ => true
  | .node a b, .node c d => T.eqb a c && T.eqb b d
  | _, _ => false
set_option maxRecDepth 100000 in
set_option maxHeartbeats 40000000 in
theorem eqf_empty (A B : Option Addr) (c d : Nat) (w : World) :
    Calls Try.prog 68 #[.slice A 0 c, .slice B 0 d, .func (.func 46) #[] #[]] w fun e w' => e = .returned (.bool true) ∧ Below w.heap.size w w' := by
  go_enter Try.func68, Try.ntmps68
  go_wp2_with fail
  refine wp_loop_rounds 1 ?_
  rw [rounds_succ]
  go_wp2_with fail
  go_ret
  exact ⟨rfl, Below.refl _ _⟩
set_option maxRecDepth 100000 in
set_option maxHeartbeats 40000000 in
theorem eqf_differ (A B : Option Addr) (m n c d : Nat) (h : m ≠ n) (w : World) :
    Calls Try.prog 68 #[.slice A m c, .slice B n d, .func (.func 46) #[] #[]] w fun e w' => e = .returned (.bool false) ∧ Below w.heap.size w w' := by
  have e1 : ((m : Int) != (n : Int)) = true := bne_iff_ne.2 (by omega)
  have e2 : (m != n) = true := bne_iff_ne.2 h
  go_enter Try.func68, Try.ntmps68
  go_wp2_with fail
  go_ret
  exact ⟨rfl, Below.refl _ _⟩
set_option maxRecDepth 100000 in
set_option maxHeartbeats 40000000 in
theorem eqf_two (a b a' b' : T)
    (ih1 : ∀ (k m : Kd2) (w : World) (ok : Nat → Prop), k.1 = a.toS → m.1 = a'.toS → Ft w ok k → Ft w ok m → Calls Try.prog 46 #[kv k, kv m] w fun e w' => e = .returned (.bool (T.eqb a a')) ∧ Below w.heap.size w w')
    (ih2 : ∀ (k m : Kd2) (w : World) (ok : Nat → Prop), k.1 = b.toS → m.1 = b'.toS → Ft w ok k → Ft w ok m → Calls Try.prog 46 #[kv k, kv m] w fun e w' => e = .returned (.bool (T.eqb b b')) ∧ Below w.heap.size w w')
    (k m : Kd2) (w : World) (ok : Nat → Prop) (hk : k.1 = (T.node a b).toS) (hm : m.1 = (T.node a' b').toS) (fk : Ft w ok k) (fm : Ft w ok m) :
    Calls Try.prog 68 #[.slice k.2.1 2 k.2.2, .slice m.2.1 2 m.2.2, .func (.func 46) #[] #[]] w fun e w' => e = .returned (.bool (T.eqb a a' && T.eqb b b')) ∧ Below w.heap.size w w' := by
  obtain ⟨ad, p0, p1, hA, hp0, hp1, fp0, fp1, x0, x1, x2, x3⟩ := fk.kids hk
  obtain ⟨bd, q0, q1, hB, hq0, hq1, fq0, fq1, y0, y1, y2, y3⟩ := fm.kids hm
  rw [hA, hB]
  have IH1 := Lib.hid ih1
  have IH2 := Lib.hid ih2
  have HP0 := Lib.hid hp0
  have HP1 := Lib.hid hp1
  have HQ0 := Lib.hid hq0
  have HQ1 := Lib.hid hq1
  have FP0 := Lib.hid fp0
  have FP1 := Lib.hid fp1
  have FQ0 := Lib.hid fq0
  have FQ1 := Lib.hid fq1
  have X2 := Lib.hid x2
  have X3 := Lib.hid x3
  have Y2 := Lib.hid y2
  have Y3 := Lib.hid y3
  have hB1 : Below w.heap.size w (w.alloc (.cells #[.bool p0.1.f0, .slice p0.2.1 p0.1.f1.length p0.2.2] 24)) := (Below.refl _ _).alloc (Nat.le_refl _) _
  have y0' := kcell hB1 y0
  have y1' := kcell hB1 y1
  have g1 := blk_new w (.cells #[.bool p0.1.f0, .slice p0.2.1 p0.1.f1.length p0.2.2] 24)
  have g1' := blk_alloc g1 (.cells #[.bool q0.1.f0, .slice q0.2.1 q0.1.f1.length q0.2.2] 24)
  have v0 := cell0 g1'
  have v1 := cell1 g1'
  have HB2 := Lib.hid (hB1.alloc (by rw [World.size_alloc]; omega) (.cells #[.bool q0.1.f0, .slice q0.2.1 q0.1.f1.length q0.2.2] 24))
  clear ih1 ih2 hk hm fk fm hA hB hp0 hp1 hq0 hq1 fp0 fp1 fq0 fq1 x2 x3 y2 y3 hB1 g1 g1'
  have hu24 := Try.underlying24
  have hu22 := Try.underlying22
  go_enter Try.func68, Try.ntmps68
  go_wp2_with fail
  refine wp_loop_rounds 3 ?_
  rw [rounds_succ]
  go_wp2_with fail
  refine (IH1.out p0 q0 _ _ HP0.out HQ0.out (FP0.out.below HB2.out) (FQ0.out.below HB2.out)).mono ?_
  rintro e w3 ⟨rfl, hb3⟩
  have HB3 := Lib.hid (HB2.out.trans (hb3.mono HB2.out.size))
  clear hb3 y0' y1' v0 v1 x0 x1 y0 y1
  cases he : T.eqb a a'
  · go_wp2_with fail
    go_ret
    exact ⟨by rw [he]; rfl, HB3.out⟩
  · have z2 := kcell HB3.out X2.out
    have z3 := kcell HB3.out X3.out
    have hB4 : Below w3.heap.size w3 (w3.alloc (.cells #[.bool p1.1.f0, .slice p1.2.1 p1.1.f1.length p1.2.2] 24)) := (Below.refl _ _).alloc (Nat.le_refl _) _
    have u2 := kcell (HB3.out.trans (hB4.mono HB3.out.size)) Y2.out
    have u3 := kcell (HB3.out.trans (hB4.mono HB3.out.size)) Y3.out
    have g1 := blk_new w3 (.cells #[.bool p1.1.f0, .slice p1.2.1 p1.1.f1.length p1.2.2] 24)
    have g1' := blk_alloc g1 (.cells #[.bool q1.1.f0, .slice q1.2.1 q1.1.f1.length q1.2.2] 24)
    have v0 := cell0 g1'
    have v1 := cell1 g1'
    have HB5 := Lib.hid (hB4.alloc (by rw [World.size_alloc]; omega) (.cells #[.bool q1.1.f0, .slice q1.2.1 q1.1.f1.length q1.2.2] 24))
    clear hB4 g1 g1'
    go_wp2_with fail
    rw [rounds_succ]
    go_wp2_with fail
    refine (IH2.out p1 q1 _ _ HP1.out HQ1.out (FP1.out.below (HB3.out.trans (HB5.out.mono HB3.out.size))) (FQ1.out.below (HB3.out.trans (HB5.out.mono HB3.out.size)))).mono ?_
    rintro e w6 ⟨rfl, hb6⟩
    have HB6 := Lib.hid ((HB3.out.trans (HB5.out.mono HB3.out.size)).trans (hb6.mono (HB3.out.trans (HB5.out.mono HB3.out.size)).size))
    clear hb6 z2 z3 u2 u3 v0 v1
    cases he2 : T.eqb b b'
    · go_wp2_with fail
      go_ret
      exact ⟨by rw [he, he2]; rfl, HB6.out⟩
    · go_wp2_with fail
      rw [rounds_succ]
      go_wp2_with fail
      go_ret
      exact ⟨by rw [he, he2]; rfl, HB6.out⟩
set_option maxRecDepth 100000 in
set_option maxHeartbeats 40000000 in
theorem equal_step (a b : T) (k m : Kd2) (w : World) (ok : Nat → Prop) (hk : k.1 = a.toS) (hm : m.1 = b.toS) (fk : Ft w ok k) (fm : Ft w ok m)
    (h68 : ∀ W, Below w.heap.size w W → Calls Try.prog 68 #[.slice k.2.1 k.1.f1.length k.2.2, .slice m.2.1 m.1.f1.length m.2.2, .func (.func 46) #[] #[]] W fun e w' => e = .returned (.bool (kidsEq a b)) ∧ Below W.heap.size W w') :
    Calls Try.prog 46 #[kv k, kv m] w fun e w' => e = .returned (.bool (T.eqb a b)) ∧ Below w.heap.size w w' := by
  have hu24 := Try.underlying24
  have hu22 := Try.underlying22
  have HK := Lib.hid hk
  have HM := Lib.hid hm
  have H := Lib.hid h68
  have hb2 : Below w.heap.size w ((w.alloc (.cells #[.bool k.1.f0, .slice k.2.1 k.1.f1.length k.2.2] 24)).alloc (.cells #[.bool m.1.f0, .slice m.2.1 m.1.f1.length m.2.2] 24)) := ((Below.refl _ _).alloc (Nat.le_refl _) _).alloc (by simp) _
  have HB2 := Lib.hid hb2
  clear hk hm h68 fk fm hb2
  cases hf : (k.1.f0 == m.1.f0)
  · have he : T.eqb a b = false := by
      cases h : T.eqb a b
      · rfl
      · have := T.eqb_iff.1 h
        rw [HK.out, HM.out, this] at hf
        simp at hf
    rw [he]
    go_enter Try.func46, Try.ntmps46
    go_wp2_with fail
    go_ret
    exact ⟨rfl, HB2.out⟩
  · have he : T.eqb a b = kidsEq a b := by
      rw [HK.out, HM.out] at hf
      cases a with
      | leaf x => cases b with
        | leaf y => simpa [T.eqb, kidsEq, T.toS] using hf
        | node c d => rfl
      | node c d => cases b <;> rfl
    rw [he]
    go_enter Try.func46, Try.ntmps46
    go_wp2_with fail
    refine (H.out _ HB2.out).mono ?_
    rintro e w3 ⟨rfl, hb3⟩
    have HB3 := Lib.hid (HB2.out.trans (hb3.mono HB2.out.size))
    clear hb3
    go_wp2_with fail
    go_ret
    exact ⟨rfl, HB3.out⟩
theorem equal_calls : ∀ (a b : T) (k m : Kd2) (w : World) (ok : Nat → Prop), k.1 = a.toS → m.1 = b.toS → Ft w ok k → Ft w ok m →
    Calls Try.prog 46 #[kv k, kv m] w fun e w' => e = .returned (.bool (T.eqb a b)) ∧ Below w.heap.size w w'
  | .leaf x, .leaf y, k, m, w, ok, hk, hm, fk, fm => equal_step _ _ k m w ok hk hm fk fm (fun W _ => by rw [hk, hm]; exact eqf_empty _ _ _ _ W)
  | .leaf x, .node c d, k, m, w, ok, hk, hm, fk, fm => equal_step _ _ k m w ok hk hm fk fm (fun W _ => by rw [hk, hm]; exact eqf_differ _ _ _ _ _ _ (by simp [T.toS]) W)
  | .node a b, .leaf y, k, m, w, ok, hk, hm, fk, fm => equal_step _ _ k m w ok hk hm fk fm (fun W _ => by rw [hk, hm]; exact eqf_differ _ _ _ _ _ _ (by simp [T.toS]) W)
  | .node a b, .node c d, k, m, w, ok, hk, hm, fk, fm => equal_step _ _ k m w ok hk hm fk fm (fun W hW => by
      have := eqf_two a b c d (equal_calls a c) (equal_calls b d) k m W ok hk hm (fk.below hW) (fm.below hW)
      rw [hk, hm]
      exact this)

def id_equal.f (a0_0 : Bool) (l0_1 : List S24) (a1_0 : Bool) (l1_1 : List S24) : Option Bool :=
  match T.ofS ⟨a0_0, l0_1⟩, T.ofS ⟨a1_0, l1_1⟩ with
  | some a, some b => some (T.eqb a b)
  | _, _ => none
theorem id_equal.calls (a0_0 : Bool) (A0_1 : Option Addr) (c0_1 : Nat) (l0_1 : List S24) (a1_0 : Bool) (A1_1 : Option Addr) (c1_1 : Nat) (l1_1 : List S24) (r : Bool) (w : World) (hr0_1 : Kd.C k24 w A0_1 l0_1.length l0_1) (hc0_1 : l0_1.length ≤ c0_1) (hr1_1 : Kd.C k24 w A1_1 l1_1.length l1_1) (hc1_1 : l1_1.length ≤ c1_1) (h : id_equal.f a0_0 l0_1 a1_0 l1_1 = some r) :
    Calls Try.prog 46 #[.agg #[.bool a0_0, .slice A0_1 l0_1.length c0_1], .agg #[.bool a1_0, .slice A1_1 l1_1.length c1_1]] w fun e w' => e = .returned (.bool r) ∧ Below w.heap.size w w' := by
  unfold id_equal.f at h
  cases ha : T.ofS ⟨a0_0, l0_1⟩ with
  | none => rw [ha] at h; cases h
  | some a =>
    cases hb : T.ofS ⟨a1_0, l1_1⟩ with
    | none => rw [ha, hb] at h; cases h
    | some b =>
      rw [ha, hb] at h
      obtain rfl : T.eqb a b = r := by simpa using h
      exact equal_calls a b (⟨a0_0, l0_1⟩, A0_1, c0_1) (⟨a1_0, l1_1⟩, A1_1, c1_1) w _ (T.ofS_eq.1 ha).symm (T.ofS_eq.1 hb).symm (Ft.all hc0_1 hr0_1) (Ft.all hc1_1 hr1_1)
end Go.Proofs.Ytlhaofbncoijfaa.HandF
namespace Go.Proofs.Ytlhaofbncoijfaa.HandF
set_option linter.unusedVariables false
set_option linter.unusedSimpArgs false
open Go.RowKit Go.Proofs.Ytlhaofbncoijfaa.X Go.Proofs.Ytlhaofbncoijfaa.Tree Go.Proofs.Ytlhaofbncoijfaa.Blocks
open Go.Proofs.YtlhaofbncoijfaaW.PrintWords Go.Proofs.YtlhaofbncoijfaaW.PrintLast Go.Proofs.YtlhaofbncoijfaaW.PrintMore

/-- What Sum hands back of two right trees. -/
def SumT (a b : T) : S24 × Int :=
  if (T.sum a.norm b.norm).2 = true then (if (T.sum a.norm b.norm).1.right then ((T.sum a.norm b.norm).1.norm.toS, 0) else (⟨false, []⟩, 2)) else (⟨false, []⟩, 42)
/-- How it is left. -/
theorem Sum22_out {w W : World} {k m : Kd2} {a b : Value} {R : Ending → World → Prop} {tmps : Array Value} (k1 : Kd2) (x : Int) (h : SuI w W k m #[a, b])
    (h2 : tmps.getD 4 undef = .pointer (some ⟨w.heap.size + 1 + 1, 0, none⟩)) (h3 : tmps.getD 5 undef = .int .i64 x)
    (hR : ∀ W', Below w.heap.size w W' → (∀ j, j ≠ w.heap.size + 1 + 1 → W'.heap[j]? = W.heap[j]?) → R (.returned (.tuple #[kv k1, .int .i64 x])) W') :
    bodyPost Try.prog Try.f22 R .ret { tmps := tmps, defers := [] } ((W.setCell ⟨w.heap.size + 1 + 1, 0, none⟩ (.bool k1.1.f0)).setCell ⟨w.heap.size + 1 + 1, 1, none⟩ (.slice k1.2.1 k1.1.f1.length k1.2.2)) := by
  have hs : ((W.setCell ⟨w.heap.size + 1 + 1, 0, none⟩ (.bool k1.1.f0)).setCell ⟨w.heap.size + 1 + 1, 1, none⟩ (.slice k1.2.1 k1.1.f1.length k1.2.2)).heap[w.heap.size + 1 + 1]? = some (.cells #[.bool k1.1.f0, .slice k1.2.1 k1.1.f1.length k1.2.2] 24 (0, 0)) := set1 (set0 h.out)
  refine bodyPost_ret (results_ct rfl _ _ (w.heap.size + 1 + 1) 24 _ (0, 0) _ h2 hs Try.underlying24 rfl (by kernel_rfl)) rfl ?_
  rw [h3]
  refine hR _ ((h.below.setCell (Nat.le_trans (Nat.le_succ _) (Nat.le_succ _)) _).setCell (Nat.le_trans (Nat.le_succ _) (Nat.le_succ _)) _) (fun j h2 => ?_)
  rw [set_other (by simpa using h2), set_other (by simpa using h2)]

set_option maxRecDepth 100000 in
set_option maxHeartbeats 40000000 in
theorem Sum22_bad (k m : Kd2) (w : World) (hk : k.1.f1.length ≤ k.2.2) (hkC : Kd.C k24 w k.2.1 k.1.f1.length k.1.f1) (hm : m.1.f1.length ≤ m.2.2) (hmC : Kd.C k24 w m.2.1 m.1.f1.length m.1.f1) (h : (rightB k.1 && rightB m.1) = false) :
    Calls Try.prog 22 #[kv k, kv m] w fun e w' => e = .returned (.tuple #[.agg #[.bool false, .slice none 0 0], .int .i64 2]) ∧ Below w.heap.size w w' := by
  have HK := Lib.hid hk
  have HKC := Lib.hid hkC
  have HM := Lib.hid hm
  have HMC := Lib.hid hmC
  have HH := Lib.hid h
  clear hk hkC hm hmC h
  have hu24 := Try.underlying24
  have hu22 := Try.underlying22
  go_enter Try.func22, Try.ntmps22
  go_wp2_with fail
  obtain ⟨W0, hW0⟩ : ∃ W0, ((w.alloc (.cells #[.bool k.1.f0, .slice k.2.1 k.1.f1.length k.2.2] 24)).alloc (.cells #[.bool m.1.f0, .slice m.2.1 m.1.f1.length m.2.2] 24)).alloc (.cells #[.bool false, .slice none 0 0] 24) = W0 := ⟨_, rfl⟩
  have hI : SuI w W0 k m #[.bool false, .slice none 0 0] := by
    rw [← hW0]
    refine ⟨(((Below.refl _ _).alloc (Nat.le_refl _) _).alloc (by simp) _).alloc (by simp; omega) _, blk_alloc (blk_alloc (blk_new _ _) _) _, blk_alloc ?_ _, ?_⟩
    · have := blk_new (w.alloc (.cells #[.bool k.1.f0, .slice k.2.1 k.1.f1.length k.2.2] 24)) (.cells #[.bool m.1.f0, .slice m.2.1 m.1.f1.length m.2.2] 24)
      rwa [World.size_alloc] at this
    · have := blk_new ((w.alloc (.cells #[.bool k.1.f0, .slice k.2.1 k.1.f1.length k.2.2] 24)).alloc (.cells #[.bool m.1.f0, .slice m.2.1 m.1.f1.length m.2.2] 24)) (.cells #[.bool false, .slice none 0 0] 24)
      rwa [World.size_alloc, World.size_alloc] at this
  rw [hW0]
  have HI := Lib.hid hI
  clear hI hW0
  refine (right_calls k _ ⟨HK.out, Kd.C_below HKC.out HI.out.below⟩).mono ?_
  rintro e w1 ⟨rfl, hb1⟩
  have HI1 := Lib.hid (HI.out.step hb1)
  clear hb1
  have r0 := cell0 HI1.out.right
  have r1 := cell1 HI1.out.right
  have o0 := cell0 HI1.out.out
  have o1 := cell1 HI1.out.out
  have fo := free2 HI1.out.out
  cases hr : rightB k.1
  · go_wp2_with fail
    refine Sum22_out (⟨false, []⟩, none, 0) 2 HI1.out rfl rfl ?_
    intro W' hb' _
    exact ⟨rfl, hb'⟩
  · have hrm : rightB m.1 = false := by have := HH.out; rw [hr] at this; simpa using this
    have HRM := Lib.hid hrm
    clear hrm
    go_wp2_with fail
    refine (right_calls m _ ⟨HM.out, Kd.C_below HMC.out HI1.out.below⟩).mono ?_
    rintro e w2 ⟨rfl, hb2⟩
    have HI2 := Lib.hid (HI1.out.step hb2)
    clear hb2 r0 r1 o0 o1 fo
    have o0 := cell0 HI2.out.out
    have o1 := cell1 HI2.out.out
    have fo := free2 HI2.out.out
    rw [HRM.out]
    go_wp2_with fail
    refine Sum22_out (⟨false, []⟩, none, 0) 2 HI2.out rfl rfl ?_
    intro W' hb' _
    exact ⟨rfl, hb'⟩

set_option maxRecDepth 100000 in
set_option maxHeartbeats 40000000 in
theorem Sum22 (k m : Kd2) (a b : T) (w : World) (ha : k.1 = a.toS) (hb : m.1 = b.toS) (hra : a.right) (hrb : b.right) (hk : k.1.f1.length ≤ k.2.2) (hkC : Kd.C k24 w k.2.1 k.1.f1.length k.1.f1) (hm : m.1.f1.length ≤ m.2.2) (hmC : Kd.C k24 w m.2.1 m.1.f1.length m.1.f1) :
    Calls Try.prog 22 #[kv k, kv m] w fun e w' => ∃ k1 : Kd2, e = .returned (.tuple #[kv k1, .int .i64 (SumT a b).2]) ∧ k1.1 = (SumT a b).1 ∧ Ft w' (fun j => w.heap.size ≤ j) k1 ∧ Below w.heap.size w w' := by
  have HKA := Lib.hid ha
  have HKB := Lib.hid hb
  have HRA : Hid (rightB k.1 = true) := by rw [ha, right_T]; exact decide_eq_true hra
  have HRB : Hid (rightB m.1 = true) := by rw [hb, right_T]; exact decide_eq_true hrb
  have HK := Lib.hid hk
  have HKC := Lib.hid hkC
  have HM := Lib.hid hm
  have HMC := Lib.hid hmC
  clear hk hkC hm hmC ha hb hra hrb
  have hu24 := Try.underlying24
  have hu22 := Try.underlying22
  go_enter Try.func22, Try.ntmps22
  go_wp2_with fail
  obtain ⟨W0, hW0⟩ : ∃ W0, ((w.alloc (.cells #[.bool k.1.f0, .slice k.2.1 k.1.f1.length k.2.2] 24)).alloc (.cells #[.bool m.1.f0, .slice m.2.1 m.1.f1.length m.2.2] 24)).alloc (.cells #[.bool false, .slice none 0 0] 24) = W0 := ⟨_, rfl⟩
  have hI : SuI w W0 k m #[.bool false, .slice none 0 0] := by
    rw [← hW0]
    refine ⟨(((Below.refl _ _).alloc (Nat.le_refl _) _).alloc (by simp) _).alloc (by simp; omega) _, blk_alloc (blk_alloc (blk_new _ _) _) _, blk_alloc ?_ _, ?_⟩
    · have := blk_new (w.alloc (.cells #[.bool k.1.f0, .slice k.2.1 k.1.f1.length k.2.2] 24)) (.cells #[.bool m.1.f0, .slice m.2.1 m.1.f1.length m.2.2] 24)
      rwa [World.size_alloc] at this
    · have := blk_new ((w.alloc (.cells #[.bool k.1.f0, .slice k.2.1 k.1.f1.length k.2.2] 24)).alloc (.cells #[.bool m.1.f0, .slice m.2.1 m.1.f1.length m.2.2] 24)) (.cells #[.bool false, .slice none 0 0] 24)
      rwa [World.size_alloc, World.size_alloc] at this
  rw [hW0]
  have HI := Lib.hid hI
  clear hI hW0
  refine (right_calls k _ ⟨HK.out, Kd.C_below HKC.out HI.out.below⟩).mono ?_
  rintro e w1 ⟨rfl, hb1⟩
  have HI1 := Lib.hid (HI.out.step hb1)
  clear hb1
  have r0 := cell0 HI1.out.right
  have r1 := cell1 HI1.out.right
  rw [HRA.out]
  go_wp2_with fail
  refine (right_calls m _ ⟨HM.out, Kd.C_below HMC.out HI1.out.below⟩).mono ?_
  rintro e w4 ⟨rfl, hb2⟩
  have HI4 := Lib.hid (HI1.out.step hb2)
  clear hb2 r0 r1
  rw [HRB.out]
  go_wp2_with fail
  have HD4 := Lib.hid (HI4.out.step (W' := w4.drew) (Below.refl _ _).drew)
  have HZ4 := Lib.hid (HI4.out.step (W' := (w4.alloc (.cells #[.bool false, .slice none 0 0] 24)).drew) (((Below.refl _ _).alloc (Nat.le_refl _) _).drew))
  have GZ4 := Lib.hid (show (w4.alloc (.cells #[.bool false, .slice none 0 0] 24)).drew.heap[w4.heap.size]? = some (.cells #[.bool false, .slice none 0 0] 24 (0, 0)) from blk_new w4 _)
  have held : ∀ W, SuI w W k m #[.bool false, .slice none 0 0] →
      W.cell? ⟨w.heap.size, 0, none⟩ = some (.bool k.1.f0) ∧ W.cell? ⟨w.heap.size, 1, none⟩ = some (.slice k.2.1 k.1.f1.length k.2.2) ∧ W.cell? ⟨w.heap.size + 1, 0, none⟩ = some (.bool m.1.f0) ∧ W.cell? ⟨w.heap.size + 1, 1, none⟩ = some (.slice m.2.1 m.1.f1.length m.2.2) :=
    fun W h => ⟨cell0 h.left, cell1 h.left, cell0 h.right, cell1 h.right⟩
  have HELD := Lib.hid held
  have hst : ∀ W, SuI w W k m #[.bool false, .slice none 0 0] → SuI w (W.alloc (.cells #[.bool false, .slice none 0 0] 24)) k m #[.bool false, .slice none 0 0] := fun W h => h.step ((Below.refl _ _).alloc (Nat.le_refl _) _)
  have HST := Lib.hid hst
  clear held hst
  have HL4 := Lib.hid HI4.out.lt
  go_region_held3 (fun w' => w'.cell? ⟨w.heap.size, 0, none⟩ = some (.bool k.1.f0) ∧ w'.cell? ⟨w.heap.size, 1, none⟩ = some (.slice k.2.1 k.1.f1.length k.2.2) ∧ w'.cell? ⟨w.heap.size + 1, 0, none⟩ = some (.bool m.1.f0) ∧ w'.cell? ⟨w.heap.size + 1, 1, none⟩ = some (.slice m.2.1 m.1.f1.length m.2.2))
    (with_reducible first | exact HELD.out _ HD4.out | exact HELD.out _ HZ4.out | exact HELD.out _ HI5.out | exact HELD.out _ (HST.out _ HI5.out) | exact HELD.out _ HI6.out | exact HELD.out _ (HST.out _ HI6.out) | exact HELD.out _ HI7.out | exact HELD.out _ (HI7.out.step ((Below.refl _ _).alloc (Nat.le_refl _) _)) | exact HELD.out _ ((HI7.out.far HGL.out).far HGL.out) | exact HELD.out _ ((HI7.out.far HLA.out).far HLA.out) | exact HELD.out _ ((HI7.out.far HLB.out).far HLB.out))
    (first
      | (go_at_call 36; (with_reducible refine (norm_calls k a _ HKA.out HK.out ?_).mono ?_); (exact Kd.C_below HKC.out (by with_reducible first | exact HD4.out.below | exact HZ4.out.below)); rintro e w5 ⟨na, rfl, hna, fna, hb5⟩; have HI5 := Lib.hid (by with_reducible first | exact HD4.out.step hb5 | exact HZ4.out.step hb5 : SuI w w5 k m #[.bool false, .slice none 0 0]); have HNA := Lib.hid hna; have FNA := Lib.hid fna; (try with_reducible have gl5 := Lib.hid (blk_below GZ4.out hb5)); have HS5 := Lib.hid hb5.size; clear hna fna hb5)
      | (go_at_call 36; (with_reducible refine (norm_calls m b _ HKB.out HM.out ?_).mono ?_); (exact Kd.C_below HMC.out (by with_reducible first | exact HI5.out.below | exact (HST.out _ HI5.out).below)); rintro e w6 ⟨nb, rfl, hnb, fnb, hb6⟩; have HI6 := Lib.hid (by with_reducible first | exact HI5.out.step hb6 | exact (HST.out _ HI5.out).step hb6 : SuI w w6 k m #[.bool false, .slice none 0 0]); have HNB := Lib.hid hnb; have FNB := Lib.hid fnb; (with_reducible first | have FNA6 := Lib.hid (FNA.out.below hb6) | have FNA6 := Lib.hid ((FNA.out.alloc (.cells #[.bool false, .slice none 0 0] 24)).below hb6)); (with_reducible first | have gl6 := Lib.hid (blk_below gl5.out hb6) | have gl6 := Lib.hid (blk_below (blk_new w5 (.cells #[.bool false, .slice none 0 0] 24)) hb6) | skip); have HS6 := Lib.hid hb6.size; clear hnb fnb hb6)
      | (go_at_call 43; (first | (with_reducible refine (sum_calls a.norm b.norm na nb _ (fun j => _ ∨ _) HNA.out HNB.out (FNA6.out.mono (fun j h => Or.inl h)) (FNB.out.mono (fun j h => Or.inr h))).mono ?_) | (with_reducible refine (sum_calls a.norm b.norm na nb _ (fun j => _ ∨ _) HNA.out HNB.out ((FNA6.out.alloc (.cells #[.bool false, .slice none 0 0] 24)).mono (fun j h => Or.inl h)) ((FNB.out.alloc (.cells #[.bool false, .slice none 0 0] 24)).mono (fun j h => Or.inr h))).mono ?_)); rintro e w7 ⟨k1, rfl, hk1, hf1, hb7⟩; have HI7 := Lib.hid (by with_reducible first | exact HI6.out.step hb7 | exact (HST.out _ HI6.out).step hb7 : SuI w w7 k m #[.bool false, .slice none 0 0]); have HK1 := Lib.hid hk1; have HF1 := Lib.hid hf1; (with_reducible first | have gl7 := blk_below gl6.out hb7 | have gl7 := blk_below (blk_new w6 (.cells #[.bool false, .slice none 0 0] 24)) hb7 | skip); (try have gl70 := cell0 gl7); (try have gl71 := cell1 gl7); (try have gl7f := free2 gl7); (try have GL7 := Lib.hid gl7); (try clear gl7); have HLA := Lib.hid HI5.out.lt; have HLB := Lib.hid HI6.out.lt; have HGL := Lib.hid HI4.out.lt; have HS7 := Lib.hid hb7.size; clear hk1 hf1 hb7))
  all_goals
    rename_i hHeld
    clear hHeld
    first
      | (have hI8 := (HI7.out.far (o := 0) (u := .bool k1.1.f0) HLB.out).far (o := 1) (u := .slice k1.2.1 k1.1.f1.length k1.2.2) HLB.out
         have hL8 : SuL w ((w7.setCell ⟨w6.heap.size, 0, none⟩ (.bool k1.1.f0)).setCell ⟨w6.heap.size, 1, none⟩ (.slice k1.2.1 k1.1.f1.length k1.2.2)) (fun _ => False) w6.heap.size k1 := SuL.ahead GL7.out HF1.out (fun j hj => by
            have e4 : (w4.alloc (.cells #[.bool false, .slice none 0 0] 24)).drew.heap.size = w4.heap.size + 1 := World.size_alloc _ _
            have e5 : (w5.alloc (.cells #[.bool false, .slice none 0 0] 24)).heap.size = w5.heap.size + 1 := World.size_alloc _ _
            have e6 : (w6.alloc (.cells #[.bool false, .slice none 0 0] 24)).heap.size = w6.heap.size + 1 := World.size_alloc _ _
            have d4 : w4.drew.heap.size = w4.heap.size := rfl
            have hs5 := HS5.out
            have hs6 := HS6.out
            have hs7 := HS7.out
            have l4 := HL4.out
            have la := HLA.out
            have lb := HLB.out
            refine ⟨.inr ?_, ?_⟩
            · rcases hj with (hj | hj) | hj <;> omega
            · rcases hj with (hj | hj) | hj <;> omega) HLB.out
         obtain ⟨W8, hW8⟩ : ∃ W8, (w7.setCell ⟨w6.heap.size, 0, none⟩ (.bool k1.1.f0)).setCell ⟨w6.heap.size, 1, none⟩ (.slice k1.2.1 k1.1.f1.length k1.2.2) = W8 := ⟨_, rfl⟩
         rw [hW8] at hI8 hL8
         with_reducible rw [hW8]
         obtain ⟨g, hg⟩ : ∃ g, w6.heap.size = g := ⟨_, rfl⟩
         rw [hg] at hL8 ⊢)
      | (have hI8 := (HI7.out.far (o := 0) (u := .bool k1.1.f0) HLA.out).far (o := 1) (u := .slice k1.2.1 k1.1.f1.length k1.2.2) HLA.out
         have hL8 : SuL w ((w7.setCell ⟨w5.heap.size, 0, none⟩ (.bool k1.1.f0)).setCell ⟨w5.heap.size, 1, none⟩ (.slice k1.2.1 k1.1.f1.length k1.2.2)) (fun _ => False) w5.heap.size k1 := SuL.ahead GL7.out HF1.out (fun j hj => by
            have e4 : (w4.alloc (.cells #[.bool false, .slice none 0 0] 24)).drew.heap.size = w4.heap.size + 1 := World.size_alloc _ _
            have e5 : (w5.alloc (.cells #[.bool false, .slice none 0 0] 24)).heap.size = w5.heap.size + 1 := World.size_alloc _ _
            have e6 : (w6.alloc (.cells #[.bool false, .slice none 0 0] 24)).heap.size = w6.heap.size + 1 := World.size_alloc _ _
            have d4 : w4.drew.heap.size = w4.heap.size := rfl
            have hs5 := HS5.out
            have hs6 := HS6.out
            have hs7 := HS7.out
            have l4 := HL4.out
            have la := HLA.out
            have lb := HLB.out
            refine ⟨.inr ?_, ?_⟩
            · rcases hj with (hj | hj) | hj <;> omega
            · rcases hj with (hj | hj) | hj <;> omega) HLA.out
         obtain ⟨W8, hW8⟩ : ∃ W8, (w7.setCell ⟨w5.heap.size, 0, none⟩ (.bool k1.1.f0)).setCell ⟨w5.heap.size, 1, none⟩ (.slice k1.2.1 k1.1.f1.length k1.2.2) = W8 := ⟨_, rfl⟩
         rw [hW8] at hI8 hL8
         with_reducible rw [hW8]
         obtain ⟨g, hg⟩ : ∃ g, w5.heap.size = g := ⟨_, rfl⟩
         rw [hg] at hL8 ⊢)
      | (have hI8 := (HI7.out.far (o := 0) (u := .bool k1.1.f0) HL4.out).far (o := 1) (u := .slice k1.2.1 k1.1.f1.length k1.2.2) HL4.out
         have hL8 : SuL w ((w7.setCell ⟨w4.heap.size, 0, none⟩ (.bool k1.1.f0)).setCell ⟨w4.heap.size, 1, none⟩ (.slice k1.2.1 k1.1.f1.length k1.2.2)) (fun _ => False) w4.heap.size k1 := SuL.ahead GL7.out HF1.out (fun j hj => by
            have e4 : (w4.alloc (.cells #[.bool false, .slice none 0 0] 24)).drew.heap.size = w4.heap.size + 1 := World.size_alloc _ _
            have e5 : (w5.alloc (.cells #[.bool false, .slice none 0 0] 24)).heap.size = w5.heap.size + 1 := World.size_alloc _ _
            have e6 : (w6.alloc (.cells #[.bool false, .slice none 0 0] 24)).heap.size = w6.heap.size + 1 := World.size_alloc _ _
            have d4 : w4.drew.heap.size = w4.heap.size := rfl
            have hs5 := HS5.out
            have hs6 := HS6.out
            have hs7 := HS7.out
            have l4 := HL4.out
            have la := HLA.out
            have lb := HLB.out
            refine ⟨.inr ?_, ?_⟩
            · rcases hj with (hj | hj) | hj <;> omega
            · rcases hj with (hj | hj) | hj <;> omega) HL4.out
         obtain ⟨W8, hW8⟩ : ∃ W8, (w7.setCell ⟨w4.heap.size, 0, none⟩ (.bool k1.1.f0)).setCell ⟨w4.heap.size, 1, none⟩ (.slice k1.2.1 k1.1.f1.length k1.2.2) = W8 := ⟨_, rfl⟩
         rw [hW8] at hI8 hL8
         with_reducible rw [hW8]
         obtain ⟨g, hg⟩ : ∃ g, w4.heap.size = g := ⟨_, rfl⟩
         rw [hg] at hL8 ⊢)
      | (have hI8 := HI7.out.step ((Below.refl _ _).alloc (Nat.le_refl _) (.cells #[.bool k1.1.f0, .slice k1.2.1 k1.1.f1.length k1.2.2] 24))
         have hL8 : SuL w (w7.alloc (.cells #[.bool k1.1.f0, .slice k1.2.1 k1.1.f1.length k1.2.2] 24)) (fun _ => False) w7.heap.size k1 := SuL.behind HF1.out (fun j hj => by
            have d4 : w4.drew.heap.size = w4.heap.size := rfl
            have l4 := HL4.out
            have la := HLA.out
            have lb := HLB.out
            refine .inr ?_
            rcases hj with (hj | hj) | hj <;> omega) HI7.out.lt
         obtain ⟨W8, hW8⟩ : ∃ W8, w7.alloc (.cells #[.bool k1.1.f0, .slice k1.2.1 k1.1.f1.length k1.2.2] 24) = W8 := ⟨_, rfl⟩
         rw [hW8] at hI8 hL8
         with_reducible rw [hW8]
         obtain ⟨g, hg⟩ : ∃ g, w7.heap.size = g := ⟨_, rfl⟩
         rw [hg] at hL8 ⊢)
    have HI8 := Lib.hid hI8
    have HL8 := Lib.hid hL8
    have b0 := cell0 hL8.box
    have b1 := cell1 hL8.box
    have o0 := cell0 hI8.out
    have o1 := cell1 hI8.out
    have fo := free2 hI8.out
    clear hI8 hL8 hg hW8
    cases hx : (T.sum a.norm b.norm).2
    · go_wp2_with fail
      refine Sum22_out (⟨false, []⟩, none, 0) 42 HI8.out rfl rfl ?_
      intro W' hb' _
      have hS : SumT a b = (⟨false, []⟩, 42) := by unfold SumT; rw [hx]; rfl
      exact ⟨(⟨false, []⟩, none, 0), by rw [hS], by rw [hS], Ft.leaf _ _ _, hb'⟩
    · go_wp2_with fail
      refine (right_calls k1 _ ⟨HL8.out.foot.1, HL8.out.foot.now⟩).mono ?_
      rintro e w9 ⟨rfl, hb9⟩
      have HI9 := Lib.hid (HI8.out.step hb9)
      have HL9 := Lib.hid (HL8.out.step hb9)
      clear hb9 b0 b1 o0 o1 fo
      rw [show rightB k1.1 = decide (T.sum a.norm b.norm).1.right by rw [HK1.out, right_T]]
      have b0 := cell0 HL9.out.box
      have b1 := cell1 HL9.out.box
      have o0 := cell0 HI9.out.out
      have o1 := cell1 HI9.out.out
      have fo := free2 HI9.out.out
      by_cases hr : (T.sum a.norm b.norm).1.right
      · rw [decide_eq_true hr]
        go_wp2_with fail
        refine (norm_calls k1 _ _ HK1.out HL9.out.foot.1 HL9.out.foot.now).mono ?_
        rintro e w10 ⟨k2, rfl, hk2, hf2, hb10⟩
        have HI10 := Lib.hid (HI9.out.step hb10)
        have HK2 := Lib.hid hk2
        have HF2 := Lib.hid hf2
        have HS9 := Lib.hid HI9.out.lt
        clear hk2 hf2 hb10 b0 b1 o0 o1 fo
        have o0 := cell0 HI10.out.out
        have o1 := cell1 HI10.out.out
        have fo := free2 HI10.out.out
        go_wp2_with fail
        refine Sum22_out k2 0 HI10.out rfl rfl ?_
        intro W' hb' hm
        have hS : SumT a b = ((T.sum a.norm b.norm).1.norm.toS, 0) := by unfold SumT; rw [hx, if_pos rfl, if_pos hr]
        exact ⟨k2, by rw [hS], by rw [hS]; exact HK2.out, (HF2.out.move (fun j hj => hm j (by have := HS9.out; have := hj.1; omega))).mono (fun j hj => by have := HS9.out; have := hj.1; omega), hb'⟩
      · rw [decide_eq_false hr]
        go_wp2_with fail
        refine Sum22_out (⟨false, []⟩, none, 0) 2 HI9.out rfl rfl ?_
        intro W' hb' _
        have hS : SumT a b = (⟨false, []⟩, 2) := by unfold SumT; rw [hx, if_pos rfl, if_neg hr]
        exact ⟨(⟨false, []⟩, none, 0), by rw [hS], by rw [hS], Ft.leaf _ _ _, hb'⟩
end Go.Proofs.Ytlhaofbncoijfaa.HandF
namespace Go.Proofs.Ytlhaofbncoijfaa.HandF
set_option linter.unusedVariables false
set_option linter.unusedSimpArgs false
open Go.RowKit Go.Proofs.Ytlhaofbncoijfaa.X Go.Proofs.Ytlhaofbncoijfaa.Tree Go.Proofs.Ytlhaofbncoijfaa.Blocks
open Go.Proofs.YtlhaofbncoijfaaW.PrintWords Go.Proofs.YtlhaofbncoijfaaW.PrintLast Go.Proofs.YtlhaofbncoijfaaW.PrintMore

def pannierlaw04_shown.f : Option Bool := some true
theorem Show28 (k : Kd2) (t : T) (w : World) (hk : k.1 = t.toS) (ht : t.right) (hl : k.1.f1.length ≤ k.2.2) (hC : Kd.C k24 w k.2.1 k.1.f1.length k.1.f1) :
    Calls Try.prog 28 #[kv k] w fun e w' => e = .returned (.tuple #[.string ⟨t.norm.text.toArray⟩, .int .i64 0]) ∧ Below w.heap.size w w' := by
  obtain ⟨s, A, c⟩ := k
  dsimp only at hk
  subst hk
  refine id_Show.calls t.toS.f0 A c t.toS.f1 _ _ w hC hl ?_
  unfold id_Show.f
  rw [S24_eta, right_T, decide_eq_true ht, if_pos rfl, T.of_toS]
  rfl
theorem SplitS_one : SplitS ⟨true, []⟩ = ((T.node (.leaf true) (.leaf false)).toS, (T.node (.leaf false) (.leaf true)).toS, 0) := by
  have h : NormS ⟨true, []⟩ = (⟨true, []⟩, 0) := NormS_right (.leaf true) (by decide)
  unfold SplitS
  rw [h, if_pos rfl]
  rw [show T.ofS ((⟨true, []⟩ : S24), (0 : Int)).1 = some (.leaf true) from T.of_toS (.leaf true)]
  exact if_pos (by decide)
set_option maxRecDepth 100000 in
set_option maxHeartbeats 40000000 in
theorem pannierlaw04_shown.calls (r : Bool) (w : World) (h : pannierlaw04_shown.f = some r) :
    Calls Try.prog 12 #[] w fun e w' => e = .returned (.bool r) ∧ Below w.heap.size w w' := by
  obtain rfl : true = r := by simpa [pannierlaw04_shown.f] using h
  clear h
  have hu24 := Try.underlying24
  have hu22 := Try.underlying22
  have hu9 := Try.underlying9
  go_enter Try.func12, Try.ntmps12
  go_wp2_with fail
  refine (Split15 (⟨true, []⟩, none, 0) w (Nat.le_refl _) (Kd.C_nil _ _)).mono ?_
  rintro e w1 ⟨k1, k2, rfl, h1, h2, f1, f2, hb1⟩
  rw [SplitS_one] at h1 h2
  dsimp only at h1 h2
  have H1 := Lib.hid h1
  have H2 := Lib.hid h2
  have F1 := Lib.hid f1
  have F2 := Lib.hid f2
  have HB1 := Lib.hid hb1
  have es : (SplitS ⟨true, []⟩).2.2 = 0 := by rw [SplitS_one]
  clear h1 h2 f1 f2 hb1
  dsimp only
  rw [es]
  clear es
  go_wp2_with fail
  obtain ⟨W4, hW4⟩ : ∃ W4, (w1.alloc (.cells #[.bool k1.1.f0, .slice k1.2.1 k1.1.f1.length k1.2.2] 24)).alloc (.cells #[.bool k2.1.f0, .slice k2.2.1 k2.1.f1.length k2.2.2] 24) = W4 := ⟨_, rfl⟩
  have hb4 : Below w1.heap.size w1 W4 := by rw [← hW4]; exact ((Below.refl _ _).alloc (Nat.le_refl _) _).alloc (by simp) _
  have gq : W4.heap[w1.heap.size + 1]? = some (.cells #[.bool k2.1.f0, .slice k2.2.1 k2.1.f1.length k2.2.2] 24 (0, 0)) := by
    rw [← hW4]; have := blk_new (w1.alloc (.cells #[.bool k1.1.f0, .slice k1.2.1 k1.1.f1.length k1.2.2] 24)) (.cells #[.bool k2.1.f0, .slice k2.2.1 k2.1.f1.length k2.2.2] 24); rwa [World.size_alloc] at this
  rw [hW4]
  have HB4 := Lib.hid (HB1.out.trans (hb4.mono HB1.out.size))
  have F1' := Lib.hid (F1.out.below hb4)
  have F2' := Lib.hid (F2.out.below hb4)
  have GQ := Lib.hid gq
  clear hb4 gq hW4
  refine (Show28 k1 _ W4 H1.out (by decide) F1'.out.1 F1'.out.now).mono ?_
  rintro e w5 ⟨rfl, hb5⟩
  have HB5 := Lib.hid (HB4.out.trans (hb5.mono HB4.out.size))
  have F2'' := Lib.hid (F2'.out.below hb5)
  have q0 := cell0 (blk_below GQ.out hb5)
  have q1 := cell1 (blk_below GQ.out hb5)
  clear hb5
  rw [show (⟨(T.node (.leaf true) (.leaf false)).norm.text.toArray⟩ : ByteArray) = ⟨#[40, 49, 44, 48, 41]⟩ from rfl]
  go_wp2_with fail
  refine (Show28 k2 _ w5 H2.out (by decide) F2''.out.1 F2''.out.now).mono ?_
  rintro e w6 ⟨rfl, hb6⟩
  have HB6 := Lib.hid (HB5.out.trans (hb6.mono HB5.out.size))
  clear hb6 q0 q1
  rw [show (⟨(T.node (.leaf false) (.leaf true)).norm.text.toArray⟩ : ByteArray) = ⟨#[40, 48, 44, 49, 41]⟩ from rfl]
  go_wp2_with fail
  go_ret
  exact ⟨rfl, HB6.out⟩
end Go.Proofs.Ytlhaofbncoijfaa.HandF
namespace Go.Proofs.Ytlhaofbncoijfaa.Tree
set_option linter.unusedVariables false
set_option linter.unusedSimpArgs false
open Go.RowKit Go.Proofs.Ytlhaofbncoijfaa.X Go.Proofs.Ytlhaofbncoijfaa.Tree.T Go.Proofs.Ytlhaofbncoijfaa.HandF

theorem split32' (t : T) (h : t.depth ≤ 32) (h1 : t.split.1.depth ≤ 32) (h2 : t.split.2.depth ≤ 32) (p : Nat) (hp : p < 2 ^ 32) :
    (t.split.1.has 32 p || t.split.2.has 32 p) = t.has 32 p ∧ ¬ (t.split.1.has 32 p = true ∧ t.split.2.has 32 p = true) := by
  have := split_spec 32 t h (2 * p) (by rw [Nat.pow_succ]; omega)
  rw [(has_double 32 _ p h1).1, (has_double 32 _ p h2).1, (has_double 32 _ p h).1] at this
  exact this
theorem join_none {a b : T} (h : join a b = leaf false) : a = leaf false ∧ b = leaf false := by
  cases a with
  | leaf x =>
    cases b with
    | leaf y => cases x <;> cases y <;> first | exact ⟨rfl, rfl⟩ | (simp [join, isLeaf, isOne] at h)
    | node c d => cases x <;> simp [join, isLeaf] at h
  | node c d => cases b <;> simp [join, isLeaf] at h
/-- A tree in normal form that has something: each of its split's two has something. -/
theorem split_some : ∀ {t : T}, Nf t → t ≠ leaf false → t.split.1.norm ≠ leaf false ∧ t.split.2.norm ≠ leaf false
  | leaf false, _, h => absurd rfl h
  | leaf true, _, _ => ⟨(fun h => by have := (join_none (a := leaf true) (b := leaf false) h).1; cases this), (fun h => by have := (join_none (a := leaf false) (b := leaf true) h).2; cases this)⟩
  | node a b, hn, _ => by
    unfold split
    have isn : ∀ x : T, x.isNone = true → x = leaf false := fun x hx => by cases x with
      | leaf c => cases c with
        | false => rfl
        | true => cases hx
      | node _ _ => cases hx
    cases ha : a.isNone
    · rw [if_neg (by decide)]
      have hae : a ≠ leaf false := fun h => by rw [h] at ha; cases ha
      cases hb : b.isNone
      · rw [if_neg (by decide)]
        have hbe : b ≠ leaf false := fun h => by rw [h] at hb; cases hb
        exact ⟨fun h => hae (by have := (join_none h).1; rwa [norm_of_nf hn.1] at this), fun h => hbe (by have := (join_none h).2; rwa [norm_of_nf hn.2.1] at this)⟩
      · rw [if_pos rfl]
        have := split_some hn.1 hae
        exact ⟨fun h => this.1 (join_none h).1, fun h => this.2 (join_none h).1⟩
    · rw [if_pos rfl]
      have hbe : b ≠ leaf false := fun h => hn.2.2 (by rw [isn a ha, h]; first | rfl | decide | simp [isLeaf, isOne])
      have := split_some hn.2.1 hbe
      exact ⟨fun h => this.1 (join_none h).2, fun h => this.2 (join_none h).2⟩
theorem split_sum {n : T} (hn : Nf n) (hr : n.right) (hp : n.split.1.right) (hq : n.split.2.right) : T.sum n.split.1.norm n.split.2.norm = (n, true) := by
  have d1 := Nat.le_trans (norm_depth n.split.1) hp.1
  have d2 := Nat.le_trans (norm_depth n.split.2) hq.1
  have hs := sum_spec 32 n.split.1.norm n.split.2.norm (norm_nf _) (norm_nf _) d1 d2
  have h2 : (T.sum n.split.1.norm n.split.2.norm).2 = true := hs.1.2 fun p hpp h => (split32' n hr.1 hp.1 hq.1 p hpp).2 (by rwa [has_norm 32 _ p hp.1, has_norm 32 _ p hq.1] at h)
  obtain ⟨f1, f2, f3⟩ := hs.2 h2
  have h1 : (T.sum n.split.1.norm n.split.2.norm).1 = n := canon 32 f1 hn f2 hr.1 fun p hpp => by
    rw [f3 p hpp, has_norm 32 _ p hp.1, has_norm 32 _ p hq.1]
    exact (split32' n hr.1 hp.1 hq.1 p hpp).1
  exact Prod.ext h1 h2
theorem split_SumT {n : T} (hn : Nf n) (hr : n.right) (hp : n.split.1.right) (hq : n.split.2.right) : SumT n.split.1 n.split.2 = (n.toS, 0) := by
  unfold SumT
  rw [split_sum hn hr hp hq, if_pos rfl, if_pos hr, norm_of_nf hn]
theorem eqb_self (a : T) : eqb a a = true := eqb_iff.2 rfl
theorem split_none {n : T} (hn : Nf n) : eqb n.split.1.norm (leaf false) = eqb n (leaf false) ∧ eqb n.split.2.norm (leaf false) = eqb n (leaf false) := by
  cases h : eqb n (leaf false)
  · have hne : n ≠ leaf false := fun e => by rw [e, eqb_self] at h; cases h
    have := split_some hn hne
    constructor
    · cases hx : eqb n.split.1.norm (leaf false)
      · rfl
      · exact absurd (eqb_iff.1 hx) this.1
    · cases hx : eqb n.split.2.norm (leaf false)
      · rfl
      · exact absurd (eqb_iff.1 hx) this.2
  · have e := eqb_iff.1 h
    rw [e]
    exact ⟨rfl, rfl⟩
end Go.Proofs.Ytlhaofbncoijfaa.Tree
namespace Go.Proofs.Ytlhaofbncoijfaa.Tree
set_option linter.unusedVariables false
set_option linter.unusedSimpArgs false
open Go.RowKit Go.Proofs.Ytlhaofbncoijfaa.X Go.Proofs.Ytlhaofbncoijfaa.Tree.T Go.Proofs.Ytlhaofbncoijfaa.HandF

theorem sum_comm' (a b : T) (ha : Nf a) (hb : Nf b) (ra : a.depth ≤ 32) (rb : b.depth ≤ 32) : (T.sum a b).2 = (T.sum b a).2 ∧ ((T.sum a b).2 = true → (T.sum a b).1 = (T.sum b a).1) := by
  have h1 := sum_spec 32 a b ha hb ra rb
  have h2 := sum_spec 32 b a hb ha rb ra
  have hx : (T.sum a b).2 = true ↔ (T.sum b a).2 = true := by
    rw [h1.1, h2.1]
    exact ⟨fun h p hp hh => h p hp ⟨hh.2, hh.1⟩, fun h p hp hh => h p hp ⟨hh.2, hh.1⟩⟩
  refine ⟨?_, fun h => ?_⟩
  · cases h3 : (T.sum a b).2
    · cases h4 : (T.sum b a).2
      · rfl
      · rw [hx.2 h4] at h3; cases h3
    · exact (hx.1 h3).symm
  · obtain ⟨n1, d1, p1⟩ := h1.2 h
    obtain ⟨n2, d2, p2⟩ := h2.2 (hx.1 h)
    exact canon 32 n1 n2 d1 d2 fun p hp => by rw [p1 p hp, p2 p hp, Bool.or_comm]
theorem SumT_eq {a b c d : T} (h1 : (T.sum a.norm b.norm).2 = (T.sum c.norm d.norm).2) (h2 : (T.sum a.norm b.norm).2 = true → (T.sum a.norm b.norm).1 = (T.sum c.norm d.norm).1) : SumT a b = SumT c d := by
  unfold SumT
  cases h : (T.sum a.norm b.norm).2
  · rw [h] at h1; rw [← h1]; rfl
  · rw [← h1, h2 h, h]
theorem SumT_comm (a b : T) (ha : a.right) (hb : b.right) : SumT a b = SumT b a := by
  have := sum_comm' a.norm b.norm (norm_nf a) (norm_nf b) (norm_right ha).1 (norm_right hb).1
  exact SumT_eq this.1 this.2
/-- What Sum hands back, of any two values. -/
def SumS (s u : S24) : S24 × Int :=
  if rightB s && rightB u then (match T.ofS s, T.ofS u with | some a, some b => SumT a b | _, _ => (⟨false, []⟩, 2)) else (⟨false, []⟩, 2)
theorem SumS_T (a b : T) (ha : a.right) (hb : b.right) : SumS a.toS b.toS = SumT a b := by
  unfold SumS
  rw [right_T, right_T, decide_eq_true ha, decide_eq_true hb, T.of_toS, T.of_toS]
  rfl
theorem SumS_bad (s u : S24) (h : (rightB s && rightB u) = false) : SumS s u = (⟨false, []⟩, 2) := by
  unfold SumS
  rw [h, if_neg (by decide)]
theorem SumS_cases (s u : S24) : (rightB s && rightB u) = false ∨ ∃ a b : T, a.toS = s ∧ b.toS = u ∧ a.right ∧ b.right := by
  cases h : rightB s && rightB u
  · exact .inl rfl
  · rw [Bool.and_eq_true] at h
    obtain ⟨a, ha, hra⟩ := (right_iff _).1 h.1
    obtain ⟨b, hb, hrb⟩ := (right_iff _).1 h.2
    exact .inr ⟨a, b, ha, hb, hra, hrb⟩
theorem SumS_comm (s u : S24) : SumS s u = SumS u s := by
  rcases SumS_cases s u with h | ⟨a, b, rfl, rfl, ha, hb⟩
  · rw [SumS_bad _ _ h, SumS_bad _ _ (by rw [Bool.and_comm]; exact h)]
  · rw [SumS_T a b ha hb, SumS_T b a hb ha, SumT_comm a b ha hb]
theorem SumT_tree (a b : T) : ∃ t : T, (SumT a b).1 = t.toS ∧ t.right ∧ Nf t ∧ ((SumT a b).2 = 0 → (T.sum a.norm b.norm).2 = true ∧ t = (T.sum a.norm b.norm).1.norm) := by
  unfold SumT
  split
  · split
    · rename_i h1 h2
      exact ⟨_, rfl, norm_right h2, norm_nf _, fun _ => ⟨h1, rfl⟩⟩
    · exact ⟨.leaf false, rfl, by decide, trivial, fun h => by cases h⟩
  · exact ⟨.leaf false, rfl, by decide, trivial, fun h => by cases h⟩
theorem SumS_tree (s u : S24) : ∃ t : T, (SumS s u).1 = t.toS ∧ t.right := by
  rcases SumS_cases s u with h | ⟨a, b, rfl, rfl, ha, hb⟩
  · exact ⟨.leaf false, by rw [SumS_bad _ _ h]; rfl, by decide⟩
  · obtain ⟨t, h1, h2, _⟩ := SumT_tree a b
    exact ⟨t, by rw [SumS_T a b ha hb]; exact h1, h2⟩
/-- Sums are the same in whichever order. -/
theorem SumS_three (s u v : S24) (h1 : (SumS s u).2 = 0) (h2 : (SumS u v).2 = 0) : SumS (SumS s u).1 v = SumS s (SumS u v).1 := by
  rcases SumS_cases s u with h | ⟨a, b, rfl, rfl, ha, hb⟩
  · rw [SumS_bad _ _ h] at h1; cases h1
  rcases SumS_cases b.toS v with h | ⟨b', c, hb', rfl, _, hc⟩
  · rw [SumS_bad _ _ h] at h2; cases h2
  clear hb'
  rw [SumS_T a b ha hb] at h1 ⊢
  rw [SumS_T b c hb hc] at h2 ⊢
  obtain ⟨x, ex, rx, nx, fx⟩ := SumT_tree a b
  obtain ⟨y, ey, ry, ny, fy⟩ := SumT_tree b c
  obtain ⟨ox, rfl⟩ := fx h1
  obtain ⟨oy, rfl⟩ := fy h2
  rw [ex, ey, SumS_T _ c rx hc, SumS_T a _ ha ry]
  have na := norm_nf a
  have nb := norm_nf b
  have nc := norm_nf c
  have da := (norm_right ha).1
  have db := (norm_right hb).1
  have dc := (norm_right hc).1
  have sx := sum_spec 32 a.norm b.norm na nb da db
  have sy := sum_spec 32 b.norm c.norm nb nc db dc
  obtain ⟨xn, xd, xp⟩ := sx.2 ox
  obtain ⟨yn, yd, yp⟩ := sy.2 oy
  have ax := sx.1.1 ox
  have ay := sy.1.1 oy
  have e1 : (T.sum a.norm b.norm).1.norm.norm = (T.sum a.norm b.norm).1 := by rw [norm_of_nf (norm_nf _), norm_of_nf xn]
  have e2 : (T.sum b.norm c.norm).1.norm.norm = (T.sum b.norm c.norm).1 := by rw [norm_of_nf (norm_nf _), norm_of_nf yn]
  have sp := sum_spec 32 (T.sum a.norm b.norm).1 c.norm xn nc xd dc
  have sq := sum_spec 32 a.norm (T.sum b.norm c.norm).1 na yn da yd
  have hx : (T.sum (T.sum a.norm b.norm).1 c.norm).2 = true ↔ (T.sum a.norm (T.sum b.norm c.norm).1).2 = true := by
    rw [sp.1, sq.1]
    constructor
    · intro h p hp hh
      rw [yp p hp, Bool.or_eq_true] at hh
      rcases hh.2 with h3 | h3
      · exact ax p hp ⟨hh.1, h3⟩
      · exact h p hp ⟨by rw [xp p hp, hh.1]; rfl, h3⟩
    · intro h p hp hh
      rw [xp p hp, Bool.or_eq_true] at hh
      rcases hh.1 with h3 | h3
      · exact h p hp ⟨h3, by rw [yp p hp, hh.2, Bool.or_true]⟩
      · exact ay p hp ⟨h3, hh.2⟩
  refine SumT_eq ?_ ?_
  · rw [e1, e2]
    cases h3 : (T.sum (T.sum a.norm b.norm).1 c.norm).2
    · cases h4 : (T.sum a.norm (T.sum b.norm c.norm).1).2
      · rfl
      · rw [hx.2 h4] at h3; cases h3
    · exact (hx.1 h3).symm
  · rw [e1, e2]
    intro h3
    obtain ⟨n1, d1, p1⟩ := sp.2 h3
    obtain ⟨n2, d2, p2⟩ := sq.2 (hx.1 h3)
    exact canon 32 n1 n2 d1 d2 fun p hp => by rw [p1 p hp, p2 p hp, xp p hp, yp p hp, Bool.or_assoc]
theorem Equal_T : ∀ (a b : T) (k : Nat), 5 * a.depth + 5 ≤ k → pannierref04_Equal.f k a.toS.f0 a.toS.f1 b.toS.f0 b.toS.f1 = some (T.eqb a b)
  | a, b, 0, h => by omega
  | a, b, 1, h => by omega
  | a, b, 2, h => by omega
  | a, b, 3, h => by omega
  | a, b, 4, h => by omega
  | leaf x, leaf y, k + 5, h => by
    cases x <;> cases y <;> simp [pannierref04_Equal.f, pannierref04_Equal.j0, pannierref04_Equal.l0, toS, eqb]
  | leaf x, node c d, k + 5, h => by
    cases x <;> simp [pannierref04_Equal.f, pannierref04_Equal.j0, pannierref04_Equal.l0, toS, eqb]
  | node a b, leaf y, k + 5, h => by
    cases y <;> simp [pannierref04_Equal.f, pannierref04_Equal.j0, pannierref04_Equal.l0, toS, eqb]
  | node a b, node c d, k + 5, h => by
    simp only [depth] at h
    have h1 := Equal_T a c (k + 2) (by omega)
    have h2 := Equal_T b d (k + 1) (by omega)
    have r0 : ∀ u v : S24, rd_T24 [u, v] 0 = u := fun _ _ => rfl
    have r1 : ∀ u v : S24, rd_T24 [u, v] 1 = v := fun _ _ => rfl
    have w0 : Go.RowKit.wrap64 (0 + 1) = 1 := by decide +kernel
    have w1 : Go.RowKit.wrap64 (1 + 1) = 2 := by decide +kernel
    rw [show k + 5 = k + 4 + 1 from rfl, pannierref04_Equal.f, toS, toS]
    dsimp only
    rw [if_neg (by decide)]
    rw [show k + 4 = k + 3 + 1 from rfl, pannierref04_Equal.j0, if_neg (by simp)]
    rw [show k + 3 = k + 2 + 1 from rfl, pannierref04_Equal.l0, if_pos (by simp), if_pos (by simp), if_pos (by simp), r0, r0, h1, Option.bind_some, eqb]
    cases eqb a c
    · rfl
    · rw [if_pos rfl, w0, show k + 2 = k + 1 + 1 from rfl, pannierref04_Equal.l0, if_pos (by simp), if_pos (by simp), if_pos (by simp), r1, r1, h2, Option.bind_some]
      cases eqb b d
      · rfl
      · rw [if_pos rfl, w1, pannierref04_Equal.l0, if_neg (by simp)]
        rfl
end Go.Proofs.Ytlhaofbncoijfaa.Tree
namespace Go.Proofs.Ytlhaofbncoijfaa.Tree
set_option linter.unusedVariables false
set_option linter.unusedSimpArgs false
open Go.RowKit Go.Proofs.Ytlhaofbncoijfaa.X Go.Proofs.Ytlhaofbncoijfaa.Tree.T Go.Proofs.Ytlhaofbncoijfaa.HandF
open Go.Proofs.YtlhaofbncoijfaaW.PrintWords Go.Proofs.YtlhaofbncoijfaaW.PrintLast Go.Proofs.YtlhaofbncoijfaaW.PrintMore

theorem pow_cast (n : Nat) : ((2 ^ n : Nat) : Int) = (2 : Int) ^ n := by simp
/-- A piece lies in a range. -/
def inR (x : S63) (q : Int) : Prop := x.f0 ≤ q ∧ q < x.f1
theorem rl_range : ∀ (n : Nat) (t : T) (f : Int), ∀ x ∈ rl n t f, f ≤ x.f0 ∧ x.f0 < x.f1 ∧ x.f1 ≤ f + 2 ^ n
  | n, leaf b, f, x, hx => by
    have hp : (0 : Int) < 2 ^ n := Int.pow_pos (by decide)
    rw [rl_leaf] at hx
    cases b
    · simp at hx
    · simp at hx
      subst hx
      exact ⟨Int.le_refl _, by show f < f + 2 ^ n; omega, Int.le_refl _⟩
  | 0, node a b, f, x, hx => by simp [rl] at hx
  | n + 1, node a b, f, x, hx => by
    have hp : (0 : Int) < 2 ^ n := Int.pow_pos (by decide)
    have hs : (2 : Int) ^ (n + 1) = 2 ^ n * 2 := Int.pow_succ 2 n
    rw [rl, List.mem_append] at hx
    rcases hx with hx | hx
    · have := rl_range n a f x hx
      omega
    · have := rl_range n b _ x hx
      omega
theorem rl_has : ∀ (n : Nat) (t : T) (f : Int), t.depth ≤ n → ∀ p, p < 2 ^ n → (has n t p = true ↔ ∃ x ∈ rl n t f, inR x (f + (p : Int)))
  | n, leaf b, f, _, p, hp => by
    have hc := pow_cast n
    rw [has_leaf, rl_leaf]
    cases b
    · simp
    · simp only [if_pos, List.mem_singleton, exists_eq_left, true_iff]
      refine ⟨?_, ?_⟩
      · show f ≤ f + p; omega
      · show f + (p : Int) < f + 2 ^ n; rw [← hc]; omega
  | 0, node a b, f, hd, p, hp => by simp [depth] at hd
  | n + 1, node a b, f, hd, p, hp => by
    simp only [depth] at hd
    have hc := pow_cast n
    rcases half hp with hq | ⟨q, rfl, hq⟩
    · rw [has_left hq, rl_has n a f (by omega) p hq, rl]
      constructor
      · rintro ⟨x, hx, hi⟩
        exact ⟨x, List.mem_append_left _ hx, hi⟩
      · rintro ⟨x, hx, hi⟩
        rcases List.mem_append.1 hx with hx | hx
        · exact ⟨x, hx, hi⟩
        · have := rl_range n b _ x hx
          unfold inR at hi
          omega
    · rw [has_right, rl_has n b (f + 2 ^ n) (by omega) q hq, rl]
      have e : f + ((q + 2 ^ n : Nat) : Int) = f + 2 ^ n + (q : Int) := by rw [Int.natCast_add, hc]; omega
      rw [e]
      constructor
      · rintro ⟨x, hx, hi⟩
        exact ⟨x, List.mem_append_right _ hx, hi⟩
      · rintro ⟨x, hx, hi⟩
        rcases List.mem_append.1 hx with hx | hx
        · have := rl_range n a _ x hx
          unfold inR at hi
          omega
        · exact ⟨x, hx, hi⟩
/-- Ranges cut to a range. -/
def withinL (a b : Int) : List S63 → List S63
  | [] => []
  | x :: r => (if mx x.f0 a < mn x.f1 b then [⟨mx x.f0 a, mn x.f1 b⟩] else []) ++ withinL a b r
theorem withinL_length (a b : Int) : ∀ l : List S63, (withinL a b l).length ≤ l.length
  | [] => Nat.le_refl _
  | x :: r => by
    have := withinL_length a b r
    rw [withinL, List.length_append, List.length_cons]
    split <;> simp <;> omega
theorem rd63_drop {l : List S63} {i : Nat} (h : i < l.length) : rd_T63 l (i : Int) = l[i] ∧ l.drop i = l[i] :: l.drop (i + 1) := by
  refine ⟨?_, List.drop_eq_getElem_cons h⟩
  unfold rd_T63
  rw [Int.toNat_natCast, List.getD_eq_getElem?_getD, List.getElem?_eq_getElem h]
  rfl
theorem wrap_next (i : Nat) (h : i ≤ 1000000000) : wrap64 ((i : Int) + 1) = ((i + 1 : Nat) : Int) := by unfold wrap64; omega
theorem within_l0 (l : List S63) (a s : Int) (hw : IntKind.u64.wrap (a + s) = a + s) (hl : l.length ≤ 1000000) : ∀ (m i k : Nat) (acc : List S63), l.length - i = m → i ≤ l.length → acc.length ≤ i → m + 1 ≤ k →
    pannierref04_within.l0 k l a s acc (i : Int) = some (acc ++ withinL a (a + s) (l.drop i)) := by
  intro m
  induction m with
  | zero =>
    intro i k acc hm hi ha hk
    obtain ⟨k, rfl⟩ : ∃ j, k = j + 1 := ⟨k - 1, by omega⟩
    rw [pannierref04_within.l0, if_neg (by omega), show i = l.length by omega, List.drop_length, withinL, List.append_nil]
  | succ m ih =>
    intro i k acc hm hi ha hk
    obtain ⟨k, rfl⟩ : ∃ j, k = j + 1 := ⟨k - 1, by omega⟩
    obtain ⟨h1, h2⟩ := rd63_drop (l := l) (i := i) (by omega)
    rw [pannierref04_within.l0, if_pos (by omega), if_pos (by omega), h1, hw, h2, withinL, wrap_next i (by omega)]
    by_cases hc : mx l[i].f0 a < mn l[i].f1 (a + s)
    · rw [if_pos hc, if_pos hc, if_pos (by omega), ih (i + 1) k _ (by omega) (by omega) (by rw [List.length_append, List.length_singleton]; omega) (by omega), List.append_assoc]
    · rw [if_neg hc, if_neg hc, ih (i + 1) k _ (by omega) (by omega) (by omega) (by omega), List.nil_append]
theorem within_f (l : List S63) (a s : Int) (hw : IntKind.u64.wrap (a + s) = a + s) (hl : l.length ≤ 1000000) (k : Nat) (hk : l.length + 1 ≤ k) : pannierref04_within.f k l a s = some (withinL a (a + s) l) := by
  unfold pannierref04_within.f
  have := within_l0 l a s hw hl l.length 0 k [] (by omega) (by omega) (by simp) hk
  simpa using this
theorem mem_within (a b : Int) : ∀ (l : List S63) (y : S63), y ∈ withinL a b l ↔ ∃ x ∈ l, mx x.f0 a < mn x.f1 b ∧ y = ⟨mx x.f0 a, mn x.f1 b⟩
  | [], y => by simp [withinL]
  | x :: r, y => by
    rw [withinL, List.mem_append, mem_within a b r]
    by_cases hc : mx x.f0 a < mn x.f1 b
    · rw [if_pos hc]; simp [hc]
    · rw [if_neg hc]; simp [hc]
theorem mx_le (a b c : Int) : mx a b ≤ c ↔ a ≤ c ∧ b ≤ c := by unfold mx; split <;> omega
theorem lt_mn (a b c : Int) : c < mn a b ↔ c < a ∧ c < b := by unfold mn; split <;> omega
/-- Does some piece lie in both? -/
def meetL (a b : List S63) : Bool := a.any fun x => !(withinL x.f0 x.f1 b).isEmpty
theorem meet_l0 (a b : List S63) (ha : ∀ x ∈ a, 0 ≤ x.f0 ∧ x.f0 < x.f1 ∧ x.f1 ≤ 4294967296) (hla : a.length ≤ 1000000) (hlb : b.length ≤ 1000000) : ∀ (m i k : Nat), a.length - i = m → i ≤ a.length → m + b.length + 2 ≤ k →
    pannierref04_meet.l0 k a b (i : Int) = some (meetL (a.drop i) b) := by
  intro m
  induction m with
  | zero =>
    intro i k hm hi hk
    obtain ⟨k, rfl⟩ : ∃ j, k = j + 1 := ⟨k - 1, by omega⟩
    rw [pannierref04_meet.l0, if_neg (by omega), show i = a.length by omega, List.drop_length]
    rfl
  | succ m ih =>
    intro i k hm hi hk
    obtain ⟨k, rfl⟩ : ∃ j, k = j + 1 := ⟨k - 1, by omega⟩
    obtain ⟨h1, h2⟩ := rd63_drop (l := a) (i := i) (by omega)
    have hx := ha a[i] (List.getElem_mem _)
    have e1 : IntKind.u64.wrap (a[i].f1 - a[i].f0) = a[i].f1 - a[i].f0 := u64_small _ (by omega) (by omega)
    have e2 : IntKind.u64.wrap (a[i].f0 + (a[i].f1 - a[i].f0)) = a[i].f0 + (a[i].f1 - a[i].f0) := u64_small _ (by omega) (by omega)
    rw [pannierref04_meet.l0, if_pos (by omega), if_pos (by omega), h1, e1, within_f b _ _ e2 hlb k (by omega), Option.bind_some, h2, wrap_next i (by omega), ih (i + 1) k (by omega) (by omega) (by omega)]
    rw [show a[i].f0 + (a[i].f1 - a[i].f0) = a[i].f1 by omega]
    simp only [meetL, List.any_cons]
    cases hw : withinL a[i].f0 a[i].f1 b with
    | nil => rw [if_neg (by simp)]; rfl
    | cons y r => rw [if_pos (by simp)]; rfl
theorem meet_f (a b : List S63) (ha : ∀ x ∈ a, 0 ≤ x.f0 ∧ x.f0 < x.f1 ∧ x.f1 ≤ 4294967296) (hla : a.length ≤ 1000000) (hlb : b.length ≤ 1000000) (k : Nat) (hk : a.length + b.length + 2 ≤ k) : pannierref04_meet.f k a b = some (meetL a b) := by
  unfold pannierref04_meet.f
  exact meet_l0 a b ha hla hlb a.length 0 k (by omega) (by omega) hk
/-- Two trees' pieces meet where both have a piece. -/
theorem meet_T {t u : T} (ht : t.depth ≤ 32) (hu : u.depth ≤ 32) : meetL (rl 32 t 0) (rl 32 u 0) = true ↔ ∃ p, p < 2 ^ 32 ∧ has 32 t p = true ∧ has 32 u p = true := by
  unfold meetL
  rw [List.any_eq_true]
  constructor
  · rintro ⟨x, hx, hw⟩
    cases hl : withinL x.f0 x.f1 (rl 32 u 0) with
    | nil => rw [hl] at hw; cases hw
    | cons z r =>
      obtain ⟨y, hy, hlt, _⟩ := (mem_within _ _ _ z).1 (by rw [hl]; exact List.mem_cons_self)
      have rx := rl_range 32 t 0 x hx
      have ry := rl_range 32 u 0 y hy
      have h1 := (mx_le y.f0 x.f0 (mx y.f0 x.f0)).1 (Int.le_refl _)
      have h2 := (lt_mn y.f1 x.f1 _).1 hlt
      have hb : (0 : Int) + 2 ^ 32 = 4294967296 := by decide
      rw [hb] at rx ry
      have hq : ((mx y.f0 x.f0).toNat : Int) = mx y.f0 x.f0 := Int.toNat_of_nonneg (by omega)
      have hlt32 : (mx y.f0 x.f0).toNat < 2 ^ 32 := by
        have : (2 : Nat) ^ 32 = 4294967296 := by decide
        omega
      refine ⟨(mx y.f0 x.f0).toNat, hlt32, ?_, ?_⟩
      · rw [rl_has 32 t 0 ht _ hlt32, hq]
        exact ⟨x, hx, by unfold inR; omega⟩
      · rw [rl_has 32 u 0 hu _ hlt32, hq]
        exact ⟨y, hy, by unfold inR; omega⟩
  · rintro ⟨p, hp, h1, h2⟩
    obtain ⟨x, hx, hix⟩ := (rl_has 32 t 0 ht p hp).1 h1
    obtain ⟨y, hy, hiy⟩ := (rl_has 32 u 0 hu p hp).1 h2
    refine ⟨x, hx, ?_⟩
    have : (⟨mx y.f0 x.f0, mn y.f1 x.f1⟩ : S63) ∈ withinL x.f0 x.f1 (rl 32 u 0) := (mem_within _ _ _ _).2 ⟨y, hy, (by
      unfold inR at hix hiy
      rw [lt_mn]
      have h3 := (mx_le y.f0 x.f0 (0 + (p : Int))).2 ⟨hiy.1, hix.1⟩
      omega), rfl⟩
    cases hl : withinL x.f0 x.f1 (rl 32 u 0) with
    | nil => rw [hl] at this; cases this
    | cons z r => rfl
end Go.Proofs.Ytlhaofbncoijfaa.Tree
namespace Go.Proofs.Ytlhaofbncoijfaa.Tree
set_option linter.unusedVariables false
set_option linter.unusedSimpArgs false
open Go.RowKit Go.Proofs.Ytlhaofbncoijfaa.X Go.Proofs.Ytlhaofbncoijfaa.Tree.T Go.Proofs.Ytlhaofbncoijfaa.HandF

theorem count_pos : ∀ t : T, 1 ≤ t.count
  | leaf _ => Nat.le_refl _
  | node a b => by simp only [T.count]; omega
/-- Is a value a tree up to a depth and a count? -/
def Fits (s : S24) (m : Nat) (left : Nat) (r : Int) : Prop :=
  (r = -1 ∧ ¬ ∃ t : T, t.toS = s ∧ t.depth ≤ m ∧ t.count ≤ left) ∨ ∃ t : T, t.toS = s ∧ t.depth ≤ m ∧ t.count ≤ left ∧ r = (left : Int) - t.count
theorem right_f : ∀ (m : Nat) (s : S24) (left k : Nat), m ≤ 1000 → left ≤ 100000 → 5 * m + 6 ≤ k → ∃ r, pannierref04_right.f k s.f0 s.f1 (m : Int) (left : Int) = some r ∧ Fits s m left r := by
  intro m
  induction m with
  | zero =>
    rintro ⟨b, l⟩ left k hm hleft hk
    obtain ⟨k, rfl⟩ : ∃ j, k = j + 4 := ⟨k - 4, by omega⟩
    have hw : wrap64 ((left : Int) - 1) = (left : Int) - 1 := by unfold wrap64; omega
    dsimp only
    rw [show k + 4 = k + 3 + 1 from rfl, pannierref04_right.f, hw]
    by_cases h0 : (left : Int) - 1 < 0
    · rw [if_pos h0, show k + 3 = k + 2 + 1 from rfl, pannierref04_right.j0, if_pos rfl]
      exact ⟨-1, rfl, .inl ⟨rfl, fun ⟨t, _, _, h⟩ => by have := count_pos t; omega⟩⟩
    · rw [if_neg h0]
      match l with
      | [] =>
        rw [if_pos (by simp), show k + 3 = k + 2 + 1 from rfl, pannierref04_right.j0, if_neg (by decide), show k + 2 = k + 1 + 1 from rfl, pannierref04_right.l0, if_neg (by simp)]
        exact ⟨_, rfl, .inr ⟨leaf b, rfl, Nat.le_refl _, by simp only [T.count]; omega, by simp only [T.count]; omega⟩⟩
      | [x, y] =>
        rw [if_neg (by simp), if_pos (by simp)]
        have hno : ¬ ∃ t : T, t.toS = ⟨b, [x, y]⟩ ∧ t.depth ≤ 0 ∧ t.count ≤ left := by
          rintro ⟨t, ht, hd, _⟩
          cases t with
          | leaf c => simp [T.toS] at ht
          | node c d => simp only [T.depth] at hd; omega
        cases b
        · rw [if_neg (by decide), show k + 3 = k + 2 + 1 from rfl, pannierref04_right.j0, if_pos (by simp)]
          exact ⟨-1, rfl, .inl ⟨rfl, hno⟩⟩
        · rw [if_pos rfl, show k + 3 = k + 2 + 1 from rfl, pannierref04_right.j0, if_pos rfl]
          exact ⟨-1, rfl, .inl ⟨rfl, hno⟩⟩
      | [x] =>
        rw [if_neg (by simp), if_neg (by simp), show k + 3 = k + 2 + 1 from rfl, pannierref04_right.j0, if_pos rfl]
        exact ⟨-1, rfl, .inl ⟨rfl, fun ⟨t, ht, _⟩ => by cases t <;> simp [T.toS] at ht⟩⟩
      | x :: y :: z :: r =>
        rw [if_neg (by simp; omega), if_neg (by simp; omega), show k + 3 = k + 2 + 1 from rfl, pannierref04_right.j0, if_pos rfl]
        exact ⟨-1, rfl, .inl ⟨rfl, fun ⟨t, ht, _⟩ => by cases t <;> simp [T.toS] at ht⟩⟩
  | succ m ih =>
    rintro ⟨b, l⟩ left k hm hleft hk
    obtain ⟨k, rfl⟩ : ∃ j, k = j + 6 := ⟨k - 6, by omega⟩
    have hw : wrap64 ((left : Int) - 1) = (left : Int) - 1 := by unfold wrap64; omega
    have hwm : wrap64 (((m + 1 : Nat) : Int) - 1) = (m : Int) := by unfold wrap64; omega
    have w0 : wrap64 (0 + 1) = 1 := by decide +kernel
    have w1 : wrap64 (1 + 1) = 2 := by decide +kernel
    dsimp only
    rw [show k + 6 = k + 5 + 1 from rfl, pannierref04_right.f, hw]
    by_cases h0 : (left : Int) - 1 < 0
    · rw [if_pos h0, show k + 5 = k + 4 + 1 from rfl, pannierref04_right.j0, if_pos rfl]
      exact ⟨-1, rfl, .inl ⟨rfl, fun ⟨t, _, _, h⟩ => by have := count_pos t; omega⟩⟩
    · rw [if_neg h0]
      match l with
      | [] =>
        rw [if_pos (by simp), show k + 5 = k + 4 + 1 from rfl, pannierref04_right.j0, if_neg (by decide), show k + 4 = k + 3 + 1 from rfl, pannierref04_right.l0, if_neg (by simp)]
        exact ⟨_, rfl, .inr ⟨leaf b, rfl, Nat.zero_le _, by simp only [T.count]; omega, by simp only [T.count]; omega⟩⟩
      | [x] =>
        rw [if_neg (by simp), if_neg (by simp), show k + 5 = k + 4 + 1 from rfl, pannierref04_right.j0, if_pos rfl]
        exact ⟨-1, rfl, .inl ⟨rfl, fun ⟨t, ht, _⟩ => by cases t <;> simp [T.toS] at ht⟩⟩
      | x :: y :: z :: r =>
        rw [if_neg (by simp; omega), if_neg (by simp; omega), show k + 5 = k + 4 + 1 from rfl, pannierref04_right.j0, if_pos rfl]
        exact ⟨-1, rfl, .inl ⟨rfl, fun ⟨t, ht, _⟩ => by cases t <;> simp [T.toS] at ht⟩⟩
      | [x, y] =>
        rw [if_neg (by simp), if_pos (by simp)]
        cases b
        · have hz : ((((m + 1 : Nat) : Int)) == 0) = false := by simp; omega
          rw [if_neg (by decide), hz, show k + 5 = k + 4 + 1 from rfl, pannierref04_right.j0, if_neg (by decide)]
          have r0 : rd_T24 [x, y] 0 = x := rfl
          have r1 : rd_T24 [x, y] 1 = y := rfl
          obtain ⟨L, hL⟩ : ∃ L : Nat, (L : Int) = (left : Int) - 1 := ⟨left - 1, by omega⟩
          rw [← hL]
          obtain ⟨ra, ea, fa⟩ := ih x L (k + 3) (by omega) (by omega) (by omega)
          rw [show k + 4 = k + 3 + 1 from rfl, pannierref04_right.l0, if_pos (by simp), if_pos (by omega), if_pos (by omega), r0, hwm, ea, Option.bind_some, w0]
          have kids : ∀ t : T, t.toS = ⟨false, [x, y]⟩ → ∃ c d : T, t = node c d ∧ c.toS = x ∧ d.toS = y := by
            intro t ht
            cases t with
            | leaf c => simp [T.toS] at ht
            | node c d =>
              simp only [T.toS, S24.mk.injEq, List.cons.injEq, and_true, true_and] at ht
              exact ⟨c, d, rfl, ht.1, ht.2⟩
          rcases fa with ⟨rfl, hno⟩ | ⟨ta, hta, hda, hca, rfl⟩
          · rw [show k + 3 = k + 2 + 1 from rfl, pannierref04_right.l0, if_pos (by simp), if_neg (by omega)]
            refine ⟨-1, rfl, .inl ⟨rfl, ?_⟩⟩
            rintro ⟨t, ht, hd, hc⟩
            obtain ⟨c, d, rfl, hc', hd'⟩ := kids t ht
            simp only [T.depth, T.count] at hd hc
            exact hno ⟨c, hc', by omega, by omega⟩
          · obtain ⟨L2, hL2⟩ : ∃ L2 : Nat, (L2 : Int) = (L : Int) - ta.count := ⟨L - ta.count, by omega⟩
            rw [← hL2]
            obtain ⟨rb, eb, fb⟩ := ih y L2 (k + 2) (by omega) (by omega) (by omega)
            rw [show k + 3 = k + 2 + 1 from rfl, pannierref04_right.l0, if_pos (by simp), if_pos (by omega), if_pos (by omega), r1, hwm, eb, Option.bind_some, w1, show k + 2 = k + 1 + 1 from rfl, pannierref04_right.l0, if_neg (by simp)]
            rcases fb with ⟨rfl, hno⟩ | ⟨tb, htb, hdb, hcb, rfl⟩
            · refine ⟨-1, rfl, .inl ⟨rfl, ?_⟩⟩
              rintro ⟨t, ht, hd, hc⟩
              obtain ⟨c, d, rfl, hc', hd'⟩ := kids t ht
              simp only [T.depth, T.count] at hd hc
              obtain rfl : c = ta := toS_inj (hc'.trans hta.symm)
              exact hno ⟨d, hd', by omega, by omega⟩
            · refine ⟨_, rfl, .inr ⟨node ta tb, by rw [T.toS, hta, htb], by simp only [T.depth]; omega, by simp only [T.count]; omega, by simp only [T.count]; omega⟩⟩
        · rw [if_pos rfl, show k + 5 = k + 4 + 1 from rfl, pannierref04_right.j0, if_pos rfl]
          exact ⟨-1, rfl, .inl ⟨rfl, fun ⟨t, ht, _⟩ => by cases t <;> simp [T.toS] at ht⟩⟩
/-- The reference's Right is Right. -/
theorem refRight_f (s : S24) (k : Nat) (hk : 200 ≤ k) : pannierref04_Right.f k s.f0 s.f1 = some (rightB s) := by
  obtain ⟨r, e, h⟩ := right_f 32 s 2047 k (by omega) (by omega) (by omega)
  unfold pannierref04_Right.f
  rw [show (32 : Int) = ((32 : Nat) : Int) from rfl, show (2047 : Int) = ((2047 : Nat) : Int) from rfl, e, Option.bind_some]
  congr 1
  rcases h with ⟨rfl, hno⟩ | ⟨t, ht, hd, hc, rfl⟩
  · cases hb : rightB s
    · rfl
    · obtain ⟨t, h1, h2⟩ := (right_iff s).1 hb
      exact absurd ⟨t, h1, h2.1, h2.2⟩ hno
  · rw [(right_iff s).2 ⟨t, ht, hd, hc⟩]
    exact decide_eq_true (by omega)
end Go.Proofs.Ytlhaofbncoijfaa.Tree
namespace Go.Proofs.Ytlhaofbncoijfaa.Tree
set_option linter.unusedVariables false
set_option linter.unusedSimpArgs false
open Go.RowKit Go.Proofs.Ytlhaofbncoijfaa.X Go.Proofs.Ytlhaofbncoijfaa.Tree.T Go.Proofs.Ytlhaofbncoijfaa.HandF
open Go.Proofs.YtlhaofbncoijfaaW.PrintWords Go.Proofs.YtlhaofbncoijfaaW.PrintLast Go.Proofs.YtlhaofbncoijfaaW.PrintMore

/-- The sum over 2 ^ n points. -/
def tot : Nat → (Nat → Nat) → Nat
  | 0, g => g 0
  | n + 1, g => tot n g + tot n (fun p => g (p + 2 ^ n))
theorem tot_congr : ∀ (n : Nat) {g h : Nat → Nat}, (∀ p, p < 2 ^ n → g p = h p) → tot n g = tot n h
  | 0, g, h, e => e 0 (by decide)
  | n + 1, g, h, e => by
    rw [tot, tot, tot_congr n (fun p hp => e p (left_lt hp)), tot_congr n (g := fun p => g (p + 2 ^ n)) (h := fun p => h (p + 2 ^ n)) (fun p hp => e _ (right_lt hp))]
theorem tot_add : ∀ (n : Nat) (g h : Nat → Nat), tot n (fun p => g p + h p) = tot n g + tot n h
  | 0, g, h => rfl
  | n + 1, g, h => by
    rw [tot, tot, tot, tot_add n, tot_add n (fun p => g (p + 2 ^ n)) (fun p => h (p + 2 ^ n))]
    omega
theorem tot_const : ∀ (n c : Nat), tot n (fun _ => c) = c * 2 ^ n
  | 0, c => by simp [tot]
  | n + 1, c => by rw [tot, tot_const n, Nat.pow_succ, ← Nat.mul_assoc]; omega
theorem tot_le : ∀ (n : Nat) {g : Nat → Nat}, (∀ p, p < 2 ^ n → g p ≤ 1) → tot n g ≤ 2 ^ n
  | 0, g, h => h 0 (by decide)
  | n + 1, g, h => by
    have h1 := tot_le n (g := g) (fun p hp => h p (left_lt hp))
    have h2 := tot_le n (g := fun p => g (p + 2 ^ n)) (fun p hp => h _ (right_lt hp))
    rw [tot, Nat.pow_succ]
    omega
theorem tot_full : ∀ (n : Nat) {g : Nat → Nat}, (∀ p, p < 2 ^ n → g p ≤ 1) → tot n g = 2 ^ n → ∀ p, p < 2 ^ n → g p = 1
  | 0, g, h, e, p, hp => by
    have : p = 0 := by simpa using hp
    rw [this]; exact e
  | n + 1, g, h, e, p, hp => by
    have h1 := tot_le n (g := g) (fun p hp => h p (left_lt hp))
    have h2 := tot_le n (g := fun p => g (p + 2 ^ n)) (fun p hp => h _ (right_lt hp))
    rw [tot, Nat.pow_succ] at e
    rcases half hp with hq | ⟨q, rfl, hq⟩
    · exact tot_full n (g := g) (fun p hp => h p (left_lt hp)) (by omega) p hq
    · exact tot_full n (g := fun p => g (p + 2 ^ n)) (fun p hp => h _ (right_lt hp)) (by omega) q hq
/-- How long ranges are together. -/
def lenS : List S63 → Int
  | [] => 0
  | x :: r => (x.f1 - x.f0) + lenS r
theorem lenS_append : ∀ a b : List S63, lenS (a ++ b) = lenS a + lenS b
  | [], b => by simp [lenS]
  | x :: r, b => by rw [List.cons_append, lenS, lenS, lenS_append r b]; omega
theorem lenS_rl : ∀ (n : Nat) (t : T) (f : Int), t.depth ≤ n → lenS (rl n t f) = (tot n (fun p => (has n t p).toNat) : Nat)
  | n, leaf b, f, _ => by
    have hc := pow_cast n
    rw [rl_leaf, tot_congr n (h := fun _ => b.toNat) (fun p _ => by rw [has_leaf]), tot_const]
    cases b
    · simp [lenS]
    · simp only [if_pos, lenS, Bool.toNat_true, Nat.one_mul, hc]
      omega
  | 0, node a b, f, hd => by simp [depth] at hd
  | n + 1, node a b, f, hd => by
    simp only [depth] at hd
    rw [rl, lenS_append, lenS_rl n a f (by omega), lenS_rl n b _ (by omega), tot]
    rw [tot_congr n (g := fun p => (has (n + 1) (node a b) p).toNat) (h := fun p => (has n a p).toNat) (fun p hp => by rw [has_left hp])]
    rw [tot_congr n (g := fun p => (has (n + 1) (node a b) (p + 2 ^ n)).toNat) (h := fun p => (has n b p).toNat) (fun p hp => by rw [has_right])]
    omega
theorem lenS_nonneg : ∀ l : List S63, (∀ x ∈ l, 0 ≤ x.f0 ∧ x.f0 < x.f1 ∧ x.f1 ≤ 4294967296) → 0 ≤ lenS l
  | [], _ => Int.le_refl _
  | x :: r, h => by
    have h1 := h x (by simp)
    have h2 := lenS_nonneg r (fun y hy => h y (by simp [hy]))
    rw [lenS]
    omega
theorem Means_T (t : T) (h : t.right) : pannierref04_Means.f t.toS.f0 t.toS.f1 = some (rl 32 t 0) := by
  unfold pannierref04_Means.f
  rw [S24_eta, of_toS]
  exact if_pos h
theorem rl32 (t : T) : ∀ x ∈ rl 32 t 0, 0 ≤ x.f0 ∧ x.f0 < x.f1 ∧ x.f1 ≤ 4294967296 := fun x hx => by
  have := rl_range 32 t 0 x hx
  have hb : (0 : Int) + 2 ^ 32 = 4294967296 := by decide
  rwa [hb] at this
end Go.Proofs.Ytlhaofbncoijfaa.Tree
namespace Go.Proofs.Ytlhaofbncoijfaa.Tree
set_option linter.unusedVariables false
set_option linter.unusedSimpArgs false
open Go.RowKit Go.Proofs.Ytlhaofbncoijfaa.X Go.Proofs.Ytlhaofbncoijfaa.Tree.T Go.Proofs.Ytlhaofbncoijfaa.HandF
open Go.Proofs.YtlhaofbncoijfaaW.PrintWords Go.Proofs.YtlhaofbncoijfaaW.PrintLast Go.Proofs.YtlhaofbncoijfaaW.PrintMore

/-- Is a place in a range? -/
def inB (x : S63) (q : Int) : Bool := decide (x.f0 ≤ q) && decide (q < x.f1)
/-- How many ranges have a place. -/
def cntR : List S63 → Int → Nat
  | [], _ => 0
  | x :: r, q => (inB x q).toNat + cntR r q
theorem cntR_append : ∀ (a b : List S63) (q : Int), cntR (a ++ b) q = cntR a q + cntR b q
  | [], b, q => by simp [cntR]
  | x :: r, b, q => by rw [List.cons_append, cntR, cntR, cntR_append r b, Nat.add_assoc]
theorem cntR_out {a b q : Int} : ∀ {l : List S63}, (∀ x ∈ l, a ≤ x.f0 ∧ x.f1 ≤ b) → (q < a ∨ b ≤ q) → cntR l q = 0
  | [], _, _ => rfl
  | x :: r, h, hq => by
    have h1 := h x (by simp)
    rw [cntR, cntR_out (fun y hy => h y (by simp [hy])) hq]
    have : inB x q = false := by unfold inB; rw [Bool.and_eq_false_iff, decide_eq_false_iff_not, decide_eq_false_iff_not]; omega
    rw [this]; rfl
theorem cntR_rl : ∀ (n : Nat) (t : T) (f : Int), t.depth ≤ n → ∀ p : Nat, p < 2 ^ n → cntR (rl n t f) (f + (p : Int)) = (has n t p).toNat
  | n, leaf b, f, _, p, hp => by
    have hc := pow_cast n
    rw [has_leaf, rl_leaf]
    cases b
    · rfl
    · rw [if_pos rfl, cntR, cntR]
      have : inB ⟨f, f + 2 ^ n⟩ (f + (p : Int)) = true := by
        unfold inB
        rw [Bool.and_eq_true, decide_eq_true_iff, decide_eq_true_iff]
        dsimp only
        omega
      rw [this]; rfl
  | 0, node a b, f, hd, p, hp => by simp [depth] at hd
  | n + 1, node a b, f, hd, p, hp => by
    simp only [depth] at hd
    have hc := pow_cast n
    rw [rl, cntR_append]
    rcases half hp with hq | ⟨q, rfl, hq⟩
    · rw [has_left hq, cntR_rl n a f (by omega) p hq, cntR_out (a := f + 2 ^ n) (b := f + 2 ^ n + 2 ^ n) (fun x hx => by have := rl_range n b _ x hx; omega) (by omega)]
      rfl
    · have e : f + ((q + 2 ^ n : Nat) : Int) = f + 2 ^ n + (q : Int) := by rw [Int.natCast_add, hc]; omega
      rw [has_right, e, cntR_rl n b (f + 2 ^ n) (by omega) q hq, cntR_out (a := f) (b := f + 2 ^ n) (fun x hx => by have := rl_range n a _ x hx; omega) (by omega)]
      omega
theorem tot_in : ∀ (n : Nat) (x : S63) (a : Int), ((tot n (fun p => (inB x (a + (p : Int))).toNat) : Nat) : Int) = (if mx x.f0 a < mn x.f1 (a + 2 ^ n) then mn x.f1 (a + 2 ^ n) - mx x.f0 a else 0)
  | 0, x, a => by
    rw [tot]
    unfold inB mx mn
    by_cases h1 : x.f0 ≤ a <;> by_cases h2 : a < x.f1
    all_goals simp [h1, h2]
    all_goals (repeat' split)
    all_goals omega
  | n + 1, x, a => by
    have hp : (0 : Int) < 2 ^ n := Int.pow_pos (by decide)
    have hs : (2 : Int) ^ (n + 1) = 2 ^ n * 2 := Int.pow_succ 2 n
    have h1 := tot_in n x a
    have h2 := tot_in n x (a + 2 ^ n)
    rw [tot, Int.natCast_add, h1]
    rw [tot_congr n (g := fun p => (inB x (a + ((p + 2 ^ n : Nat) : Int))).toNat) (h := fun p => (inB x (a + 2 ^ n + (p : Int))).toNat) (fun p _ => by rw [Int.natCast_add, pow_cast n, show a + ((p : Int) + 2 ^ n) = a + 2 ^ n + (p : Int) by omega]), h2, hs]
    generalize (2 : Int) ^ n = P at hp
    unfold mx mn
    repeat' split
    all_goals omega
theorem lenS_within (n : Nat) (a : Int) : ∀ l : List S63, lenS (withinL a (a + 2 ^ n) l) = ((tot n (fun p => cntR l (a + (p : Int))) : Nat) : Int)
  | [] => by rw [tot_congr n (g := fun p => cntR [] (a + (p : Int))) (h := fun _ => 0) (fun p _ => rfl), tot_const]; simp [withinL, lenS]
  | x :: r => by
    rw [withinL, lenS_append, lenS_within n a r, tot_congr n (g := fun p => cntR (x :: r) (a + (p : Int))) (h := fun p => (inB x (a + (p : Int))).toNat + cntR r (a + (p : Int))) (fun p _ => rfl), tot_add, Int.natCast_add, tot_in n x a]
    split <;> simp [lenS]
theorem cntR_within (n : Nat) (a : Int) (p : Nat) (hp : p < 2 ^ n) : ∀ l : List S63, cntR (withinL a (a + 2 ^ n) l) (a + (p : Int)) = cntR l (a + (p : Int))
  | [] => rfl
  | x :: r => by
    have hc := pow_cast n
    rw [withinL, cntR_append, cntR_within n a p hp r, cntR]
    congr 1
    have key : inB x (a + (p : Int)) = (decide (mx x.f0 a < mn x.f1 (a + 2 ^ n)) && inB ⟨mx x.f0 a, mn x.f1 (a + 2 ^ n)⟩ (a + (p : Int))) := by
      rw [Bool.eq_iff_iff]
      unfold inB
      simp only [Bool.and_eq_true, decide_eq_true_eq]
      rw [mx_le, lt_mn]
      unfold mx mn
      constructor
      · intro h
        refine ⟨?_, ?_, ?_⟩
        · repeat' split
          all_goals omega
        · omega
        · omega
      · intro h; omega
    rw [key]
    by_cases hx : mx x.f0 a < mn x.f1 (a + 2 ^ n)
    · rw [if_pos hx, decide_eq_true hx, cntR, cntR]; simp
    · rw [if_neg hx, decide_eq_false hx, cntR]; simp
theorem within_range (a b : Int) (hab : a ≤ b) (l : List S63) : ∀ x ∈ withinL a b l, a ≤ x.f0 ∧ x.f0 < x.f1 ∧ x.f1 ≤ b := fun y hy => by
  obtain ⟨x, hx, hlt, rfl⟩ := (mem_within a b l y).1 hy
  dsimp only
  have h1 := (mx_le x.f0 a (mx x.f0 a)).1 (Int.le_refl _)
  refine ⟨h1.2, hlt, ?_⟩
  unfold mn
  split <;> omega
theorem tot_zero : ∀ (n : Nat) {g : Nat → Nat}, tot n g = 0 → ∀ p : Nat, p < 2 ^ n → g p = 0
  | 0, g, e, p, hp => by
    have : p = 0 := by simpa using hp
    rw [this]; exact e
  | n + 1, g, e, p, hp => by
    rw [tot] at e
    rcases half hp with hq | ⟨q, rfl, hq⟩
    · exact tot_zero n (g := g) (by omega) p hq
    · exact tot_zero n (g := fun p => g (p + 2 ^ n)) (by omega) q hq
theorem tree_l0 (a s : Int) (own : List S63) (ho : ∀ x ∈ own, 0 ≤ x.f0 ∧ x.f0 < x.f1 ∧ x.f1 ≤ 4294967296) (hl : own.length ≤ 1000000) : ∀ (c j k : Nat) (u : Int), own.length - j = c → j ≤ own.length → 0 ≤ u → u + lenS (own.drop j) ≤ 8589934592 → c + 1 ≤ k →
    pannierref04_tree.l0 k a s own u (j : Int) = if u + lenS (own.drop j) = 0 then pannierref04_tree.j1 (k - (c + 1)) a s own (u + lenS (own.drop j)) true else pannierref04_tree.j1 (k - (c + 1)) a s own (u + lenS (own.drop j)) (u + lenS (own.drop j) == s) := by
  intro c
  induction c with
  | zero =>
    intro j k u hc hj h0 hs hk
    obtain ⟨k, rfl⟩ : ∃ q, k = q + 1 := ⟨k - 1, by omega⟩
    rw [pannierref04_tree.l0, if_neg (by omega), show j = own.length by omega, List.drop_length, lenS, Int.add_zero]
    rfl
  | succ c ih =>
    intro j k u hc hj h0 hs hk
    obtain ⟨k, rfl⟩ : ∃ q, k = q + 1 := ⟨k - 1, by omega⟩
    obtain ⟨h1, h2⟩ := rd63_drop (l := own) (i := j) (by omega)
    have hx := ho own[j] (List.getElem_mem _)
    have hn := lenS_nonneg (own.drop (j + 1)) (fun y hy => ho y (List.mem_of_mem_drop hy))
    rw [h2, lenS] at hs ⊢
    rw [pannierref04_tree.l0, if_pos (by omega), if_pos (by omega), h1, wrap_next j (by omega), u64_small (u + own[j].f1) (by omega) (by omega), u64_small _ (by omega) (by omega), ih (j + 1) k _ (by omega) (by omega) (by omega) (by omega) (by omega)]
    rw [show k + 1 - (c + 1 + 1) = k - (c + 1) by omega, show u + own[j].f1 - own[j].f0 + lenS (own.drop (j + 1)) = u + (own[j].f1 - own[j].f0 + lenS (own.drop (j + 1))) by omega]
theorem node_f (a b : T) : pannierref04_node.f a.toS.f0 a.toS.f1 b.toS.f0 b.toS.f1 = some ((join a b).toS.f0, (join a b).toS.f1) := by
  unfold pannierref04_node.f
  cases a with
  | leaf x => cases b with
    | leaf y => cases x <;> cases y <;> simp [toS, join, isLeaf, isOne]
    | node c d => simp [toS, join, isLeaf]
  | node c d => cases b <;> simp [toS, join, isLeaf]
/-- The reference's tree, within 2 ^ n pieces from a on. -/
theorem tree_f (N : Nat) (hN : N ≤ 1000000) : ∀ (n : Nat) (l : List S63) (a : Int) (k : Nat), n ≤ 32 → 0 ≤ a → a + 2 ^ n ≤ 4294967296 → l.length ≤ N → (∀ p : Nat, p < 2 ^ n → cntR l (a + (p : Int)) ≤ 1) → (n + 1) * (N + 5) ≤ k →
    ∃ U : T, pannierref04_tree.f k l a (2 ^ n) = some (U.toS.f0, U.toS.f1) ∧ Nf U ∧ U.depth ≤ n ∧ ∀ p : Nat, p < 2 ^ n → (has n U p).toNat = cntR l (a + (p : Int)) := by
  intro n
  induction n with
  | zero =>
    intro l a k hn h0 h1 hl hc hk
    obtain ⟨k, rfl⟩ : ∃ q, k = q + 1 := ⟨k - 1, by omega⟩
    have hw := withinL_length a (a + 2 ^ 0) l
    have hr := within_range a (a + 2 ^ 0) (by simp; omega) l
    have hS := lenS_within 0 a l
    have hle := tot_le 0 hc
    have e1 := tree_l0 a (2 ^ 0) (withinL a (a + 2 ^ 0) l) (fun x hx => by have := hr x hx; omega) (by omega) (withinL a (a + 2 ^ 0) l).length 0 k 0 (by omega) (by omega) (by omega) (by rw [List.drop_zero, hS]; omega) (by omega)
    rw [List.drop_zero, hS, Int.natCast_zero, Int.zero_add] at e1
    rw [pannierref04_tree.f, within_f l a (2 ^ 0) (u64_small _ (by omega) (by omega)) (by omega) k (by omega), Option.bind_some, e1]
    obtain ⟨k2, hk2⟩ : ∃ q, k - ((withinL a (a + 2 ^ 0) l).length + 1) = q + 1 := ⟨k - ((withinL a (a + 2 ^ 0) l).length + 1) - 1, by omega⟩
    rw [hk2]
    by_cases hz : ((tot 0 (fun p => cntR l (a + (p : Int))) : Nat) : Int) = 0
    · rw [if_pos hz, pannierref04_tree.j1, if_pos rfl]
      refine ⟨leaf false, ?_, trivial, Nat.le_refl _, fun p hp => ?_⟩
      · rw [hz]; rfl
      · have hzz := tot_zero 0 (g := fun p => cntR l (a + (p : Int))) (by omega) p hp
        rw [has_leaf, hzz]; rfl
    · have ho : tot 0 (fun p => cntR l (a + (p : Int))) = 1 := by omega
      rw [if_neg hz, ho, pannierref04_tree.j1, if_pos (by decide)]
      refine ⟨leaf true, rfl, trivial, Nat.le_refl _, fun p hp => ?_⟩
      rw [has_leaf, tot_full 0 hc ho p hp]; rfl
  | succ n ih =>
    intro l a k hn h0 h1 hl hc hk
    obtain ⟨k, rfl⟩ : ∃ q, k = q + 1 := ⟨k - 1, by have : 0 < (n + 1 + 1) * (N + 5) := Nat.mul_pos (by omega) (by omega); omega⟩
    have hmul : (n + 1 + 1) * (N + 5) = (n + 1) * (N + 5) + (N + 5) := by rw [Nat.add_mul, Nat.one_mul]
    have hp : (0 : Int) < 2 ^ n := Int.pow_pos (by decide)
    have hs : (2 : Int) ^ (n + 1) = 2 ^ n * 2 := Int.pow_succ 2 n
    have hcast := pow_cast (n + 1)
    have hcastn := pow_cast n
    have hw := withinL_length a (a + 2 ^ (n + 1)) l
    have hr := within_range a (a + 2 ^ (n + 1)) (by omega) l
    have hS := lenS_within (n + 1) a l
    have hle := tot_le (n + 1) hc
    have e1 := tree_l0 a (2 ^ (n + 1)) (withinL a (a + 2 ^ (n + 1)) l) (fun x hx => by have := hr x hx; omega) (by omega) (withinL a (a + 2 ^ (n + 1)) l).length 0 k 0 (by omega) (by omega) (by omega) (by rw [List.drop_zero, hS]; omega) (by omega)
    rw [List.drop_zero, hS, Int.natCast_zero, Int.zero_add] at e1
    rw [pannierref04_tree.f, within_f l a (2 ^ (n + 1)) (u64_small _ (by omega) (by omega)) (by omega) k (by omega), Option.bind_some, e1]
    obtain ⟨k2, hk2⟩ : ∃ q, k - ((withinL a (a + 2 ^ (n + 1)) l).length + 1) = q + 1 := ⟨k - ((withinL a (a + 2 ^ (n + 1)) l).length + 1) - 1, by omega⟩
    rw [hk2]
    by_cases hz : ((tot (n + 1) (fun p => cntR l (a + (p : Int))) : Nat) : Int) = 0
    · rw [if_pos hz, pannierref04_tree.j1, if_pos rfl]
      refine ⟨leaf false, ?_, trivial, Nat.zero_le _, fun p hp => ?_⟩
      · rw [hz, show ((0 : Int) == 2 ^ (n + 1)) = false from beq_eq_false_iff_ne.2 (by omega)]; rfl
      · have hzz := tot_zero (n + 1) (g := fun p => cntR l (a + (p : Int))) (by omega) p hp
        rw [has_leaf, hzz]; rfl
    · rw [if_neg hz, pannierref04_tree.j1]
      by_cases ho : ((tot (n + 1) (fun p => cntR l (a + (p : Int))) : Nat) : Int) = 2 ^ (n + 1)
      · rw [ho, show ((2 : Int) ^ (n + 1) == 2 ^ (n + 1)) = true from beq_iff_eq.2 rfl, if_pos rfl]
        refine ⟨leaf true, rfl, trivial, Nat.zero_le _, fun p hp => ?_⟩
        rw [has_leaf, tot_full (n + 1) hc (by omega) p hp]; rfl
      · rw [beq_eq_false_iff_ne.2 ho, if_neg (by decide)]
        have hq : IntKind.u64.wrap (Int.tdiv (2 ^ (n + 1)) 2) = 2 ^ n := by
          rw [hs, Int.mul_tdiv_cancel _ (by decide)]
          exact u64_small _ (by omega) (by omega)
        have hcl : ∀ p : Nat, p < 2 ^ n → cntR (withinL a (a + 2 ^ (n + 1)) l) (a + (p : Int)) = cntR l (a + (p : Int)) := fun p hp => cntR_within (n + 1) a p (left_lt hp) l
        have hcr : ∀ p : Nat, p < 2 ^ n → cntR (withinL a (a + 2 ^ (n + 1)) l) (a + 2 ^ n + (p : Int)) = cntR l (a + ((p + 2 ^ n : Nat) : Int)) := fun p hp => by
          rw [← cntR_within (n + 1) a (p + 2 ^ n) (right_lt hp) l, Int.natCast_add, hcastn, show a + ((p : Int) + 2 ^ n) = a + 2 ^ n + (p : Int) by omega]
        obtain ⟨U, eU, nU, dU, pU⟩ := ih (withinL a (a + 2 ^ (n + 1)) l) a k2 (by omega) h0 (by omega) (by omega) (fun p hp => by rw [hcl p hp]; exact hc p (left_lt hp)) (by omega)
        obtain ⟨V, eV, nV, dV, pV⟩ := ih (withinL a (a + 2 ^ (n + 1)) l) (a + 2 ^ n) k2 (by omega) (by omega) (by omega) (by omega) (fun p hp => by rw [hcr p hp]; exact hc _ (right_lt hp)) (by omega)
        rw [hq, eU, Option.bind_some, u64_small (a + 2 ^ n) (by omega) (by omega), eV, Option.bind_some]
        dsimp only
        rw [node_f, Option.bind_some]
        refine ⟨join U V, rfl, join_nf nU nV, Nat.le_trans (join_depth U V) (by omega), fun p hp => ?_⟩
        rw [has_join]
        rcases half hp with hq | ⟨q, rfl, hq⟩
        · rw [has_left hq, pU p hq, hcl p hq]
        · rw [has_right, pV q hq, hcr q hq]
/-- The reference's tree of a tree's pieces is its normal form. -/
theorem tree_norm (t : T) (h : t.right) (k : Nat) (hk : 1000000 ≤ k) : pannierref04_tree.f k (rl 32 t 0) 0 4294967296 = some (t.norm.toS.f0, t.norm.toS.f1) := by
  have n1 := rl_length t 32 0
  have c1 := h.2
  have hcn : ∀ p : Nat, p < 2 ^ 32 → cntR (rl 32 t 0) (0 + (p : Int)) = (has 32 t p).toNat := fun p hp => cntR_rl 32 t 0 h.1 p hp
  obtain ⟨U, eU, nU, dU, pU⟩ := tree_f 2047 (by omega) 32 (rl 32 t 0) 0 k (by omega) (by omega) (by decide) (by omega) (fun p hp => by rw [hcn p hp]; cases has 32 t p <;> simp) (by omega)
  have : U = t.norm := canon 32 nU (norm_nf t) dU (norm_right h).1 fun p hp => by
    have h1 := pU p hp
    rw [hcn p hp] at h1
    rw [has_norm 32 t p h.1]
    cases hU : has 32 U p <;> cases hT : has 32 t p <;> rw [hU, hT] at h1 <;> first | rfl | (simp at h1)
  rw [← this]
  exact eU
end Go.Proofs.Ytlhaofbncoijfaa.Tree
namespace Go.Proofs.Ytlhaofbncoijfaa.Tree
set_option linter.unusedVariables false
open Go.RowKit Go.Proofs.Ytlhaofbncoijfaa.X Go.Proofs.Ytlhaofbncoijfaa.Tree.T Go.Proofs.Ytlhaofbncoijfaa.HandF
open Go.Proofs.YtlhaofbncoijfaaW.PrintWords Go.Proofs.YtlhaofbncoijfaaW.PrintLast Go.Proofs.YtlhaofbncoijfaaW.PrintMore
theorem refNorm_f (s : S24) (k : Nat) (hk : 1000000 ≤ k) : pannierref04_Norm.f k s.f0 s.f1 = some ((NormS s).1.f0, (NormS s).1.f1, (NormS s).2) := by
  unfold pannierref04_Norm.f
  rw [refRight_f s k (by omega), Option.bind_some]
  cases hr : rightB s
  · rw [if_neg (by decide), NormS_bad s hr]
  · obtain ⟨t, rfl, ht⟩ := (right_iff s).1 hr
    rw [if_pos rfl, Means_T t ht, Option.bind_some, tree_norm t ht k hk, Option.bind_some, NormS_right t ht]
theorem NormS_tree (s : S24) : ∃ t : T, (NormS s).1 = t.toS := by
  cases hr : rightB s
  · exact ⟨.leaf false, by rw [NormS_bad s hr]; rfl⟩
  · obtain ⟨t, rfl, ht⟩ := (right_iff s).1 hr
    exact ⟨t.norm, by rw [NormS_right t ht]⟩
theorem NormS_zero (s : S24) : ((NormS s).2 == 0) = rightB s := by
  cases hr : rightB s
  · rw [NormS_bad s hr]; rfl
  · obtain ⟨t, rfl, ht⟩ := (right_iff s).1 hr
    rw [NormS_right t ht]; rfl
/-- Are two values the same? -/
def sameB (s u : S24) : Bool := ((NormS s).2 == 0) && ((NormS u).2 == 0) && (match T.ofS (NormS s).1, T.ofS (NormS u).1 with | some a, some b => T.eqb a b | _, _ => false)
end Go.Proofs.Ytlhaofbncoijfaa.Tree
namespace Go.Proofs.Ytlhaofbncoijfaa.HandF
set_option linter.unusedVariables false
set_option linter.unusedSimpArgs false
open Go.RowKit Go.Proofs.Ytlhaofbncoijfaa.X Go.Proofs.Ytlhaofbncoijfaa.Tree Go.Proofs.Ytlhaofbncoijfaa.Blocks
open Go.Proofs.YtlhaofbncoijfaaW.PrintWords Go.Proofs.YtlhaofbncoijfaaW.PrintLast Go.Proofs.YtlhaofbncoijfaaW.PrintMore
/-- A call that tells whether. -/
@[reducible] def Tells (n : Nat) (k m : Kd2) (b : Bool) : Prop := ∀ w : World, Kd.C k24 w k.2.1 k.1.f1.length k.1.f1 → Kd.C k24 w m.2.1 m.1.f1.length m.1.f1 → Calls Try.prog n #[kv k, kv m] w fun e w' => e = .returned (.bool b) ∧ Below w.heap.size w w'
theorem Norm14 (k : Kd2) (w : World) (hl : k.1.f1.length ≤ k.2.2) (hC : Kd.C k24 w k.2.1 k.1.f1.length k.1.f1) :
    Calls Try.prog 14 #[kv k] w fun e w' => ∃ k' : Kd2, e = .returned (.tuple #[kv k', .int .i64 (NormS k.1).2]) ∧ k'.1 = (NormS k.1).1 ∧ Ft w' (fun j => w.heap.size ≤ j) k' ∧ Below w.heap.size w w' := by
  obtain ⟨⟨b, l⟩, A, c⟩ := k
  refine (pannierref04_Norm.calls 1000000 b A c l _ _ _ w hC hl (refNorm_f ⟨b, l⟩ 1000000 (Nat.le_refl _))).mono ?_
  rintro e w' ⟨v, rfl, hv, hb⟩
  obtain ⟨A', c', rfl⟩ := Kd.V_slice hv
  exact ⟨(⟨(NormS ⟨b, l⟩).1.f0, (NormS ⟨b, l⟩).1.f1⟩, A', c'), rfl, S24_eta _, Ft.ofV hv, hb⟩
theorem RefRight18 (k : Kd2) (w : World) (hl : k.1.f1.length ≤ k.2.2) (hC : Kd.C k24 w k.2.1 k.1.f1.length k.1.f1) :
    Calls Try.prog 18 #[kv k] w fun e w' => e = .returned (.bool (rightB k.1)) ∧ Below w.heap.size w w' := by
  obtain ⟨⟨b, l⟩, A, c⟩ := k
  exact pannierref04_Right.calls 200 b A c l _ w hC hl (refRight_f ⟨b, l⟩ 200 (Nat.le_refl _))
theorem Means38 (k : Kd2) (t : T) (w : World) (hk : k.1 = t.toS) (ht : t.right) (hl : k.1.f1.length ≤ k.2.2) (hC : Kd.C k24 w k.2.1 k.1.f1.length k.1.f1) :
    Calls Try.prog 38 #[kv k] w fun e w' => ∃ v : Value, e = .returned v ∧ Kd.R k63 63 w' w.heap.size (fun _ => True) v (rl 32 t 0) ∧ Below w.heap.size w w' := by
  obtain ⟨s, A, c⟩ := k
  dsimp only at hk
  subst hk
  exact pannierref04_Means.calls _ A c _ _ w hC hl (Means_T t ht)
theorem Equal19 (k m : Kd2) (a b : T) (w : World) (ha : k.1 = a.toS) (hb : m.1 = b.toS) (hk : k.1.f1.length ≤ k.2.2) (hkC : Kd.C k24 w k.2.1 k.1.f1.length k.1.f1) (hm : m.1.f1.length ≤ m.2.2) (hmC : Kd.C k24 w m.2.1 m.1.f1.length m.1.f1) :
    Calls Try.prog 19 #[kv k, kv m] w fun e w' => e = .returned (.bool (T.eqb a b)) ∧ Below w.heap.size w w' := by
  obtain ⟨s, A, c⟩ := k
  obtain ⟨u, B, d⟩ := m
  dsimp only at ha hb
  subst ha hb
  exact pannierref04_Equal.calls _ _ A c _ _ B d _ _ w hkC hk hmC hm (Equal_T a b _ (Nat.le_refl _))
theorem Ft.len {W : World} {ok : Nat → Prop} {k : Kd2} (h : Ft W ok k) : k.1.f1.length ≤ k.2.2 := h.1
/-- What lies: a tree's box, and its cells. -/
def box24 (W : World) (g : Nat) (k : Kd2) : Prop := W.heap[g]? = some (.cells #[.bool k.1.f0, .slice k.2.1 k.1.f1.length k.2.2] 24 (0, 0))
theorem box24.below {W W' : World} {g : Nat} {k : Kd2} (h : box24 W g k) (hb : Below W.heap.size W W') : box24 W' g k := blk_below h hb
theorem box24.new (W : World) (k : Kd2) : box24 (W.alloc (.cells #[.bool k.1.f0, .slice k.2.1 k.1.f1.length k.2.2] 24)) W.heap.size k := blk_new _ _
theorem box24.alloc {W : World} {g : Nat} {k : Kd2} {ob : Obj} (h : box24 W g k) : box24 (W.alloc ob) g k := blk_alloc h _
theorem box24.c0 {W : World} {g : Nat} {k : Kd2} (h : box24 W g k) : W.cell? ⟨g, 0, none⟩ = some (.bool k.1.f0) := cell0 h
theorem box24.c1 {W : World} {g : Nat} {k : Kd2} (h : box24 W g k) : W.cell? ⟨g, 1, none⟩ = some (.slice k.2.1 k.1.f1.length k.2.2) := cell1 h
/-- The boxes of two parameters. -/
structure Two (w W : World) (k m : Kd2) : Prop where
  below : Below w.heap.size w W
  one : box24 W w.heap.size k
  two : box24 W (w.heap.size + 1) m
theorem Two.step {w W W' : World} {k m : Kd2} (h : Two w W k m) (hb : Below W.heap.size W W') : Two w W' k m := ⟨h.below.trans (hb.mono h.below.size), h.one.below hb, h.two.below hb⟩
theorem Two.mk0 (w : World) (k m : Kd2) : Two w ((w.alloc (.cells #[.bool k.1.f0, .slice k.2.1 k.1.f1.length k.2.2] 24)).alloc (.cells #[.bool m.1.f0, .slice m.2.1 m.1.f1.length m.2.2] 24)) k m := by
  refine ⟨((Below.refl _ _).alloc (Nat.le_refl _) _).alloc (by simp) _, (box24.new _ _).alloc, ?_⟩
  have := box24.new (w.alloc (.cells #[.bool k.1.f0, .slice k.2.1 k.1.f1.length k.2.2] 24)) m
  rwa [World.size_alloc] at this
/-- The four cells. -/
@[reducible] def Cells4 (w W : World) (k m : Kd2) : Prop :=
  W.cell? ⟨w.heap.size, 0, none⟩ = some (.bool k.1.f0) ∧ W.cell? ⟨w.heap.size, 1, none⟩ = some (.slice k.2.1 k.1.f1.length k.2.2) ∧ W.cell? ⟨w.heap.size + 1, 0, none⟩ = some (.bool m.1.f0) ∧ W.cell? ⟨w.heap.size + 1, 1, none⟩ = some (.slice m.2.1 m.1.f1.length m.2.2)
theorem Two.cells {w W : World} {k m : Kd2} (h : Two w W k m) : Cells4 w W k m := ⟨h.one.c0, h.one.c1, h.two.c0, h.two.c1⟩

set_option maxRecDepth 100000 in
set_option maxHeartbeats 40000000 in
theorem Same27 (k m : Kd2) (hk : k.1.f1.length ≤ k.2.2) (hm : m.1.f1.length ≤ m.2.2) : Tells 27 k m (sameB k.1 m.1) := by
  intro w hkC hmC
  have LK := Lib.hid hk
  have CK := Lib.hid hkC
  have LM := Lib.hid hm
  have CM := Lib.hid hmC
  obtain ⟨e1, he1⟩ : ∃ e, (NormS k.1).2 = e := ⟨_, rfl⟩
  obtain ⟨e2, he2⟩ : ∃ e, (NormS m.1).2 = e := ⟨_, rfl⟩
  obtain ⟨tx, htx⟩ := NormS_tree k.1
  obtain ⟨ty, hty⟩ := NormS_tree m.1
  have SB : Hid (sameB k.1 m.1 = ((e1 == 0) && (e2 == 0) && T.eqb tx ty)) := Lib.hid (by unfold sameB; rw [he1, he2, htx, hty, T.of_toS, T.of_toS])
  have E1 := Lib.hid he1
  have E2 := Lib.hid he2
  have TX := Lib.hid htx
  have TY := Lib.hid hty
  rw [SB.out]
  clear hk hkC hm hmC he1 he2 htx hty
  have hu24 := Try.underlying24
  have hu22 := Try.underlying22
  have hu26 := Try.underlying26
  go_enter Try.func27, Try.ntmps27
  go_wp2_with fail
  have h0 := Two.mk0 w k m
  obtain ⟨W0, hW0⟩ : ∃ W0, (w.alloc (.cells #[.bool k.1.f0, .slice k.2.1 k.1.f1.length k.2.2] 24)).alloc (.cells #[.bool m.1.f0, .slice m.2.1 m.1.f1.length m.2.2] 24) = W0 := ⟨_, rfl⟩
  rw [hW0] at h0 ⊢
  have I0 := Lib.hid h0
  clear hW0 h0
  refine (Norm14 k _ LK.out (Kd.C_below CK.out I0.out.below)).mono ?_
  rintro e w1 ⟨x, rfl, hx, fx, hb1⟩
  rw [E1.out]
  have HX := Lib.hid hx
  have FX1 := Lib.hid fx
  have I1 := Lib.hid (I0.out.step hb1)
  clear hx fx hb1
  have m0 := (I1.out.two.alloc (ob := .cells #[.bool x.1.f0, .slice x.2.1 x.1.f1.length x.2.2] 24)).c0
  have m1 := (I1.out.two.alloc (ob := .cells #[.bool x.1.f0, .slice x.2.1 x.1.f1.length x.2.2] 24)).c1
  go_wp2_with fail
  clear m0 m1
  obtain ⟨W2, hW2⟩ : ∃ W, w1.alloc (.cells #[.bool x.1.f0, .slice x.2.1 x.1.f1.length x.2.2] 24) = W := ⟨_, rfl⟩
  have hb2 : Below w1.heap.size w1 W2 := by rw [← hW2]; exact (Below.refl _ _).alloc (Nat.le_refl _) _
  have gx : box24 W2 w1.heap.size x := by rw [← hW2]; exact box24.new _ _
  rw [hW2]
  have X2 := Lib.hid gx
  have FX2 := Lib.hid (FX1.out.below hb2)
  have I2 := Lib.hid (I1.out.step hb2)
  clear gx hb2 hW2 FX1
  refine (Norm14 m _ LM.out (Kd.C_below CM.out I2.out.below)).mono ?_
  rintro e w3 ⟨y, rfl, hy, fy, hb3⟩
  rw [E2.out]
  have HY := Lib.hid hy
  have FY3 := Lib.hid fy
  have I3 := Lib.hid (I2.out.step hb3)
  have X3 := Lib.hid (X2.out.below hb3)
  have FX3 := Lib.hid (FX2.out.below hb3)
  clear hy fy hb3 FX2 X2
  have hb4 : Below w3.heap.size w3 (w3.alloc (.cells #[.bool y.1.f0, .slice y.2.1 y.1.f1.length y.2.2] 24)) := (Below.refl _ _).alloc (Nat.le_refl _) _
  have I4 := Lib.hid (I3.out.step hb4)
  have FX4 := Lib.hid (FX3.out.below hb4)
  have FY4 := Lib.hid (FY3.out.below hb4)
  have x0 := (X3.out.alloc (ob := .cells #[.bool y.1.f0, .slice y.2.1 y.1.f1.length y.2.2] 24)).c0
  have x1 := (X3.out.alloc (ob := .cells #[.bool y.1.f0, .slice y.2.1 y.1.f1.length y.2.2] 24)).c1
  clear hb4
  obtain ⟨b1, hb1⟩ : ∃ b, (e1 == 0) = b := ⟨_, rfl⟩
  obtain ⟨b2, hb2⟩ : ∃ b, (e2 == 0) = b := ⟨_, rfl⟩
  cases b1
  · go_wp2_with fail
    go_ret
    exact ⟨by simp [hb1], I4.out.below⟩
  · cases b2
    · go_wp2_with fail
      go_ret
      exact ⟨by simp [hb1, hb2], I4.out.below⟩
    · go_wp2_with fail
      refine (Equal19 x y tx ty _ (by rw [HX.out, TX.out]) (by rw [HY.out, TY.out]) FX4.out.len FX4.out.now FY4.out.len FY4.out.now).mono ?_
      rintro e w5 ⟨rfl, hb5⟩
      have I5 := Lib.hid (I4.out.step hb5)
      clear hb5 x0 x1
      go_wp2_with fail
      go_ret
      exact ⟨by simp [hb1, hb2], I5.out.below⟩

theorem Right17 (k : Kd2) (w : World) (hl : k.1.f1.length ≤ k.2.2) (hC : Kd.C k24 w k.2.1 k.1.f1.length k.1.f1) :
    Calls Try.prog 17 #[.agg #[.bool k.1.f0, .slice k.2.1 k.1.f1.length k.2.2]] w fun e w' => e = .returned (.bool (rightB k.1)) ∧ Below w.heap.size w w' := right_calls k w ⟨hl, hC⟩
set_option maxRecDepth 100000 in
set_option maxHeartbeats 40000000 in
theorem Same23_bad (k m : Kd2) (hb : (rightB k.1 && rightB m.1) = false) (hk : k.1.f1.length ≤ k.2.2) (hm : m.1.f1.length ≤ m.2.2) : Tells 23 k m false := by
  intro w hkC hmC
  have LK := Lib.hid hk
  have CK := Lib.hid hkC
  have LM := Lib.hid hm
  have CM := Lib.hid hmC
  obtain ⟨x, hx⟩ : ∃ x, rightB k.1 = x := ⟨_, rfl⟩
  obtain ⟨y, hy⟩ : ∃ y, rightB m.1 = y := ⟨_, rfl⟩
  have PA := Lib.hid hx
  have PB := Lib.hid hy
  have hxy : (x && y) = false := by rw [← hx, ← hy]; exact hb
  clear hk hkC hm hmC hb hx hy
  have hu24 := Try.underlying24
  have hu22 := Try.underlying22
  go_enter Try.func23, Try.ntmps23
  go_wp2_with fail
  have h0 := Two.mk0 w k m
  obtain ⟨W0, hW0⟩ : ∃ W0, (w.alloc (.cells #[.bool k.1.f0, .slice k.2.1 k.1.f1.length k.2.2] 24)).alloc (.cells #[.bool m.1.f0, .slice m.2.1 m.1.f1.length m.2.2] 24) = W0 := ⟨_, rfl⟩
  rw [hW0] at h0 ⊢
  have I0 := Lib.hid h0
  have J0 := Lib.hid (h0.step (W' := W0.drew) (Below.refl _ _).drew)
  clear hW0 h0
  cases x
  · have k0 := J0.out.one.c0
    have k1 := J0.out.one.c1
    have k0' := I0.out.one.c0
    have k1' := I0.out.one.c1
    go_region_with
      (first
        | (go_at_call 17; (with_reducible refine (Right17 k _ LK.out (Kd.C_below CK.out J0.out.below)).mono ?_); rintro e w1 ⟨rfl, hb1⟩; have I1 := Lib.hid (J0.out.step hb1); have m0 := I1.out.two.c0; have m1 := I1.out.two.c1; rw [PA.out]; clear hb1))
    all_goals
      go_wp2_with fail
      go_ret
      exact ⟨rfl, I1.out.below⟩
  · cases y
    · have k0 := J0.out.one.c0
      have k1 := J0.out.one.c1
      have k0' := I0.out.one.c0
      have k1' := I0.out.one.c1
      go_region_with
        (first
          | (go_at_call 17; (with_reducible refine (Right17 m _ LM.out (Kd.C_below CM.out I1.out.below)).mono ?_); rintro e w2 ⟨rfl, hb2⟩; have I2 := Lib.hid (I1.out.step hb2); rw [PB.out]; clear hb2)
          | (go_at_call 17; (with_reducible refine (Right17 k _ LK.out (Kd.C_below CK.out J0.out.below)).mono ?_); rintro e w1 ⟨rfl, hb1⟩; have I1 := Lib.hid (J0.out.step hb1); have m0 := I1.out.two.c0; have m1 := I1.out.two.c1; rw [PA.out]; clear hb1))
      all_goals
        go_wp2_with fail
        go_ret
        exact ⟨rfl, I2.out.below⟩
    · cases hxy
set_option maxRecDepth 100000 in
set_option maxHeartbeats 40000000 in
theorem Same23h (k m : Kd2) (a b : T) (w : World) (hka : k.1 = a.toS) (hmb : m.1 = b.toS) (ha : a.right) (hb : b.right) (hk : k.1.f1.length ≤ k.2.2) (hkC : Kd.C k24 w k.2.1 k.1.f1.length k.1.f1) (hm : m.1.f1.length ≤ m.2.2) (hmC : Kd.C k24 w m.2.1 m.1.f1.length m.1.f1) :
    Calls Try.prog 23 #[kv k, kv m] w fun e w' => e = .returned (.bool (T.eqb a.norm b.norm)) ∧ Below w.heap.size w w' := by
  have HA := Lib.hid hka
  have HB := Lib.hid hmb
  have PA : Hid (rightB k.1 = true) := Lib.hid (by rw [hka, right_T]; exact decide_eq_true ha)
  have PB : Hid (rightB m.1 = true) := Lib.hid (by rw [hmb, right_T]; exact decide_eq_true hb)
  have LK := Lib.hid hk
  have CK := Lib.hid hkC
  have LM := Lib.hid hm
  have CM := Lib.hid hmC
  clear hk hkC hm hmC hka hmb ha hb
  have hu24 := Try.underlying24
  have hu22 := Try.underlying22
  go_enter Try.func23, Try.ntmps23
  go_wp2_with fail
  have h0 := Two.mk0 w k m
  obtain ⟨W0, hW0⟩ : ∃ W0, (w.alloc (.cells #[.bool k.1.f0, .slice k.2.1 k.1.f1.length k.2.2] 24)).alloc (.cells #[.bool m.1.f0, .slice m.2.1 m.1.f1.length m.2.2] 24) = W0 := ⟨_, rfl⟩
  rw [hW0] at h0 ⊢
  have I0 := Lib.hid h0
  have J0 := Lib.hid (h0.step (W' := W0.drew) (Below.refl _ _).drew)
  clear hW0 h0
  go_region_held3 (fun W => Cells4 w W k m)
    (with_reducible first | exact J0.out.cells | exact I0.out.cells | exact I1.out.cells | exact I2.out.cells | exact I3.out.cells | exact I4.out.cells | exact I5.out.cells)
    (first
      | (go_at_call 46; (with_reducible refine (equal_calls a.norm b.norm na nb _ (fun _ => True) HNA.out HNB.out FNA4.out FNB4.out).mono ?_); rintro e w5 ⟨rfl, hb5⟩; have I5 := Lib.hid (I4.out.step hb5); clear hb5)
      | (go_at_call 36; (with_reducible refine (norm_calls m b _ HB.out LM.out (Kd.C_below CM.out I3.out.below)).mono ?_); rintro e w4 ⟨nb, rfl, hnb, fnb, hb4⟩; have I4 := Lib.hid (I3.out.step hb4); have HNB := Lib.hid hnb; have FNB4 : Hid (Ft w4 (fun _ => True) nb) := Lib.hid (fnb.mono (fun _ _ => trivial)); have FNA4 : Hid (Ft w4 (fun _ => True) na) := Lib.hid (FNA.out.below hb4); clear hnb fnb hb4)
      | (go_at_call 36; (with_reducible refine (norm_calls k a _ HA.out LK.out (Kd.C_below CK.out I2.out.below)).mono ?_); rintro e w3 ⟨na, rfl, hna, fna, hb3⟩; have I3 := Lib.hid (I2.out.step hb3); have HNA := Lib.hid hna; have FNA : Hid (Ft w3 (fun _ => True) na) := Lib.hid (fna.mono (fun _ _ => trivial)); clear hna fna hb3)
      | (go_at_call 17; (with_reducible refine (Right17 m _ LM.out (Kd.C_below CM.out I1.out.below)).mono ?_); rintro e w2 ⟨rfl, hb2⟩; have I2 := Lib.hid (I1.out.step hb2); rw [PB.out]; clear hb2)
      | (go_at_call 17; (with_reducible refine (Right17 k _ LK.out (Kd.C_below CK.out J0.out.below)).mono ?_); rintro e w1 ⟨rfl, hb1⟩; have I1 := Lib.hid (J0.out.step hb1); rw [PA.out]; clear hb1))
  all_goals
    go_wp2_with fail
    go_ret
    exact ⟨rfl, I5.out.below⟩
/-- id.Same tells sameB. -/
theorem Same23_tells (k m : Kd2) (hk : k.1.f1.length ≤ k.2.2) (hm : m.1.f1.length ≤ m.2.2) : Tells 23 k m (sameB k.1 m.1) := by
  cases h : rightB k.1 && rightB m.1
  · have : sameB k.1 m.1 = false := by unfold sameB; rw [NormS_zero, NormS_zero, h]; rfl
    rw [this]
    exact Same23_bad k m h hk hm
  · rw [Bool.and_eq_true] at h
    obtain ⟨a, ha, hra⟩ := (right_iff _).1 h.1
    obtain ⟨b, hb, hrb⟩ := (right_iff _).1 h.2
    have : sameB k.1 m.1 = T.eqb a.norm b.norm := by
      unfold sameB
      rw [NormS_zero, NormS_zero, h.1, h.2, ← ha, ← hb, NormS_right a hra, NormS_right b hrb]
      dsimp only
      rw [T.of_toS, T.of_toS]
      rfl
    rw [this]
    exact fun w c1 c2 => Same23h k m a b w ha.symm hb.symm hra hrb hk c1 hm c2
theorem Two.far {w W : World} {k m : Kd2} {g o : Nat} {u : Value} (h : Two w W k m) (hg : w.heap.size + 1 < g) : Two w (W.setCell ⟨g, o, none⟩ u) k m :=
  ⟨h.below.setCell (by show w.heap.size ≤ g; omega) _, (set_other (by show w.heap.size ≠ g; omega)).trans h.one, (set_other (by show w.heap.size + 1 ≠ g; omega)).trans h.two⟩
theorem Two.lt {w W : World} {k m : Kd2} (h : Two w W k m) : w.heap.size + 1 < W.heap.size := (Array.getElem?_eq_some_iff.1 h.two).1
set_option maxRecDepth 100000 in
set_option maxHeartbeats 40000000 in
theorem Apart25_bad (k m : Kd2) (hb : (rightB k.1 && rightB m.1) = false) (hk : k.1.f1.length ≤ k.2.2) (hm : m.1.f1.length ≤ m.2.2) : Tells 25 k m false := by
  intro w hkC hmC
  have LK := Lib.hid hk
  have CK := Lib.hid hkC
  have LM := Lib.hid hm
  have CM := Lib.hid hmC
  obtain ⟨x, hx⟩ : ∃ x, rightB k.1 = x := ⟨_, rfl⟩
  obtain ⟨y, hy⟩ : ∃ y, rightB m.1 = y := ⟨_, rfl⟩
  have PA := Lib.hid hx
  have PB := Lib.hid hy
  have hxy : (x && y) = false := by rw [← hx, ← hy]; exact hb
  clear hk hkC hm hmC hb hx hy
  have hu24 := Try.underlying24
  have hu22 := Try.underlying22
  go_enter Try.func25, Try.ntmps25
  go_wp2_with fail
  have h0 := Two.mk0 w k m
  obtain ⟨W0, hW0⟩ : ∃ W0, (w.alloc (.cells #[.bool k.1.f0, .slice k.2.1 k.1.f1.length k.2.2] 24)).alloc (.cells #[.bool m.1.f0, .slice m.2.1 m.1.f1.length m.2.2] 24) = W0 := ⟨_, rfl⟩
  rw [hW0] at h0 ⊢
  have I0 := Lib.hid h0
  clear hW0 h0
  refine (Right17 k _ LK.out (Kd.C_below CK.out I0.out.below)).mono ?_
  rintro e w1 ⟨rfl, hb1⟩
  rw [PA.out]
  have I1 := Lib.hid (I0.out.step hb1)
  clear hb1
  have m0 := I1.out.two.c0
  have m1 := I1.out.two.c1
  cases x
  · go_wp2_with fail
    go_ret
    exact ⟨rfl, I1.out.below⟩
  · go_wp2_with fail
    refine (Right17 m _ LM.out (Kd.C_below CM.out I1.out.below)).mono ?_
    rintro e w2 ⟨rfl, hb2⟩
    rw [PB.out]
    have I2 := Lib.hid (I1.out.step hb2)
    clear hb2 m0 m1
    cases y
    · go_wp2_with fail
      go_ret
      exact ⟨rfl, I2.out.below⟩
    · cases hxy
set_option maxRecDepth 100000 in
set_option maxHeartbeats 40000000 in
theorem Apart25h (k m : Kd2) (a b : T) (w : World) (hka : k.1 = a.toS) (hmb : m.1 = b.toS) (ha : a.right) (hb : b.right) (hk : k.1.f1.length ≤ k.2.2) (hkC : Kd.C k24 w k.2.1 k.1.f1.length k.1.f1) (hm : m.1.f1.length ≤ m.2.2) (hmC : Kd.C k24 w m.2.1 m.1.f1.length m.1.f1) :
    Calls Try.prog 25 #[kv k, kv m] w fun e w' => e = .returned (.bool (T.sum a.norm b.norm).2) ∧ Below w.heap.size w w' := by
  have HA := Lib.hid hka
  have HB := Lib.hid hmb
  have PA : Hid (rightB k.1 = true) := Lib.hid (by rw [hka, right_T]; exact decide_eq_true ha)
  have PB : Hid (rightB m.1 = true) := Lib.hid (by rw [hmb, right_T]; exact decide_eq_true hb)
  have LK := Lib.hid hk
  have CK := Lib.hid hkC
  have LM := Lib.hid hm
  have CM := Lib.hid hmC
  clear hk hkC hm hmC hka hmb ha hb
  have hu24 := Try.underlying24
  have hu22 := Try.underlying22
  go_enter Try.func25, Try.ntmps25
  go_wp2_with fail
  have h0 := Two.mk0 w k m
  obtain ⟨W0, hW0⟩ : ∃ W0, (w.alloc (.cells #[.bool k.1.f0, .slice k.2.1 k.1.f1.length k.2.2] 24)).alloc (.cells #[.bool m.1.f0, .slice m.2.1 m.1.f1.length m.2.2] 24) = W0 := ⟨_, rfl⟩
  rw [hW0] at h0 ⊢
  have I0 := Lib.hid h0
  clear hW0 h0
  refine (Right17 k _ LK.out (Kd.C_below CK.out I0.out.below)).mono ?_
  rintro e w1 ⟨rfl, hb1⟩
  rw [PA.out]
  have I1 := Lib.hid (I0.out.step hb1)
  clear hb1
  have m0 := I1.out.two.c0
  have m1 := I1.out.two.c1
  go_wp2_with fail
  refine (Right17 m _ LM.out (Kd.C_below CM.out I1.out.below)).mono ?_
  rintro e w4 ⟨rfl, hb2⟩
  rw [PB.out]
  have HI4 := Lib.hid (I1.out.step hb2)
  clear hb2 m0 m1
  go_wp2_with fail
  have HD4 := Lib.hid (HI4.out.step (W' := w4.drew) (Below.refl _ _).drew)
  have HZ4 := Lib.hid (HI4.out.step (W' := (w4.alloc (.cells #[.bool false, .slice none 0 0] 24)).drew) (((Below.refl _ _).alloc (Nat.le_refl _) _).drew))
  have GZ4 := Lib.hid (show (w4.alloc (.cells #[.bool false, .slice none 0 0] 24)).drew.heap[w4.heap.size]? = some (.cells #[.bool false, .slice none 0 0] 24 (0, 0)) from blk_new w4 _)
  have hst : ∀ W, Two w W k m → Two w (W.alloc (.cells #[.bool false, .slice none 0 0] 24)) k m := fun W h => h.step ((Below.refl _ _).alloc (Nat.le_refl _) _)
  have HST := Lib.hid hst
  clear hst
  go_region_held3 (fun W => Cells4 w W k m)
    (with_reducible first | exact HD4.out.cells | exact HZ4.out.cells | exact HI5.out.cells | exact (HST.out _ HI5.out).cells | exact HI6.out.cells | exact (HST.out _ HI6.out).cells | exact HI7.out.cells | exact (HI7.out.step ((Below.refl _ _).alloc (Nat.le_refl _) _)).cells | exact ((HI7.out.far HGL.out).far HGL.out).cells | exact ((HI7.out.far HLA.out).far HLA.out).cells | exact ((HI7.out.far HLB.out).far HLB.out).cells)
    (first
      | (go_at_call 36; (with_reducible refine (norm_calls k a _ HA.out LK.out ?_).mono ?_); (exact Kd.C_below CK.out (by with_reducible first | exact HD4.out.below | exact HZ4.out.below)); rintro e w5 ⟨na, rfl, hna, fna, hb5⟩; have HI5 := Lib.hid (by with_reducible first | exact HD4.out.step hb5 | exact HZ4.out.step hb5 : Two w w5 k m); have HNA := Lib.hid hna; have FNA := Lib.hid fna; (try with_reducible have gl5 := Lib.hid (blk_below GZ4.out hb5)); clear hna fna hb5)
      | (go_at_call 36; (with_reducible refine (norm_calls m b _ HB.out LM.out ?_).mono ?_); (exact Kd.C_below CM.out (by with_reducible first | exact HI5.out.below | exact (HST.out _ HI5.out).below)); rintro e w6 ⟨nb, rfl, hnb, fnb, hb6⟩; have HI6 := Lib.hid (by with_reducible first | exact HI5.out.step hb6 | exact (HST.out _ HI5.out).step hb6 : Two w w6 k m); have HNB := Lib.hid hnb; have FNB := Lib.hid fnb; (with_reducible first | have FNA6 := Lib.hid (FNA.out.below hb6) | have FNA6 := Lib.hid ((FNA.out.alloc (.cells #[.bool false, .slice none 0 0] 24)).below hb6)); (with_reducible first | have gl6 := Lib.hid (blk_below gl5.out hb6) | have gl6 := Lib.hid (blk_below (blk_new w5 (.cells #[.bool false, .slice none 0 0] 24)) hb6) | skip); clear hnb fnb hb6)
      | (go_at_call 43; (first | (with_reducible refine (sum_calls a.norm b.norm na nb _ (fun j => _ ∨ _) HNA.out HNB.out (FNA6.out.mono (fun j h => Or.inl h)) (FNB.out.mono (fun j h => Or.inr h))).mono ?_) | (with_reducible refine (sum_calls a.norm b.norm na nb _ (fun j => _ ∨ _) HNA.out HNB.out ((FNA6.out.alloc (.cells #[.bool false, .slice none 0 0] 24)).mono (fun j h => Or.inl h)) ((FNB.out.alloc (.cells #[.bool false, .slice none 0 0] 24)).mono (fun j h => Or.inr h))).mono ?_)); rintro e w7 ⟨k1, rfl, hk1, hf1, hb7⟩; have HI7 := Lib.hid (by with_reducible first | exact HI6.out.step hb7 | exact (HST.out _ HI6.out).step hb7 : Two w w7 k m); (with_reducible first | have gl7 := blk_below gl6.out hb7 | have gl7 := blk_below (blk_new w6 (.cells #[.bool false, .slice none 0 0] 24)) hb7 | skip); (try have gl70 := cell0 gl7); (try have gl71 := cell1 gl7); (try have gl7f := free2 gl7); (try have GL7 := Lib.hid gl7); (try clear gl7); have HLA := Lib.hid HI5.out.lt; have HLB := Lib.hid HI6.out.lt; have HGL := Lib.hid HI4.out.lt; clear hk1 hf1 hb7))
  all_goals
    rename_i hHeld
    clear hHeld
    go_wp2_with fail
    go_ret
    first
      | exact ⟨rfl, ((HI7.out.far HLB.out).far HLB.out).below⟩
      | exact ⟨rfl, ((HI7.out.far HLA.out).far HLA.out).below⟩
      | exact ⟨rfl, ((HI7.out.far HGL.out).far HGL.out).below⟩
      | exact ⟨rfl, (HI7.out.step ((Below.refl _ _).alloc (Nat.le_refl _) _)).below⟩
end Go.Proofs.Ytlhaofbncoijfaa.HandF
namespace Go.Proofs.Ytlhaofbncoijfaa.HandF
set_option linter.unusedVariables false
set_option linter.unusedSimpArgs false
open Go.RowKit Go.Proofs.Ytlhaofbncoijfaa.X Go.Proofs.Ytlhaofbncoijfaa.Tree Go.Proofs.Ytlhaofbncoijfaa.Blocks
open Go.Proofs.YtlhaofbncoijfaaW.PrintWords Go.Proofs.YtlhaofbncoijfaaW.PrintLast Go.Proofs.YtlhaofbncoijfaaW.PrintMore
/-- Sum, of any two values that lie in memory. -/
theorem Sum22S (k m : Kd2) (w : World) (hk : k.1.f1.length ≤ k.2.2) (hkC : Kd.C k24 w k.2.1 k.1.f1.length k.1.f1) (hm : m.1.f1.length ≤ m.2.2) (hmC : Kd.C k24 w m.2.1 m.1.f1.length m.1.f1) :
    Calls Try.prog 22 #[kv k, kv m] w fun e w' => ∃ k1 : Kd2, e = .returned (.tuple #[kv k1, .int .i64 (SumS k.1 m.1).2]) ∧ k1.1 = (SumS k.1 m.1).1 ∧ Ft w' (fun j => w.heap.size ≤ j) k1 ∧ Below w.heap.size w w' := by
  rcases SumS_cases k.1 m.1 with h | ⟨a, b, ha, hb, hra, hrb⟩
  · refine (Sum22_bad k m w hk hkC hm hmC h).mono ?_
    rintro e w' ⟨rfl, hb⟩
    rw [SumS_bad _ _ h]
    exact ⟨(⟨false, []⟩, none, 0), rfl, rfl, Ft.leaf _ _ _, hb⟩
  · have := Sum22 k m a b w ha.symm hb.symm hra hrb hk hkC hm hmC
    rw [← ha, ← hb, SumS_T a b hra hrb]
    exact this
end Go.Proofs.Ytlhaofbncoijfaa.HandF

namespace Go.Proofs.Ytlhaofbncoijfaa.Tree
set_option linter.unusedVariables false
open Go.RowKit Go.Proofs.Ytlhaofbncoijfaa.X Go.Proofs.Ytlhaofbncoijfaa.Tree.T Go.Proofs.Ytlhaofbncoijfaa.HandF
open Go.Proofs.YtlhaofbncoijfaaW.PrintWords Go.Proofs.YtlhaofbncoijfaaW.PrintLast Go.Proofs.YtlhaofbncoijfaaW.PrintMore
theorem meet_sum (a b : T) (ha : a.right) (hb : b.right) : meetL (rl 32 a 0) (rl 32 b 0) = !(T.sum a.norm b.norm).2 := by
  have h := (sum_spec 32 a.norm b.norm (norm_nf a) (norm_nf b) (norm_right ha).1 (norm_right hb).1).1
  have hm := meet_T ha.1 hb.1
  cases h2 : (T.sum a.norm b.norm).2
  · rw [Bool.not_false, hm]
    refine Classical.byContradiction fun hn => ?_
    have := h.2 (fun p hp ⟨h3, h4⟩ => hn ⟨p, hp, by rwa [has_norm 32 a p ha.1] at h3, by rwa [has_norm 32 b p hb.1] at h4⟩)
    rw [h2] at this; cases this
  · rw [Bool.not_true]
    cases hmm : meetL (rl 32 a 0) (rl 32 b 0)
    · rfl
    · obtain ⟨p, hp, h3, h4⟩ := hm.1 hmm
      exact absurd ⟨by rw [has_norm 32 a p ha.1]; exact h3, by rw [has_norm 32 b p hb.1]; exact h4⟩ (h.1 h2 p hp)
theorem tree_sum (a b : T) (ha : a.right) (hb : b.right) (h : (T.sum a.norm b.norm).2 = true) (k : Nat) (hk : 1000000 ≤ k) : pannierref04_tree.f k (rl 32 a 0 ++ rl 32 b 0) 0 4294967296 = some ((T.sum a.norm b.norm).1.toS.f0, (T.sum a.norm b.norm).1.toS.f1) := by
  have n1 := rl_length a 32 0
  have n2 := rl_length b 32 0
  have c1 := ha.2
  have c2 := hb.2
  obtain ⟨hs1, hs2⟩ := sum_spec 32 a.norm b.norm (norm_nf a) (norm_nf b) (norm_right ha).1 (norm_right hb).1
  have hap := hs1.1 h
  obtain ⟨f1, f2, f3⟩ := hs2 h
  have hcn : ∀ p : Nat, p < 2 ^ 32 → cntR (rl 32 a 0 ++ rl 32 b 0) (0 + (p : Int)) = (has 32 a p).toNat + (has 32 b p).toNat := fun p hp => by rw [cntR_append, cntR_rl 32 a 0 ha.1 p hp, cntR_rl 32 b 0 hb.1 p hp]
  have hle : ∀ p : Nat, p < 2 ^ 32 → (has 32 a p).toNat + (has 32 b p).toNat ≤ 1 := fun p hp => by
    have := hap p hp
    rw [has_norm 32 a p ha.1, has_norm 32 b p hb.1] at this
    cases h1 : has 32 a p <;> cases h2 : has 32 b p
    · simp
    · simp
    · simp
    · exact absurd ⟨h1, h2⟩ this
  obtain ⟨U, eU, nU, dU, pU⟩ := tree_f 4094 (by omega) 32 (rl 32 a 0 ++ rl 32 b 0) 0 k (by omega) (by omega) (by decide) (by rw [List.length_append]; omega) (fun p hp => by rw [hcn p hp]; exact hle p hp) (by omega)
  have : U = (T.sum a.norm b.norm).1 := canon 32 nU f1 dU f2 fun p hp => by
    have h1 := pU p hp
    rw [hcn p hp] at h1
    rw [f3 p hp, has_norm 32 a p ha.1, has_norm 32 b p hb.1]
    have h2 := hle p hp
    cases hU : has 32 U p <;> cases hA : has 32 a p <;> cases hB : has 32 b p <;> rw [hU, hA, hB] at h1 <;> rw [hA, hB] at h2 <;> first | rfl | (simp at h1) | (simp at h2)
  rw [← this]
  exact eU
end Go.Proofs.Ytlhaofbncoijfaa.Tree
namespace Go.Proofs.Ytlhaofbncoijfaa.HandF
set_option linter.unusedVariables false
set_option linter.unusedSimpArgs false
open Go.RowKit Go.Proofs.Ytlhaofbncoijfaa.X Go.Proofs.Ytlhaofbncoijfaa.Tree Go.Proofs.Ytlhaofbncoijfaa.Blocks
open Go.Proofs.YtlhaofbncoijfaaW.PrintWords Go.Proofs.YtlhaofbncoijfaaW.PrintLast Go.Proofs.YtlhaofbncoijfaaW.PrintMore
theorem Tree37 (A : Option Addr) (c : Nat) (l : List S63) (U : T) (w : World) (hC : Kd.C k63 w A l.length l) (hc : l.length ≤ c) (h : pannierref04_tree.f 1000000 l 0 4294967296 = some (U.toS.f0, U.toS.f1)) :
    Calls Try.prog 37 #[.slice A l.length c, .int .u64 0, .int .u64 4294967296] w fun e w' => ∃ k1 : Kd2, e = .returned (kv k1) ∧ k1.1 = U.toS ∧ Ft w' (fun j => w.heap.size ≤ j) k1 ∧ Below w.heap.size w w' := by
  refine (pannierref04_tree.calls 1000000 A c l 0 4294967296 _ _ w hC hc h).mono ?_
  rintro e w' ⟨v, rfl, hv, hb⟩
  obtain ⟨A', c', rfl⟩ := Kd.V_slice hv
  exact ⟨(⟨U.toS.f0, U.toS.f1⟩, A', c'), rfl, S24_eta _, Ft.ofV hv, hb⟩
/-- How it is left. -/
theorem Sum24_out {w W : World} {k m : Kd2} {a b : Value} {R : Ending → World → Prop} {tmps : Array Value} (k1 : Kd2) (x : Int) (h : SuI w W k m #[a, b])
    (h2 : tmps.getD 4 undef = .pointer (some ⟨w.heap.size + 1 + 1, 0, none⟩)) (h3 : tmps.getD 5 undef = .int .i64 x)
    (hR : ∀ W', Below w.heap.size w W' → (∀ j, j ≠ w.heap.size + 1 + 1 → W'.heap[j]? = W.heap[j]?) → R (.returned (.tuple #[kv k1, .int .i64 x])) W') :
    bodyPost Try.prog Try.f24 R .ret { tmps := tmps, defers := [] } ((W.setCell ⟨w.heap.size + 1 + 1, 0, none⟩ (.bool k1.1.f0)).setCell ⟨w.heap.size + 1 + 1, 1, none⟩ (.slice k1.2.1 k1.1.f1.length k1.2.2)) := by
  have hs : ((W.setCell ⟨w.heap.size + 1 + 1, 0, none⟩ (.bool k1.1.f0)).setCell ⟨w.heap.size + 1 + 1, 1, none⟩ (.slice k1.2.1 k1.1.f1.length k1.2.2)).heap[w.heap.size + 1 + 1]? = some (.cells #[.bool k1.1.f0, .slice k1.2.1 k1.1.f1.length k1.2.2] 24 (0, 0)) := set1 (set0 h.out)
  refine bodyPost_ret (results_ct rfl _ _ (w.heap.size + 1 + 1) 24 _ (0, 0) _ h2 hs Try.underlying24 rfl (by kernel_rfl)) rfl ?_
  rw [h3]
  refine hR _ ((h.below.setCell (Nat.le_trans (Nat.le_succ _) (Nat.le_succ _)) _).setCell (Nat.le_trans (Nat.le_succ _) (Nat.le_succ _)) _) (fun j h2 => ?_)
  rw [set_other (by simpa using h2), set_other (by simpa using h2)]

set_option maxRecDepth 100000 in
set_option maxHeartbeats 40000000 in
theorem Sum24_bad (k m : Kd2) (w : World) (hk : k.1.f1.length ≤ k.2.2) (hkC : Kd.C k24 w k.2.1 k.1.f1.length k.1.f1) (hm : m.1.f1.length ≤ m.2.2) (hmC : Kd.C k24 w m.2.1 m.1.f1.length m.1.f1) (h : (rightB k.1 && rightB m.1) = false) :
    Calls Try.prog 24 #[kv k, kv m] w fun e w' => e = .returned (.tuple #[.agg #[.bool false, .slice none 0 0], .int .i64 2]) ∧ Below w.heap.size w w' := by
  have HK := Lib.hid hk
  have HKC := Lib.hid hkC
  have HM := Lib.hid hm
  have HMC := Lib.hid hmC
  have HH := Lib.hid h
  clear hk hkC hm hmC h
  have hu24 := Try.underlying24
  have hu22 := Try.underlying22
  go_enter Try.func24, Try.ntmps24
  go_wp2_with fail
  obtain ⟨W0, hW0⟩ : ∃ W0, ((w.alloc (.cells #[.bool k.1.f0, .slice k.2.1 k.1.f1.length k.2.2] 24)).alloc (.cells #[.bool m.1.f0, .slice m.2.1 m.1.f1.length m.2.2] 24)).alloc (.cells #[.bool false, .slice none 0 0] 24) = W0 := ⟨_, rfl⟩
  have hI : SuI w W0 k m #[.bool false, .slice none 0 0] := by
    rw [← hW0]
    refine ⟨(((Below.refl _ _).alloc (Nat.le_refl _) _).alloc (by simp) _).alloc (by simp; omega) _, blk_alloc (blk_alloc (blk_new _ _) _) _, blk_alloc ?_ _, ?_⟩
    · have := blk_new (w.alloc (.cells #[.bool k.1.f0, .slice k.2.1 k.1.f1.length k.2.2] 24)) (.cells #[.bool m.1.f0, .slice m.2.1 m.1.f1.length m.2.2] 24)
      rwa [World.size_alloc] at this
    · have := blk_new ((w.alloc (.cells #[.bool k.1.f0, .slice k.2.1 k.1.f1.length k.2.2] 24)).alloc (.cells #[.bool m.1.f0, .slice m.2.1 m.1.f1.length m.2.2] 24)) (.cells #[.bool false, .slice none 0 0] 24)
      rwa [World.size_alloc, World.size_alloc] at this
  rw [hW0]
  have HI := Lib.hid hI
  clear hI hW0
  refine (RefRight18 k _ HK.out (Kd.C_below HKC.out HI.out.below)).mono ?_
  rintro e w1 ⟨rfl, hb1⟩
  have HI1 := Lib.hid (HI.out.step hb1)
  clear hb1
  have r0 := cell0 HI1.out.right
  have r1 := cell1 HI1.out.right
  obtain ⟨x, hx⟩ : ∃ x, rightB k.1 = x := ⟨_, rfl⟩
  obtain ⟨y, hy⟩ : ∃ y, rightB m.1 = y := ⟨_, rfl⟩
  have hxy : (!x || !y) = true := by rw [← hx, ← hy, ← Bool.not_and, HH.out]; rfl
  have HY := Lib.hid hy
  rw [hx]
  clear hx hy
  go_wp2_with fail
  refine (RefRight18 m _ HM.out (Kd.C_below HMC.out HI1.out.below)).mono ?_
  rintro e w2 ⟨rfl, hb2⟩
  have HI2 := Lib.hid (HI1.out.step hb2)
  clear hb2 r0 r1
  have o0 := cell0 HI2.out.out
  have o1 := cell1 HI2.out.out
  have fo := free2 HI2.out.out
  rw [HY.out]
  cases x
  · go_wp2_with fail
    refine Sum24_out (⟨false, []⟩, none, 0) 2 HI2.out rfl rfl ?_
    intro W' hb' _
    exact ⟨rfl, hb'⟩
  · cases y
    · go_wp2_with fail
      refine Sum24_out (⟨false, []⟩, none, 0) 2 HI2.out rfl rfl ?_
      intro W' hb' _
      exact ⟨rfl, hb'⟩
    · cases hxy

set_option maxRecDepth 100000 in
set_option maxHeartbeats 40000000 in
theorem Sum24 (k m : Kd2) (a b : T) (w : World) (ha : k.1 = a.toS) (hb : m.1 = b.toS) (hra : a.right) (hrb : b.right) (hk : k.1.f1.length ≤ k.2.2) (hkC : Kd.C k24 w k.2.1 k.1.f1.length k.1.f1) (hm : m.1.f1.length ≤ m.2.2) (hmC : Kd.C k24 w m.2.1 m.1.f1.length m.1.f1) :
    Calls Try.prog 24 #[kv k, kv m] w fun e w' => ∃ k1 : Kd2, e = .returned (.tuple #[kv k1, .int .i64 (SumT a b).2]) ∧ k1.1 = (SumT a b).1 ∧ Ft w' (fun j => w.heap.size ≤ j) k1 ∧ Below w.heap.size w w' := by
  have HKA := Lib.hid ha
  have HKB := Lib.hid hb
  have HTA := Lib.hid hra
  have HTB := Lib.hid hrb
  have HRA : Hid (rightB k.1 = true) := by rw [ha, right_T]; exact decide_eq_true hra
  have HRB : Hid (rightB m.1 = true) := by rw [hb, right_T]; exact decide_eq_true hrb
  have HK := Lib.hid hk
  have HKC := Lib.hid hkC
  have HM := Lib.hid hm
  have HMC := Lib.hid hmC
  clear hk hkC hm hmC ha hb hra hrb
  have hu24 := Try.underlying24
  have hu22 := Try.underlying22
  go_enter Try.func24, Try.ntmps24
  go_wp2_with fail
  obtain ⟨W0, hW0⟩ : ∃ W0, ((w.alloc (.cells #[.bool k.1.f0, .slice k.2.1 k.1.f1.length k.2.2] 24)).alloc (.cells #[.bool m.1.f0, .slice m.2.1 m.1.f1.length m.2.2] 24)).alloc (.cells #[.bool false, .slice none 0 0] 24) = W0 := ⟨_, rfl⟩
  have hI : SuI w W0 k m #[.bool false, .slice none 0 0] := by
    rw [← hW0]
    refine ⟨(((Below.refl _ _).alloc (Nat.le_refl _) _).alloc (by simp) _).alloc (by simp; omega) _, blk_alloc (blk_alloc (blk_new _ _) _) _, blk_alloc ?_ _, ?_⟩
    · have := blk_new (w.alloc (.cells #[.bool k.1.f0, .slice k.2.1 k.1.f1.length k.2.2] 24)) (.cells #[.bool m.1.f0, .slice m.2.1 m.1.f1.length m.2.2] 24)
      rwa [World.size_alloc] at this
    · have := blk_new ((w.alloc (.cells #[.bool k.1.f0, .slice k.2.1 k.1.f1.length k.2.2] 24)).alloc (.cells #[.bool m.1.f0, .slice m.2.1 m.1.f1.length m.2.2] 24)) (.cells #[.bool false, .slice none 0 0] 24)
      rwa [World.size_alloc, World.size_alloc] at this
  rw [hW0]
  have HI := Lib.hid hI
  clear hI hW0
  refine (RefRight18 k _ HK.out (Kd.C_below HKC.out HI.out.below)).mono ?_
  rintro e w1 ⟨rfl, hb1⟩
  have HI1 := Lib.hid (HI.out.step hb1)
  clear hb1
  have r0 := cell0 HI1.out.right
  have r1 := cell1 HI1.out.right
  rw [HRA.out]
  go_wp2_with fail
  refine (RefRight18 m _ HM.out (Kd.C_below HMC.out HI1.out.below)).mono ?_
  rintro e w2 ⟨rfl, hb2⟩
  have HI2 := Lib.hid (HI1.out.step hb2)
  clear hb2 r0 r1
  rw [HRB.out]
  have l0 := cell0 HI2.out.left
  have l1 := cell1 HI2.out.left
  go_wp2_with fail
  refine (Means38 k a _ HKA.out HTA.out HK.out (Kd.C_below HKC.out HI2.out.below)).mono ?_
  rintro e w3 ⟨v3, rfl, hv3, hb3⟩
  have HI3 := Lib.hid (HI2.out.step hb3)
  obtain ⟨A3, c3, rfl⟩ := Kd.R_slice hv3
  obtain ⟨_, hc3, hC3⟩ := Kd.R_reads' hv3
  have HC3 := Lib.hid hC3
  have HL3 := Lib.hid hc3
  clear hb3 hv3 hc3 hC3 l0 l1
  have r0 := cell0 HI3.out.right
  have r1 := cell1 HI3.out.right
  go_wp2_with fail
  refine (Means38 m b _ HKB.out HTB.out HM.out (Kd.C_below HMC.out HI3.out.below)).mono ?_
  rintro e w4 ⟨v4, rfl, hv4, hb4⟩
  have HI4 := Lib.hid (HI3.out.step hb4)
  obtain ⟨A4, c4, rfl⟩ := Kd.R_slice hv4
  obtain ⟨_, hc4, hC4⟩ := Kd.R_reads' hv4
  have HC34 := Lib.hid (Kd.C_below HC3.out hb4)
  have HC4 := Lib.hid hC4
  have HL4 := Lib.hid hc4
  clear hb4 hv4 hc4 hC4 r0 r1
  go_wp2_with fail
  have n1 := rl_length a 32 0
  have n2 := rl_length b 32 0
  have c1 := HTA.out.2
  have c2 := HTB.out.2
  refine (pannierref04_meet.calls 10000 A3 c3 _ A4 c4 _ _ w4 HC34.out HL3.out HC4.out HL4.out (meet_f _ _ (rl32 a) (by omega) (by omega) 10000 (by omega))).mono ?_
  rintro e w5 ⟨rfl, hb5⟩
  have HI5 := Lib.hid (HI4.out.step hb5)
  have HC35 := Lib.hid (Kd.C_below HC34.out hb5)
  have HC45 := Lib.hid (Kd.C_below HC4.out hb5)
  clear hb5
  rw [meet_sum a b HTA.out HTB.out]
  cases hx : (T.sum a.norm b.norm).2
  · have o0 := cell0 HI5.out.out
    have o1 := cell1 HI5.out.out
    have fo := free2 HI5.out.out
    go_wp2_with fail
    refine Sum24_out (⟨false, []⟩, none, 0) 42 HI5.out rfl rfl ?_
    intro W' hb' _
    have hS : SumT a b = (⟨false, []⟩, 42) := by unfold SumT; rw [hx]; rfl
    exact ⟨(⟨false, []⟩, none, 0), by rw [hS], by rw [hS], Ft.leaf _ _ _, hb'⟩
  · have HX := Lib.hid hx
    have hsum : wrap64 (((rl 32 a 0).length : Int) + ((rl 32 b 0).length : Int)) = (((rl 32 a 0).length + (rl 32 b 0).length : Nat) : Int) := by unfold wrap64; omega
    obtain ⟨i0, hi0, hz0, hz1, hz2⟩ := info_parts info63
    clear hx
    have HKM : Hid (∀ (W : World) (x : S63) (cs : List Value), k63.K W x cs → k63.M W w5.heap.size (fun _ => False) x cs) := Lib.hid (fun W x cs h => by rw [k63_open h]; exact k63_mkM _ _ _ x)
    have hHC35 := HC35.out
    go_wp2_with (first
      | (at_make; refine wpList_make_own _ rfl _ _ 51 rfl w5.heap.size 63 i0 (.agg #[(.int .u64 0), (.int .u64 0)]) 2 Try.underlying51 hi0 hz0 hz1 .i64 .i64 _ ((rl 32 a 0).length + (rl 32 b 0).length) rfl rfl (by omega) (by rw [hz2]; omega) (by unfold maxLen; omega) (Nat.le_refl _) ?_;
         intro w6 hown6 hg6;
         have HR6 : Hid (Kd.R k63 63 w6 w5.heap.size (fun _ => True) (.slice (some ⟨w5.heap.size, 0, none⟩) 0 ((rl 32 a 0).length + (rl 32 b 0).length)) []) := Lib.hid ⟨fun _ _ => trivial, [], hown6, ⟨rfl, fun j p hj => by cases hj⟩⟩;
         have HB6 := Lib.hid ((Below.refl w5.heap.size w5).grown hg6 (Nat.le_refl _) (fun k hk => by cases hk));
         have HC6 := Lib.hid (Kd.C_below HC35.out HB6.out);
         have HD6 := Lib.hid (Kd.C_below HC45.out HB6.out);
         clear hown6 hg6 hHC35)
      | ((with_reducible refine gate_builtin (b := .append) (xs := #[.tmp 36, .tmp 37]) rfl ?_); at_builtin;
         refine Kd.R_append_rows k63 (Rr := k63.K w6) (w0 := w5) w5.heap.size rfl (.tmp 36) (.tmp 37) 51 63 (.agg #[(.int .u64 0), (.int .u64 0)]) 16 rfl Try.underlying51 info63 rfl (by decide) (by omega) (.slice (some ⟨w5.heap.size, 0, none⟩) 0 ((rl 32 a 0).length + (rl 32 b 0).length)) [] (rl 32 a 0) A3 (rl 32 a 0).length c3 (fun _ => True) (fun _ => False) rfl rfl HR6.out HC6.out (HKM.out w6) (fun _ h => h.elim) (fun _ _ => trivial) HB6.out HB6.out.size (by simp only [List.length_nil]; omega) ?_;
         intro v7 w7 hr7 hb7 hg7 hat7;
         have HR7 := Lib.hid hr7; have HB7 := Lib.hid hb7;
         have HD7 := Lib.hid (Kd.C_below HC45.out HB7.out);
         clear hr7 hb7 hg7 hat7)
      | ((with_reducible refine gate_builtin (b := .append) (xs := #[.tmp 38, .tmp 39]) rfl ?_); at_builtin;
         refine Kd.R_append_rows k63 (Rr := k63.K w7) (w0 := w5) w5.heap.size rfl (.tmp 38) (.tmp 39) 51 63 (.agg #[(.int .u64 0), (.int .u64 0)]) 16 rfl Try.underlying51 info63 rfl (by decide) (by omega) v7 ([] ++ rl 32 a 0) (rl 32 b 0) A4 (rl 32 b 0).length c4 (fun _ => True) (fun _ => False) rfl rfl HR7.out HD7.out (HKM.out w7) (fun _ h => h.elim) (fun _ _ => trivial) HB7.out HB7.out.size (by simp only [List.nil_append]; omega) ?_;
         intro v8 w8 hr8 hb8 hg8 hat8;
         rw [List.nil_append] at hr8;
         obtain ⟨A8, c8, rfl⟩ := Kd.R_slice hr8;
         have HR8 := Lib.hid hr8; have HB8 := Lib.hid hb8;
         clear hr8 hb8 hg8 hat8)
      | fail)
    rw [show (rl 32 a 0).length + (rl 32 b 0).length = (rl 32 a 0 ++ rl 32 b 0).length from List.length_append.symm]
    obtain ⟨_, hc8, hC8⟩ := Kd.R_reads' HR8.out
    refine (Tree37 A8 c8 _ (T.sum a.norm b.norm).1 w8 hC8 hc8 (tree_sum a b HTA.out HTB.out HX.out 1000000 (Nat.le_refl _))).mono ?_
    rintro e w9 ⟨k1, rfl, hk1, hf1, hb9⟩
    have HI9 := Lib.hid ((HI5.out.step HB8.out).step hb9)
    have HK1 := Lib.hid hk1
    have HF1 := Lib.hid hf1
    have HS8 := Lib.hid HB8.out.size
    clear hc8 hC8 hk1 hf1 hb9 n1 n2 c1 c2 hsum
    go_wp2_with fail
    obtain ⟨W10, hW10⟩ : ∃ W, w9.alloc (.cells #[.bool k1.1.f0, .slice k1.2.1 k1.1.f1.length k1.2.2] 24) = W := ⟨_, rfl⟩
    have hb10 : Below w9.heap.size w9 W10 := by rw [← hW10]; exact (Below.refl _ _).alloc (Nat.le_refl _) _
    have gg : box24 W10 w9.heap.size k1 := by rw [← hW10]; exact box24.new _ _
    rw [hW10]
    have HI10 := Lib.hid (HI9.out.step hb10)
    have HF10 := Lib.hid (HF1.out.below hb10)
    have GG := Lib.hid gg
    clear hW10 hb10 gg
    refine (RefRight18 k1 _ HF10.out.1 HF10.out.now).mono ?_
    rintro e w11 ⟨rfl, hb11⟩
    have HI11 := Lib.hid (HI10.out.step hb11)
    have HF11 := Lib.hid (HF10.out.below hb11)
    have GG11 := Lib.hid (GG.out.below hb11)
    have b0 := GG11.out.c0
    have b1 := GG11.out.c1
    have o0 := cell0 HI11.out.out
    have o1 := cell1 HI11.out.out
    have fo := free2 HI11.out.out
    have HL5 := Lib.hid HI5.out.lt
    have HL9 := Lib.hid HI9.out.lt
    have ne1 : w9.heap.size ≠ w.heap.size + 1 + 1 := by have := HL9.out; omega
    have ne2 := ne1.symm
    clear hb11
    rw [show rightB k1.1 = decide (T.sum a.norm b.norm).1.right by rw [HK1.out, right_T]]
    by_cases hr : (T.sum a.norm b.norm).1.right
    · rw [decide_eq_true hr]
      go_wp2_with fail
      refine Sum24_out k1 0 HI11.out rfl rfl ?_
      intro W' hb' hm
      have hnf : (T.sum a.norm b.norm).1.norm = (T.sum a.norm b.norm).1 := T.norm_of_nf ((T.sum_spec 32 a.norm b.norm (T.norm_nf a) (T.norm_nf b) (norm_right HTA.out).1 (norm_right HTB.out).1).2 HX.out).1
      have hS : SumT a b = ((T.sum a.norm b.norm).1.toS, 0) := by unfold SumT; rw [HX.out, if_pos rfl, if_pos hr, hnf]
      exact ⟨k1, by rw [hS], by rw [hS]; exact HK1.out, (HF11.out.move (fun j hj => hm j (by have := HL5.out; have := HS8.out; omega))).mono (fun j hj => by have := HL5.out; have := HS8.out; omega), hb'⟩
    · rw [decide_eq_false hr]
      go_wp2_with fail
      refine Sum24_out (⟨false, []⟩, none, 0) 2 HI11.out rfl rfl ?_
      intro W' hb' _
      have hS : SumT a b = (⟨false, []⟩, 2) := by unfold SumT; rw [HX.out, if_pos rfl, if_neg hr]
      exact ⟨(⟨false, []⟩, none, 0), by rw [hS], by rw [hS], Ft.leaf _ _ _, hb'⟩
/-- The reference's Sum, of any two values that lie in memory. -/
theorem Sum24S (k m : Kd2) (w : World) (hk : k.1.f1.length ≤ k.2.2) (hkC : Kd.C k24 w k.2.1 k.1.f1.length k.1.f1) (hm : m.1.f1.length ≤ m.2.2) (hmC : Kd.C k24 w m.2.1 m.1.f1.length m.1.f1) :
    Calls Try.prog 24 #[kv k, kv m] w fun e w' => ∃ k1 : Kd2, e = .returned (.tuple #[kv k1, .int .i64 (SumS k.1 m.1).2]) ∧ k1.1 = (SumS k.1 m.1).1 ∧ Ft w' (fun j => w.heap.size ≤ j) k1 ∧ Below w.heap.size w w' := by
  rcases SumS_cases k.1 m.1 with h | ⟨a, b, ha, hb, hra, hrb⟩
  · refine (Sum24_bad k m w hk hkC hm hmC h).mono ?_
    rintro e w' ⟨rfl, hb⟩
    rw [SumS_bad _ _ h]
    exact ⟨(⟨false, []⟩, none, 0), rfl, rfl, Ft.leaf _ _ _, hb⟩
  · have := Sum24 k m a b w ha.symm hb.symm hra hrb hk hkC hm hmC
    rw [← ha, ← hb, SumS_T a b hra hrb]
    exact this
end Go.Proofs.Ytlhaofbncoijfaa.HandF
namespace Go.Proofs.Ytlhaofbncoijfaa.Tree
set_option linter.unusedVariables false
open Go.RowKit Go.Proofs.Ytlhaofbncoijfaa.X Go.Proofs.Ytlhaofbncoijfaa.Tree.T Go.Proofs.Ytlhaofbncoijfaa.HandF
open Go.Proofs.YtlhaofbncoijfaaW.PrintWords Go.Proofs.YtlhaofbncoijfaaW.PrintLast Go.Proofs.YtlhaofbncoijfaaW.PrintMore
/-- Are two values apart? -/
def apB (s u : S24) : Bool := rightB s && rightB u && (match T.ofS s, T.ofS u with | some a, some b => (T.sum a.norm b.norm).2 | _, _ => false)
theorem apB_T (a b : T) (ha : a.right) (hb : b.right) : apB a.toS b.toS = (T.sum a.norm b.norm).2 := by
  unfold apB
  rw [right_T, right_T, decide_eq_true ha, decide_eq_true hb, T.of_toS, T.of_toS]
  rfl
theorem apB_bad (s u : S24) (h : (rightB s && rightB u) = false) : apB s u = false := by
  unfold apB
  rw [h]
  rfl
theorem refApart_f (s u : S24) : pannierref04_Apart.f 10000 s.f0 s.f1 u.f0 u.f1 = some (apB s u) := by
  unfold pannierref04_Apart.f
  rw [refRight_f s _ (by omega), refRight_f u _ (by omega), Option.bind_some, Option.bind_some]
  cases hs : rightB s
  · rw [if_neg (by decide), apB_bad s u (by rw [hs]; rfl)]
  · cases hu : rightB u
    · rw [if_pos rfl, if_neg (by decide), apB_bad s u (by rw [hs, hu]; rfl)]
    · obtain ⟨a, rfl, ha⟩ := (right_iff s).1 hs
      obtain ⟨b, rfl, hb⟩ := (right_iff u).1 hu
      have n1 := rl_length a 32 0
      have n2 := rl_length b 32 0
      have c1 := ha.2
      have c2 := hb.2
      rw [if_pos rfl, if_pos rfl, Means_T a ha, Means_T b hb, Option.bind_some, Option.bind_some, meet_f _ _ (rl32 a) (by omega) (by omega) 10000 (by omega), Option.bind_some, meet_sum a b ha hb, Bool.not_not, apB_T a b ha hb]
end Go.Proofs.Ytlhaofbncoijfaa.Tree

namespace Go.Proofs.Ytlhaofbncoijfaa.HandF
set_option linter.unusedVariables false
set_option linter.unusedSimpArgs false
open Go.RowKit Go.Proofs.Ytlhaofbncoijfaa.X Go.Proofs.Ytlhaofbncoijfaa.Tree Go.Proofs.Ytlhaofbncoijfaa.Blocks
open Go.Proofs.YtlhaofbncoijfaaW.PrintWords Go.Proofs.YtlhaofbncoijfaaW.PrintLast Go.Proofs.YtlhaofbncoijfaaW.PrintMore
theorem apart_tells (k m : Kd2) (hk : k.1.f1.length ≤ k.2.2) (hm : m.1.f1.length ≤ m.2.2) : ∃ b, Tells 25 k m b ∧ Tells 26 k m b := by
  refine ⟨apB k.1 m.1, ?_, ?_⟩
  · rcases SumS_cases k.1 m.1 with h | ⟨a, b, ha, hb, hra, hrb⟩
    · rw [apB_bad _ _ h]
      exact Apart25_bad k m h hk hm
    · rw [← ha, ← hb, apB_T a b hra hrb]
      exact fun w c1 c2 => Apart25h k m a b w ha.symm hb.symm hra hrb hk c1 hm c2
  · obtain ⟨⟨s, l⟩, A, c⟩ := k
    obtain ⟨⟨u, l'⟩, B, d⟩ := m
    exact fun w c1 c2 => pannierref04_Apart.calls 10000 s A c l u B d l' _ w c1 hk c2 hm (refApart_f ⟨s, l⟩ ⟨u, l'⟩)
theorem same_tells (k m : Kd2) (hk : k.1.f1.length ≤ k.2.2) (hm : m.1.f1.length ≤ m.2.2) : ∃ b, Tells 23 k m b ∧ Tells 27 k m b :=
  ⟨sameB k.1 m.1, Same23_tells k m hk hm, Same27 k m hk hm⟩

set_option maxRecDepth 100000 in
set_option maxHeartbeats 40000000 in
theorem Sums7 (k m : Kd2) (w : World) (hk : k.1.f1.length ≤ k.2.2) (hkC : Kd.C k24 w k.2.1 k.1.f1.length k.1.f1) (hm : m.1.f1.length ≤ m.2.2) (hmC : Kd.C k24 w m.2.1 m.1.f1.length m.1.f1) :
    Calls Try.prog 7 #[kv k, kv m] w fun e w' => e = .returned (.bool true) ∧ Below w.heap.size w w' := by
  obtain ⟨ap, ha1, ha2⟩ := apart_tells k m hk hm
  obtain ⟨sm, hs1, hs2⟩ := same_tells k m hk hm
  have T25 := Lib.hid ha1
  have T26 := Lib.hid ha2
  have T23 := Lib.hid hs1
  have T27 := Lib.hid hs2
  have LK := Lib.hid hk
  have CK := Lib.hid hkC
  have LM := Lib.hid hm
  have CM := Lib.hid hmC
  obtain ⟨e1, he1⟩ : ∃ e, (SumS k.1 m.1).2 = e := ⟨_, rfl⟩
  have E1 := Lib.hid he1
  clear hk hkC hm hmC ha1 ha2 hs1 hs2 he1
  have hu24 := Try.underlying24
  have hu22 := Try.underlying22
  have hu26 := Try.underlying26
  go_enter Try.func7, Try.ntmps7
  go_wp2_with fail
  obtain ⟨W0, hW0⟩ : ∃ W0, (w.alloc (.cells #[.bool k.1.f0, .slice k.2.1 k.1.f1.length k.2.2] 24)).alloc (.cells #[.bool m.1.f0, .slice m.2.1 m.1.f1.length m.2.2] 24) = W0 := ⟨_, rfl⟩
  have hb0 : Below w.heap.size w W0 := by
    rw [← hW0]
    exact ((Below.refl _ _).alloc (Nat.le_refl _) _).alloc (by simp) _
  have ga : box24 W0 w.heap.size k := by rw [← hW0]; exact (box24.new _ _).alloc
  have gb : box24 W0 (w.heap.size + 1) m := by
    rw [← hW0]
    have := box24.new (w.alloc (.cells #[.bool k.1.f0, .slice k.2.1 k.1.f1.length k.2.2] 24)) m
    rwa [World.size_alloc] at this
  rw [hW0]
  have B0 := Lib.hid hb0
  have A0 := Lib.hid ga
  have M0 := Lib.hid gb
  clear hW0 hb0 ga gb
  refine (pannierlaw04_shown.calls true _ rfl).mono ?_
  rintro e w1 ⟨rfl, hb1⟩
  have A1 := Lib.hid (A0.out.below hb1)
  have M1 := Lib.hid (M0.out.below hb1)
  have B1 := Lib.hid (B0.out.trans (hb1.mono B0.out.size))
  clear hb1 A0 M0
  have a0 := A1.out.c0
  have a1 := A1.out.c1
  have m0 := M1.out.c0
  have m1 := M1.out.c1
  go_wp2_with fail
  clear a0 a1 m0 m1
  refine (Sum22S k m _ LK.out (Kd.C_below CK.out B1.out) LM.out (Kd.C_below CM.out B1.out)).mono ?_
  rintro e w2 ⟨x, rfl, hx, fx, hb2⟩
  rw [E1.out]
  have HX := Lib.hid hx
  have FX2 := Lib.hid fx
  have A2 := Lib.hid (A1.out.below hb2)
  have M2 := Lib.hid (M1.out.below hb2)
  have B2 := Lib.hid (B1.out.trans (hb2.mono B1.out.size))
  clear hx fx hb2 A1 M1
  have a0 := (A2.out.alloc (ob := .cells #[.bool x.1.f0, .slice x.2.1 x.1.f1.length x.2.2] 24)).c0
  have a1 := (A2.out.alloc (ob := .cells #[.bool x.1.f0, .slice x.2.1 x.1.f1.length x.2.2] 24)).c1
  have m0 := (M2.out.alloc (ob := .cells #[.bool x.1.f0, .slice x.2.1 x.1.f1.length x.2.2] 24)).c0
  have m1 := (M2.out.alloc (ob := .cells #[.bool x.1.f0, .slice x.2.1 x.1.f1.length x.2.2] 24)).c1
  go_wp2_with fail
  clear a0 a1 m0 m1
  obtain ⟨W3, hW3⟩ : ∃ W, w2.alloc (.cells #[.bool x.1.f0, .slice x.2.1 x.1.f1.length x.2.2] 24) = W := ⟨_, rfl⟩
  have hb3 : Below w2.heap.size w2 W3 := by rw [← hW3]; exact (Below.refl _ _).alloc (Nat.le_refl _) _
  have gx : box24 W3 w2.heap.size x := by rw [← hW3]; exact box24.new _ _
  rw [hW3]
  have X3 := Lib.hid gx
  have FX3 := Lib.hid (FX2.out.below hb3)
  have A3 := Lib.hid (A2.out.below hb3)
  have M3 := Lib.hid (M2.out.below hb3)
  have B3 := Lib.hid (B2.out.trans (hb3.mono B2.out.size))
  clear gx hb3 hW3 FX2 A2 M2
  refine (Sum24S k m _ LK.out (Kd.C_below CK.out B3.out) LM.out (Kd.C_below CM.out B3.out)).mono ?_
  rintro e w4 ⟨y, rfl, hy, fy, hb4⟩
  rw [E1.out]
  have HY := Lib.hid hy
  have FY4 := Lib.hid fy
  have X4 := Lib.hid (X3.out.below hb4)
  have FX4 := Lib.hid (FX3.out.below hb4)
  have A4 := Lib.hid (A3.out.below hb4)
  have M4 := Lib.hid (M3.out.below hb4)
  have B4 := Lib.hid (B3.out.trans (hb4.mono B3.out.size))
  clear hy fy hb4 X3 FX3 A3 M3
  go_wp2_with fail
  obtain ⟨W5, hW5⟩ : ∃ W, w4.alloc (.cells #[.bool y.1.f0, .slice y.2.1 y.1.f1.length y.2.2] 24) = W := ⟨_, rfl⟩
  have hb5 : Below w4.heap.size w4 W5 := by rw [← hW5]; exact (Below.refl _ _).alloc (Nat.le_refl _) _
  have gy : box24 W5 w4.heap.size y := by rw [← hW5]; exact box24.new _ _
  rw [hW5]
  have HB5 := Lib.hid (B4.out.trans (hb5.mono B4.out.size))
  have HELD : Hid (∀ W, Below W5.heap.size W5 W →
      W.cell? ⟨w.heap.size, 0, none⟩ = some (.bool k.1.f0) ∧ W.cell? ⟨w.heap.size, 1, none⟩ = some (.slice k.2.1 k.1.f1.length k.2.2) ∧
      W.cell? ⟨w.heap.size + 1, 0, none⟩ = some (.bool m.1.f0) ∧ W.cell? ⟨w.heap.size + 1, 1, none⟩ = some (.slice m.2.1 m.1.f1.length m.2.2) ∧
      W.cell? ⟨w2.heap.size, 0, none⟩ = some (.bool x.1.f0) ∧ W.cell? ⟨w2.heap.size, 1, none⟩ = some (.slice x.2.1 x.1.f1.length x.2.2) ∧
      W.cell? ⟨w4.heap.size, 0, none⟩ = some (.bool y.1.f0) ∧ W.cell? ⟨w4.heap.size, 1, none⟩ = some (.slice y.2.1 y.1.f1.length y.2.2)) := Lib.hid (fun W hW => by
    have a := (A4.out.below hb5).below hW
    have b := (M4.out.below hb5).below hW
    have c := (X4.out.below hb5).below hW
    have d := gy.below hW
    exact ⟨a.c0, a.c1, b.c0, b.c1, c.c0, c.c1, d.c0, d.c1⟩)
  have FX5 := Lib.hid (FX4.out.below hb5)
  have FY5 := Lib.hid (FY4.out.below hb5)
  have CK5 : Hid (Kd.C k24 W5 k.2.1 k.1.f1.length k.1.f1) := Lib.hid (Kd.C_below CK.out HB5.out)
  have CM5 : Hid (Kd.C k24 W5 m.2.1 m.1.f1.length m.1.f1) := Lib.hid (Kd.C_below CM.out HB5.out)
  obtain ⟨tx, htx, rtx⟩ := SumS_tree k.1 m.1
  have TX : Hid (x.1 = tx.toS) := Lib.hid (by rw [HX.out, htx])
  have TY : Hid (y.1 = tx.toS) := Lib.hid (by rw [HY.out, htx])
  have EQ : Hid (T.eqb tx tx = true) := Lib.hid (eqb_self _)
  have e11 : (e1 == e1) = true := by simp
  have Y0 : Hid (Below W5.heap.size W5 W5) := Lib.hid (Below.refl _ _)
  have Y1 : Hid (Below W5.heap.size W5 W5.drew) := Lib.hid (Below.refl _ _).drew
  clear htx rtx hb5 gy hW5 A4 M4 X4 FX4 FY4
  go_region_held3 (fun W => W.cell? ⟨w.heap.size, 0, none⟩ = some (.bool k.1.f0) ∧ W.cell? ⟨w.heap.size, 1, none⟩ = some (.slice k.2.1 k.1.f1.length k.2.2) ∧
      W.cell? ⟨w.heap.size + 1, 0, none⟩ = some (.bool m.1.f0) ∧ W.cell? ⟨w.heap.size + 1, 1, none⟩ = some (.slice m.2.1 m.1.f1.length m.2.2) ∧
      W.cell? ⟨w2.heap.size, 0, none⟩ = some (.bool x.1.f0) ∧ W.cell? ⟨w2.heap.size, 1, none⟩ = some (.slice x.2.1 x.1.f1.length x.2.2) ∧
      W.cell? ⟨w4.heap.size, 0, none⟩ = some (.bool y.1.f0) ∧ W.cell? ⟨w4.heap.size, 1, none⟩ = some (.slice y.2.1 y.1.f1.length y.2.2))
    (with_reducible first | exact HELD.out _ Y1.out | exact HELD.out _ Y0.out | exact HELD.out _ Z1.out | exact HELD.out _ Z2.out | exact HELD.out _ Z3.out | exact HELD.out _ Z4.out | exact HELD.out _ Z5.out)
    (first
      | (go_at_call 27; (with_reducible refine (T27.out _ (Kd.C_below CK5.out Z4.out) (Kd.C_below CM5.out Z4.out)).mono ?_); rintro e w15 ⟨rfl, hb15⟩; have Z5 := Lib.hid (Z4.out.trans (hb15.mono Z4.out.size)); clear hb15)
      | (go_at_call 23; (with_reducible refine (T23.out _ (Kd.C_below CK5.out Z3.out) (Kd.C_below CM5.out Z3.out)).mono ?_); rintro e w14 ⟨rfl, hb14⟩; have Z4 := Lib.hid (Z3.out.trans (hb14.mono Z3.out.size)); clear hb14)
      | (go_at_call 26; (with_reducible refine (T26.out _ (Kd.C_below CK5.out Z2.out) (Kd.C_below CM5.out Z2.out)).mono ?_); rintro e w13 ⟨rfl, hb13⟩; have Z3 := Lib.hid (Z2.out.trans (hb13.mono Z2.out.size)); clear hb13)
      | (go_at_call 25; (with_reducible refine (T25.out _ (Kd.C_below CK5.out Z1.out) (Kd.C_below CM5.out Z1.out)).mono ?_); rintro e w12 ⟨rfl, hb12⟩; have Z2 := Lib.hid (Z1.out.trans (hb12.mono Z1.out.size)); clear hb12)
      | (go_at_call 19; (with_reducible refine (Equal19 x y tx tx _ TX.out TY.out (FX5.out.below Y1.out).len (FX5.out.below Y1.out).now (FY5.out.below Y1.out).len (FY5.out.below Y1.out).now).mono ?_); rintro e w11 ⟨rfl, hb11⟩; have Z1 := Lib.hid (Y1.out.trans (hb11.mono Y1.out.size)); rw [EQ.out]; clear hb11))
  all_goals
    have HB6 := Lib.hid (HB5.out.trans (Z5.out.mono HB5.out.size))
    go_wp2_with fail
    go_ret
    exact ⟨rfl, HB6.out⟩
end Go.Proofs.Ytlhaofbncoijfaa.HandF

namespace Go.Proofs.Ytlhaofbncoijfaa.HandF
set_option linter.unusedVariables false
set_option linter.unusedSimpArgs false
set_option maxRecDepth 100000
open Go.RowKit Go.ChangeShapes Go.WideShapes Go.Deep Go.Proofs.Ytlhaofbncoijfaa.X
open Go.Proofs.YtlhaofbncoijfaaW.PrintWords Go.Proofs.YtlhaofbncoijfaaW.PrintLast Go.Proofs.YtlhaofbncoijfaaW.PrintMore

theorem cells24 : Try.prog.cellsOf 24 = 2 := by kernel_rfl
theorem cells4 : Try.prog.cellsOf 4 = 1 := by kernel_rfl
theorem cells22 : Try.prog.cellsOf 22 = 1 := by kernel_rfl


theorem open_cells {H : Type} {enc : TypeId × Value → H} {W : World} {base : Nat} {spare : Nat → Bool} {held : Bool} : ∀ (n : Nat) {cs : List Value} {y : DataW H × List MemPlace},
    DataW.trod enc Try.prog W base spare held n 24 cs = some y → ∃ k : Kd2, cs = [.bool k.1.f0, .slice k.2.1 k.1.f1.length k.2.2] ∧ k.1.f1.length ≤ k.2.2 ∧ Kd.C k24 W k.2.1 k.1.f1.length k.1.f1 := by
  intro n
  induction n using Nat.strongRecOn with
  | _ n ih =>
  intro cs y h
  obtain ⟨ys, m, hm, hy, hcl, hyl, hf⟩ := DataW.trod_struct Try.underlying24 h
  have f0 : DataW.trod enc Try.prog W base spare held m 4 ((cs.drop 0).take (Try.prog.cellsOf 4)) = ys[0]? := hf 0 _ rfl
  have f1 : DataW.trod enc Try.prog W base spare held m 22 ((cs.drop 1).take (Try.prog.cellsOf 22)) = ys[1]? := hf 1 _ rfl
  rw [cells4] at f0
  rw [cells22] at f1
  rw [cells24] at hcl
  match cs, hcl with
  | [c0, c1], _ =>
    match ys, hyl with
    | [y0, y1], _ =>
      obtain ⟨b, e0, _⟩ := DataW.trod_bool Try.underlying4 (show DataW.trod enc Try.prog W base spare held m 4 [c0] = some y0 from f0)
      cases e0
      have g1 : DataW.trod enc Try.prog W base spare held m 22 [c1] = some y1 := f1
      rcases DataW.trod_slice Try.underlying22 g1 with ⟨hc, _⟩ | ⟨a, len, cap, elems, rest, n', hn', hc, _, hb, hl, hmx, hlen, hel, _, _⟩
      · cases hc
        exact ⟨(⟨b, []⟩, none, 0), rfl, Nat.le_refl _, Kd.C_nil _ _⟩
      · cases hc
        rw [cells24] at hel
        obtain ⟨V, hV⟩ := (haveI : Inhabited S24 := ⟨z24⟩; choose_lt (n := len) (α := S24) (p := fun i p => ∃ cs', W.cells? base (a.add (i * 2)) 2 = some cs' ∧ k24.K W p cs') (fun i hil => by
          have h1 := hel i hil
          rw [List.getElem?_eq_getElem (by omega)] at h1
          obtain ⟨cs', h2, h3⟩ := Option.bind_eq_some_iff.1 h1
          obtain ⟨k, rfl, kl, kC⟩ := ih n' (by omega) h3
          exact ⟨k.1, _, h2, k24_mk W k.1 kl kC⟩))
        have hget : ∀ i (p : S24), ((List.range len).map V)[i]? = some p → i < len ∧ V i = p := fun i p hp => by
          rw [List.getElem?_map] at hp
          obtain ⟨j, hj, rfl⟩ := Option.map_eq_some_iff.1 hp
          obtain ⟨hjl, hje⟩ := List.getElem?_eq_some_iff.1 hj
          rw [List.getElem_range] at hje
          rw [List.length_range] at hjl
          subst hje
          exact ⟨hjl, rfl⟩
        refine ⟨(⟨b, (List.range len).map V⟩, some a, cap), by simp, by simpa using hl, rfl, ?_, fun _ => ⟨a, rfl, fun j p hj => ?_⟩⟩
        · have : cap ≤ maxLen := hmx
          unfold maxLen at this
          simp only [List.length_map, List.length_range]
          omega
        · obtain ⟨hjl, rfl⟩ := hget j p hj
          obtain ⟨cs', h1, h2⟩ := hV j hjl
          obtain ⟨_, hcl', hat⟩ := World.cells?_some h1
          refine ⟨cs', hcl', h2, fun i u hu => ?_⟩
          have hi2 : i < 2 := by have := (List.getElem?_eq_some_iff.1 hu).1; omega
          have := hat i hi2
          rw [Go.Deep.add_add] at this
          exact this.trans hu
/-- A tree that is an argument. -/
theorem open_tree {H : Type} {enc : TypeId × Value → H} {W : World} {base : Nat} {spare : Nat → Bool} {held : Bool} {r : Reach} {b0 : Nat} {v : Value} {d : DataW H} {ps : List MemPlace} (hval : Value.okWide Try.prog W r b0 24 v)
    (h : DataW.Trod enc Try.prog W base spare held 24 v d ps) : ∃ k : Kd2, v = kv k ∧ k.1.f1.length ≤ k.2.2 ∧ Kd.C k24 W k.2.1 k.1.f1.length k.1.f1 := by
  simp only [Value.okWide, Try.underlying24] at hval
  obtain ⟨cs, rfl, _, _⟩ := hval
  obtain ⟨fuel, hf⟩ := h
  obtain ⟨k, e, h1, h2⟩ := open_cells fuel hf
  refine ⟨k, ?_, h1, h2⟩
  have e' : cs.toList = [.bool k.1.f0, .slice k.2.1 k.1.f1.length k.2.2] := e
  show Value.agg cs = .agg #[.bool k.1.f0, .slice k.2.1 k.1.f1.length k.2.2]
  rw [show cs = cs.toList.toArray by simp, e']
end Go.Proofs.Ytlhaofbncoijfaa.HandF
