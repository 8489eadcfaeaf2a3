/- Plain laws of sums: whichever order, and what Sum answers of any two values. -/
import Derived.Test.YtlhaofbncoijfaaSumMath
import Derived.Test.YtlhaofbncoijfaaX19
namespace Go.Proofs.Ytlhaofbncoijfaa.Tree
set_option linter.unusedVariables false
set_option linter.unusedSimpArgs false
open Go.RowKit Go.Proofs.Ytlhaofbncoijfaa.X Go.Proofs.Ytlhaofbncoijfaa.Tree.T Go.Proofs.Ytlhaofbncoijfaa.HandF

theorem sum_comm' (a b : T) (ha : Nf a) (hb : Nf b) (ra : a.depth ≤ 32) (rb : b.depth ≤ 32) : (T.sum a b).2 = (T.sum b a).2 ∧ ((T.sum a b).2 = true → (T.sum a b).1 = (T.sum b a).1) := by
  have h1 := sum_spec 32 a b ha hb ra rb
  have h2 := sum_spec 32 b a hb ha rb ra
  have hx : (T.sum a b).2 = true ↔ (T.sum b a).2 = true := by
    rw [h1.1, h2.1]
    exact ⟨fun h p hp hh => h p hp ⟨hh.2, hh.1⟩, fun h p hp hh => h p hp ⟨hh.2, hh.1⟩⟩
  refine ⟨?_, fun h => ?_⟩
  · cases h3 : (T.sum a b).2
    · cases h4 : (T.sum b a).2
      · rfl
      · rw [hx.2 h4] at h3; cases h3
    · exact (hx.1 h3).symm
  · obtain ⟨n1, d1, p1⟩ := h1.2 h
    obtain ⟨n2, d2, p2⟩ := h2.2 (hx.1 h)
    exact canon 32 n1 n2 d1 d2 fun p hp => by rw [p1 p hp, p2 p hp, Bool.or_comm]
theorem SumT_eq {a b c d : T} (h1 : (T.sum a.norm b.norm).2 = (T.sum c.norm d.norm).2) (h2 : (T.sum a.norm b.norm).2 = true → (T.sum a.norm b.norm).1 = (T.sum c.norm d.norm).1) : SumT a b = SumT c d := by
  unfold SumT
  cases h : (T.sum a.norm b.norm).2
  · rw [h] at h1; rw [← h1]; rfl
  · rw [← h1, h2 h, h]
theorem SumT_comm (a b : T) (ha : a.right) (hb : b.right) : SumT a b = SumT b a := by
  have := sum_comm' a.norm b.norm (norm_nf a) (norm_nf b) (norm_right ha).1 (norm_right hb).1
  exact SumT_eq this.1 this.2
/-- What Sum hands back, of any two values. -/
def SumS (s u : S24) : S24 × Int :=
  if rightB s && rightB u then (match T.ofS s, T.ofS u with | some a, some b => SumT a b | _, _ => (⟨false, []⟩, 2)) else (⟨false, []⟩, 2)
theorem SumS_T (a b : T) (ha : a.right) (hb : b.right) : SumS a.toS b.toS = SumT a b := by
  unfold SumS
  rw [right_T, right_T, decide_eq_true ha, decide_eq_true hb, T.of_toS, T.of_toS]
  rfl
theorem SumS_bad (s u : S24) (h : (rightB s && rightB u) = false) : SumS s u = (⟨false, []⟩, 2) := by
  unfold SumS
  rw [h, if_neg (by decide)]
theorem SumS_cases (s u : S24) : (rightB s && rightB u) = false ∨ ∃ a b : T, a.toS = s ∧ b.toS = u ∧ a.right ∧ b.right := by
  cases h : rightB s && rightB u
  · exact .inl rfl
  · rw [Bool.and_eq_true] at h
    obtain ⟨a, ha, hra⟩ := (right_iff _).1 h.1
    obtain ⟨b, hb, hrb⟩ := (right_iff _).1 h.2
    exact .inr ⟨a, b, ha, hb, hra, hrb⟩
theorem SumS_comm (s u : S24) : SumS s u = SumS u s := by
  rcases SumS_cases s u with h | ⟨a, b, rfl, rfl, ha, hb⟩
  · rw [SumS_bad _ _ h, SumS_bad _ _ (by rw [Bool.and_comm]; exact h)]
  · rw [SumS_T a b ha hb, SumS_T b a hb ha, SumT_comm a b ha hb]
theorem SumT_tree (a b : T) : ∃ t : T, (SumT a b).1 = t.toS ∧ t.right ∧ Nf t ∧ ((SumT a b).2 = 0 → (T.sum a.norm b.norm).2 = true ∧ t = (T.sum a.norm b.norm).1.norm) := by
  unfold SumT
  split
  · split
    · rename_i h1 h2
      exact ⟨_, rfl, norm_right h2, norm_nf _, fun _ => ⟨h1, rfl⟩⟩
    · exact ⟨.leaf false, rfl, by decide, trivial, fun h => by cases h⟩
  · exact ⟨.leaf false, rfl, by decide, trivial, fun h => by cases h⟩
theorem SumS_tree (s u : S24) : ∃ t : T, (SumS s u).1 = t.toS ∧ t.right := by
  rcases SumS_cases s u with h | ⟨a, b, rfl, rfl, ha, hb⟩
  · exact ⟨.leaf false, by rw [SumS_bad _ _ h]; rfl, by decide⟩
  · obtain ⟨t, h1, h2, _⟩ := SumT_tree a b
    exact ⟨t, by rw [SumS_T a b ha hb]; exact h1, h2⟩
/-- Sums are the same in whichever order. -/
theorem SumS_three (s u v : S24) (h1 : (SumS s u).2 = 0) (h2 : (SumS u v).2 = 0) : SumS (SumS s u).1 v = SumS s (SumS u v).1 := by
  rcases SumS_cases s u with h | ⟨a, b, rfl, rfl, ha, hb⟩
  · rw [SumS_bad _ _ h] at h1; cases h1
  rcases SumS_cases b.toS v with h | ⟨b', c, hb', rfl, _, hc⟩
  · rw [SumS_bad _ _ h] at h2; cases h2
  clear hb'
  rw [SumS_T a b ha hb] at h1 ⊢
  rw [SumS_T b c hb hc] at h2 ⊢
  obtain ⟨x, ex, rx, nx, fx⟩ := SumT_tree a b
  obtain ⟨y, ey, ry, ny, fy⟩ := SumT_tree b c
  obtain ⟨ox, rfl⟩ := fx h1
  obtain ⟨oy, rfl⟩ := fy h2
  rw [ex, ey, SumS_T _ c rx hc, SumS_T a _ ha ry]
  have na := norm_nf a
  have nb := norm_nf b
  have nc := norm_nf c
  have da := (norm_right ha).1
  have db := (norm_right hb).1
  have dc := (norm_right hc).1
  have sx := sum_spec 32 a.norm b.norm na nb da db
  have sy := sum_spec 32 b.norm c.norm nb nc db dc
  obtain ⟨xn, xd, xp⟩ := sx.2 ox
  obtain ⟨yn, yd, yp⟩ := sy.2 oy
  have ax := sx.1.1 ox
  have ay := sy.1.1 oy
  have e1 : (T.sum a.norm b.norm).1.norm.norm = (T.sum a.norm b.norm).1 := by rw [norm_of_nf (norm_nf _), norm_of_nf xn]
  have e2 : (T.sum b.norm c.norm).1.norm.norm = (T.sum b.norm c.norm).1 := by rw [norm_of_nf (norm_nf _), norm_of_nf yn]
  have sp := sum_spec 32 (T.sum a.norm b.norm).1 c.norm xn nc xd dc
  have sq := sum_spec 32 a.norm (T.sum b.norm c.norm).1 na yn da yd
  have hx : (T.sum (T.sum a.norm b.norm).1 c.norm).2 = true ↔ (T.sum a.norm (T.sum b.norm c.norm).1).2 = true := by
    rw [sp.1, sq.1]
    constructor
    · intro h p hp hh
      rw [yp p hp, Bool.or_eq_true] at hh
      rcases hh.2 with h3 | h3
      · exact ax p hp ⟨hh.1, h3⟩
      · exact h p hp ⟨by rw [xp p hp, hh.1]; rfl, h3⟩
    · intro h p hp hh
      rw [xp p hp, Bool.or_eq_true] at hh
      rcases hh.1 with h3 | h3
      · exact h p hp ⟨h3, by rw [yp p hp, hh.2, Bool.or_true]⟩
      · exact ay p hp ⟨h3, hh.2⟩
  refine SumT_eq ?_ ?_
  · rw [e1, e2]
    cases h3 : (T.sum (T.sum a.norm b.norm).1 c.norm).2
    · cases h4 : (T.sum a.norm (T.sum b.norm c.norm).1).2
      · rfl
      · rw [hx.2 h4] at h3; cases h3
    · exact (hx.1 h3).symm
  · rw [e1, e2]
    intro h3
    obtain ⟨n1, d1, p1⟩ := sp.2 h3
    obtain ⟨n2, d2, p2⟩ := sq.2 (hx.1 h3)
    exact canon 32 n1 n2 d1 d2 fun p hp => by rw [p1 p hp, p2 p hp, xp p hp, yp p hp, Bool.or_assoc]
theorem Equal_T : ∀ (a b : T) (k : Nat), 5 * a.depth + 5 ≤ k → pannierref04_Equal.f k a.toS.f0 a.toS.f1 b.toS.f0 b.toS.f1 = some (T.eqb a b)
  | a, b, 0, h => by omega
  | a, b, 1, h => by omega
  | a, b, 2, h => by omega
  | a, b, 3, h => by omega
  | a, b, 4, h => by omega
  | leaf x, leaf y, k + 5, h => by
    cases x <;> cases y <;> simp [pannierref04_Equal.f, pannierref04_Equal.j0, pannierref04_Equal.l0, toS, eqb]
  | leaf x, node c d, k + 5, h => by
    cases x <;> simp [pannierref04_Equal.f, pannierref04_Equal.j0, pannierref04_Equal.l0, toS, eqb]
  | node a b, leaf y, k + 5, h => by
    cases y <;> simp [pannierref04_Equal.f, pannierref04_Equal.j0, pannierref04_Equal.l0, toS, eqb]
  | node a b, node c d, k + 5, h => by
    simp only [depth] at h
    have h1 := Equal_T a c (k + 2) (by omega)
    have h2 := Equal_T b d (k + 1) (by omega)
    have r0 : ∀ u v : S24, rd_T24 [u, v] 0 = u := fun _ _ => rfl
    have r1 : ∀ u v : S24, rd_T24 [u, v] 1 = v := fun _ _ => rfl
    have w0 : Go.RowKit.wrap64 (0 + 1) = 1 := by decide +kernel
    have w1 : Go.RowKit.wrap64 (1 + 1) = 2 := by decide +kernel
    rw [show k + 5 = k + 4 + 1 from rfl, pannierref04_Equal.f, toS, toS]
    dsimp only
    rw [if_neg (by decide)]
    rw [show k + 4 = k + 3 + 1 from rfl, pannierref04_Equal.j0, if_neg (by simp)]
    rw [show k + 3 = k + 2 + 1 from rfl, pannierref04_Equal.l0, if_pos (by simp), if_pos (by simp), if_pos (by simp), r0, r0, h1, Option.bind_some, eqb]
    cases eqb a c
    · rfl
    · rw [if_pos rfl, w0, show k + 2 = k + 1 + 1 from rfl, pannierref04_Equal.l0, if_pos (by simp), if_pos (by simp), if_pos (by simp), r1, r1, h2, Option.bind_some]
      cases eqb b d
      · rfl
      · rw [if_pos rfl, w1, pannierref04_Equal.l0, if_neg (by simp)]
        rfl
end Go.Proofs.Ytlhaofbncoijfaa.Tree
