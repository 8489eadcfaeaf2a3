/- Which trees are right, plainly; and the normal form as it is printed. -/
import Derived.Test.YtlhaofbncoijfaaRight
import Derived.Test.YtlhaofbncoijfaaTree
import Derived.Test.YtlhaofbncoijfaaX36
namespace Go.Proofs.Ytlhaofbncoijfaa.Tree
set_option linter.unusedVariables false
set_option linter.unusedSimpArgs false
open Go.Proofs.Ytlhaofbncoijfaa.X Go.Proofs.Ytlhaofbncoijfaa.HandF

def okN (x : Int × S24) : Prop := x.1 ≤ 32 ∧ (x.2.f1.length = 0 ∨ x.2.f1.length = 2) ∧ ¬ (x.2.f1.length = 2 ∧ x.2.f0 = true)
theorem bad_iff (n : Nat) (x : Int × S24) : Bad n x ↔ ¬ okN x ∨ 2047 < n + 1 := by
  unfold Bad okN
  constructor
  · rintro (h | h | h | h)
    · left; omega
    · right; exact h
    · left; intro h2; omega
    · left; intro h2; exact h2.2.2 h
  · rintro (h | h)
    · by_cases h1 : 32 < x.1
      · exact .inl h1
      · by_cases h2 : x.2.f1.length = 2 ∧ x.2.f0 = true
        · exact .inr (.inr (.inr h2))
        · refine .inr (.inr (.inl ⟨fun e => ?_, fun e => ?_⟩))
          · exact h ⟨by omega, .inl e, h2⟩
          · exact h ⟨by omega, .inr e, h2⟩
    · exact .inr (.inl h)
theorem rightL_iff : ∀ (L : List (Int × S24)) (n : Nat), n ≤ 2047 → (rightL n L = true ↔ (∀ x ∈ L, okN x) ∧ n + L.length ≤ 2047)
  | [], n, hn => by simp [rightL, hn]
  | x :: L, n, hn => by
    rw [rightL]
    by_cases hb : Bad n x
    · rw [if_pos hb]
      rcases (bad_iff n x).1 hb with h | h
      · constructor
        · intro h2; cases h2
        · intro h2; exact absurd (h2.1 x (by simp)) h
      · constructor
        · intro h2; cases h2
        · intro h2; have := h2.2; simp at this; omega
    · rw [if_neg hb]
      have h1 : okN x := Classical.byContradiction fun h => hb ((bad_iff n x).2 (.inl h))
      have h2 : n + 1 ≤ 2047 := Nat.le_of_not_lt fun h => hb ((bad_iff n x).2 (.inr h))
      rw [rightL_iff L (n + 1) h2]
      simp only [List.mem_cons, forall_eq_or_imp, List.length_cons, h1, true_and]
      rw [show n + 1 + L.length = n + (L.length + 1) by omega]
theorem nodes_ok : ∀ (m : Nat) (d : Int) (s : S24), d + m = 33 → ((∀ x ∈ nodesL m d s, okN x) ↔ ∃ t : T, t.toS = s ∧ d + t.depth ≤ 32)
  | 0, d, s, hd => by
    constructor
    · intro h
      have := (h (d, s) (by simp [nodesL])).1
      dsimp only at this
      omega
    · rintro ⟨t, _, h⟩; omega
  | m + 1, d, s, hd => by
    rw [nodesL]
    constructor
    · intro h
      obtain ⟨h1, h2, h3⟩ := h (d, s) (by simp)
      dsimp only at h1 h2 h3
      obtain ⟨b, l⟩ := s
      dsimp only at h2 h3
      match l, h, h2, h3 with
      | [], h, _, _ => exact ⟨.leaf b, rfl, by simp only [T.depth]; omega⟩
      | [_], _, h2, _ => simp at h2
      | _ :: _ :: _ :: _, _, h2, _ => simp at h2
      | [x, y], h, _, h3 =>
        obtain rfl : b = false := by simpa using h3
        obtain ⟨tx, hx, dx⟩ := (nodes_ok m (d + 1) x (by omega)).1 (fun z hz => h z (by simp [hz]))
        obtain ⟨ty, hy, dy⟩ := (nodes_ok m (d + 1) y (by omega)).1 (fun z hz => h z (by simp [hz]))
        refine ⟨.node tx ty, by rw [T.toS, hx, hy], ?_⟩
        simp only [T.depth]
        omega
    · rintro ⟨t, rfl, h⟩ x hx
      cases t with
      | leaf b =>
        simp only [T.toS, List.map_nil, List.flatten_nil, List.mem_singleton] at hx
        subst hx
        exact ⟨by dsimp only; omega, .inl rfl, fun h => by simp at h⟩
      | node a b =>
        simp only [T.depth] at h
        simp only [T.toS, List.map_cons, List.map_nil, List.flatten_cons, List.flatten_nil, List.append_nil, List.mem_cons, List.mem_append] at hx
        rcases hx with rfl | hx | hx
        · exact ⟨by dsimp only; omega, .inr rfl, fun h => by simp at h⟩
        · exact (nodes_ok m (d + 1) a.toS (by omega)).2 ⟨a, rfl, by omega⟩ x hx
        · exact (nodes_ok m (d + 1) b.toS (by omega)).2 ⟨b, rfl, by omega⟩ x hx
theorem nodes_len : ∀ (m : Nat) (d : Int) (t : T), d + m = 33 → d + t.depth ≤ 32 → (nodesL m d t.toS).length = t.count
  | 0, d, t, hd, h => by omega
  | m + 1, d, .leaf b, hd, h => by simp [nodesL, T.toS, T.count]
  | m + 1, d, .node a b, hd, h => by
    simp only [T.depth] at h
    rw [nodesL]
    simp only [T.toS, List.map_cons, List.map_nil, List.flatten_cons, List.flatten_nil, List.append_nil, List.length_cons, List.length_append]
    rw [nodes_len m (d + 1) a (by omega) (by omega), nodes_len m (d + 1) b (by omega) (by omega), T.count]
    omega
/-- Which trees are right. -/
def T.right (t : T) : Prop := t.depth ≤ 32 ∧ t.count ≤ 2047
theorem right_iff (s : S24) : rightB s = true ↔ ∃ t : T, t.toS = s ∧ t.right := by
  unfold rightB
  rw [rightL_iff _ 0 (by omega), nodes_ok 33 0 s rfl]
  constructor
  · rintro ⟨⟨t, rfl, h⟩, h2⟩
    rw [nodes_len 33 0 t rfl h] at h2
    exact ⟨t, rfl, by omega, by omega⟩
  · rintro ⟨t, rfl, h1, h2⟩
    refine ⟨⟨t, rfl, by omega⟩, ?_⟩
    rw [nodes_len 33 0 t rfl (by omega)]
    omega
instance (t : T) : Decidable t.right := by unfold T.right; infer_instance
theorem right_T (t : T) : rightB t.toS = decide t.right := by
  by_cases h : t.right
  · rw [decide_eq_true h]; exact (right_iff _).2 ⟨t, rfl, h⟩
  · rw [decide_eq_false h]
    cases hb : rightB t.toS
    · rfl
    · obtain ⟨t', h1, h2⟩ := (right_iff _).1 hb
      rw [T.toS_inj h1] at h2
      exact absurd h2 h

theorem join_isf (a b : T) : id_join.f a.toS.f0 a.toS.f1 b.toS.f0 b.toS.f1 = some ((T.join a b).toS.f0, (T.join a b).toS.f1) := by
  cases a with
  | leaf x => cases b with
    | leaf y => cases x <;> cases y <;> rfl
    | node c d => rfl
  | node c d => cases b <;> rfl
/-- The printed normal form. -/
theorem norm_f : ∀ (t : T) (k : Nat), t.depth < k → id_norm.f k t.toS.f0 t.toS.f1 = some (t.norm.toS.f0, t.norm.toS.f1)
  | .leaf b, k, h => by
    obtain ⟨k, rfl⟩ : ∃ m, k = m + 1 := ⟨k - 1, by simp [T.depth] at h; omega⟩
    rfl
  | .node a b, k, h => by
    obtain ⟨k, rfl⟩ : ∃ m, k = m + 1 := ⟨k - 1, by simp [T.depth] at h; omega⟩
    simp only [T.depth] at h
    have ha := norm_f a k (by omega)
    have hb := norm_f b k (by omega)
    rw [id_norm.f]
    have e0 : rd_T24 (T.node a b).toS.f1 0 = a.toS := rfl
    have e1 : rd_T24 (T.node a b).toS.f1 1 = b.toS := rfl
    have el : id_isLeaf.f (T.node a b).toS.f0 (T.node a b).toS.f1 = some false := rfl
    have l2 : ((T.node a b).toS.f1.length : Int) = 2 := rfl
    rw [e0, e1, el, l2, ha, hb]
    simp only [Option.bind_some]
    rw [if_neg (by decide), if_pos (by decide), if_pos (by decide), join_isf]
    rfl
theorem norm_count : ∀ t : T, t.norm.count ≤ t.count
  | .leaf b => Nat.le_refl _
  | .node a b => by
    have ha := norm_count a
    have hb := norm_count b
    simp only [T.norm, T.join, T.count]
    split <;> simp only [T.count] <;> omega
theorem norm_depth : ∀ t : T, t.norm.depth ≤ t.depth
  | .leaf b => Nat.le_refl _
  | .node a b => by
    have ha := norm_depth a
    have hb := norm_depth b
    simp only [T.norm, T.join, T.depth]
    split <;> simp only [T.depth] <;> omega
theorem norm_right {t : T} (h : t.right) : t.norm.right := ⟨Nat.le_trans (norm_depth t) h.1, Nat.le_trans (norm_count t) h.2⟩
theorem text_length : ∀ t : T, t.text.length ≤ 3 * t.count
  | .leaf b => by cases b <;> simp [T.text, T.count]
  | .node a b => by
    have ha := text_length a
    have hb := text_length b
    simp [T.text, T.count]
    omega
end Go.Proofs.Ytlhaofbncoijfaa.Tree
