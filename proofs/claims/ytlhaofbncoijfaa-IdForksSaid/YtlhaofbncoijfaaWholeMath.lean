/- The printed Norm, Split, Whole and what is shown, plainly. -/
import Derived.Test.YtlhaofbncoijfaaPoints
import Derived.Test.YtlhaofbncoijfaaRightMath
import Derived.Test.YtlhaofbncoijfaaX12
import Derived.Test.YtlhaofbncoijfaaX20
namespace Go.Proofs.Ytlhaofbncoijfaa.Tree
set_option linter.unusedVariables false
set_option linter.unusedSimpArgs false
open Go.Proofs.Ytlhaofbncoijfaa.X Go.Proofs.Ytlhaofbncoijfaa.HandF
open T
theorem eta24 (s : S24) : (⟨s.f0, s.f1⟩ : S24) = s := by cases s; rfl
theorem Right_f (t : T) : id_Right.f t.toS.f0 t.toS.f1 = some (decide t.right) := by
  unfold id_Right.f
  rw [eta24 t.toS, right_T]
theorem Norm_f (t : T) (k : Nat) (h : t.right) (hk : 33 ≤ k) : id_Norm.f k t.toS.f0 t.toS.f1 = some (t.norm.toS.f0, t.norm.toS.f1, 0) := by
  unfold id_Norm.f
  rw [Right_f, decide_eq_true h, Option.bind_some, if_pos rfl, norm_f t k (by have := h.1; omega)]
  rfl
theorem Norm_bad (s : S24) (k : Nat) (h : rightB s = false) : id_Norm.f k s.f0 s.f1 = some (false, [], 2) := by
  unfold id_Norm.f id_Right.f
  rw [eta24 s, h]
  rfl
theorem split_f (t : T) : id_split.f t.toS.f0 t.toS.f1 = some (t.split.1.toS.f0, t.split.1.toS.f1, t.split.2.toS.f0, t.split.2.toS.f1) := by
  unfold id_split.f
  rw [eta24 t.toS, of_toS]
  rfl
theorem sum_f (a b : T) : id_sum.f a.toS.f0 a.toS.f1 b.toS.f0 b.toS.f1 = some ((sum a b).1.toS.f0, (sum a b).1.toS.f1, (sum a b).2) := by
  unfold id_sum.f
  rw [eta24 a.toS, eta24 b.toS, of_toS, of_toS]
theorem Split_f (t : T) (k : Nat) (h : t.right) (hk : 33 ≤ k) (h1 : t.norm.split.1.right) (h2 : t.norm.split.2.right) :
    id_Split.f k t.toS.f0 t.toS.f1 = some (t.norm.split.1.toS.f0, t.norm.split.1.toS.f1, t.norm.split.2.toS.f0, t.norm.split.2.toS.f1, 0) := by
  unfold id_Split.f
  rw [Norm_f t k h hk, Option.bind_some, if_pos rfl, split_f, Option.bind_some]
  rw [Right_f, Right_f, decide_eq_true h1, decide_eq_true h2]
  rfl
theorem Split_deep (t : T) (k : Nat) (h : t.right) (hk : 33 ≤ k) (h1 : ¬ (t.norm.split.1.right ∧ t.norm.split.2.right)) :
    id_Split.f k t.toS.f0 t.toS.f1 = some (false, [], false, [], 41) := by
  unfold id_Split.f
  rw [Norm_f t k h hk, Option.bind_some, if_pos rfl, split_f, Option.bind_some]
  rw [Right_f, Right_f]
  by_cases ha : t.norm.split.1.right
  · have hb : ¬ t.norm.split.2.right := fun hb => h1 ⟨ha, hb⟩
    rw [decide_eq_true ha, decide_eq_false hb]
    rfl
  · rw [decide_eq_false ha]
    rfl
theorem Split_bad (s : S24) (k : Nat) (h : rightB s = false) : id_Split.f k s.f0 s.f1 = some (false, [], false, [], 2) := by
  unfold id_Split.f
  rw [Norm_bad s k h]
  rfl
theorem Show_f (t : T) (h : t.right) : id_Show.f t.toS.f0 t.toS.f1 = some (⟨t.norm.text.toArray⟩, 0) := by
  unfold id_Show.f
  rw [eta24 t.toS, right_T, decide_eq_true h, if_pos rfl, of_toS]
  rfl
/-- What is shown holds. -/
theorem shown_f (k : Nat) (hk : 33 ≤ k) : pannierlaw04_shown.f k = some true := by
  unfold pannierlaw04_shown.f
  have hs : id_Split.f k true [] = some ((node (leaf true) (leaf false)).toS.f0, (node (leaf true) (leaf false)).toS.f1, (node (leaf false) (leaf true)).toS.f0, (node (leaf false) (leaf true)).toS.f1, 0) :=
    Split_f (leaf true) k (by decide) hk (by decide) (by decide)
  rw [hs, Option.bind_some, Show_f _ (by decide), Option.bind_some, Show_f _ (by decide)]
  decide +kernel

/-- How many of a row have a piece. -/
def cnt (L : List T) (p : Nat) : Nat := (L.map fun t => (t.has 32 p).toNat).sum
/-- What Whole goes through. -/
def wholeF (acc : T) : List S24 → Bool
  | [] => acc.isOne
  | s :: r => if rightB s = true then (match ofS s with | some t => if (sum acc t.norm).2 = true then wholeF (sum acc t.norm).1 r else false | none => false) else false
theorem rd_drop {l : List S24} {i : Nat} {s : S24} {r : List S24} (h : l.drop i = s :: r) : rd_T24 l (i : Int) = s ∧ l.drop (i + 1) = r ∧ i < l.length := by
  have hlt : i < l.length := by
    rcases Nat.lt_or_ge i l.length with h1 | h1
    · exact h1
    · rw [List.drop_eq_nil_of_le h1] at h; cases h
  rw [List.drop_eq_getElem_cons hlt] at h
  injection h with h1 h2
  refine ⟨?_, h2, hlt⟩
  unfold rd_T24
  rw [Int.toNat_natCast, List.getD_eq_getElem?_getD, List.getElem?_eq_getElem hlt]
  exact h1
theorem Whole_l0 (l : List S24) (hl : l.length ≤ 1000) : ∀ (m i k : Nat) (acc : T), l.length - i = m → i ≤ l.length → m + 34 ≤ k →
    id_Whole.l0 k l l (l.length : Int) (i : Int) acc.toS.f0 acc.toS.f1 = some (wholeF acc (l.drop i) && decide ((l.length : Int) ≤ 64)) := by
  intro m
  induction m with
  | zero =>
    intro i k acc hm hi hk
    obtain ⟨k, rfl⟩ : ∃ j, k = j + 1 := ⟨k - 1, by omega⟩
    rw [id_Whole.l0, if_neg (by omega), show i = l.length by omega, List.drop_length, wholeF]
    cases acc with
    | leaf b => cases b <;> rfl
    | node a b => rfl
  | succ m ih =>
    intro i k acc hm hi hk
    obtain ⟨k, rfl⟩ : ∃ j, k = j + 1 := ⟨k - 1, by omega⟩
    have hd := List.drop_eq_getElem_cons (l := l) (i := i) (by omega)
    obtain ⟨hs, hr, hlt⟩ := rd_drop hd
    rw [id_Whole.l0, if_pos (by omega), if_pos (by omega), if_pos (by omega), hs, hd, wholeF]
    generalize l[i] = s
    unfold id_Right.f
    rw [eta24 s, Option.bind_some]
    cases hrb : rightB s
    · rw [if_neg (by decide), if_neg (by decide)]; rfl
    · obtain ⟨t, rfl, ht⟩ := (right_iff s).1 hrb
      rw [if_pos rfl, if_pos rfl, of_toS, norm_f t k (by have := ht.1; omega), Option.bind_some, sum_f, Option.bind_some]
      dsimp only
      cases hq : (sum acc t.norm).2
      · rw [if_neg (by decide), if_neg (by decide)]; rfl
      · rw [if_pos rfl, if_pos rfl, show Go.RowKit.wrap64 ((i : Int) + 1) = ((i + 1 : Nat) : Int) by unfold Go.RowKit.wrap64; omega]
        exact ih (i + 1) k _ (by omega) (by omega) (by omega)
theorem Whole_f (l : List S24) (hl : l.length ≤ 1000) (k : Nat) (hk : l.length + 34 ≤ k) : id_Whole.f k l = some (wholeF (leaf false) l && decide ((l.length : Int) ≤ 64)) := by
  unfold id_Whole.f
  exact Whole_l0 l hl l.length 0 k (leaf false) (by omega) (by omega) hk
/-- When are trees whole? -/
theorem wholeF_iff : ∀ (Ls : List S24) (acc : T), Nf acc → acc.depth ≤ 32 →
    (wholeF acc Ls = true ↔ ∃ L : List T, L.map toS = Ls ∧ (∀ t ∈ L, t.right) ∧ ∀ p, p < 2 ^ 32 → (acc.has 32 p).toNat + cnt L p = 1)
  | [], acc, ha, hd => by
    rw [wholeF]
    constructor
    · intro h
      refine ⟨[], rfl, (fun t ht => by cases ht), fun p hp => ?_⟩
      cases acc with
      | leaf b => simp only [isOne] at h; rw [has_leaf, h]; rfl
      | node a b => simp [isOne] at h
    · rintro ⟨L, hL, _, h⟩
      obtain rfl : L = [] := by simpa using hL
      have := canon 32 (b := leaf true) ha trivial hd (by simp [depth]) (fun p hp => by
        have := h p hp
        simp only [cnt, List.map_nil, List.sum_nil] at this
        rw [has_leaf]
        cases hb : has 32 acc p
        · rw [hb] at this; simp at this
        · rfl)
      rw [this]; rfl
  | s :: r, acc, ha, hd => by
    rw [wholeF]
    cases hrb : rightB s
    · rw [if_neg (by decide)]
      constructor
      · intro h; cases h
      · rintro ⟨L, hL, hr, _⟩
        cases L with
        | nil => cases hL
        | cons t L =>
          simp only [List.map_cons, List.cons.injEq] at hL
          have := (right_iff s).2 ⟨t, hL.1, hr t (by simp)⟩
          rw [hrb] at this; cases this
    · obtain ⟨t, rfl, ht⟩ := (right_iff s).1 hrb
      rw [if_pos rfl, of_toS]
      have hnd : t.norm.depth ≤ 32 := (norm_right ht).1
      obtain ⟨hiff, hsp⟩ := sum_spec 32 acc t.norm ha (norm_nf t) hd hnd
      have hn : ∀ p, t.norm.has 32 p = t.has 32 p := fun p => has_norm 32 t p ht.1
      simp only
      cases hq : (sum acc t.norm).2
      · rw [if_neg (by decide)]
        constructor
        · intro h; cases h
        · rintro ⟨L, hL, hr, hc⟩
          cases L with
          | nil => cases hL
          | cons t' L =>
            simp only [List.map_cons, List.cons.injEq] at hL
            obtain rfl := toS_inj hL.1
            have := hiff.2 (fun p hp ⟨h1, h2⟩ => by
              have := hc p hp
              rw [hn] at h2
              simp only [cnt, List.map_cons, List.sum_cons, h1, h2] at this
              simp at this)
            rw [hq] at this; cases this
      · rw [if_pos rfl]
        obtain ⟨h1, h2, h3⟩ := hsp hq
        have hap := hiff.1 hq
        rw [wholeF_iff r _ h1 h2]
        have key : ∀ (L : List T) p, p < 2 ^ 32 → ((sum acc t.norm).1.has 32 p).toNat + cnt L p = (acc.has 32 p).toNat + cnt (t :: L) p := fun L p hp => by
          have hx := hap p hp
          rw [hn] at hx
          rw [h3 p hp, hn]
          simp only [cnt, List.map_cons, List.sum_cons]
          cases hu : acc.has 32 p <;> cases hv : t.has 32 p
          · simp
          · simp
          · simp
          · exact absurd ⟨hu, hv⟩ hx
        constructor
        · rintro ⟨L, hL, hr, hc⟩
          exact ⟨t :: L, by rw [List.map_cons, hL], fun x hx => by rcases List.mem_cons.1 hx with rfl | hx; exact ht; exact hr x hx, fun p hp => by rw [← key L p hp]; exact hc p hp⟩
        · rintro ⟨L, hL, hr, hc⟩
          cases L with
          | nil => cases hL
          | cons t' L =>
            simp only [List.map_cons, List.cons.injEq] at hL
            obtain rfl := toS_inj hL.1
            exact ⟨L, hL.2, fun x hx => hr x (by simp [hx]), fun p hp => by rw [key L p hp]; exact hc p hp⟩
/-- A split at thirty-two levels. -/
theorem split32 (t : T) (h : t.depth ≤ 32) (h1 : t.split.1.depth ≤ 32) (h2 : t.split.2.depth ≤ 32) (p : Nat) (hp : p < 2 ^ 32) :
    (t.split.1.has 32 p || t.split.2.has 32 p) = t.has 32 p ∧ ¬ (t.split.1.has 32 p = true ∧ t.split.2.has 32 p = true) := by
  have := split_spec 32 t h (2 * p) (by rw [Nat.pow_succ]; omega)
  rw [(has_double 32 _ p h1).1, (has_double 32 _ p h2).1, (has_double 32 _ p h).1] at this
  exact this
end Go.Proofs.Ytlhaofbncoijfaa.Tree
