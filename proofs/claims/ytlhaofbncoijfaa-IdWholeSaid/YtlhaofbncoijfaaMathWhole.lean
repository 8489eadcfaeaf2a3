/- The plain facts of one law, in one text. -/
import Derived.Test.YtlhaofbncoijfaaPoints
import Derived.Test.YtlhaofbncoijfaaHandM
import Derived.Test.YtlhaofbncoijfaaX18
import Derived.Test.YtlhaofbncoijfaaX45
import Derived.Test.YtlhaofbncoijfaaRightMath
import Derived.Test.YtlhaofbncoijfaaX20
import Derived.Test.YtlhaofbncoijfaaX21
import Derived.Test.YtlhaofbncoijfaaX4
import Derived.Test.YtlhaofbncoijfaaKids
import Derived.Deep.Slices
import Derived.Deep.Fields
import Derived.ChangeSame
import Derived.SizedLaws
namespace Go.Proofs.Ytlhaofbncoijfaa.Tree
set_option linter.unusedVariables false
set_option linter.unusedSimpArgs false
open Go.RowKit Go.Proofs.Ytlhaofbncoijfaa.X Go.Proofs.Ytlhaofbncoijfaa.Tree.T Go.Proofs.Ytlhaofbncoijfaa.HandF
open Go.Proofs.YtlhaofbncoijfaaW.PrintWords Go.Proofs.YtlhaofbncoijfaaW.PrintLast Go.Proofs.YtlhaofbncoijfaaW.PrintMore

theorem pow_cast (n : Nat) : ((2 ^ n : Nat) : Int) = (2 : Int) ^ n := by simp
/-- A piece lies in a range. -/
def inR (x : S63) (q : Int) : Prop := x.f0 ≤ q ∧ q < x.f1
theorem rl_range : ∀ (n : Nat) (t : T) (f : Int), ∀ x ∈ rl n t f, f ≤ x.f0 ∧ x.f0 < x.f1 ∧ x.f1 ≤ f + 2 ^ n
  | n, leaf b, f, x, hx => by
    have hp : (0 : Int) < 2 ^ n := Int.pow_pos (by decide)
    rw [rl_leaf] at hx
    cases b
    · simp at hx
    · simp at hx
      subst hx
      exact ⟨Int.le_refl _, by show f < f + 2 ^ n; omega, Int.le_refl _⟩
  | 0, node a b, f, x, hx => by simp [rl] at hx
  | n + 1, node a b, f, x, hx => by
    have hp : (0 : Int) < 2 ^ n := Int.pow_pos (by decide)
    have hs : (2 : Int) ^ (n + 1) = 2 ^ n * 2 := Int.pow_succ 2 n
    rw [rl, List.mem_append] at hx
    rcases hx with hx | hx
    · have := rl_range n a f x hx
      omega
    · have := rl_range n b _ x hx
      omega
theorem rl_has : ∀ (n : Nat) (t : T) (f : Int), t.depth ≤ n → ∀ p, p < 2 ^ n → (has n t p = true ↔ ∃ x ∈ rl n t f, inR x (f + (p : Int)))
  | n, leaf b, f, _, p, hp => by
    have hc := pow_cast n
    rw [has_leaf, rl_leaf]
    cases b
    · simp
    · simp only [if_pos, List.mem_singleton, exists_eq_left, true_iff]
      refine ⟨?_, ?_⟩
      · show f ≤ f + p; omega
      · show f + (p : Int) < f + 2 ^ n; rw [← hc]; omega
  | 0, node a b, f, hd, p, hp => by simp [depth] at hd
  | n + 1, node a b, f, hd, p, hp => by
    simp only [depth] at hd
    have hc := pow_cast n
    rcases half hp with hq | ⟨q, rfl, hq⟩
    · rw [has_left hq, rl_has n a f (by omega) p hq, rl]
      constructor
      · rintro ⟨x, hx, hi⟩
        exact ⟨x, List.mem_append_left _ hx, hi⟩
      · rintro ⟨x, hx, hi⟩
        rcases List.mem_append.1 hx with hx | hx
        · exact ⟨x, hx, hi⟩
        · have := rl_range n b _ x hx
          unfold inR at hi
          omega
    · rw [has_right, rl_has n b (f + 2 ^ n) (by omega) q hq, rl]
      have e : f + ((q + 2 ^ n : Nat) : Int) = f + 2 ^ n + (q : Int) := by rw [Int.natCast_add, hc]; omega
      rw [e]
      constructor
      · rintro ⟨x, hx, hi⟩
        exact ⟨x, List.mem_append_right _ hx, hi⟩
      · rintro ⟨x, hx, hi⟩
        rcases List.mem_append.1 hx with hx | hx
        · have := rl_range n a _ x hx
          unfold inR at hi
          omega
        · exact ⟨x, hx, hi⟩
/-- Ranges cut to a range. -/
def withinL (a b : Int) : List S63 → List S63
  | [] => []
  | x :: r => (if mx x.f0 a < mn x.f1 b then [⟨mx x.f0 a, mn x.f1 b⟩] else []) ++ withinL a b r
theorem withinL_length (a b : Int) : ∀ l : List S63, (withinL a b l).length ≤ l.length
  | [] => Nat.le_refl _
  | x :: r => by
    have := withinL_length a b r
    rw [withinL, List.length_append, List.length_cons]
    split <;> simp <;> omega
theorem rd63_drop {l : List S63} {i : Nat} (h : i < l.length) : rd_T63 l (i : Int) = l[i] ∧ l.drop i = l[i] :: l.drop (i + 1) := by
  refine ⟨?_, List.drop_eq_getElem_cons h⟩
  unfold rd_T63
  rw [Int.toNat_natCast, List.getD_eq_getElem?_getD, List.getElem?_eq_getElem h]
  rfl
theorem wrap_next (i : Nat) (h : i ≤ 1000000000) : wrap64 ((i : Int) + 1) = ((i + 1 : Nat) : Int) := by unfold wrap64; omega
theorem within_l0 (l : List S63) (a s : Int) (hw : IntKind.u64.wrap (a + s) = a + s) (hl : l.length ≤ 1000000) : ∀ (m i k : Nat) (acc : List S63), l.length - i = m → i ≤ l.length → acc.length ≤ i → m + 1 ≤ k →
    pannierref04_within.l0 k l a s acc (i : Int) = some (acc ++ withinL a (a + s) (l.drop i)) := by
  intro m
  induction m with
  | zero =>
    intro i k acc hm hi ha hk
    obtain ⟨k, rfl⟩ : ∃ j, k = j + 1 := ⟨k - 1, by omega⟩
    rw [pannierref04_within.l0, if_neg (by omega), show i = l.length by omega, List.drop_length, withinL, List.append_nil]
  | succ m ih =>
    intro i k acc hm hi ha hk
    obtain ⟨k, rfl⟩ : ∃ j, k = j + 1 := ⟨k - 1, by omega⟩
    obtain ⟨h1, h2⟩ := rd63_drop (l := l) (i := i) (by omega)
    rw [pannierref04_within.l0, if_pos (by omega), if_pos (by omega), h1, hw, h2, withinL, wrap_next i (by omega)]
    by_cases hc : mx l[i].f0 a < mn l[i].f1 (a + s)
    · rw [if_pos hc, if_pos hc, if_pos (by omega), ih (i + 1) k _ (by omega) (by omega) (by rw [List.length_append, List.length_singleton]; omega) (by omega), List.append_assoc]
    · rw [if_neg hc, if_neg hc, ih (i + 1) k _ (by omega) (by omega) (by omega) (by omega), List.nil_append]
theorem within_f (l : List S63) (a s : Int) (hw : IntKind.u64.wrap (a + s) = a + s) (hl : l.length ≤ 1000000) (k : Nat) (hk : l.length + 1 ≤ k) : pannierref04_within.f k l a s = some (withinL a (a + s) l) := by
  unfold pannierref04_within.f
  have := within_l0 l a s hw hl l.length 0 k [] (by omega) (by omega) (by simp) hk
  simpa using this
theorem mem_within (a b : Int) : ∀ (l : List S63) (y : S63), y ∈ withinL a b l ↔ ∃ x ∈ l, mx x.f0 a < mn x.f1 b ∧ y = ⟨mx x.f0 a, mn x.f1 b⟩
  | [], y => by simp [withinL]
  | x :: r, y => by
    rw [withinL, List.mem_append, mem_within a b r]
    by_cases hc : mx x.f0 a < mn x.f1 b
    · rw [if_pos hc]; simp [hc]
    · rw [if_neg hc]; simp [hc]
theorem mx_le (a b c : Int) : mx a b ≤ c ↔ a ≤ c ∧ b ≤ c := by unfold mx; split <;> omega
theorem lt_mn (a b c : Int) : c < mn a b ↔ c < a ∧ c < b := by unfold mn; split <;> omega
/-- Does some piece lie in both? -/
def meetL (a b : List S63) : Bool := a.any fun x => !(withinL x.f0 x.f1 b).isEmpty
theorem meet_l0 (a b : List S63) (ha : ∀ x ∈ a, 0 ≤ x.f0 ∧ x.f0 < x.f1 ∧ x.f1 ≤ 4294967296) (hla : a.length ≤ 1000000) (hlb : b.length ≤ 1000000) : ∀ (m i k : Nat), a.length - i = m → i ≤ a.length → m + b.length + 2 ≤ k →
    pannierref04_meet.l0 k a b (i : Int) = some (meetL (a.drop i) b) := by
  intro m
  induction m with
  | zero =>
    intro i k hm hi hk
    obtain ⟨k, rfl⟩ : ∃ j, k = j + 1 := ⟨k - 1, by omega⟩
    rw [pannierref04_meet.l0, if_neg (by omega), show i = a.length by omega, List.drop_length]
    rfl
  | succ m ih =>
    intro i k hm hi hk
    obtain ⟨k, rfl⟩ : ∃ j, k = j + 1 := ⟨k - 1, by omega⟩
    obtain ⟨h1, h2⟩ := rd63_drop (l := a) (i := i) (by omega)
    have hx := ha a[i] (List.getElem_mem _)
    have e1 : IntKind.u64.wrap (a[i].f1 - a[i].f0) = a[i].f1 - a[i].f0 := u64_small _ (by omega) (by omega)
    have e2 : IntKind.u64.wrap (a[i].f0 + (a[i].f1 - a[i].f0)) = a[i].f0 + (a[i].f1 - a[i].f0) := u64_small _ (by omega) (by omega)
    rw [pannierref04_meet.l0, if_pos (by omega), if_pos (by omega), h1, e1, within_f b _ _ e2 hlb k (by omega), Option.bind_some, h2, wrap_next i (by omega), ih (i + 1) k (by omega) (by omega) (by omega)]
    rw [show a[i].f0 + (a[i].f1 - a[i].f0) = a[i].f1 by omega]
    simp only [meetL, List.any_cons]
    cases hw : withinL a[i].f0 a[i].f1 b with
    | nil => rw [if_neg (by simp)]; rfl
    | cons y r => rw [if_pos (by simp)]; rfl
theorem meet_f (a b : List S63) (ha : ∀ x ∈ a, 0 ≤ x.f0 ∧ x.f0 < x.f1 ∧ x.f1 ≤ 4294967296) (hla : a.length ≤ 1000000) (hlb : b.length ≤ 1000000) (k : Nat) (hk : a.length + b.length + 2 ≤ k) : pannierref04_meet.f k a b = some (meetL a b) := by
  unfold pannierref04_meet.f
  exact meet_l0 a b ha hla hlb a.length 0 k (by omega) (by omega) hk
/-- Two trees' pieces meet where both have a piece. -/
theorem meet_T {t u : T} (ht : t.depth ≤ 32) (hu : u.depth ≤ 32) : meetL (rl 32 t 0) (rl 32 u 0) = true ↔ ∃ p, p < 2 ^ 32 ∧ has 32 t p = true ∧ has 32 u p = true := by
  unfold meetL
  rw [List.any_eq_true]
  constructor
  · rintro ⟨x, hx, hw⟩
    cases hl : withinL x.f0 x.f1 (rl 32 u 0) with
    | nil => rw [hl] at hw; cases hw
    | cons z r =>
      obtain ⟨y, hy, hlt, _⟩ := (mem_within _ _ _ z).1 (by rw [hl]; exact List.mem_cons_self)
      have rx := rl_range 32 t 0 x hx
      have ry := rl_range 32 u 0 y hy
      have h1 := (mx_le y.f0 x.f0 (mx y.f0 x.f0)).1 (Int.le_refl _)
      have h2 := (lt_mn y.f1 x.f1 _).1 hlt
      have hb : (0 : Int) + 2 ^ 32 = 4294967296 := by decide
      rw [hb] at rx ry
      have hq : ((mx y.f0 x.f0).toNat : Int) = mx y.f0 x.f0 := Int.toNat_of_nonneg (by omega)
      have hlt32 : (mx y.f0 x.f0).toNat < 2 ^ 32 := by
        have : (2 : Nat) ^ 32 = 4294967296 := by decide
        omega
      refine ⟨(mx y.f0 x.f0).toNat, hlt32, ?_, ?_⟩
      · rw [rl_has 32 t 0 ht _ hlt32, hq]
        exact ⟨x, hx, by unfold inR; omega⟩
      · rw [rl_has 32 u 0 hu _ hlt32, hq]
        exact ⟨y, hy, by unfold inR; omega⟩
  · rintro ⟨p, hp, h1, h2⟩
    obtain ⟨x, hx, hix⟩ := (rl_has 32 t 0 ht p hp).1 h1
    obtain ⟨y, hy, hiy⟩ := (rl_has 32 u 0 hu p hp).1 h2
    refine ⟨x, hx, ?_⟩
    have : (⟨mx y.f0 x.f0, mn y.f1 x.f1⟩ : S63) ∈ withinL x.f0 x.f1 (rl 32 u 0) := (mem_within _ _ _ _).2 ⟨y, hy, (by
      unfold inR at hix hiy
      rw [lt_mn]
      have h3 := (mx_le y.f0 x.f0 (0 + (p : Int))).2 ⟨hiy.1, hix.1⟩
      omega), rfl⟩
    cases hl : withinL x.f0 x.f1 (rl 32 u 0) with
    | nil => rw [hl] at this; cases this
    | cons z r => rfl
end Go.Proofs.Ytlhaofbncoijfaa.Tree
namespace Go.Proofs.Ytlhaofbncoijfaa.Tree
set_option linter.unusedVariables false
set_option linter.unusedSimpArgs false
open Go.RowKit Go.Proofs.Ytlhaofbncoijfaa.X Go.Proofs.Ytlhaofbncoijfaa.Tree.T Go.Proofs.Ytlhaofbncoijfaa.HandF

theorem count_pos : ∀ t : T, 1 ≤ t.count
  | leaf _ => Nat.le_refl _
  | node a b => by simp only [T.count]; omega
/-- Is a value a tree up to a depth and a count? -/
def Fits (s : S24) (m : Nat) (left : Nat) (r : Int) : Prop :=
  (r = -1 ∧ ¬ ∃ t : T, t.toS = s ∧ t.depth ≤ m ∧ t.count ≤ left) ∨ ∃ t : T, t.toS = s ∧ t.depth ≤ m ∧ t.count ≤ left ∧ r = (left : Int) - t.count
theorem right_f : ∀ (m : Nat) (s : S24) (left k : Nat), m ≤ 1000 → left ≤ 100000 → 5 * m + 6 ≤ k → ∃ r, pannierref04_right.f k s.f0 s.f1 (m : Int) (left : Int) = some r ∧ Fits s m left r := by
  intro m
  induction m with
  | zero =>
    rintro ⟨b, l⟩ left k hm hleft hk
    obtain ⟨k, rfl⟩ : ∃ j, k = j + 4 := ⟨k - 4, by omega⟩
    have hw : wrap64 ((left : Int) - 1) = (left : Int) - 1 := by unfold wrap64; omega
    dsimp only
    rw [show k + 4 = k + 3 + 1 from rfl, pannierref04_right.f, hw]
    by_cases h0 : (left : Int) - 1 < 0
    · rw [if_pos h0, show k + 3 = k + 2 + 1 from rfl, pannierref04_right.j0, if_pos rfl]
      exact ⟨-1, rfl, .inl ⟨rfl, fun ⟨t, _, _, h⟩ => by have := count_pos t; omega⟩⟩
    · rw [if_neg h0]
      match l with
      | [] =>
        rw [if_pos (by simp), show k + 3 = k + 2 + 1 from rfl, pannierref04_right.j0, if_neg (by decide), show k + 2 = k + 1 + 1 from rfl, pannierref04_right.l0, if_neg (by simp)]
        exact ⟨_, rfl, .inr ⟨leaf b, rfl, Nat.le_refl _, by simp only [T.count]; omega, by simp only [T.count]; omega⟩⟩
      | [x, y] =>
        rw [if_neg (by simp), if_pos (by simp)]
        have hno : ¬ ∃ t : T, t.toS = ⟨b, [x, y]⟩ ∧ t.depth ≤ 0 ∧ t.count ≤ left := by
          rintro ⟨t, ht, hd, _⟩
          cases t with
          | leaf c => simp [T.toS] at ht
          | node c d => simp only [T.depth] at hd; omega
        cases b
        · rw [if_neg (by decide), show k + 3 = k + 2 + 1 from rfl, pannierref04_right.j0, if_pos (by simp)]
          exact ⟨-1, rfl, .inl ⟨rfl, hno⟩⟩
        · rw [if_pos rfl, show k + 3 = k + 2 + 1 from rfl, pannierref04_right.j0, if_pos rfl]
          exact ⟨-1, rfl, .inl ⟨rfl, hno⟩⟩
      | [x] =>
        rw [if_neg (by simp), if_neg (by simp), show k + 3 = k + 2 + 1 from rfl, pannierref04_right.j0, if_pos rfl]
        exact ⟨-1, rfl, .inl ⟨rfl, fun ⟨t, ht, _⟩ => by cases t <;> simp [T.toS] at ht⟩⟩
      | x :: y :: z :: r =>
        rw [if_neg (by simp; omega), if_neg (by simp; omega), show k + 3 = k + 2 + 1 from rfl, pannierref04_right.j0, if_pos rfl]
        exact ⟨-1, rfl, .inl ⟨rfl, fun ⟨t, ht, _⟩ => by cases t <;> simp [T.toS] at ht⟩⟩
  | succ m ih =>
    rintro ⟨b, l⟩ left k hm hleft hk
    obtain ⟨k, rfl⟩ : ∃ j, k = j + 6 := ⟨k - 6, by omega⟩
    have hw : wrap64 ((left : Int) - 1) = (left : Int) - 1 := by unfold wrap64; omega
    have hwm : wrap64 (((m + 1 : Nat) : Int) - 1) = (m : Int) := by unfold wrap64; omega
    have w0 : wrap64 (0 + 1) = 1 := by decide +kernel
    have w1 : wrap64 (1 + 1) = 2 := by decide +kernel
    dsimp only
    rw [show k + 6 = k + 5 + 1 from rfl, pannierref04_right.f, hw]
    by_cases h0 : (left : Int) - 1 < 0
    · rw [if_pos h0, show k + 5 = k + 4 + 1 from rfl, pannierref04_right.j0, if_pos rfl]
      exact ⟨-1, rfl, .inl ⟨rfl, fun ⟨t, _, _, h⟩ => by have := count_pos t; omega⟩⟩
    · rw [if_neg h0]
      match l with
      | [] =>
        rw [if_pos (by simp), show k + 5 = k + 4 + 1 from rfl, pannierref04_right.j0, if_neg (by decide), show k + 4 = k + 3 + 1 from rfl, pannierref04_right.l0, if_neg (by simp)]
        exact ⟨_, rfl, .inr ⟨leaf b, rfl, Nat.zero_le _, by simp only [T.count]; omega, by simp only [T.count]; omega⟩⟩
      | [x] =>
        rw [if_neg (by simp), if_neg (by simp), show k + 5 = k + 4 + 1 from rfl, pannierref04_right.j0, if_pos rfl]
        exact ⟨-1, rfl, .inl ⟨rfl, fun ⟨t, ht, _⟩ => by cases t <;> simp [T.toS] at ht⟩⟩
      | x :: y :: z :: r =>
        rw [if_neg (by simp; omega), if_neg (by simp; omega), show k + 5 = k + 4 + 1 from rfl, pannierref04_right.j0, if_pos rfl]
        exact ⟨-1, rfl, .inl ⟨rfl, fun ⟨t, ht, _⟩ => by cases t <;> simp [T.toS] at ht⟩⟩
      | [x, y] =>
        rw [if_neg (by simp), if_pos (by simp)]
        cases b
        · have hz : ((((m + 1 : Nat) : Int)) == 0) = false := by simp; omega
          rw [if_neg (by decide), hz, show k + 5 = k + 4 + 1 from rfl, pannierref04_right.j0, if_neg (by decide)]
          have r0 : rd_T24 [x, y] 0 = x := rfl
          have r1 : rd_T24 [x, y] 1 = y := rfl
          obtain ⟨L, hL⟩ : ∃ L : Nat, (L : Int) = (left : Int) - 1 := ⟨left - 1, by omega⟩
          rw [← hL]
          obtain ⟨ra, ea, fa⟩ := ih x L (k + 3) (by omega) (by omega) (by omega)
          rw [show k + 4 = k + 3 + 1 from rfl, pannierref04_right.l0, if_pos (by simp), if_pos (by omega), if_pos (by omega), r0, hwm, ea, Option.bind_some, w0]
          have kids : ∀ t : T, t.toS = ⟨false, [x, y]⟩ → ∃ c d : T, t = node c d ∧ c.toS = x ∧ d.toS = y := by
            intro t ht
            cases t with
            | leaf c => simp [T.toS] at ht
            | node c d =>
              simp only [T.toS, S24.mk.injEq, List.cons.injEq, and_true, true_and] at ht
              exact ⟨c, d, rfl, ht.1, ht.2⟩
          rcases fa with ⟨rfl, hno⟩ | ⟨ta, hta, hda, hca, rfl⟩
          · rw [show k + 3 = k + 2 + 1 from rfl, pannierref04_right.l0, if_pos (by simp), if_neg (by omega)]
            refine ⟨-1, rfl, .inl ⟨rfl, ?_⟩⟩
            rintro ⟨t, ht, hd, hc⟩
            obtain ⟨c, d, rfl, hc', hd'⟩ := kids t ht
            simp only [T.depth, T.count] at hd hc
            exact hno ⟨c, hc', by omega, by omega⟩
          · obtain ⟨L2, hL2⟩ : ∃ L2 : Nat, (L2 : Int) = (L : Int) - ta.count := ⟨L - ta.count, by omega⟩
            rw [← hL2]
            obtain ⟨rb, eb, fb⟩ := ih y L2 (k + 2) (by omega) (by omega) (by omega)
            rw [show k + 3 = k + 2 + 1 from rfl, pannierref04_right.l0, if_pos (by simp), if_pos (by omega), if_pos (by omega), r1, hwm, eb, Option.bind_some, w1, show k + 2 = k + 1 + 1 from rfl, pannierref04_right.l0, if_neg (by simp)]
            rcases fb with ⟨rfl, hno⟩ | ⟨tb, htb, hdb, hcb, rfl⟩
            · refine ⟨-1, rfl, .inl ⟨rfl, ?_⟩⟩
              rintro ⟨t, ht, hd, hc⟩
              obtain ⟨c, d, rfl, hc', hd'⟩ := kids t ht
              simp only [T.depth, T.count] at hd hc
              obtain rfl : c = ta := toS_inj (hc'.trans hta.symm)
              exact hno ⟨d, hd', by omega, by omega⟩
            · refine ⟨_, rfl, .inr ⟨node ta tb, by rw [T.toS, hta, htb], by simp only [T.depth]; omega, by simp only [T.count]; omega, by simp only [T.count]; omega⟩⟩
        · rw [if_pos rfl, show k + 5 = k + 4 + 1 from rfl, pannierref04_right.j0, if_pos rfl]
          exact ⟨-1, rfl, .inl ⟨rfl, fun ⟨t, ht, _⟩ => by cases t <;> simp [T.toS] at ht⟩⟩
/-- The reference's Right is Right. -/
theorem refRight_f (s : S24) (k : Nat) (hk : 200 ≤ k) : pannierref04_Right.f k s.f0 s.f1 = some (rightB s) := by
  obtain ⟨r, e, h⟩ := right_f 32 s 2047 k (by omega) (by omega) (by omega)
  unfold pannierref04_Right.f
  rw [show (32 : Int) = ((32 : Nat) : Int) from rfl, show (2047 : Int) = ((2047 : Nat) : Int) from rfl, e, Option.bind_some]
  congr 1
  rcases h with ⟨rfl, hno⟩ | ⟨t, ht, hd, hc, rfl⟩
  · cases hb : rightB s
    · rfl
    · obtain ⟨t, h1, h2⟩ := (right_iff s).1 hb
      exact absurd ⟨t, h1, h2.1, h2.2⟩ hno
  · rw [(right_iff s).2 ⟨t, ht, hd, hc⟩]
    exact decide_eq_true (by omega)
end Go.Proofs.Ytlhaofbncoijfaa.Tree
namespace Go.Proofs.Ytlhaofbncoijfaa.Tree
set_option linter.unusedVariables false
set_option linter.unusedSimpArgs false
open Go.Proofs.Ytlhaofbncoijfaa.X Go.Proofs.Ytlhaofbncoijfaa.HandF
open T
theorem eta24 (s : S24) : (⟨s.f0, s.f1⟩ : S24) = s := by cases s; rfl
theorem Right_f (t : T) : id_Right.f t.toS.f0 t.toS.f1 = some (decide t.right) := by
  unfold id_Right.f
  rw [eta24 t.toS, right_T]
theorem sum_f (a b : T) : id_sum.f a.toS.f0 a.toS.f1 b.toS.f0 b.toS.f1 = some ((sum a b).1.toS.f0, (sum a b).1.toS.f1, (sum a b).2) := by
  unfold id_sum.f
  rw [eta24 a.toS, eta24 b.toS, of_toS, of_toS]
/-- How many of a row have a piece. -/
def cnt (L : List T) (p : Nat) : Nat := (L.map fun t => (t.has 32 p).toNat).sum
/-- What Whole goes through. -/
def wholeF (acc : T) : List S24 → Bool
  | [] => acc.isOne
  | s :: r => if rightB s = true then (match ofS s with | some t => if (sum acc t.norm).2 = true then wholeF (sum acc t.norm).1 r else false | none => false) else false
theorem rd_drop {l : List S24} {i : Nat} {s : S24} {r : List S24} (h : l.drop i = s :: r) : rd_T24 l (i : Int) = s ∧ l.drop (i + 1) = r ∧ i < l.length := by
  have hlt : i < l.length := by
    rcases Nat.lt_or_ge i l.length with h1 | h1
    · exact h1
    · rw [List.drop_eq_nil_of_le h1] at h; cases h
  rw [List.drop_eq_getElem_cons hlt] at h
  injection h with h1 h2
  refine ⟨?_, h2, hlt⟩
  unfold rd_T24
  rw [Int.toNat_natCast, List.getD_eq_getElem?_getD, List.getElem?_eq_getElem hlt]
  exact h1
theorem Whole_l0 (l : List S24) (hl : l.length ≤ 1000) : ∀ (m i k : Nat) (acc : T), l.length - i = m → i ≤ l.length → m + 34 ≤ k →
    id_Whole.l0 k l l (l.length : Int) (i : Int) acc.toS.f0 acc.toS.f1 = some (wholeF acc (l.drop i) && decide ((l.length : Int) ≤ 64)) := by
  intro m
  induction m with
  | zero =>
    intro i k acc hm hi hk
    obtain ⟨k, rfl⟩ : ∃ j, k = j + 1 := ⟨k - 1, by omega⟩
    rw [id_Whole.l0, if_neg (by omega), show i = l.length by omega, List.drop_length, wholeF]
    cases acc with
    | leaf b => cases b <;> rfl
    | node a b => rfl
  | succ m ih =>
    intro i k acc hm hi hk
    obtain ⟨k, rfl⟩ : ∃ j, k = j + 1 := ⟨k - 1, by omega⟩
    have hd := List.drop_eq_getElem_cons (l := l) (i := i) (by omega)
    obtain ⟨hs, hr, hlt⟩ := rd_drop hd
    rw [id_Whole.l0, if_pos (by omega), if_pos (by omega), if_pos (by omega), hs, hd, wholeF]
    generalize l[i] = s
    unfold id_Right.f
    rw [eta24 s, Option.bind_some]
    cases hrb : rightB s
    · rw [if_neg (by decide), if_neg (by decide)]; rfl
    · obtain ⟨t, rfl, ht⟩ := (right_iff s).1 hrb
      rw [if_pos rfl, if_pos rfl, of_toS, norm_f t k (by have := ht.1; omega), Option.bind_some, sum_f, Option.bind_some]
      dsimp only
      cases hq : (sum acc t.norm).2
      · rw [if_neg (by decide), if_neg (by decide)]; rfl
      · rw [if_pos rfl, if_pos rfl, show Go.RowKit.wrap64 ((i : Int) + 1) = ((i + 1 : Nat) : Int) by unfold Go.RowKit.wrap64; omega]
        exact ih (i + 1) k _ (by omega) (by omega) (by omega)
theorem Whole_f (l : List S24) (hl : l.length ≤ 1000) (k : Nat) (hk : l.length + 34 ≤ k) : id_Whole.f k l = some (wholeF (leaf false) l && decide ((l.length : Int) ≤ 64)) := by
  unfold id_Whole.f
  exact Whole_l0 l hl l.length 0 k (leaf false) (by omega) (by omega) hk
/-- When are trees whole? -/
theorem wholeF_iff : ∀ (Ls : List S24) (acc : T), Nf acc → acc.depth ≤ 32 →
    (wholeF acc Ls = true ↔ ∃ L : List T, L.map toS = Ls ∧ (∀ t ∈ L, t.right) ∧ ∀ p, p < 2 ^ 32 → (acc.has 32 p).toNat + cnt L p = 1)
  | [], acc, ha, hd => by
    rw [wholeF]
    constructor
    · intro h
      refine ⟨[], rfl, (fun t ht => by cases ht), fun p hp => ?_⟩
      cases acc with
      | leaf b => simp only [isOne] at h; rw [has_leaf, h]; rfl
      | node a b => simp [isOne] at h
    · rintro ⟨L, hL, _, h⟩
      obtain rfl : L = [] := by simpa using hL
      have := canon 32 (b := leaf true) ha trivial hd (by simp [depth]) (fun p hp => by
        have := h p hp
        simp only [cnt, List.map_nil, List.sum_nil] at this
        rw [has_leaf]
        cases hb : has 32 acc p
        · rw [hb] at this; simp at this
        · rfl)
      rw [this]; rfl
  | s :: r, acc, ha, hd => by
    rw [wholeF]
    cases hrb : rightB s
    · rw [if_neg (by decide)]
      constructor
      · intro h; cases h
      · rintro ⟨L, hL, hr, _⟩
        cases L with
        | nil => cases hL
        | cons t L =>
          simp only [List.map_cons, List.cons.injEq] at hL
          have := (right_iff s).2 ⟨t, hL.1, hr t (by simp)⟩
          rw [hrb] at this; cases this
    · obtain ⟨t, rfl, ht⟩ := (right_iff s).1 hrb
      rw [if_pos rfl, of_toS]
      have hnd : t.norm.depth ≤ 32 := (norm_right ht).1
      obtain ⟨hiff, hsp⟩ := sum_spec 32 acc t.norm ha (norm_nf t) hd hnd
      have hn : ∀ p, t.norm.has 32 p = t.has 32 p := fun p => has_norm 32 t p ht.1
      simp only
      cases hq : (sum acc t.norm).2
      · rw [if_neg (by decide)]
        constructor
        · intro h; cases h
        · rintro ⟨L, hL, hr, hc⟩
          cases L with
          | nil => cases hL
          | cons t' L =>
            simp only [List.map_cons, List.cons.injEq] at hL
            obtain rfl := toS_inj hL.1
            have := hiff.2 (fun p hp ⟨h1, h2⟩ => by
              have := hc p hp
              rw [hn] at h2
              simp only [cnt, List.map_cons, List.sum_cons, h1, h2] at this
              simp at this)
            rw [hq] at this; cases this
      · rw [if_pos rfl]
        obtain ⟨h1, h2, h3⟩ := hsp hq
        have hap := hiff.1 hq
        rw [wholeF_iff r _ h1 h2]
        have key : ∀ (L : List T) p, p < 2 ^ 32 → ((sum acc t.norm).1.has 32 p).toNat + cnt L p = (acc.has 32 p).toNat + cnt (t :: L) p := fun L p hp => by
          have hx := hap p hp
          rw [hn] at hx
          rw [h3 p hp, hn]
          simp only [cnt, List.map_cons, List.sum_cons]
          cases hu : acc.has 32 p <;> cases hv : t.has 32 p
          · simp
          · simp
          · simp
          · exact absurd ⟨hu, hv⟩ hx
        constructor
        · rintro ⟨L, hL, hr, hc⟩
          exact ⟨t :: L, by rw [List.map_cons, hL], fun x hx => by rcases List.mem_cons.1 hx with rfl | hx; exact ht; exact hr x hx, fun p hp => by rw [← key L p hp]; exact hc p hp⟩
        · rintro ⟨L, hL, hr, hc⟩
          cases L with
          | nil => cases hL
          | cons t' L =>
            simp only [List.map_cons, List.cons.injEq] at hL
            obtain rfl := toS_inj hL.1
            exact ⟨L, hL.2, fun x hx => hr x (by simp [hx]), fun p hp => by rw [key L p hp]; exact hc p hp⟩
end Go.Proofs.Ytlhaofbncoijfaa.Tree
namespace Go.Proofs.Ytlhaofbncoijfaa.Tree
set_option linter.unusedVariables false
set_option linter.unusedSimpArgs false
open Go.RowKit Go.Proofs.Ytlhaofbncoijfaa.X Go.Proofs.Ytlhaofbncoijfaa.Tree.T Go.Proofs.Ytlhaofbncoijfaa.HandF
open Go.Proofs.YtlhaofbncoijfaaW.PrintWords Go.Proofs.YtlhaofbncoijfaaW.PrintLast Go.Proofs.YtlhaofbncoijfaaW.PrintMore

/-- The sum over 2 ^ n points. -/
def tot : Nat → (Nat → Nat) → Nat
  | 0, g => g 0
  | n + 1, g => tot n g + tot n (fun p => g (p + 2 ^ n))
theorem tot_congr : ∀ (n : Nat) {g h : Nat → Nat}, (∀ p, p < 2 ^ n → g p = h p) → tot n g = tot n h
  | 0, g, h, e => e 0 (by decide)
  | n + 1, g, h, e => by
    rw [tot, tot, tot_congr n (fun p hp => e p (left_lt hp)), tot_congr n (g := fun p => g (p + 2 ^ n)) (h := fun p => h (p + 2 ^ n)) (fun p hp => e _ (right_lt hp))]
theorem tot_add : ∀ (n : Nat) (g h : Nat → Nat), tot n (fun p => g p + h p) = tot n g + tot n h
  | 0, g, h => rfl
  | n + 1, g, h => by
    rw [tot, tot, tot, tot_add n, tot_add n (fun p => g (p + 2 ^ n)) (fun p => h (p + 2 ^ n))]
    omega
theorem tot_const : ∀ (n c : Nat), tot n (fun _ => c) = c * 2 ^ n
  | 0, c => by simp [tot]
  | n + 1, c => by rw [tot, tot_const n, Nat.pow_succ, ← Nat.mul_assoc]; omega
theorem tot_le : ∀ (n : Nat) {g : Nat → Nat}, (∀ p, p < 2 ^ n → g p ≤ 1) → tot n g ≤ 2 ^ n
  | 0, g, h => h 0 (by decide)
  | n + 1, g, h => by
    have h1 := tot_le n (g := g) (fun p hp => h p (left_lt hp))
    have h2 := tot_le n (g := fun p => g (p + 2 ^ n)) (fun p hp => h _ (right_lt hp))
    rw [tot, Nat.pow_succ]
    omega
theorem tot_full : ∀ (n : Nat) {g : Nat → Nat}, (∀ p, p < 2 ^ n → g p ≤ 1) → tot n g = 2 ^ n → ∀ p, p < 2 ^ n → g p = 1
  | 0, g, h, e, p, hp => by
    have : p = 0 := by simpa using hp
    rw [this]; exact e
  | n + 1, g, h, e, p, hp => by
    have h1 := tot_le n (g := g) (fun p hp => h p (left_lt hp))
    have h2 := tot_le n (g := fun p => g (p + 2 ^ n)) (fun p hp => h _ (right_lt hp))
    rw [tot, Nat.pow_succ] at e
    rcases half hp with hq | ⟨q, rfl, hq⟩
    · exact tot_full n (g := g) (fun p hp => h p (left_lt hp)) (by omega) p hq
    · exact tot_full n (g := fun p => g (p + 2 ^ n)) (fun p hp => h _ (right_lt hp)) (by omega) q hq
/-- How long ranges are together. -/
def lenS : List S63 → Int
  | [] => 0
  | x :: r => (x.f1 - x.f0) + lenS r
theorem lenS_append : ∀ a b : List S63, lenS (a ++ b) = lenS a + lenS b
  | [], b => by simp [lenS]
  | x :: r, b => by rw [List.cons_append, lenS, lenS, lenS_append r b]; omega
theorem lenS_rl : ∀ (n : Nat) (t : T) (f : Int), t.depth ≤ n → lenS (rl n t f) = (tot n (fun p => (has n t p).toNat) : Nat)
  | n, leaf b, f, _ => by
    have hc := pow_cast n
    rw [rl_leaf, tot_congr n (h := fun _ => b.toNat) (fun p _ => by rw [has_leaf]), tot_const]
    cases b
    · simp [lenS]
    · simp only [if_pos, lenS, Bool.toNat_true, Nat.one_mul, hc]
      omega
  | 0, node a b, f, hd => by simp [depth] at hd
  | n + 1, node a b, f, hd => by
    simp only [depth] at hd
    rw [rl, lenS_append, lenS_rl n a f (by omega), lenS_rl n b _ (by omega), tot]
    rw [tot_congr n (g := fun p => (has (n + 1) (node a b) p).toNat) (h := fun p => (has n a p).toNat) (fun p hp => by rw [has_left hp])]
    rw [tot_congr n (g := fun p => (has (n + 1) (node a b) (p + 2 ^ n)).toNat) (h := fun p => (has n b p).toNat) (fun p hp => by rw [has_right])]
    omega
theorem lenS_nonneg : ∀ l : List S63, (∀ x ∈ l, 0 ≤ x.f0 ∧ x.f0 < x.f1 ∧ x.f1 ≤ 4294967296) → 0 ≤ lenS l
  | [], _ => Int.le_refl _
  | x :: r, h => by
    have h1 := h x (by simp)
    have h2 := lenS_nonneg r (fun y hy => h y (by simp [hy]))
    rw [lenS]
    omega
theorem Means_T (t : T) (h : t.right) : pannierref04_Means.f t.toS.f0 t.toS.f1 = some (rl 32 t 0) := by
  unfold pannierref04_Means.f
  rw [eta24, of_toS]
  exact if_pos h
theorem rl32 (t : T) : ∀ x ∈ rl 32 t 0, 0 ≤ x.f0 ∧ x.f0 < x.f1 ∧ x.f1 ≤ 4294967296 := fun x hx => by
  have := rl_range 32 t 0 x hx
  have hb : (0 : Int) + 2 ^ 32 = 4294967296 := by decide
  rwa [hb] at this
theorem l1_f (x0 : List S24) (i : Int) (m : List S63) (hm : ∀ x ∈ m, 0 ≤ x.f0 ∧ x.f0 < x.f1 ∧ x.f1 ≤ 4294967296) (hl : m.length ≤ 1000000) : ∀ (c j k : Nat) (s : Int), m.length - j = c → j ≤ m.length → 0 ≤ s → s + lenS (m.drop j) ≤ 8589934592 → c + 1 ≤ k →
    pannierref04_Whole.l1 k x0 s i m (j : Int) = pannierref04_Whole.l2 (k - (c + 1)) x0 (s + lenS (m.drop j)) i m 0 := by
  intro c
  induction c with
  | zero =>
    intro j k s hc hj h0 hs hk
    obtain ⟨k, rfl⟩ : ∃ q, k = q + 1 := ⟨k - 1, by omega⟩
    rw [pannierref04_Whole.l1, if_neg (by omega), show j = m.length by omega, List.drop_length, lenS, Int.add_zero]
    rfl
  | succ c ih =>
    intro j k s hc hj h0 hs hk
    obtain ⟨k, rfl⟩ : ∃ q, k = q + 1 := ⟨k - 1, by omega⟩
    obtain ⟨h1, h2⟩ := rd63_drop (l := m) (i := j) (by omega)
    have hx := hm m[j] (List.getElem_mem _)
    have hn := lenS_nonneg (m.drop (j + 1)) (fun y hy => hm y (List.mem_of_mem_drop hy))
    rw [h2, lenS] at hs ⊢
    rw [pannierref04_Whole.l1, if_pos (by omega), if_pos (by omega), h1, wrap_next j (by omega), u64_small (s + m[j].f1) (by omega) (by omega), u64_small _ (by omega) (by omega), ih (j + 1) k _ (by omega) (by omega) (by omega) (by omega) (by omega)]
    rw [show k + 1 - (c + 1 + 1) = k - (c + 1) by omega]
    congr 1
    omega
theorem rd24_map {P : List T} {r : List S24} {j : Nat} (h : j < P.length) : rd_T24 (P.map toS ++ r) (j : Int) = P[j].toS := by
  unfold rd_T24
  rw [Int.toNat_natCast, List.getD_eq_getElem?_getD, List.getElem?_append_left (by rw [List.length_map]; exact h), List.getElem?_map, List.getElem?_eq_getElem h]
  rfl
theorem l2_f (P : List T) (r : List S24) (hP : ∀ u ∈ P, u.right) (t : T) (ht : t.right) (s : Int) (hl : P.length ≤ 1000) : ∀ (c j k : Nat), P.length - j = c → j ≤ P.length → c + 5000 ≤ k →
    pannierref04_Whole.l2 k (P.map toS ++ r) s (P.length : Int) (rl 32 t 0) (j : Int) = if (P.drop j).any (fun u => meetL (rl 32 t 0) (rl 32 u 0)) = true then some false else pannierref04_Whole.l0 (k - (c + 1)) (P.map toS ++ r) s ((P.length + 1 : Nat) : Int) := by
  intro c
  induction c with
  | zero =>
    intro j k hc hj hk
    obtain ⟨k, rfl⟩ : ∃ q, k = q + 1 := ⟨k - 1, by omega⟩
    rw [pannierref04_Whole.l2, if_neg (by omega), show j = P.length by omega, List.drop_length, List.any_nil, if_neg (by decide), wrap_next _ (by omega)]
    rfl
  | succ c ih =>
    intro j k hc hj hk
    obtain ⟨k, rfl⟩ : ∃ q, k = q + 1 := ⟨k - 1, by omega⟩
    have hu := hP P[j] (List.getElem_mem _)
    have n1 := rl_length t 32 0
    have n2 := rl_length P[j] 32 0
    have c1 := ht.2
    have c2 := hu.2
    rw [pannierref04_Whole.l2, if_pos (by omega), if_pos (by omega), if_pos (by rw [List.length_append, List.length_map]; omega), rd24_map (by omega), Means_T _ hu, Option.bind_some,
      meet_f _ _ (rl32 t) (by omega) (by omega) k (by omega), Option.bind_some, List.drop_eq_getElem_cons (l := P) (i := j) (by omega), List.any_cons, wrap_next j (by omega)]
    cases hm : meetL (rl 32 t 0) (rl 32 P[j] 0)
    · rw [if_neg (by decide), Bool.false_or, ih (j + 1) k (by omega) (by omega) (by omega)]
      rw [show k + 1 - (c + 1 + 1) = k - (c + 1) by omega]
    · rw [if_pos rfl, Bool.true_or, if_pos rfl]
theorem cnt_nil (p : Nat) : cnt [] p = 0 := rfl
theorem cnt_append (a b : List T) (p : Nat) : cnt (a ++ b) p = cnt a p + cnt b p := by simp [cnt]
theorem cnt_one (t : T) (p : Nat) : cnt [t] p = (t.has 32 p).toNat := by simp [cnt]
theorem cnt_mem {u : T} : ∀ {P : List T} {p : Nat}, u ∈ P → u.has 32 p = true → 1 ≤ cnt P p
  | x :: P, p, h, hh => by
    rw [show x :: P = [x] ++ P from rfl, cnt_append, cnt_one]
    rcases List.mem_cons.1 h with rfl | h
    · rw [hh]; simp
    · have := cnt_mem h hh; omega
theorem mem_cnt : ∀ {P : List T} {p : Nat}, 1 ≤ cnt P p → ∃ u ∈ P, u.has 32 p = true
  | [], p, h => by rw [cnt_nil] at h; omega
  | x :: P, p, h => by
    rw [show x :: P = [x] ++ P from rfl, cnt_append, cnt_one] at h
    cases hx : x.has 32 p
    · rw [hx] at h
      obtain ⟨u, hu, h1⟩ := mem_cnt (P := P) (p := p) (by simpa using h)
      exact ⟨u, by simp [hu], h1⟩
    · exact ⟨x, by simp, hx⟩
theorem Whole_ref : ∀ (r : List S24) (P : List T) (k : Nat), (∀ u ∈ P, u.right) → (∀ p, p < 2 ^ 32 → cnt P p ≤ 1) → P.length + r.length ≤ 1000 → 10000 * (r.length + 1) ≤ k →
    ∃ b, pannierref04_Whole.l0 k (P.map toS ++ r) ((tot 32 (cnt P) : Nat) : Int) (P.length : Int) = some b ∧ (b = true ↔ ∃ L : List T, L.map toS = r ∧ (∀ t ∈ L, t.right) ∧ ∀ p, p < 2 ^ 32 → cnt (P ++ L) p = 1)
  | [], P, k, hP, hc, hl, hk => by
    obtain ⟨k, rfl⟩ : ∃ q, k = q + 1 := ⟨k - 1, by simp only [List.length_nil] at hk; omega⟩
    rw [pannierref04_Whole.l0, if_neg (by rw [List.append_nil, List.length_map]; omega)]
    refine ⟨_, rfl, ?_⟩
    rw [beq_iff_eq]
    have h32 : ((2 ^ 32 : Nat) : Int) = 4294967296 := by decide
    constructor
    · intro h
      exact ⟨[], rfl, (fun t ht => by cases ht), fun p hp => by rw [List.append_nil]; exact tot_full 32 hc (by omega) p hp⟩
    · rintro ⟨L, hL, _, h⟩
      obtain rfl : L = [] := by simpa using hL
      rw [List.append_nil] at h
      rw [tot_congr 32 (h := fun _ => 1) h, tot_const, Nat.one_mul]
      exact h32
  | s :: r, P, k, hP, hc, hl, hk => by
    simp only [List.length_cons] at hl hk
    obtain ⟨k, rfl⟩ : ∃ q, k = q + 1 := ⟨k - 1, by omega⟩
    have hrd : rd_T24 (P.map toS ++ s :: r) (P.length : Int) = s := by
      unfold rd_T24
      rw [Int.toNat_natCast, List.getD_eq_getElem?_getD, List.getElem?_append_right (by rw [List.length_map]; exact Nat.le_refl _), List.length_map, Nat.sub_self]
      rfl
    rw [pannierref04_Whole.l0, if_pos (by rw [List.length_append, List.length_map, List.length_cons]; omega), if_pos (by omega), hrd, refRight_f s k (by omega), Option.bind_some]
    cases hrb : rightB s
    · rw [if_neg (by decide)]
      refine ⟨_, rfl, ⟨(fun h => by cases h), ?_⟩⟩
      rintro ⟨L, hL, hr, _⟩
      cases L with
      | nil => cases hL
      | cons t L =>
        simp only [List.map_cons, List.cons.injEq] at hL
        have := (right_iff s).2 ⟨t, hL.1, hr t (by simp)⟩
        rw [hrb] at this; cases this
    · obtain ⟨t, rfl, ht⟩ := (right_iff s).1 hrb
      have n1 := rl_length t 32 0
      have c1 := ht.2
      have h32 : ((2 ^ 32 : Nat) : Int) = 4294967296 := by decide
      have hle1 := tot_le 32 hc
      have hle2 := tot_le 32 (g := fun p => (has 32 t p).toNat) (fun p _ => by cases has 32 t p <;> simp)
      have hlen := lenS_rl 32 t 0 ht.1
      have e1 := l1_f (P.map toS ++ t.toS :: r) (P.length : Int) _ (rl32 t) (by omega) (rl 32 t 0).length 0 k ((tot 32 (cnt P) : Nat) : Int) (by omega) (by omega) (by omega) (by rw [List.drop_zero, hlen]; omega) (by omega)
      rw [List.drop_zero, hlen, Int.natCast_zero] at e1
      have e2 := l2_f P (t.toS :: r) hP t ht (((tot 32 (cnt P) : Nat) : Int) + ((tot 32 (fun p => (has 32 t p).toNat) : Nat) : Int)) (by omega) P.length 0 (k - ((rl 32 t 0).length + 1)) (by omega) (by omega) (by omega)
      rw [List.drop_zero, Int.natCast_zero] at e2
      rw [if_pos rfl, Means_T t ht, Option.bind_some, e1, e2]
      have hcnt : ∀ (L : List T) p, cnt (P ++ t :: L) p = cnt ((P ++ [t]) ++ L) p := fun L p => by rw [List.append_assoc]; rfl
      cases hm : P.any (fun u => meetL (rl 32 t 0) (rl 32 u 0))
      · rw [if_neg (by decide)]
        have hc' : ∀ p, p < 2 ^ 32 → cnt (P ++ [t]) p ≤ 1 := fun p hp => by
          rw [cnt_append, cnt_one]
          cases hh : has 32 t p
          · have := hc p hp; simpa using this
          · rcases Nat.lt_or_ge 0 (cnt P p) with h1 | h1
            · obtain ⟨u, hu, h2⟩ := mem_cnt h1
              rw [List.any_eq_false] at hm
              exact absurd ((meet_T ht.1 (hP u hu).1).2 ⟨p, hp, hh, h2⟩) (hm u hu)
            · have : cnt P p = 0 := by omega
              rw [this]; simp
        have htot : ((tot 32 (cnt P) : Nat) : Int) + ((tot 32 (fun p => (has 32 t p).toNat) : Nat) : Int) = ((tot 32 (cnt (P ++ [t])) : Nat) : Int) := by
          rw [tot_congr 32 (g := cnt (P ++ [t])) (h := fun p => cnt P p + (has 32 t p).toNat) (fun p _ => by rw [cnt_append, cnt_one]), tot_add]
          omega
        obtain ⟨b, e, hb⟩ := Whole_ref r (P ++ [t]) (k - ((rl 32 t 0).length + 1) - (P.length + 1)) (fun u hu => by
          rcases List.mem_append.1 hu with h | h
          · exact hP u h
          · rw [List.mem_singleton] at h; rw [h]; exact ht) hc' (by rw [List.length_append, List.length_singleton]; omega) (by omega)
        rw [htot]
        rw [List.map_append, List.append_assoc, List.length_append, List.length_singleton] at e
        refine ⟨b, e, hb.trans ?_⟩
        constructor
        · rintro ⟨L, hL, hr, h⟩
          exact ⟨t :: L, by rw [List.map_cons, hL], (fun x hx => by
            rcases List.mem_cons.1 hx with rfl | hx
            · exact ht
            · exact hr x hx), fun p hp => by rw [hcnt]; exact h p hp⟩
        · rintro ⟨L, hL, hr, h⟩
          cases L with
          | nil => cases hL
          | cons t' L =>
            simp only [List.map_cons, List.cons.injEq] at hL
            obtain rfl := toS_inj hL.1
            exact ⟨L, hL.2, fun x hx => hr x (by simp [hx]), fun p hp => by rw [← hcnt]; exact h p hp⟩
      · rw [if_pos rfl]
        refine ⟨_, rfl, ⟨(fun h => by cases h), ?_⟩⟩
        rintro ⟨L, hL, hr, h⟩
        cases L with
        | nil => cases hL
        | cons t' L =>
          simp only [List.map_cons, List.cons.injEq] at hL
          obtain rfl := toS_inj hL.1
          rw [List.any_eq_true] at hm
          obtain ⟨u, hu, hmt⟩ := hm
          obtain ⟨p, hp, h1, h2⟩ := (meet_T (hr t' (by simp)).1 (hP u hu).1).1 hmt
          have h3 := h p hp
          rw [cnt_append, show t' :: L = [t'] ++ L from rfl, cnt_append, cnt_one, h1] at h3
          have h4 := cnt_mem hu h2
          simp at h3
          omega
end Go.Proofs.Ytlhaofbncoijfaa.Tree
namespace Go.Proofs.Ytlhaofbncoijfaa.Pure
set_option linter.unusedVariables false
open Go.RowKit Go.Proofs.Ytlhaofbncoijfaa.X Go.Proofs.Ytlhaofbncoijfaa.Tree Go.Proofs.Ytlhaofbncoijfaa.HandF
open Go.Proofs.YtlhaofbncoijfaaW.PrintWords Go.Proofs.YtlhaofbncoijfaaW.PrintLast Go.Proofs.YtlhaofbncoijfaaW.PrintMore

theorem both (y : List S24) (hy : y.length ≤ 70) (K : Nat) (hK : 2000000 ≤ K) : ∃ b, id_Whole.f K y = some b ∧ pannierref04_Whole.f K y = some b := by
  refine ⟨_, Whole_f y (by omega) _ (by omega), ?_⟩
  unfold pannierref04_Whole.f
  by_cases h : (y.length : Int) > 64
  · rw [if_pos h, decide_eq_false (by omega), Bool.and_false]
  · rw [if_neg h, decide_eq_true (by omega), Bool.and_true]
    have q1 : ∀ u : T, u ∈ ([] : List T) → u.right := fun u hu => by cases hu
    have q2 : ∀ p, p < 2 ^ 32 → cnt [] p ≤ 1 := fun p _ => Nat.zero_le _
    have q3 : ([] : List T).length + y.length ≤ 1000 := by rw [List.length_nil]; omega
    have q4 : 10000 * (y.length + 1) ≤ K := by omega
    have hx := Whole_ref y [] K q1 q2 q3 q4
    have h0 : tot 32 (cnt []) = 0 := by rw [tot_congr 32 (h := fun _ => 0) (fun p _ => cnt_nil p), tot_const, Nat.zero_mul]
    rw [h0] at hx
    refine Exists.elim hx (fun b hx2 => ?_)
    have e := hx2.1
    have hb := hx2.2
    clear hx2 hx h0 q2
    rw [List.map_nil, List.nil_append, List.length_nil, Int.natCast_zero] at e
    rw [e]
    congr 1
    have hw := wholeF_iff y (T.leaf false) trivial (by simp [T.depth])
    have : wholeF (T.leaf false) y = true ↔ b = true := by
      rw [hw, hb]
      simp only [T.has_leaf, Bool.toNat_false, Nat.zero_add, List.nil_append]
    cases b <;> cases hx : wholeF (T.leaf false) y <;> rw [hx] at this <;> simp at this ⊢
theorem IdWhole (l : List S24) (K : Nat) (hK : 2000000 ≤ K) : pannierlaw04_IdWhole.f K l = some true := by
  unfold pannierlaw04_IdWhole.f pannierlaw04_shown.f
  have h1 : (0 : Int) ≤ mn (l.length : Int) 70 := by unfold mn; split <;> omega
  have h2 : mn (l.length : Int) 70 ≤ (l.length : Int) := by unfold mn; split <;> omega
  have h3 : mn (l.length : Int) 70 ≤ 70 := by unfold mn; split <;> omega
  rw [Option.bind_some, if_pos h1, if_pos h2, Option.bind_some, if_pos rfl]
  obtain ⟨b, e1, e2⟩ := both (l.take (mn (l.length : Int) 70).toNat) (by rw [List.length_take]; omega) K hK
  rw [e1, e2, Option.bind_some, Option.bind_some]
  simp
theorem Whole4 (A : Option Addr) (c : Nat) (l : List S24) (w : World) (hl : l.length ≤ c) (hC : Kd.C k24 w A l.length l) :
    Calls Try.prog 4 #[.slice A l.length c] w fun e w' => e = .returned (.bool true) ∧ Below w.heap.size w w' :=
  pannierlaw04_IdWhole.calls 2000000 A c l true w hC hl (IdWhole l _ (Nat.le_refl _))
end Go.Proofs.Ytlhaofbncoijfaa.Pure
namespace Go.Proofs.Ytlhaofbncoijfaa.HandF
set_option linter.unusedVariables false
set_option linter.unusedSimpArgs false
set_option maxRecDepth 100000
open Go.RowKit Go.ChangeShapes Go.WideShapes Go.Deep Go.Proofs.Ytlhaofbncoijfaa.X
open Go.Proofs.YtlhaofbncoijfaaW.PrintWords Go.Proofs.YtlhaofbncoijfaaW.PrintLast Go.Proofs.YtlhaofbncoijfaaW.PrintMore

theorem cells24 : Try.prog.cellsOf 24 = 2 := by kernel_rfl
theorem cells4 : Try.prog.cellsOf 4 = 1 := by kernel_rfl
theorem cells22 : Try.prog.cellsOf 22 = 1 := by kernel_rfl


theorem open_cells {H : Type} {enc : TypeId × Value → H} {W : World} {base : Nat} {spare : Nat → Bool} {held : Bool} : ∀ (n : Nat) {cs : List Value} {y : DataW H × List MemPlace},
    DataW.trod enc Try.prog W base spare held n 24 cs = some y → ∃ k : Kd2, cs = [.bool k.1.f0, .slice k.2.1 k.1.f1.length k.2.2] ∧ k.1.f1.length ≤ k.2.2 ∧ Kd.C k24 W k.2.1 k.1.f1.length k.1.f1 := by
  intro n
  induction n using Nat.strongRecOn with
  | _ n ih =>
  intro cs y h
  obtain ⟨ys, m, hm, hy, hcl, hyl, hf⟩ := DataW.trod_struct Try.underlying24 h
  have f0 : DataW.trod enc Try.prog W base spare held m 4 ((cs.drop 0).take (Try.prog.cellsOf 4)) = ys[0]? := hf 0 _ rfl
  have f1 : DataW.trod enc Try.prog W base spare held m 22 ((cs.drop 1).take (Try.prog.cellsOf 22)) = ys[1]? := hf 1 _ rfl
  rw [cells4] at f0
  rw [cells22] at f1
  rw [cells24] at hcl
  match cs, hcl with
  | [c0, c1], _ =>
    match ys, hyl with
    | [y0, y1], _ =>
      obtain ⟨b, e0, _⟩ := DataW.trod_bool Try.underlying4 (show DataW.trod enc Try.prog W base spare held m 4 [c0] = some y0 from f0)
      cases e0
      have g1 : DataW.trod enc Try.prog W base spare held m 22 [c1] = some y1 := f1
      rcases DataW.trod_slice Try.underlying22 g1 with ⟨hc, _⟩ | ⟨a, len, cap, elems, rest, n', hn', hc, _, hb, hl, hmx, hlen, hel, _, _⟩
      · cases hc
        exact ⟨(⟨b, []⟩, none, 0), rfl, Nat.le_refl _, Kd.C_nil _ _⟩
      · cases hc
        rw [cells24] at hel
        obtain ⟨V, hV⟩ := (haveI : Inhabited S24 := ⟨z24⟩; choose_lt (n := len) (α := S24) (p := fun i p => ∃ cs', W.cells? base (a.add (i * 2)) 2 = some cs' ∧ k24.K W p cs') (fun i hil => by
          have h1 := hel i hil
          rw [List.getElem?_eq_getElem (by omega)] at h1
          obtain ⟨cs', h2, h3⟩ := Option.bind_eq_some_iff.1 h1
          obtain ⟨k, rfl, kl, kC⟩ := ih n' (by omega) h3
          exact ⟨k.1, _, h2, k24_mk W k.1 kl kC⟩))
        have hget : ∀ i (p : S24), ((List.range len).map V)[i]? = some p → i < len ∧ V i = p := fun i p hp => by
          rw [List.getElem?_map] at hp
          obtain ⟨j, hj, rfl⟩ := Option.map_eq_some_iff.1 hp
          obtain ⟨hjl, hje⟩ := List.getElem?_eq_some_iff.1 hj
          rw [List.getElem_range] at hje
          rw [List.length_range] at hjl
          subst hje
          exact ⟨hjl, rfl⟩
        refine ⟨(⟨b, (List.range len).map V⟩, some a, cap), by simp, by simpa using hl, rfl, ?_, fun _ => ⟨a, rfl, fun j p hj => ?_⟩⟩
        · have : cap ≤ maxLen := hmx
          unfold maxLen at this
          simp only [List.length_map, List.length_range]
          omega
        · obtain ⟨hjl, rfl⟩ := hget j p hj
          obtain ⟨cs', h1, h2⟩ := hV j hjl
          obtain ⟨_, hcl', hat⟩ := World.cells?_some h1
          refine ⟨cs', hcl', h2, fun i u hu => ?_⟩
          have hi2 : i < 2 := by have := (List.getElem?_eq_some_iff.1 hu).1; omega
          have := hat i hi2
          rw [Go.Deep.add_add] at this
          exact this.trans hu
/-- A tree that is an argument. -/
theorem open_tree {H : Type} {enc : TypeId × Value → H} {W : World} {base : Nat} {spare : Nat → Bool} {held : Bool} {r : Reach} {b0 : Nat} {v : Value} {d : DataW H} {ps : List MemPlace} (hval : Value.okWide Try.prog W r b0 24 v)
    (h : DataW.Trod enc Try.prog W base spare held 24 v d ps) : ∃ k : Kd2, v = kv k ∧ k.1.f1.length ≤ k.2.2 ∧ Kd.C k24 W k.2.1 k.1.f1.length k.1.f1 := by
  simp only [Value.okWide, Try.underlying24] at hval
  obtain ⟨cs, rfl, _, _⟩ := hval
  obtain ⟨fuel, hf⟩ := h
  obtain ⟨k, e, h1, h2⟩ := open_cells fuel hf
  refine ⟨k, ?_, h1, h2⟩
  have e' : cs.toList = [.bool k.1.f0, .slice k.2.1 k.1.f1.length k.2.2] := e
  show Value.agg cs = .agg #[.bool k.1.f0, .slice k.2.1 k.1.f1.length k.2.2]
  rw [show cs = cs.toList.toArray by simp, e']
end Go.Proofs.Ytlhaofbncoijfaa.HandF
namespace Go.Proofs.Ytlhaofbncoijfaa.HandF
set_option linter.unusedVariables false
set_option linter.unusedSimpArgs false
set_option maxRecDepth 100000
open Go.RowKit Go.ChangeShapes Go.WideShapes Go.Deep Go.Proofs.Ytlhaofbncoijfaa.X
open Go.Proofs.YtlhaofbncoijfaaW.PrintWords Go.Proofs.YtlhaofbncoijfaaW.PrintLast Go.Proofs.YtlhaofbncoijfaaW.PrintMore

theorem open_trees {H : Type} {enc : TypeId × Value → H} {W : World} {base : Nat} {spare : Nat → Bool} {held : Bool} {r : Reach} {b0 : Nat} {v : Value} {d : DataW H} {ps : List MemPlace} (hval : Value.okWide Try.prog W r b0 22 v)
    (h : DataW.Trod enc Try.prog W base spare held 22 v d ps) : ∃ (A : Option Addr) (c : Nat) (zs : List S24), v = .slice A zs.length c ∧ zs.length ≤ c ∧ Kd.C k24 W A zs.length zs := by
  obtain ⟨a0, len0, cap0, rfl⟩ := okWide_slice Try.underlying22 hval
  obtain ⟨fuel, hf⟩ := h
  rcases DataW.trod_slice Try.underlying22 hf with ⟨hc, _⟩ | ⟨a, len, cap, elems, rest, n', hn', hc, _, hb, hl, hmx, hlen, hel, _, _⟩
  · simp [Value.cells] at hc
    obtain ⟨rfl, rfl, rfl⟩ := hc
    exact ⟨none, 0, [], rfl, Nat.le_refl _, Kd.C_nil _ _⟩
  · simp [Value.cells] at hc
    obtain ⟨rfl, rfl, rfl⟩ := hc
    rw [cells24] at hel
    obtain ⟨V, hV⟩ := (haveI : Inhabited S24 := ⟨z24⟩; choose_lt (n := len0) (α := S24) (p := fun i p => ∃ cs', W.cells? base (a.add (i * 2)) 2 = some cs' ∧ k24.K W p cs') (fun i hil => by
      have h1 := hel i hil
      rw [List.getElem?_eq_getElem (by omega)] at h1
      obtain ⟨cs', h2, h3⟩ := Option.bind_eq_some_iff.1 h1
      obtain ⟨k, rfl, kl, kC⟩ := open_cells n' h3
      exact ⟨k.1, _, h2, k24_mk W k.1 kl kC⟩))
    have hget : ∀ i (p : S24), ((List.range len0).map V)[i]? = some p → i < len0 ∧ V i = p := fun i p hp => by
      rw [List.getElem?_map] at hp
      obtain ⟨j, hj, rfl⟩ := Option.map_eq_some_iff.1 hp
      obtain ⟨hjl, hje⟩ := List.getElem?_eq_some_iff.1 hj
      rw [List.getElem_range] at hje
      rw [List.length_range] at hjl
      subst hje
      exact ⟨hjl, rfl⟩
    refine ⟨some a, cap0, (List.range len0).map V, by simp, by simpa using hl, rfl, ?_, fun _ => ⟨a, rfl, fun j p hj => ?_⟩⟩
    · have : cap0 ≤ maxLen := hmx
      unfold maxLen at this
      simp only [List.length_map, List.length_range]
      omega
    · obtain ⟨hjl, rfl⟩ := hget j p hj
      obtain ⟨cs', h1, h2⟩ := hV j hjl
      obtain ⟨_, hcl', hat⟩ := World.cells?_some h1
      refine ⟨cs', hcl', h2, fun i u hu => ?_⟩
      have hi2 : i < 2 := by have := (List.getElem?_eq_some_iff.1 hu).1; omega
      have := hat i hi2
      rw [Go.Deep.add_add] at this
      exact this.trans hu
end Go.Proofs.Ytlhaofbncoijfaa.HandF
