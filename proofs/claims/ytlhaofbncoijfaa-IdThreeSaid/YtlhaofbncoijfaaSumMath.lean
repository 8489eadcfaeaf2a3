/- Plain laws of trees: what a split's two sum to, and what Same and Apart answer of trees that lie in memory. -/
import Derived.Test.YtlhaofbncoijfaaPoints
import Derived.Test.YtlhaofbncoijfaaSum22
import Derived.Test.YtlhaofbncoijfaaX23
import Derived.Test.YtlhaofbncoijfaaX25
namespace Go.Proofs.Ytlhaofbncoijfaa.Tree
set_option linter.unusedVariables false
set_option linter.unusedSimpArgs false
open Go.RowKit Go.Proofs.Ytlhaofbncoijfaa.X Go.Proofs.Ytlhaofbncoijfaa.Tree.T Go.Proofs.Ytlhaofbncoijfaa.HandF

theorem split32' (t : T) (h : t.depth ≤ 32) (h1 : t.split.1.depth ≤ 32) (h2 : t.split.2.depth ≤ 32) (p : Nat) (hp : p < 2 ^ 32) :
    (t.split.1.has 32 p || t.split.2.has 32 p) = t.has 32 p ∧ ¬ (t.split.1.has 32 p = true ∧ t.split.2.has 32 p = true) := by
  have := split_spec 32 t h (2 * p) (by rw [Nat.pow_succ]; omega)
  rw [(has_double 32 _ p h1).1, (has_double 32 _ p h2).1, (has_double 32 _ p h).1] at this
  exact this
theorem join_none {a b : T} (h : join a b = leaf false) : a = leaf false ∧ b = leaf false := by
  cases a with
  | leaf x =>
    cases b with
    | leaf y => cases x <;> cases y <;> first | exact ⟨rfl, rfl⟩ | (simp [join, isLeaf, isOne] at h)
    | node c d => cases x <;> simp [join, isLeaf] at h
  | node c d => cases b <;> simp [join, isLeaf] at h
/-- A tree in normal form that has something: each of its split's two has something. -/
theorem split_some : ∀ {t : T}, Nf t → t ≠ leaf false → t.split.1.norm ≠ leaf false ∧ t.split.2.norm ≠ leaf false
  | leaf false, _, h => absurd rfl h
  | leaf true, _, _ => ⟨(fun h => by have := (join_none (a := leaf true) (b := leaf false) h).1; cases this), (fun h => by have := (join_none (a := leaf false) (b := leaf true) h).2; cases this)⟩
  | node a b, hn, _ => by
    unfold split
    have isn : ∀ x : T, x.isNone = true → x = leaf false := fun x hx => by cases x with
      | leaf c => cases c with
        | false => rfl
        | true => cases hx
      | node _ _ => cases hx
    cases ha : a.isNone
    · rw [if_neg (by decide)]
      have hae : a ≠ leaf false := fun h => by rw [h] at ha; cases ha
      cases hb : b.isNone
      · rw [if_neg (by decide)]
        have hbe : b ≠ leaf false := fun h => by rw [h] at hb; cases hb
        exact ⟨fun h => hae (by have := (join_none h).1; rwa [norm_of_nf hn.1] at this), fun h => hbe (by have := (join_none h).2; rwa [norm_of_nf hn.2.1] at this)⟩
      · rw [if_pos rfl]
        have := split_some hn.1 hae
        exact ⟨fun h => this.1 (join_none h).1, fun h => this.2 (join_none h).1⟩
    · rw [if_pos rfl]
      have hbe : b ≠ leaf false := fun h => hn.2.2 (by rw [isn a ha, h]; first | rfl | decide | simp [isLeaf, isOne])
      have := split_some hn.2.1 hbe
      exact ⟨fun h => this.1 (join_none h).2, fun h => this.2 (join_none h).2⟩
theorem split_sum {n : T} (hn : Nf n) (hr : n.right) (hp : n.split.1.right) (hq : n.split.2.right) : T.sum n.split.1.norm n.split.2.norm = (n, true) := by
  have d1 := Nat.le_trans (norm_depth n.split.1) hp.1
  have d2 := Nat.le_trans (norm_depth n.split.2) hq.1
  have hs := sum_spec 32 n.split.1.norm n.split.2.norm (norm_nf _) (norm_nf _) d1 d2
  have h2 : (T.sum n.split.1.norm n.split.2.norm).2 = true := hs.1.2 fun p hpp h => (split32' n hr.1 hp.1 hq.1 p hpp).2 (by rwa [has_norm 32 _ p hp.1, has_norm 32 _ p hq.1] at h)
  obtain ⟨f1, f2, f3⟩ := hs.2 h2
  have h1 : (T.sum n.split.1.norm n.split.2.norm).1 = n := canon 32 f1 hn f2 hr.1 fun p hpp => by
    rw [f3 p hpp, has_norm 32 _ p hp.1, has_norm 32 _ p hq.1]
    exact (split32' n hr.1 hp.1 hq.1 p hpp).1
  exact Prod.ext h1 h2
theorem split_SumT {n : T} (hn : Nf n) (hr : n.right) (hp : n.split.1.right) (hq : n.split.2.right) : SumT n.split.1 n.split.2 = (n.toS, 0) := by
  unfold SumT
  rw [split_sum hn hr hp hq, if_pos rfl, if_pos hr, norm_of_nf hn]
theorem eqb_self (a : T) : eqb a a = true := eqb_iff.2 rfl
theorem split_none {n : T} (hn : Nf n) : eqb n.split.1.norm (leaf false) = eqb n (leaf false) ∧ eqb n.split.2.norm (leaf false) = eqb n (leaf false) := by
  cases h : eqb n (leaf false)
  · have hne : n ≠ leaf false := fun e => by rw [e, eqb_self] at h; cases h
    have := split_some hn hne
    constructor
    · cases hx : eqb n.split.1.norm (leaf false)
      · rfl
      · exact absurd (eqb_iff.1 hx) this.1
    · cases hx : eqb n.split.2.norm (leaf false)
      · rfl
      · exact absurd (eqb_iff.1 hx) this.2
  · have e := eqb_iff.1 h
    rw [e]
    exact ⟨rfl, rfl⟩
end Go.Proofs.Ytlhaofbncoijfaa.Tree
namespace Go.Proofs.Ytlhaofbncoijfaa.HandF
open Go.RowKit Go.Proofs.Ytlhaofbncoijfaa.X Go.Proofs.Ytlhaofbncoijfaa.Tree
open Go.Proofs.YtlhaofbncoijfaaW.PrintWords Go.Proofs.YtlhaofbncoijfaaW.PrintLast Go.Proofs.YtlhaofbncoijfaaW.PrintMore
set_option linter.unusedVariables false
theorem Right_T (t : T) : id_Right.f t.toS.f0 t.toS.f1 = some (decide t.right) := by
  unfold id_Right.f
  rw [S24_eta, right_T]
theorem Same_T (a b : T) (ha : a.right) (hb : b.right) : id_Same.f 33 a.toS.f0 a.toS.f1 b.toS.f0 b.toS.f1 = some (T.eqb a.norm b.norm) := by
  unfold id_Same.f
  rw [Right_T, Right_T, decide_eq_true ha, decide_eq_true hb, norm_f a 33 (by have := ha.1; omega), norm_f b 33 (by have := hb.1; omega)]
  simp only [Option.bind_some, if_true, id_equal.f, S24_eta, T.of_toS]
theorem Same23 (k m : Kd2) (a b : T) (w : World) (ha : k.1 = a.toS) (hb : m.1 = b.toS) (hra : a.right) (hrb : b.right) (hk : k.1.f1.length ≤ k.2.2) (hkC : Kd.C k24 w k.2.1 k.1.f1.length k.1.f1) (hm : m.1.f1.length ≤ m.2.2) (hmC : Kd.C k24 w m.2.1 m.1.f1.length m.1.f1) :
    Calls Try.prog 23 #[kv k, kv m] w fun e w' => e = .returned (.bool (T.eqb a.norm b.norm)) ∧ Below w.heap.size w w' := by
  obtain ⟨s, A, c⟩ := k
  obtain ⟨u, B, d⟩ := m
  dsimp only at ha hb
  subst ha hb
  exact id_Same.calls 33 _ A c _ _ B d _ _ w hkC hk hmC hm (Same_T a b hra hrb)
theorem Apart_T (a b : T) (ha : a.right) (hb : b.right) : id_Apart.f 40 a.toS.f0 a.toS.f1 b.toS.f0 b.toS.f1 = some (T.sum a.norm b.norm).2 := by
  unfold id_Apart.f
  rw [Right_T, Right_T, decide_eq_true ha, decide_eq_true hb]
  simp only [Option.bind_some, if_true, id_Apart.j0, Bool.not_true, Bool.false_eq_true, if_false]
  rw [norm_f a 39 (by have := ha.1; omega), norm_f b 39 (by have := hb.1; omega)]
  simp only [Option.bind_some, id_sum.f, S24_eta, T.of_toS]
theorem Apart25 (k m : Kd2) (a b : T) (w : World) (ha : k.1 = a.toS) (hb : m.1 = b.toS) (hra : a.right) (hrb : b.right) (hk : k.1.f1.length ≤ k.2.2) (hkC : Kd.C k24 w k.2.1 k.1.f1.length k.1.f1) (hm : m.1.f1.length ≤ m.2.2) (hmC : Kd.C k24 w m.2.1 m.1.f1.length m.1.f1) :
    Calls Try.prog 25 #[kv k, kv m] w fun e w' => e = .returned (.bool (T.sum a.norm b.norm).2) ∧ Below w.heap.size w w' := by
  obtain ⟨s, A, c⟩ := k
  obtain ⟨u, B, d⟩ := m
  dsimp only at ha hb
  subst ha hb
  exact id_Apart.calls 40 _ A c _ _ B d _ _ w hkC hk hmC hm (Apart_T a b hra hrb)
end Go.Proofs.Ytlhaofbncoijfaa.HandF
