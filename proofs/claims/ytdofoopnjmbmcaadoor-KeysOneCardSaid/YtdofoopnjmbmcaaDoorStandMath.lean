/- Plain facts: what the reference's Right and Compare tell, and that the program tells the same. -/
import Derived.Test.YtdofoopnjmbmcaaDoorX9
import Derived.Test.YtdofoopnjmbmcaaDoorX10
import Derived.Test.YtdofoopnjmbmcaaDoorX12
import Derived.Test.YtdofoopnjmbmcaaDoorHandC
import Derived.Test.YtdofoopnjmbmcaaDoorHandR
import Derived.Test.YtdofoopnjmbmcaaDoorHandL
namespace Go.Proofs.YtdofoopnjmbmcaaDoor.Math
set_option linter.unusedVariables false
set_option linter.unusedSimpArgs false
open Go.RowKit Go.Proofs.YtdofoopnjmbmcaaDoor.X Go.Proofs.YtdofoopnjmbmcaaDoor.HandF
open Go.Proofs.YtdofoopnjmbmcaaDoorW.PrintWords Go.Proofs.YtdofoopnjmbmcaaDoorW.PrintLast Go.Proofs.YtdofoopnjmbmcaaDoorW.PrintMore

theorem wrap_small {x : Int} (h0 : -9223372036854775808 ≤ x) (h1 : x ≤ 9223372036854775807) : wrap64 x = x := by unfold wrap64; omega
theorem wrap_succ {i : Nat} (h : i ≤ 140737488355328) : wrap64 ((i : Int) + 1) = ((i + 1 : Nat) : Int) := by rw [wrap_small (by omega) (by omega)]; omega

theorem shown_some : pannierlaw03_shown.f = some true := by decide +kernel

/-- What Right tells, by the reference. -/
def rightL (l : List S41) : Bool := l.all rightP && decide (1 ≤ l.length) && decide (l.length ≤ 8)
theorem rightL_eq (l : List S41) : keys_Right.f l = some (rightL l) := by
  unfold keys_Right.f rightL
  congr 1
  cases l.all rightP <;> cases decide (l.length ≤ 8) <;> simp [Nat.lt_iff_add_one_le]

theorem right_loop (l : List S41) (hl : l.length ≤ 140737488355328) (d : Nat) : ∀ i, i + d = l.length →
    pannierref03_Right.l0 (d + 1) l (i : Int) = some ((l.drop i).all rightP && decide (1 ≤ l.length) && decide (l.length ≤ 8)) := by
  induction d with
  | zero =>
    intro i hi
    rw [pannierref03_Right.l0, if_neg (by omega), List.drop_eq_nil_of_le (show l.length ≤ i by omega), List.all_nil, Bool.true_and]
    by_cases h1 : 1 ≤ l.length
    · rw [if_pos (show (l.length : Int) ≥ 1 by omega), decide_eq_true h1, Bool.true_and]
      congr 1
      rw [Bool.eq_iff_iff, decide_eq_true_iff, decide_eq_true_iff]
      omega
    · rw [if_neg (show ¬ (l.length : Int) ≥ 1 by omega), decide_eq_false h1, Bool.false_and]
  | succ d ih =>
    intro i hi
    have h1 := ih (i + 1) (by omega)
    have hil : i < l.length := by omega
    have c1 : (i : Int) < (l.length : Int) := by omega
    rw [rd_T41_drop l i hil, List.all_cons]
    rw [pannierref03_Right.l0, if_pos c1, if_pos (Int.natCast_nonneg i), wrap_succ (by omega), h1]
    obtain ⟨x, hx⟩ : ∃ x, rd_T41 l (i : Int) = x := ⟨_, rfl⟩
    rw [hx]
    obtain ⟨R, hR⟩ : ∃ R, ((l.drop (i + 1)).all rightP) = R := ⟨_, rfl⟩
    rw [hR]
    unfold rightP
    by_cases b0 : x.f0 = true
    · rw [if_pos b0, if_pos b0]
      by_cases b1 : x.f1 = 0
      · rw [if_pos b1]
        by_cases b2 : (x.f2.size : Int) > 512
        · rw [if_pos b2, decide_eq_false (show ¬ x.f2.size ≤ 512 by omega)]
          simp [b0]
        · rw [if_neg b2, if_pos b0, decide_eq_true (show x.f2.size ≤ 512 by omega), b1]
          simp
      · rw [if_neg b1, show (x.f1 == 0) = false from beq_eq_false_iff_ne.2 b1]
        simp [b0]
    · rw [if_neg b0, if_neg b0, if_neg b0]
      by_cases b1 : x.f2.toList = ([] : List UInt8)
      · rw [if_pos b1, b1]
        simp
      · rw [if_neg b1, show (x.f2.toList == ([] : List UInt8)) = false from beq_eq_false_iff_ne.2 b1]
        simp

theorem refRight_ev (l : List S41) (hl : l.length ≤ 140737488355328) : Ev (fun k => pannierref03_Right.f k l) (rightL l) := by
  refine Ev.of (fun k => pannierref03_Right.mono _ k) (k := l.length + 1) ?_
  unfold pannierref03_Right.f rightL
  have := right_loop l hl l.length 0 (by omega)
  rw [List.drop_zero] at this
  exact this

theorem less_cons (x y : UInt8) (a b : List UInt8) : Op.bytesLess (x :: a) (y :: b) = (if x < y then true else if y < x then false else Op.bytesLess a b) := by
  have e : Op.bytesLess (x :: a) (y :: b) = (decide (x < y) || (x == y && Op.bytesLess a b)) := rfl
  rw [e]
  by_cases h1 : x < y
  · simp [h1]
  · by_cases h2 : y < x
    · have h3 : ¬ x = y := fun h => by subst h; exact h1 h2
      simp [h1, h2, h3]
    · have h3 : x = y := by
        have n1 : ¬ x.toNat < y.toNat := fun h => h1 (UInt8.lt_iff_toNat_lt.2 h)
        have n2 : ¬ y.toNat < x.toNat := fun h => h2 (UInt8.lt_iff_toNat_lt.2 h)
        exact UInt8.toNat_inj.1 (by omega)
      simp [h1, h2, h3]
theorem compare_less : ∀ (a b : List UInt8), Lib.compareBytes a b = if Op.bytesLess a b = true then -1 else if Op.bytesLess b a = true then 1 else 0
  | [], [] => rfl
  | [], _ :: _ => rfl
  | _ :: _, [] => rfl
  | x :: a, y :: b => by
    have ih := compare_less a b
    rw [less_cons x y, less_cons y x, Lib.compareBytes]
    by_cases h1 : x < y
    · rw [if_pos h1, if_pos h1, if_pos rfl]
    · rw [if_neg h1, if_neg h1, if_neg h1]
      by_cases h2 : y < x
      · rw [if_pos h2, if_pos h2, if_pos h2]; rfl
      · rw [if_neg h2, if_neg h2, if_neg h2, ih]

/-- The reference's order of two parts. -/
def refOrder (a b : S41) : Int :=
  if (if (a.f0 != b.f0) = true then b.f0 else if a.f0 = true then Op.bytesLess a.f2.toList b.f2.toList else decide (a.f1 < b.f1)) = true then -1
  else if (if (b.f0 != a.f0) = true then a.f0 else if b.f0 = true then Op.bytesLess b.f2.toList a.f2.toList else decide (b.f1 < a.f1)) = true then 1 else 0

theorem order_same (a b : S41) (ha : rightP a = true) (hb : rightP b = true) : orderP a b = refOrder a b := by
  obtain ⟨a0, a1, a2⟩ := a
  obtain ⟨b0, b1, b2⟩ := b
  unfold rightP at ha hb
  unfold orderP refOrder
  dsimp only at ha hb ⊢
  cases a0 <;> cases b0
  · simp only [Bool.false_eq_true, if_false, beq_iff_eq] at ha hb
    rw [Lib.toList_data] at ha hb
    simp only [bne_self_eq_false, Bool.false_eq_true, if_false, decide_eq_true_eq, ha, hb, Lib.compareBytes]
    unfold cmpN
    by_cases h1 : a1 < b1
    · simp [h1]
    · by_cases h2 : a1 > b1
      · simp [h1, h2]
      · simp [h1, h2]
  · simp
  · simp
  · simp only [if_true, Bool.and_eq_true, beq_iff_eq, decide_eq_true_eq] at ha hb
    have hz : cmpN a1 b1 = 0 := by rw [ha.1, hb.1]; rfl
    rw [hz, compare_less]
    simp [Lib.toList_data]

theorem less_some (a b : S41) : pannierref03_less.f a.f0 a.f1 a.f2 b.f0 b.f1 b.f2 = some (if (a.f0 != b.f0) = true then b.f0 else if a.f0 = true then Op.bytesLess a.f2.toList b.f2.toList else decide (a.f1 < b.f1)) := by
  unfold pannierref03_less.f
  split
  · rfl
  · split <;> rfl

theorem cmp_loop (l m : List S41) (hl : l.length ≤ 140737488355328) (hm : m.length ≤ 140737488355328) (d : Nat) : ∀ i, i + d = l.length → i ≤ m.length →
    (l.drop i).all rightP = true → (m.drop i).all rightP = true → Ev (fun k => pannierref03_Compare.l0 k l m (i : Int)) (compareL (l.drop i) (m.drop i)) := by
  induction d with
  | zero =>
    intro i hi him _ _
    refine Ev.of (fun k => (pannierref03_Compare.mono_l k).1 _ _ _) (k := 2) ?_
    rw [pannierref03_Compare.l0, if_neg (by omega), pannierref03_Compare.j1, if_neg (by decide), List.drop_eq_nil_of_le (show l.length ≤ i by omega)]
    by_cases h1 : (l.length : Int) < (m.length : Int)
    · rw [if_pos h1, rd_T41_drop m i (by omega), compareL]
    · rw [if_neg h1, if_neg (by omega), List.drop_eq_nil_of_le (show m.length ≤ i by omega), compareL]
  | succ d ih =>
    intro i hi him ha hb
    have hil : i < l.length := by omega
    by_cases hmi : i < m.length
    · rw [rd_T41_drop l i hil, List.all_cons, Bool.and_eq_true] at ha
      rw [rd_T41_drop m i hmi, List.all_cons, Bool.and_eq_true] at hb
      rw [rd_T41_drop l i hil, rd_T41_drop m i hmi, compareL, order_same _ _ ha.1 hb.1]
      have h1 := ih (i + 1) (by omega) (by omega) ha.2 hb.2
      obtain ⟨x, hx⟩ : ∃ x, rd_T41 l (i : Int) = x := ⟨_, rfl⟩
      obtain ⟨y, hy⟩ : ∃ y, rd_T41 m (i : Int) = y := ⟨_, rfl⟩
      obtain ⟨k0, hk0⟩ := h1
      refine Ev.of (fun k => (pannierref03_Compare.mono_l k).1 _ _ _) (k := k0 + 2) ?_
      rw [pannierref03_Compare.l0, if_pos (by omega), decide_eq_true (show (i : Int) < (m.length : Int) by omega), pannierref03_Compare.j1, if_pos rfl, if_pos (Int.natCast_nonneg i), if_pos (by omega), if_pos (by omega), hx, hy, less_some, less_some, Option.bind_some, Option.bind_some, wrap_succ (by omega)]
      have h2 := hk0 k0 (Nat.le_refl _)
      dsimp only at h2
      rw [h2]
      unfold refOrder
      obtain ⟨p, hp⟩ : ∃ p, (if (x.f0 != y.f0) = true then y.f0 else if x.f0 = true then Op.bytesLess x.f2.toList y.f2.toList else decide (x.f1 < y.f1)) = p := ⟨_, rfl⟩
      obtain ⟨q, hq⟩ : ∃ q, (if (y.f0 != x.f0) = true then x.f0 else if y.f0 = true then Op.bytesLess y.f2.toList x.f2.toList else decide (y.f1 < x.f1)) = q := ⟨_, rfl⟩
      rw [hp, hq]
      cases p <;> cases q <;> simp
    · refine Ev.of (fun k => (pannierref03_Compare.mono_l k).1 _ _ _) (k := 2) ?_
      rw [pannierref03_Compare.l0, if_pos (by omega), decide_eq_false (show ¬ (i : Int) < (m.length : Int) by omega), pannierref03_Compare.j1, if_neg (by decide), List.drop_eq_nil_of_le (show m.length ≤ i by omega), rd_T41_drop l i hil, compareL, if_neg (by omega), if_pos (by omega)]

theorem refCompare_ev (l m : List S41) (hl : l.length ≤ 140737488355328) (hm : m.length ≤ 140737488355328) (ha : l.all rightP = true) (hb : m.all rightP = true) : Ev (fun k => pannierref03_Compare.f k l m) (compareL l m) := by
  have := cmp_loop l m hl hm l.length 0 (by omega) (by omega) (by rw [List.drop_zero]; exact ha) (by rw [List.drop_zero]; exact hb)
  rw [List.drop_zero, List.drop_zero] at this
  exact this
end Go.Proofs.YtdofoopnjmbmcaaDoor.Math
