/- The plain facts of one law, in one text. -/
import Derived.Test.YtdofoopnjmbmcaaDoorX9
import Derived.Test.YtdofoopnjmbmcaaDoorX10
import Derived.Test.YtdofoopnjmbmcaaDoorX12
import Derived.Test.YtdofoopnjmbmcaaDoorHandC
import Derived.Test.YtdofoopnjmbmcaaDoorHandR
import Derived.Test.YtdofoopnjmbmcaaDoorHandL
import Derived.Test.YtdofoopnjmbmcaaDoorHandB
import Derived.Test.YtdofoopnjmbmcaaDoorHandF
import Derived.Test.YtdofoopnjmbmcaaDoorX27
import Derived.Test.YtdofoopnjmbmcaaDoorX14
import Derived.Test.YtdofoopnjmbmcaaDoorX19
import Derived.Test.YtdofoopnjmbmcaaDoorX18
import Derived.Test.YtdofoopnjmbmcaaDoorX15
import Derived.Test.YtdofoopnjmbmcaaDoorX4
namespace Go.Proofs.YtdofoopnjmbmcaaDoor.Math
set_option linter.unusedVariables false
set_option linter.unusedSimpArgs false
open Go.RowKit Go.Proofs.YtdofoopnjmbmcaaDoor.X Go.Proofs.YtdofoopnjmbmcaaDoor.HandF
open Go.Proofs.YtdofoopnjmbmcaaDoorW.PrintWords Go.Proofs.YtdofoopnjmbmcaaDoorW.PrintLast Go.Proofs.YtdofoopnjmbmcaaDoorW.PrintMore

theorem wrap_small {x : Int} (h0 : -9223372036854775808 ≤ x) (h1 : x ≤ 9223372036854775807) : wrap64 x = x := by unfold wrap64; omega
theorem wrap_succ {i : Nat} (h : i ≤ 140737488355328) : wrap64 ((i : Int) + 1) = ((i + 1 : Nat) : Int) := by rw [wrap_small (by omega) (by omega)]; omega

theorem shown_some : pannierlaw03_shown.f = some true := by decide +kernel

/-- What Right tells, by the reference. -/
def rightL (l : List S41) : Bool := l.all rightP && decide (1 ≤ l.length) && decide (l.length ≤ 8)
theorem rightL_eq (l : List S41) : keys_Right.f l = some (rightL l) := by
  unfold keys_Right.f rightL
  congr 1
  cases l.all rightP <;> cases decide (l.length ≤ 8) <;> simp [Nat.lt_iff_add_one_le]

theorem right_loop (l : List S41) (hl : l.length ≤ 140737488355328) (d : Nat) : ∀ i, i + d = l.length →
    pannierref03_Right.l0 (d + 1) l (i : Int) = some ((l.drop i).all rightP && decide (1 ≤ l.length) && decide (l.length ≤ 8)) := by
  induction d with
  | zero =>
    intro i hi
    rw [pannierref03_Right.l0, if_neg (by omega), List.drop_eq_nil_of_le (show l.length ≤ i by omega), List.all_nil, Bool.true_and]
    by_cases h1 : 1 ≤ l.length
    · rw [if_pos (show (l.length : Int) ≥ 1 by omega), decide_eq_true h1, Bool.true_and]
      congr 1
      rw [Bool.eq_iff_iff, decide_eq_true_iff, decide_eq_true_iff]
      omega
    · rw [if_neg (show ¬ (l.length : Int) ≥ 1 by omega), decide_eq_false h1, Bool.false_and]
  | succ d ih =>
    intro i hi
    have h1 := ih (i + 1) (by omega)
    have hil : i < l.length := by omega
    have c1 : (i : Int) < (l.length : Int) := by omega
    rw [rd_T41_drop l i hil, List.all_cons]
    rw [pannierref03_Right.l0, if_pos c1, if_pos (Int.natCast_nonneg i), wrap_succ (by omega), h1]
    obtain ⟨x, hx⟩ : ∃ x, rd_T41 l (i : Int) = x := ⟨_, rfl⟩
    rw [hx]
    obtain ⟨R, hR⟩ : ∃ R, ((l.drop (i + 1)).all rightP) = R := ⟨_, rfl⟩
    rw [hR]
    unfold rightP
    by_cases b0 : x.f0 = true
    · rw [if_pos b0, if_pos b0]
      by_cases b1 : x.f1 = 0
      · rw [if_pos b1]
        by_cases b2 : (x.f2.size : Int) > 512
        · rw [if_pos b2, decide_eq_false (show ¬ x.f2.size ≤ 512 by omega)]
          simp [b0]
        · rw [if_neg b2, if_pos b0, decide_eq_true (show x.f2.size ≤ 512 by omega), b1]
          simp
      · rw [if_neg b1, show (x.f1 == 0) = false from beq_eq_false_iff_ne.2 b1]
        simp [b0]
    · rw [if_neg b0, if_neg b0, if_neg b0]
      by_cases b1 : x.f2.toList = ([] : List UInt8)
      · rw [if_pos b1, b1]
        simp
      · rw [if_neg b1, show (x.f2.toList == ([] : List UInt8)) = false from beq_eq_false_iff_ne.2 b1]
        simp

theorem refRight_ev (l : List S41) (hl : l.length ≤ 140737488355328) : Ev (fun k => pannierref03_Right.f k l) (rightL l) := by
  refine Ev.of (fun k => pannierref03_Right.mono _ k) (k := l.length + 1) ?_
  unfold pannierref03_Right.f rightL
  have := right_loop l hl l.length 0 (by omega)
  rw [List.drop_zero] at this
  exact this

theorem less_cons (x y : UInt8) (a b : List UInt8) : Op.bytesLess (x :: a) (y :: b) = (if x < y then true else if y < x then false else Op.bytesLess a b) := by
  have e : Op.bytesLess (x :: a) (y :: b) = (decide (x < y) || (x == y && Op.bytesLess a b)) := rfl
  rw [e]
  by_cases h1 : x < y
  · simp [h1]
  · by_cases h2 : y < x
    · have h3 : ¬ x = y := fun h => by subst h; exact h1 h2
      simp [h1, h2, h3]
    · have h3 : x = y := by
        have n1 : ¬ x.toNat < y.toNat := fun h => h1 (UInt8.lt_iff_toNat_lt.2 h)
        have n2 : ¬ y.toNat < x.toNat := fun h => h2 (UInt8.lt_iff_toNat_lt.2 h)
        exact UInt8.toNat_inj.1 (by omega)
      simp [h1, h2, h3]
theorem compare_less : ∀ (a b : List UInt8), Lib.compareBytes a b = if Op.bytesLess a b = true then -1 else if Op.bytesLess b a = true then 1 else 0
  | [], [] => rfl
  | [], _ :: _ => rfl
  | _ :: _, [] => rfl
  | x :: a, y :: b => by
    have ih := compare_less a b
    rw [less_cons x y, less_cons y x, Lib.compareBytes]
    by_cases h1 : x < y
    · rw [if_pos h1, if_pos h1, if_pos rfl]
    · rw [if_neg h1, if_neg h1, if_neg h1]
      by_cases h2 : y < x
      · rw [if_pos h2, if_pos h2, if_pos h2]; rfl
      · rw [if_neg h2, if_neg h2, if_neg h2, ih]

/-- The reference's order of two parts. -/
def refOrder (a b : S41) : Int :=
  if (if (a.f0 != b.f0) = true then b.f0 else if a.f0 = true then Op.bytesLess a.f2.toList b.f2.toList else decide (a.f1 < b.f1)) = true then -1
  else if (if (b.f0 != a.f0) = true then a.f0 else if b.f0 = true then Op.bytesLess b.f2.toList a.f2.toList else decide (b.f1 < a.f1)) = true then 1 else 0

theorem order_same (a b : S41) (ha : rightP a = true) (hb : rightP b = true) : orderP a b = refOrder a b := by
  obtain ⟨a0, a1, a2⟩ := a
  obtain ⟨b0, b1, b2⟩ := b
  unfold rightP at ha hb
  unfold orderP refOrder
  dsimp only at ha hb ⊢
  cases a0 <;> cases b0
  · simp only [Bool.false_eq_true, if_false, beq_iff_eq] at ha hb
    rw [Lib.toList_data] at ha hb
    simp only [bne_self_eq_false, Bool.false_eq_true, if_false, decide_eq_true_eq, ha, hb, Lib.compareBytes]
    unfold cmpN
    by_cases h1 : a1 < b1
    · simp [h1]
    · by_cases h2 : a1 > b1
      · simp [h1, h2]
      · simp [h1, h2]
  · simp
  · simp
  · simp only [if_true, Bool.and_eq_true, beq_iff_eq, decide_eq_true_eq] at ha hb
    have hz : cmpN a1 b1 = 0 := by rw [ha.1, hb.1]; rfl
    rw [hz, compare_less]
    simp [Lib.toList_data]

theorem less_some (a b : S41) : pannierref03_less.f a.f0 a.f1 a.f2 b.f0 b.f1 b.f2 = some (if (a.f0 != b.f0) = true then b.f0 else if a.f0 = true then Op.bytesLess a.f2.toList b.f2.toList else decide (a.f1 < b.f1)) := by
  unfold pannierref03_less.f
  split
  · rfl
  · split <;> rfl

theorem cmp_loop (l m : List S41) (hl : l.length ≤ 140737488355328) (hm : m.length ≤ 140737488355328) (d : Nat) : ∀ i, i + d = l.length → i ≤ m.length →
    (l.drop i).all rightP = true → (m.drop i).all rightP = true → Ev (fun k => pannierref03_Compare.l0 k l m (i : Int)) (compareL (l.drop i) (m.drop i)) := by
  induction d with
  | zero =>
    intro i hi him _ _
    refine Ev.of (fun k => (pannierref03_Compare.mono_l k).1 _ _ _) (k := 2) ?_
    rw [pannierref03_Compare.l0, if_neg (by omega), pannierref03_Compare.j1, if_neg (by decide), List.drop_eq_nil_of_le (show l.length ≤ i by omega)]
    by_cases h1 : (l.length : Int) < (m.length : Int)
    · rw [if_pos h1, rd_T41_drop m i (by omega), compareL]
    · rw [if_neg h1, if_neg (by omega), List.drop_eq_nil_of_le (show m.length ≤ i by omega), compareL]
  | succ d ih =>
    intro i hi him ha hb
    have hil : i < l.length := by omega
    by_cases hmi : i < m.length
    · rw [rd_T41_drop l i hil, List.all_cons, Bool.and_eq_true] at ha
      rw [rd_T41_drop m i hmi, List.all_cons, Bool.and_eq_true] at hb
      rw [rd_T41_drop l i hil, rd_T41_drop m i hmi, compareL, order_same _ _ ha.1 hb.1]
      have h1 := ih (i + 1) (by omega) (by omega) ha.2 hb.2
      obtain ⟨x, hx⟩ : ∃ x, rd_T41 l (i : Int) = x := ⟨_, rfl⟩
      obtain ⟨y, hy⟩ : ∃ y, rd_T41 m (i : Int) = y := ⟨_, rfl⟩
      obtain ⟨k0, hk0⟩ := h1
      refine Ev.of (fun k => (pannierref03_Compare.mono_l k).1 _ _ _) (k := k0 + 2) ?_
      rw [pannierref03_Compare.l0, if_pos (by omega), decide_eq_true (show (i : Int) < (m.length : Int) by omega), pannierref03_Compare.j1, if_pos rfl, if_pos (Int.natCast_nonneg i), if_pos (by omega), if_pos (by omega), hx, hy, less_some, less_some, Option.bind_some, Option.bind_some, wrap_succ (by omega)]
      have h2 := hk0 k0 (Nat.le_refl _)
      dsimp only at h2
      rw [h2]
      unfold refOrder
      obtain ⟨p, hp⟩ : ∃ p, (if (x.f0 != y.f0) = true then y.f0 else if x.f0 = true then Op.bytesLess x.f2.toList y.f2.toList else decide (x.f1 < y.f1)) = p := ⟨_, rfl⟩
      obtain ⟨q, hq⟩ : ∃ q, (if (y.f0 != x.f0) = true then x.f0 else if y.f0 = true then Op.bytesLess y.f2.toList x.f2.toList else decide (y.f1 < x.f1)) = q := ⟨_, rfl⟩
      rw [hp, hq]
      cases p <;> cases q <;> simp
    · refine Ev.of (fun k => (pannierref03_Compare.mono_l k).1 _ _ _) (k := 2) ?_
      rw [pannierref03_Compare.l0, if_pos (by omega), decide_eq_false (show ¬ (i : Int) < (m.length : Int) by omega), pannierref03_Compare.j1, if_neg (by decide), List.drop_eq_nil_of_le (show m.length ≤ i by omega), rd_T41_drop l i hil, compareL, if_neg (by omega), if_pos (by omega)]

theorem refCompare_ev (l m : List S41) (hl : l.length ≤ 140737488355328) (hm : m.length ≤ 140737488355328) (ha : l.all rightP = true) (hb : m.all rightP = true) : Ev (fun k => pannierref03_Compare.f k l m) (compareL l m) := by
  have := cmp_loop l m hl hm l.length 0 (by omega) (by omega) (by rw [List.drop_zero]; exact ha) (by rw [List.drop_zero]; exact hb)
  rw [List.drop_zero, List.drop_zero] at this
  exact this
end Go.Proofs.YtdofoopnjmbmcaaDoor.Math
namespace Go.Proofs.YtdofoopnjmbmcaaDoor.Math
set_option linter.unusedVariables false
set_option linter.unusedSimpArgs false
open Go.RowKit Go.Proofs.YtdofoopnjmbmcaaDoor.X Go.Proofs.YtdofoopnjmbmcaaDoor.HandF
open Go.Proofs.YtdofoopnjmbmcaaDoorW.PrintWords Go.Proofs.YtdofoopnjmbmcaaDoorW.PrintLast Go.Proofs.YtdofoopnjmbmcaaDoorW.PrintMore

def Bytes (l : List Int) : Prop := ∀ x ∈ l, 0 ≤ x ∧ x ≤ 255
theorem bytesOf_bytes (s : ByteArray) : Bytes (bytesOf s) := by
  intro x hx
  unfold bytesOf at hx
  obtain ⟨b, _, rfl⟩ := List.mem_map.1 hx
  have := b.toNat_lt
  omega
theorem Bytes.append {l m : List Int} (h : Bytes l) (k : Bytes m) : Bytes (l ++ m) := fun x hx => (List.mem_append.1 hx).elim (h x) (k x)
theorem Bytes.left {l m : List Int} (h : Bytes (l ++ m)) : Bytes l := fun x hx => h x (List.mem_append_left _ hx)
theorem Bytes.right {l m : List Int} (h : Bytes (l ++ m)) : Bytes m := fun x hx => h x (List.mem_append_right _ hx)
theorem bytes_lit {l : List Int} (h : l.all (fun x => decide (0 ≤ x ∧ x ≤ 255)) = true) : Bytes l := fun x hx => of_decide_eq_true (List.all_eq_true.1 h x hx)
theorem be8_bytes (n : Int) : Bytes (be8 n) := by
  intro x hx
  unfold be8 at hx
  obtain ⟨i, _, rfl⟩ := List.mem_map.1 hx
  omega
theorem partB_bytes (p : S41) : Bytes (partB p) := by
  unfold partB
  split
  · exact ((bytes_lit (by decide)).append (bytesOf_bytes _)).append (bytes_lit (by decide))
  · exact (bytes_lit (by decide)).append (be8_bytes _)
/-- A key's bytes. -/
def layL (l : List S41) : List Int := (l.map partB).flatten
theorem layL_bytes : ∀ l : List S41, Bytes (layL l)
  | [] => fun _ h => by cases h
  | p :: l => (partB_bytes p).append (layL_bytes l)
theorem layL_append (a b : List S41) : layL (a ++ b) = layL a ++ layL b := by unfold layL; rw [List.map_append, List.flatten_append]

def u8s (l : List Int) : List UInt8 := l.map fun n => UInt8.ofNat n.toNat
theorem str_list (l : List Int) : (strOfNums l).toList = u8s l := by rw [Lib.toList_data]; rfl
theorem u8s_append (a b : List Int) : u8s (a ++ b) = u8s a ++ u8s b := List.map_append
theorem bytes_str {l : List Int} (hb : Bytes l) : bytesOf (strOfNums l) = l := by
  unfold bytesOf
  rw [strOfNums_data, List.map_map]
  conv => rhs; rw [← List.map_id l]
  refine List.map_congr_left fun x hx => ?_
  have := hb x hx
  show ((UInt8.ofNat x.toNat).toNat : Int) = x
  rw [UInt8.toNat_ofNat']
  omega
theorem str_inj {a b : List Int} (ha : Bytes a) (hb : Bytes b) (h : strOfNums a = strOfNums b) : a = b := by
  rw [← bytes_str ha, h, bytes_str hb]

theorem lay_some {l : List S41} {s : ByteArray} {e : Int} (h : keys_Lay.f l = some (s, e)) (he : e = 0) : rightL l = true ∧ s = strOfNums (layL l) := by
  unfold keys_Lay.f at h
  rw [rightL_eq, Option.bind_some] at h
  cases hr : rightL l with
  | true =>
    rw [hr, if_pos rfl] at h
    simp only [Option.some.injEq, Prod.mk.injEq] at h
    exact ⟨rfl, h.1.symm⟩
  | false =>
    rw [hr, if_neg (by decide)] at h
    simp only [Option.some.injEq, Prod.mk.injEq] at h
    rw [he] at h
    exact absurd h.2 (by decide)
theorem lay_right {l : List S41} (h : rightL l = true) : keys_Lay.f l = some (strOfNums (layL l), 0) := by
  unfold keys_Lay.f
  rw [rightL_eq, Option.bind_some, h, if_pos rfl]
  rfl
theorem lay_wrong {l : List S41} (h : rightL l = false) : keys_Lay.f l = some (⟨#[]⟩, 2) := by
  unfold keys_Lay.f
  rw [rightL_eq, Option.bind_some, h, if_neg (by decide)]
theorem rightL_parts {l : List S41} (h : rightL l = true) : l.all rightP = true ∧ 1 ≤ l.length ∧ l.length ≤ 8 := by
  unfold rightL at h
  rw [Bool.and_eq_true, Bool.and_eq_true] at h
  exact ⟨h.1.1, of_decide_eq_true h.1.2, of_decide_eq_true h.2⟩
theorem rightL_mk {l : List S41} (h : l.all rightP = true) (h1 : 1 ≤ l.length) (h2 : l.length ≤ 8) : rightL l = true := by
  unfold rightL
  rw [h, decide_eq_true h1, decide_eq_true h2]
  rfl

theorem strip_zero (l : List Int) : ∀ n, stripN l n = 0 → ∀ i, i < n → rd l (i : Int) = 255
  | 0, _, i, hi => by omega
  | n + 1, h, i, hi => by
    rw [stripN] at h
    by_cases c : rd l (n : Int) = 255
    · rw [if_pos c] at h
      by_cases e : i = n
      · rw [e]; exact c
      · exact strip_zero l n h i (by omega)
    · rw [if_neg c] at h
      cases h
theorem strip_succ (l : List Int) : ∀ n m, stripN l n = m + 1 → m < n ∧ rd l (m : Int) ≠ 255
  | 0, m, h => by cases h
  | n + 1, m, h => by
    rw [stripN] at h
    by_cases c : rd l (n : Int) = 255
    · rw [if_pos c] at h
      have := strip_succ l n m h
      exact ⟨by omega, this.2⟩
    · rw [if_neg c] at h
      obtain rfl : n = m := by omega
      exact ⟨by omega, c⟩

theorem less_behind (p : List UInt8) {x y : UInt8} (h : x < y) (a b : List UInt8) : Op.bytesLess (p ++ x :: a) (p ++ y :: b) = true := by
  induction p with
  | nil => show Op.bytesLess (x :: a) (y :: b) = true; rw [less_cons, if_pos h]
  | cons z p ih =>
    show Op.bytesLess (z :: (p ++ x :: a)) (z :: (p ++ y :: b)) = true
    rw [less_cons, if_neg (UInt8.lt_irrefl z), if_neg (UInt8.lt_irrefl z)]
    exact ih

theorem rd_get {l : List Int} {i : Nat} (h : i < l.length) : rd l (i : Int) = l[i] := by
  unfold rd
  rw [Int.toNat_natCast, List.getD_eq_getElem?_getD, List.getElem?_eq_getElem h]
  rfl

/-- What is behind a text that some byte of which is not 255 is behind all that begin so. -/
theorem behind_less {t : List Int} (ht : Bytes t) (r : List Int) (h : ∃ i, i < t.length ∧ rd t (i : Int) ≠ 255) : ∃ u, behindS (strOfNums t) = (u, true) ∧ Op.bytesLess (strOfNums (t ++ r)).toList u.toList = true := by
  unfold behindS
  rw [bytes_str ht, strOfNums_size]
  cases hs : stripN t t.length with
  | zero =>
    obtain ⟨i, hi, hne⟩ := h
    exact absurd (strip_zero t _ hs i hi) hne
  | succ m =>
    obtain ⟨hm, hne⟩ := strip_succ t _ m hs
    refine ⟨_, rfl, ?_⟩
    rw [rd_get hm] at hne ⊢
    have hb := ht t[m] (List.getElem_mem hm)
    have e1 : t ++ r = t.take m ++ (t[m] :: (t.drop (m + 1) ++ r)) := by
      rw [← List.cons_append, ← List.drop_eq_getElem_cons hm, ← List.append_assoc, List.take_append_drop]
    have e2 : (t.take (m + 1)).set m ((t[m] + 1) % 256) = t.take m ++ [(t[m] + 1) % 256] := by
      rw [List.take_succ_eq_append_getElem hm, List.set_append_right _ _ (by rw [List.length_take]; omega)]
      congr 1
      rw [List.length_take, Nat.min_eq_left (by omega), Nat.sub_self]
      rfl
    rw [e1, e2, str_list, str_list, u8s_append, u8s_append]
    refine less_behind _ ?_ _ _
    rw [UInt8.lt_iff_toNat_lt, UInt8.toNat_ofNat', UInt8.toNat_ofNat']
    omega

theorem part_head (p : S41) : ∃ x r, partB p = x :: r ∧ (x = 1 ∨ x = 2) := by
  unfold partB
  split
  · exact ⟨2, _, rfl, .inr rfl⟩
  · exact ⟨1, _, rfl, .inl rfl⟩
theorem lay_head {l : List S41} (h : 1 ≤ l.length) : ∃ x r, layL l = x :: r ∧ (x = 1 ∨ x = 2) := by
  cases l with
  | nil => simp at h
  | cons p l =>
    obtain ⟨x, r, h1, h2⟩ := part_head p
    exact ⟨x, r ++ layL l, by unfold layL; rw [List.map_cons, List.flatten_cons, h1]; rfl, h2⟩
end Go.Proofs.YtdofoopnjmbmcaaDoor.Math
namespace Go.Proofs.YtdofoopnjmbmcaaDoor.Math
set_option linter.unusedVariables false
set_option linter.unusedSimpArgs false
open Go.RowKit Go.Proofs.YtdofoopnjmbmcaaDoor.X Go.Proofs.YtdofoopnjmbmcaaDoor.HandF
open Go.Proofs.YtdofoopnjmbmcaaDoorW.PrintWords Go.Proofs.YtdofoopnjmbmcaaDoorW.PrintLast Go.Proofs.YtdofoopnjmbmcaaDoorW.PrintMore

/-- A text's bytes, each 0 followed by 255. -/
def escI : List Int → List Int
  | [] => []
  | c :: r => if c = 0 then 0 :: 255 :: escI r else c :: escI r
theorem esc_map : ∀ l : List UInt8, (escU l).map (fun b => (b.toNat : Int)) = escI (l.map fun b => (b.toNat : Int))
  | [] => rfl
  | x :: r => by
    have ih := esc_map r
    rw [escU, List.map_cons, escI]
    by_cases c : x = 0
    · subst c
      rw [if_pos rfl, if_pos (by rfl), List.map_cons, List.map_cons, ih]
      rfl
    · have hx : ¬ ((x.toNat : Int) = 0) := fun h => c (UInt8.toNat_inj.1 (by show x.toNat = 0; omega))
      rw [if_neg c, if_neg hx, List.map_cons, ih]
theorem escS_bytes (s : ByteArray) : bytesOf (escS s) = escI (bytesOf s) := esc_map s.data.toList
theorem esc_bytes_back : ∀ {ys : List Int}, Bytes (escI ys) → Bytes ys
  | [], _ => fun _ h => by cases h
  | c :: r, h => by
    rw [escI] at h
    by_cases c0 : c = 0
    · rw [if_pos c0] at h
      have ih := esc_bytes_back (ys := r) (fun x hx => h x (by simp [hx]))
      intro x hx
      rcases List.mem_cons.1 hx with rfl | hx
      · omega
      · exact ih x hx
    · rw [if_neg c0] at h
      have ih := esc_bytes_back (ys := r) (fun x hx => h x (by simp [hx]))
      intro x hx
      rcases List.mem_cons.1 hx with rfl | hx
      · exact h x (by simp)
      · exact ih x hx

/-- What is told of bytes up to the end mark: the text, how many were read, is the mark right. -/
def decL : List Int → Option (List Int × Int × Bool)
  | c :: d :: r => if c = 0 then (if d = 255 then (decL r).map (fun t => (c :: t.1, t.2.1 + 2, t.2.2)) else some ([], 2, decide (d = 1))) else (decL (d :: r)).map (fun t => (c :: t.1, t.2.1 + 1, t.2.2))
  | _ => none

theorem fold_dec : ∀ (m : Nat) (x : List Int), x.length ≤ m → ∀ (xs : List Int) (n : Int), foldP (piecesL x) xs n = (decL x).map (fun t => (xs ++ t.1, n + t.2.1, t.2.2))
  | 0, x, h, xs, n => by
    obtain rfl : x = [] := List.eq_nil_of_length_eq_zero (by omega)
    rfl
  | m + 1, x, h, xs, n => by
    match x, h with
    | [], _ => rfl
    | [_], _ => rfl
    | c :: d :: r, h =>
      simp only [List.length_cons] at h
      rw [piecesL, decL]
      by_cases c0 : c = 0
      · rw [if_pos c0, if_pos c0, foldP, if_pos c0]
        by_cases d0 : d = 255
        · rw [if_pos d0, if_pos d0, fold_dec m r (by omega)]
          cases decL r with
          | none => rfl
          | some t => simp; omega
        · rw [if_neg d0, if_neg d0]
          simp
      · rw [if_neg c0, if_neg c0, foldP, if_neg c0, fold_dec m (d :: r) (by simp only [List.length_cons]; omega)]
        cases decL (d :: r) with
        | none => rfl
        | some t => simp; omega

theorem dec_canon : ∀ (m : Nat) (x : List Int), x.length ≤ m → ∀ (ys : List Int) (u : Int), decL x = some (ys, u, true) → ∃ r, x = escI ys ++ [0, 1] ++ r ∧ u = (escI ys).length + 2
  | 0, x, h, ys, u, e => by
    obtain rfl : x = [] := List.eq_nil_of_length_eq_zero (by omega)
    cases e
  | m + 1, x, h, ys, u, e => by
    match x, h, e with
    | [], _, e => cases e
    | [_], _, e => cases e
    | c :: d :: r, h, e =>
      simp only [List.length_cons] at h
      rw [decL] at e
      by_cases c0 : c = 0
      · rw [if_pos c0] at e
        by_cases d0 : d = 255
        · rw [if_pos d0] at e
          obtain ⟨⟨ys', u', b'⟩, e1, e2⟩ := Option.map_eq_some_iff.1 e
          simp only [Prod.mk.injEq] at e2
          obtain ⟨rfl, rfl, rfl⟩ := e2
          obtain ⟨q, hq, hu⟩ := dec_canon m r (by omega) ys' u' e1
          refine ⟨q, ?_, ?_⟩
          · rw [escI, if_pos c0, c0, d0, hq]
            rfl
          · rw [escI, if_pos c0, hu]
            simp only [List.length_cons]
            omega
        · rw [if_neg d0] at e
          simp only [Option.some.injEq, Prod.mk.injEq, decide_eq_true_eq] at e
          obtain ⟨rfl, rfl, e3⟩ := e
          exact ⟨r, by rw [c0, e3]; rfl, rfl⟩
      · rw [if_neg c0] at e
        obtain ⟨⟨ys', u', b'⟩, e1, e2⟩ := Option.map_eq_some_iff.1 e
        simp only [Prod.mk.injEq] at e2
        obtain ⟨rfl, rfl, rfl⟩ := e2
        obtain ⟨q, hq, hu⟩ := dec_canon m (d :: r) (by simp only [List.length_cons]; omega) ys' u' e1
        refine ⟨q, ?_, ?_⟩
        · rw [escI, if_neg c0, hq]
          rfl
        · rw [escI, if_neg c0, hu]
          simp only [List.length_cons]
          omega

theorem dec_cons {c : Int} {t : List Int} (hc : c ≠ 0) (h : 1 ≤ t.length) : decL (c :: t) = (decL t).map (fun t => (c :: t.1, t.2.1 + 1, t.2.2)) := by
  match t, h with
  | d :: r, _ => rw [decL, if_neg hc]
theorem dec_back : ∀ (ys r : List Int), decL (escI ys ++ [0, 1] ++ r) = some (ys, ((escI ys).length : Int) + 2, true)
  | [], r => by
    show decL (0 :: 1 :: r) = _
    rw [decL, if_pos rfl, if_neg (by decide)]
    rfl
  | c :: ys, r => by
    have ih := dec_back ys r
    rw [escI]
    by_cases c0 : c = 0
    · rw [if_pos c0]
      show decL (0 :: 255 :: (escI ys ++ [0, 1] ++ r)) = _
      rw [decL, if_pos rfl, if_pos rfl, ih, c0]
      simp only [Option.map_some, List.length_cons, Option.some.injEq, Prod.mk.injEq]
      exact ⟨trivial, by omega, trivial⟩
    · rw [if_neg c0]
      show decL (c :: (escI ys ++ [0, 1] ++ r)) = _
      rw [dec_cons c0 (by simp only [List.length_append, List.length_cons, List.length_nil]; omega), ih]
      simp only [Option.map_some, List.length_cons, Option.some.injEq, Prod.mk.injEq]
      exact ⟨trivial, by omega, trivial⟩

/-- The number that bytes behind the first are. -/
def numI (b : List Int) : Nat → Int
  | 0 => 0
  | i + 1 => Go.bits .or .u64 (IntKind.u64.wrap (numI b i * 256)) (IntKind.u64.wrap (rd b (1 + (i : Int))))
theorem numN_numI (s : ByteArray) : ∀ i, numN s i = numI (bytesOf s) i
  | 0 => rfl
  | i + 1 => by rw [numN, numI, numN_numI s i, rd_bytesOf]
theorem or_add {v x : Int} (h0 : 0 ≤ v) (h1 : v < 72057594037927936) (h2 : 0 ≤ x) (h3 : x ≤ 255) : Go.bits .or .u64 (IntKind.u64.wrap (v * 256)) (IntKind.u64.wrap x) = v * 256 + x := by
  obtain ⟨a, rfl⟩ := Int.eq_ofNat_of_zero_le h0
  obtain ⟨y, rfl⟩ := Int.eq_ofNat_of_zero_le h2
  have e1 : IntKind.u64.wrap ((a : Int) * 256) = ((a * 256 : Nat) : Int) := by rw [IntKind.wrap_u64]; omega
  have e2 : IntKind.u64.wrap (y : Int) = (y : Int) := by rw [IntKind.wrap_u64]; omega
  rw [e1, e2, u64_or_nat _ _ (by omega) (by omega)]
  have := Nat.two_pow_add_eq_or_of_lt (b := y) (i := 8) (by omega) a
  rw [show 2 ^ 8 * a = a * 256 by omega] at this
  rw [← this]
  omega

/-- The part that bytes begin with. -/
def firstI (b : List Int) : Bool × Int × ByteArray × Int :=
  if rd b 0 = 1 ∧ 9 ≤ b.length then (false, numI b 8, ⟨#[]⟩, 9)
  else if rd b 0 = 2 then (match decL (b.drop 1) with | some (ys, u, true) => (true, 0, strOfNums ys, 1 + u) | _ => (false, 0, ⟨#[]⟩, 0))
  else (false, 0, ⟨#[]⟩, 0)

theorem bytes_cut (s : ByteArray) (a : Nat) : bytesOf (s.extract a s.size) = (bytesOf s).drop a := by
  unfold bytesOf
  rw [ByteArray.data_extract, Array.toList_extract, List.extract_eq_take_drop, List.take_of_length_le (by rw [List.length_drop, data_length]; omega), List.map_drop]

theorem first_eq (s : ByteArray) (h : 0 < s.size ∧ s.size ≤ 140737488351232) : keys_first.f s = some (firstI (bytesOf s)) := by
  unfold keys_first.f firstI firstT
  rw [if_pos h, bytesOf_length, rd_bytesOf, numN_numI, fold_dec _ _ (Nat.le_refl _), bytes_cut]
  by_cases c1 : bt s 0 = 1 ∧ 9 ≤ s.size
  · rw [if_pos c1, if_pos c1]
  · rw [if_neg c1, if_neg c1]
    by_cases c2 : bt s 0 = 2
    · rw [if_pos c2, if_pos c2]
      cases decL ((bytesOf s).drop 1) with
      | none => rfl
      | some t =>
        obtain ⟨ys, u, b⟩ := t
        cases b <;> rfl
    · rw [if_neg c2, if_neg c2]

theorem nine {b : List Int} (h : 9 ≤ b.length) : ∃ a0 a1 a2 a3 a4 a5 a6 a7 a8 r, b = a0 :: a1 :: a2 :: a3 :: a4 :: a5 :: a6 :: a7 :: a8 :: r := by
  match b, h with
  | a0 :: a1 :: a2 :: a3 :: a4 :: a5 :: a6 :: a7 :: a8 :: r, _ => exact ⟨_, _, _, _, _, _, _, _, _, _, rfl⟩
  | [], h | [_], h | [_, _], h | [_, _, _], h | [_, _, _, _], h | [_, _, _, _, _], h | [_, _, _, _, _, _], h | [_, _, _, _, _, _, _], h | [_, _, _, _, _, _, _, _], h => simp at h

theorem num_nine {a0 a1 a2 a3 a4 a5 a6 a7 a8 : Int} {r : List Int} (h1 : 0 ≤ a1 ∧ a1 ≤ 255) (h2 : 0 ≤ a2 ∧ a2 ≤ 255) (h3 : 0 ≤ a3 ∧ a3 ≤ 255) (h4 : 0 ≤ a4 ∧ a4 ≤ 255) (h5 : 0 ≤ a5 ∧ a5 ≤ 255) (h6 : 0 ≤ a6 ∧ a6 ≤ 255) (h7 : 0 ≤ a7 ∧ a7 ≤ 255) (h8 : 0 ≤ a8 ∧ a8 ≤ 255) :
    numI (a0 :: a1 :: a2 :: a3 :: a4 :: a5 :: a6 :: a7 :: a8 :: r) 8 = (((((((a1 * 256 + a2) * 256 + a3) * 256 + a4) * 256 + a5) * 256 + a6) * 256 + a7) * 256 + a8) := by
  have g1 : numI (a0 :: a1 :: a2 :: a3 :: a4 :: a5 :: a6 :: a7 :: a8 :: r) 1 = a1 := by
    rw [numI, numI]
    show Go.bits .or .u64 (IntKind.u64.wrap (0 * 256)) (IntKind.u64.wrap a1) = a1
    rw [or_add (by omega) (by omega) h1.1 h1.2]
    omega
  have g2 := by
    have e : numI (a0 :: a1 :: a2 :: a3 :: a4 :: a5 :: a6 :: a7 :: a8 :: r) 2 = Go.bits .or .u64 (IntKind.u64.wrap (numI (a0 :: a1 :: a2 :: a3 :: a4 :: a5 :: a6 :: a7 :: a8 :: r) 1 * 256)) (IntKind.u64.wrap a2) := rfl
    rw [g1, or_add (by omega) (by omega) h2.1 h2.2] at e
    exact e
  have g3 := by
    have e : numI (a0 :: a1 :: a2 :: a3 :: a4 :: a5 :: a6 :: a7 :: a8 :: r) 3 = Go.bits .or .u64 (IntKind.u64.wrap (numI (a0 :: a1 :: a2 :: a3 :: a4 :: a5 :: a6 :: a7 :: a8 :: r) 2 * 256)) (IntKind.u64.wrap a3) := rfl
    rw [g2, or_add (by omega) (by omega) h3.1 h3.2] at e
    exact e
  have g4 := by
    have e : numI (a0 :: a1 :: a2 :: a3 :: a4 :: a5 :: a6 :: a7 :: a8 :: r) 4 = Go.bits .or .u64 (IntKind.u64.wrap (numI (a0 :: a1 :: a2 :: a3 :: a4 :: a5 :: a6 :: a7 :: a8 :: r) 3 * 256)) (IntKind.u64.wrap a4) := rfl
    rw [g3, or_add (by omega) (by omega) h4.1 h4.2] at e
    exact e
  have g5 := by
    have e : numI (a0 :: a1 :: a2 :: a3 :: a4 :: a5 :: a6 :: a7 :: a8 :: r) 5 = Go.bits .or .u64 (IntKind.u64.wrap (numI (a0 :: a1 :: a2 :: a3 :: a4 :: a5 :: a6 :: a7 :: a8 :: r) 4 * 256)) (IntKind.u64.wrap a5) := rfl
    rw [g4, or_add (by omega) (by omega) h5.1 h5.2] at e
    exact e
  have g6 := by
    have e : numI (a0 :: a1 :: a2 :: a3 :: a4 :: a5 :: a6 :: a7 :: a8 :: r) 6 = Go.bits .or .u64 (IntKind.u64.wrap (numI (a0 :: a1 :: a2 :: a3 :: a4 :: a5 :: a6 :: a7 :: a8 :: r) 5 * 256)) (IntKind.u64.wrap a6) := rfl
    rw [g5, or_add (by omega) (by omega) h6.1 h6.2] at e
    exact e
  have g7 := by
    have e : numI (a0 :: a1 :: a2 :: a3 :: a4 :: a5 :: a6 :: a7 :: a8 :: r) 7 = Go.bits .or .u64 (IntKind.u64.wrap (numI (a0 :: a1 :: a2 :: a3 :: a4 :: a5 :: a6 :: a7 :: a8 :: r) 6 * 256)) (IntKind.u64.wrap a7) := rfl
    rw [g6, or_add (by omega) (by omega) h7.1 h7.2] at e
    exact e
  have e : numI (a0 :: a1 :: a2 :: a3 :: a4 :: a5 :: a6 :: a7 :: a8 :: r) 8 = Go.bits .or .u64 (IntKind.u64.wrap (numI (a0 :: a1 :: a2 :: a3 :: a4 :: a5 :: a6 :: a7 :: a8 :: r) 7 * 256)) (IntKind.u64.wrap a8) := rfl
  rw [g7, or_add (by omega) (by omega) h8.1 h8.2] at e
  exact e

theorem be8_nine {n a1 a2 a3 a4 a5 a6 a7 a8 : Int} (h1 : 0 ≤ a1 ∧ a1 ≤ 255) (h2 : 0 ≤ a2 ∧ a2 ≤ 255) (h3 : 0 ≤ a3 ∧ a3 ≤ 255) (h4 : 0 ≤ a4 ∧ a4 ≤ 255) (h5 : 0 ≤ a5 ∧ a5 ≤ 255) (h6 : 0 ≤ a6 ∧ a6 ≤ 255) (h7 : 0 ≤ a7 ∧ a7 ≤ 255) (h8 : 0 ≤ a8 ∧ a8 ≤ 255)
    (h : n = (((((((a1 * 256 + a2) * 256 + a3) * 256 + a4) * 256 + a5) * 256 + a6) * 256 + a7) * 256 + a8)) : be8 n = [a1, a2, a3, a4, a5, a6, a7, a8] := by
  show [n / 2 ^ 56 % 256, n / 2 ^ 48 % 256, n / 2 ^ 40 % 256, n / 2 ^ 32 % 256, n / 2 ^ 24 % 256, n / 2 ^ 16 % 256, n / 2 ^ 8 % 256, n / 2 ^ 0 % 256] = _
  congr 1
  · omega
  congr 1
  · omega
  congr 1
  · omega
  congr 1
  · omega
  congr 1
  · omega
  congr 1
  · omega
  congr 1
  · omega
  congr 1
  omega

theorem bytesOf_strOf (s : ByteArray) : strOfNums (bytesOf s) = s := by
  refine ByteArray.ext (Array.toList_inj.1 ?_)
  rw [strOfNums_data]
  unfold bytesOf
  rw [List.map_map]
  conv => rhs; rw [← List.map_id s.data.toList]
  refine List.map_congr_left fun x hx => ?_
  show UInt8.ofNat ((x.toNat : Int).toNat) = x
  rw [Int.toNat_natCast]
  exact UInt8.ofNat_toNat

/-- What is read as a part is what the part is laid as. -/
theorem first_canon {b : List Int} (hb : Bytes b) {t : Bool} {n : Int} {s : ByteArray} {m : Int} (h : firstI b = (t, n, s, m)) (hm : m ≠ 0) : ∃ r, b = partB ⟨t, n, s⟩ ++ r ∧ m = (partB ⟨t, n, s⟩).length := by
  unfold firstI at h
  by_cases c1 : rd b 0 = 1 ∧ 9 ≤ b.length
  · rw [if_pos c1] at h
    simp only [Prod.mk.injEq] at h
    obtain ⟨rfl, hn, rfl, rfl⟩ := h
    obtain ⟨a0, a1, a2, a3, a4, a5, a6, a7, a8, r, rfl⟩ := nine c1.2
    have e0 : a0 = 1 := c1.1
    have k1 := hb a1 (by simp)
    have k2 := hb a2 (by simp)
    have k3 := hb a3 (by simp)
    have k4 := hb a4 (by simp)
    have k5 := hb a5 (by simp)
    have k6 := hb a6 (by simp)
    have k7 := hb a7 (by simp)
    have k8 := hb a8 (by simp)
    rw [num_nine k1 k2 k3 k4 k5 k6 k7 k8] at hn
    have hp : partB ⟨false, n, ⟨#[]⟩⟩ = [1, a1, a2, a3, a4, a5, a6, a7, a8] := by
      unfold partB
      rw [if_neg (fun h => by cases h), be8_nine k1 k2 k3 k4 k5 k6 k7 k8 hn.symm]
      rfl
    rw [hp]
    exact ⟨r, by rw [e0]; rfl, rfl⟩
  · rw [if_neg c1] at h
    by_cases c2 : rd b 0 = 2
    · rw [if_pos c2] at h
      cases hd : decL (b.drop 1) with
      | none =>
        rw [hd] at h
        simp only [Prod.mk.injEq] at h
        exact absurd h.2.2.2.symm hm
      | some q =>
        obtain ⟨ys, u, g⟩ := q
        rw [hd] at h
        cases g with
        | false =>
          simp only [Prod.mk.injEq] at h
          exact absurd h.2.2.2.symm hm
        | true =>
          simp only [Prod.mk.injEq] at h
          obtain ⟨rfl, rfl, rfl, rfl⟩ := h
          obtain ⟨r, hr, hu⟩ := dec_canon _ _ (Nat.le_refl _) _ _ hd
          have hbl : b = 2 :: b.drop 1 := by
            match b, c2 with
            | x :: l, c2 => rw [show x = 2 from c2]; rfl
          have hby : Bytes ys := esc_bytes_back (Bytes.left (m := [0, 1]) (Bytes.left (m := r) (by rw [← hr]; exact fun x hx => hb x (List.mem_of_mem_drop hx))))
          have hp : partB ⟨true, 0, strOfNums ys⟩ = 2 :: (escI ys ++ [0, 1]) := by
            unfold partB
            rw [if_pos rfl, escS_bytes, bytes_str hby]
            rfl
          rw [hp]
          refine ⟨r, ?_, ?_⟩
          · rw [hbl, hr]
            rfl
          · rw [hu]
            simp only [List.length_cons, List.length_append, List.length_nil]
            omega
    · rw [if_neg c2] at h
      simp only [Prod.mk.injEq] at h
      exact absurd h.2.2.2.symm hm

/-- What a part is laid as is read as the part. -/
theorem first_back (p : S41) (hp : rightP p = true) (hn : 0 ≤ p.f1 ∧ p.f1 < 18446744073709551616) (r : List Int) : firstI (partB p ++ r) = (p.f0, p.f1, p.f2, ((partB p).length : Int)) := by
  obtain ⟨t, n, s⟩ := p
  dsimp only at hn ⊢
  cases t with
  | true =>
    unfold rightP at hp
    rw [if_pos rfl, Bool.and_eq_true] at hp
    obtain rfl : n = 0 := beq_iff_eq.1 hp.1
    have e : partB ⟨true, 0, s⟩ = 2 :: (escI (bytesOf s) ++ [0, 1]) := by
      unfold partB
      rw [if_pos rfl, escS_bytes]
      rfl
    rw [e]
    unfold firstI
    have e2 : rd (2 :: (escI (bytesOf s) ++ [0, 1]) ++ r) 0 = 2 := rfl
    have e3 : (2 :: (escI (bytesOf s) ++ [0, 1]) ++ r).drop 1 = escI (bytesOf s) ++ [0, 1] ++ r := rfl
    rw [e2, e3, if_neg (fun h => absurd h.1 (by decide)), if_pos rfl, dec_back]
    dsimp only
    rw [bytesOf_strOf]
    simp only [Prod.mk.injEq, List.length_cons, List.length_append, List.length_nil]
    refine ⟨trivial, trivial, trivial, ?_⟩
    omega
  | false =>
    unfold rightP at hp
    rw [if_neg (fun h => by cases h)] at hp
    have hs : s = ⟨#[]⟩ := by
      have h1 : s.toList = [] := beq_iff_eq.1 hp
      refine ByteArray.ext (Array.toList_inj.1 ?_)
      rw [← Lib.toList_data, h1]
    subst hs
    have e : partB ⟨false, n, ⟨#[]⟩⟩ = [1, n / 2 ^ 56 % 256, n / 2 ^ 48 % 256, n / 2 ^ 40 % 256, n / 2 ^ 32 % 256, n / 2 ^ 24 % 256, n / 2 ^ 16 % 256, n / 2 ^ 8 % 256, n / 2 ^ 0 % 256] := rfl
    rw [e]
    unfold firstI
    rw [if_pos ⟨rfl, by simp⟩]
    simp only [Prod.mk.injEq]
    refine ⟨trivial, ?_, trivial, rfl⟩
    show numI (_ :: _ :: _ :: _ :: _ :: _ :: _ :: _ :: _ :: r) 8 = n
    rw [num_nine (by omega) (by omega) (by omega) (by omega) (by omega) (by omega) (by omega) (by omega)]
    have s1 : n / 2 ^ 56 % 256 = n / 2 ^ 56 := by omega
    have s2 : n / 2 ^ 56 * 256 + n / 2 ^ 48 % 256 = n / 2 ^ 48 := by omega
    have s3 : n / 2 ^ 48 * 256 + n / 2 ^ 40 % 256 = n / 2 ^ 40 := by omega
    have s4 : n / 2 ^ 40 * 256 + n / 2 ^ 32 % 256 = n / 2 ^ 32 := by omega
    have s5 : n / 2 ^ 32 * 256 + n / 2 ^ 24 % 256 = n / 2 ^ 24 := by omega
    have s6 : n / 2 ^ 24 * 256 + n / 2 ^ 16 % 256 = n / 2 ^ 16 := by omega
    have s7 : n / 2 ^ 16 * 256 + n / 2 ^ 8 % 256 = n / 2 ^ 8 := by omega
    rw [s1, s2, s3, s4, s5, s6, s7]
    omega
end Go.Proofs.YtdofoopnjmbmcaaDoor.Math
namespace Go.Proofs.YtdofoopnjmbmcaaDoor.Math
set_option linter.unusedVariables false
set_option linter.unusedSimpArgs false
open Go.RowKit Go.Proofs.YtdofoopnjmbmcaaDoor.X Go.Proofs.YtdofoopnjmbmcaaDoor.HandF
open Go.Proofs.YtdofoopnjmbmcaaDoorW.PrintWords Go.Proofs.YtdofoopnjmbmcaaDoorW.PrintLast Go.Proofs.YtdofoopnjmbmcaaDoorW.PrintMore

theorem bytes_inj {a b : ByteArray} (h : bytesOf a = bytesOf b) : a = b := by rw [← bytesOf_strOf a, h, bytesOf_strOf]
theorem cut_cut (s : ByteArray) (a n : Nat) : (s.extract a s.size).extract n (s.extract a s.size).size = s.extract (a + n) s.size := by
  apply bytes_inj
  rw [bytes_cut, bytes_cut, bytes_cut, List.drop_drop]
theorem cut_zero (s : ByteArray) : s.extract 0 s.size = s := by
  apply bytes_inj
  rw [bytes_cut, List.drop_zero]
theorem nil_iff (s : ByteArray) : s.toList = [] ↔ s.size = 0 := by
  rw [Lib.toList_data, ← data_length]
  exact List.length_eq_zero_iff.symm
theorem cut_size (s : ByteArray) (a : Nat) (h : a ≤ s.size) : (s.extract a s.size).size = s.size - a := by rw [ByteArray.size_extract]; omega

theorem ref_num (s : ByteArray) (h9 : 9 ≤ s.size) : ∀ (d i k : Nat), i + d = 8 → d < k → pannierref03_first.l0 k s (1 + (i : Int)) false (numI (bytesOf s) i) ⟨#[]⟩ = some (false, numI (bytesOf s) 8, ⟨#[]⟩, 9)
  | 0, i, k, hi, hk => by
    obtain ⟨k, rfl⟩ : ∃ k', k = k' + 1 := ⟨k - 1, by omega⟩
    obtain rfl : i = 8 := by omega
    rw [pannierref03_first.l0, if_neg (by omega)]
  | d + 1, i, k, hi, hk => by
    obtain ⟨k, rfl⟩ : ∃ k', k = k' + 1 := ⟨k - 1, by omega⟩
    have ih := ref_num s h9 d (i + 1) k (by omega) (by omega)
    rw [pannierref03_first.l0, if_pos (by omega), if_pos (by omega), if_pos (by omega), ← rd_bytesOf]
    have e1 : wrap64 (1 + (i : Int) + 1) = 1 + ((i + 1 : Nat) : Int) := by rw [wrap_small (by omega) (by omega)]; omega
    rw [e1]
    exact ih

def textR (xs : List Int) (i : Nat) (o : Option (List Int × Int × Bool)) : Bool × Int × ByteArray × Int :=
  match o with | some (ys, u, true) => (true, 0, strOfNums (xs ++ ys), (i : Int) + u) | _ => (false, 0, ⟨#[]⟩, 0)
theorem textR_map (xs : List Int) (i j : Nat) (c : Int) (o : Option (List Int × Int × Bool)) : textR xs i (o.map (fun t => (c :: t.1, t.2.1 + (j : Int), t.2.2))) = textR (xs ++ [c]) (i + j) o := by
  cases o with
  | none => rfl
  | some t =>
    obtain ⟨ys, u, b⟩ := t
    cases b with
    | false => rfl
    | true =>
      simp only [textR, Option.map_some, List.append_assoc, List.cons_append, List.nil_append, Prod.mk.injEq]
      refine ⟨trivial, trivial, trivial, ?_⟩
      omega

theorem ref_text (s : ByteArray) (hs : s.size ≤ 140737488351232) : ∀ (m i k : Nat) (xs : List Int), s.size ≤ i + m → m < k → xs.length ≤ i → i ≤ s.size → pannierref03_first.l1 k s xs (i : Int) = some (textR xs i (decL ((bytesOf s).drop i))) := by
  intro m
  induction m with
  | zero =>
    intro i k xs h1 h2 h3 h4
    obtain ⟨k, rfl⟩ : ∃ k', k = k' + 1 := ⟨k - 1, by omega⟩
    rw [pannierref03_first.l1, wrap_succ (by omega), if_neg (by omega), List.drop_eq_nil_of_le (by rw [bytesOf_length]; omega)]
    rfl
  | succ m ih =>
    intro i k xs h1 h2 h3 h4
    obtain ⟨k, rfl⟩ : ∃ k', k = k' + 1 := ⟨k - 1, by omega⟩
    rw [pannierref03_first.l1, wrap_succ (by omega)]
    by_cases hi : i + 1 < s.size
    · have hl := bytesOf_length s
      have hd : (bytesOf s).drop i = rd (bytesOf s) (i : Int) :: (bytesOf s).drop (i + 1) := by
        rw [List.drop_eq_getElem_cons (by omega), rd_get (by omega)]
      have hd2 : (bytesOf s).drop (i + 1) = rd (bytesOf s) ((i + 1 : Nat) : Int) :: (bytesOf s).drop (i + 2) := by
        rw [List.drop_eq_getElem_cons (by omega), rd_get (by omega)]
      rw [if_pos (by omega), if_pos (by omega), if_pos (by omega), ← rd_bytesOf, ← rd_bytesOf]
      rw [if_pos (show (0 : Int) ≤ ((i + 1 : Nat) : Int) by omega)]
      by_cases c0 : rd (bytesOf s) (i : Int) = 0
      · rw [if_pos c0, hd, hd2, decL, if_pos c0]
        by_cases c1 : rd (bytesOf s) ((i + 1 : Nat) : Int) = 1
        · rw [if_pos c1, if_neg (by omega), decide_eq_true c1]
          have e2 : wrap64 ((i : Int) + 2) = (i : Int) + 2 := wrap_small (by omega) (by omega)
          rw [e2]
          simp only [textR, List.append_nil]
        · rw [if_neg c1]
          by_cases c2 : rd (bytesOf s) ((i + 1 : Nat) : Int) = 255
          · rw [if_pos c2, if_pos c2, if_pos (by omega), wrap_succ (by omega), ih (i + 1 + 1) k (xs ++ [0]) (by omega) (by omega) (by simp only [List.length_append, List.length_cons, List.length_nil]; omega) (by omega), c0]
            exact congrArg some (textR_map xs i 2 0 _).symm
          · rw [if_neg c2, if_neg c2, decide_eq_false c1]
            rfl
      · rw [if_neg c0, if_pos (by omega), ih (i + 1) k (xs ++ [rd (bytesOf s) (i : Int)]) (by omega) (by omega) (by simp only [List.length_append, List.length_cons, List.length_nil]; omega) (by omega)]
        rw [hd, dec_cons c0 (by rw [List.length_drop]; omega)]
        exact congrArg some (textR_map xs i 1 _ _).symm
    · rw [if_neg (by omega)]
      have : decL ((bytesOf s).drop i) = none := by
        have hlen : ((bytesOf s).drop i).length ≤ 1 := by rw [List.length_drop, bytesOf_length]; omega
        match (bytesOf s).drop i, hlen with
        | [], _ => rfl
        | [_], _ => rfl
      rw [this]
      rfl

theorem refFirst_ev (s : ByteArray) (h : 0 < s.size ∧ s.size ≤ 140737488351232) : Ev (fun k => pannierref03_first.f k s) (firstI (bytesOf s)) := by
  refine ⟨s.size + 20, fun k hk => ?_⟩
  obtain ⟨k, rfl⟩ : ∃ k', k = k' + 1 := ⟨k - 1, by omega⟩
  show pannierref03_first.f (k + 1) s = _
  unfold pannierref03_first.f firstI
  rw [if_pos (by omega), rd_bytesOf, bytesOf_length]
  have p0 : (0 : Int) < (s.size : Int) := by omega
  by_cases c1 : bt s 0 = 1
  · rw [if_pos c1, pannierref03_first.j0]
    by_cases c9 : 9 ≤ s.size
    · have y : bt s 0 = 1 ∧ 9 ≤ s.size := ⟨c1, c9⟩
      have d9 : decide ((s.size : Int) ≥ 9) = true := decide_eq_true (by omega)
      rw [if_pos d9, if_pos y]
      have := ref_num s c9 8 0 k rfl (by omega)
      exact this
    · have y : ¬ (bt s 0 = 1 ∧ 9 ≤ s.size) := fun h => c9 h.2
      have d9 : ¬ (decide ((s.size : Int) ≥ 9) = true) := by rw [decide_eq_false (by omega)]; decide
      have c2 : ¬ bt s 0 = 2 := by omega
      rw [if_neg d9, if_neg y, if_pos p0, if_neg c2, if_neg c2]
  · have y : ¬ (bt s 0 = 1 ∧ 9 ≤ s.size) := fun h => c1 h.1
    rw [if_neg c1, pannierref03_first.j0, if_neg (by decide), if_neg y, if_pos p0]
    by_cases c2 : bt s 0 = 2
    · rw [if_pos c2, if_pos c2]
      have := ref_text s h.2 (s.size - 1) 1 k [] (by omega) (by omega) (by simp) (by omega)
      refine this.trans (congrArg some ?_)
      unfold textR
      rfl
    · rw [if_neg c2, if_neg c2]

/-- Both readings tell the same; where they tell a key, it is laid as what was read. -/
theorem read_both (s : ByteArray) (hs : s.size ≤ 140737488351232) : ∀ (m p : Nat) (acc : List S41), s.size ≤ p + m → p ≤ s.size → acc.length ≤ 8 →
    ∃ (l : List S41) (e : Int), Ev (fun k => keys_Read.l0 k (s.extract p s.size) acc) (l, e) ∧ Ev (fun k => pannierref03_Read.l0 k s acc (p : Int)) (l, e) ∧
      ((e = 0 ∧ rightL l = true ∧ layL l = layL acc ++ (bytesOf s).drop p) ∨ (e = 30 ∧ l = [])) := by
  have fin : ∀ (p : Nat) (acc : List S41), p = s.size → acc.length ≤ 8 →
    ∃ (l : List S41) (e : Int), Ev (fun k => keys_Read.l0 k (s.extract p s.size) acc) (l, e) ∧ Ev (fun k => pannierref03_Read.l0 k s acc (p : Int)) (l, e) ∧
      ((e = 0 ∧ rightL l = true ∧ layL l = layL acc ++ (bytesOf s).drop p) ∨ (e = 30 ∧ l = [])) := by
    intro p acc hp hacc
    have hn : (s.extract p s.size).toList = [] := (nil_iff _).2 (by rw [cut_size _ _ (by omega)]; omega)
    have hd : (bytesOf s).drop p = [] := List.drop_eq_nil_of_le (by rw [bytesOf_length]; omega)
    have hR := refRight_ev acc (by omega)
    refine ⟨if rightL acc = true then acc else [], if rightL acc = true then 0 else 30, ?_, ?_, ?_⟩
    · refine Ev.step (f := fun _ => some (if rightL acc = true then acc else [], if rightL acc = true then (0 : Int) else 30)) (fun k => ?_) (Ev.now _)
      rw [keys_Read.l0, if_pos hn, rightL_eq, Option.bind_some]
      split <;> rfl
    · refine Ev.step (f := fun k => (pannierref03_Right.f k acc).bind fun t => if t = true then some (acc, 0) else some (([] : List S41), 30)) (fun k => ?_) ?_
      · rw [pannierref03_Read.l0, if_neg (by omega)]
      · refine Ev.bind hR ?_
        cases rightL acc
        · exact Ev.now _
        · exact Ev.now _
    · cases hr : rightL acc
      · exact .inr ⟨rfl, rfl⟩
      · exact .inl ⟨rfl, hr, by rw [hd, List.append_nil]; rfl⟩
  intro m
  induction m with
  | zero => exact fun p acc h1 h2 h3 => fin p acc (by omega) h3
  | succ m ih =>
    intro p acc h1 h2 h3
    by_cases hp : p = s.size
    · exact fin p acc hp h3
    have hz := cut_size s p h2
    have hn : ¬ (s.extract p s.size).toList = [] := fun h => by have := (nil_iff _).1 h; omega
    have hf := first_eq (s.extract p s.size) (by omega)
    have hrf := refFirst_ev (s.extract p s.size) (by omega)
    rw [bytes_cut] at hf hrf
    have hby : Bytes ((bytesOf s).drop p) := fun x hx => bytesOf_bytes s x (List.mem_of_mem_drop hx)
    obtain ⟨⟨t, n, q, u⟩, hfi⟩ : ∃ v, firstI ((bytesOf s).drop p) = v := ⟨_, rfl⟩
    rw [hfi] at hf hrf
    by_cases hu : u = 0
    · refine ⟨[], 30, ?_, ?_, .inr ⟨rfl, rfl⟩⟩
      · refine Ev.step (f := fun _ => some (([] : List S41), (30 : Int))) (fun k => ?_) (Ev.now _)
        rw [keys_Read.l0, if_neg hn, hf, Option.bind_some, if_pos hu]
      · refine Ev.step (f := fun k => (pannierref03_first.f k (s.extract p s.size)).bind fun b => if b.2.2.2 = 0 then some (([] : List S41), (30 : Int)) else (if (acc.length : Int) ≥ 8 then (some (([] : List (S41)), 30)) else (if acc.length < 4398046511104 then (pannierref03_Read.l0 k s (acc ++ [(⟨b.1, b.2.1, b.2.2.1⟩ : S41)]) (wrap64 ((p : Int) + b.2.2.2))) else (none)))) (fun k => ?_) ?_
        · rw [pannierref03_Read.l0, if_pos (by omega), if_pos (by omega), if_pos (by omega), Int.toNat_natCast]
        · refine Ev.bind hrf ?_
          simp only [hu]
          exact Ev.now _
    · obtain ⟨r, hr, hul⟩ := first_canon hby hfi hu
      have hlen := congrArg List.length hr
      rw [List.length_drop, bytesOf_length, List.length_append] at hlen
      have hpl : 1 ≤ (partB ⟨t, n, q⟩).length := by
        obtain ⟨x, r', h, _⟩ := part_head ⟨t, n, q⟩
        rw [h]; simp
      obtain ⟨v, hv⟩ : ∃ v, (partB ⟨t, n, q⟩).length = v := ⟨_, rfl⟩
      rw [hv] at hul hlen hpl
      by_cases h8 : acc.length = 8
      · refine ⟨[], 30, ?_, ?_, .inr ⟨rfl, rfl⟩⟩
        · refine Ev.step (f := fun _ => some (([] : List S41), (30 : Int))) (fun k => ?_) (Ev.now _)
          rw [keys_Read.l0, if_neg hn, hf, Option.bind_some, if_neg hu, if_pos (by omega)]
        · refine Ev.step (f := fun k => (pannierref03_first.f k (s.extract p s.size)).bind fun b => if b.2.2.2 = 0 then some (([] : List S41), (30 : Int)) else (if (acc.length : Int) ≥ 8 then (some (([] : List (S41)), 30)) else (if acc.length < 4398046511104 then (pannierref03_Read.l0 k s (acc ++ [(⟨b.1, b.2.1, b.2.2.1⟩ : S41)]) (wrap64 ((p : Int) + b.2.2.2))) else (none)))) (fun k => ?_) ?_
          · rw [pannierref03_Read.l0, if_pos (by omega), if_pos (by omega), if_pos (by omega), Int.toNat_natCast]
          · refine Ev.bind hrf ?_
            refine Ev.congr (fun k => ?_) (Ev.now _)
            rw [if_neg hu, if_pos (by omega)]
      · obtain ⟨l, e, g1, g2, g3⟩ := ih (p + v) (acc ++ [⟨t, n, q⟩]) (by omega) (by omega) (by simp only [List.length_append, List.length_cons, List.length_nil]; omega)
        refine ⟨l, e, ?_, ?_, ?_⟩
        · refine Ev.step (fun k => ?_) g1
          rw [keys_Read.l0, if_neg hn, hf, Option.bind_some, if_neg hu, if_neg (by omega), if_pos (by omega)]
          dsimp only
          rw [if_pos (by omega), if_pos (by omega), hul, Int.toNat_natCast, cut_cut]
        · refine Ev.step (f := fun k => (pannierref03_first.f k (s.extract p s.size)).bind fun b => if b.2.2.2 = 0 then some (([] : List S41), (30 : Int)) else (if (acc.length : Int) ≥ 8 then (some (([] : List (S41)), 30)) else (if acc.length < 4398046511104 then (pannierref03_Read.l0 k s (acc ++ [(⟨b.1, b.2.1, b.2.2.1⟩ : S41)]) (wrap64 ((p : Int) + b.2.2.2))) else (none)))) (fun k => ?_) ?_
          · rw [pannierref03_Read.l0, if_pos (by omega), if_pos (by omega), if_pos (by omega), Int.toNat_natCast]
          · refine Ev.bind hrf ?_
            refine Ev.congr (fun k => ?_) g2
            have ew : wrap64 ((p : Int) + u) = ((p + v : Nat) : Int) := by rw [wrap_small (by omega) (by omega)]; omega
            dsimp only
            rw [if_neg hu, if_neg (by omega), if_pos (by omega), ew]
        · rcases g3 with ⟨he, hrl, hll⟩ | h30
          · refine .inl ⟨he, hrl, ?_⟩
            rw [hll, layL_append, hr, List.append_assoc]
            congr 1
            rw [show layL [⟨t, n, q⟩] = partB ⟨t, n, q⟩ by unfold layL; simp]
            congr 1
            rw [← List.drop_drop, hr, ← hv, List.drop_left]
          · exact .inr h30

theorem read_ev (s : ByteArray) (hs : s.size ≤ 140737488351232) : ∃ (l : List S41) (e : Int), Ev (fun k => keys_Read.f k s) (l, e) ∧ Ev (fun k => pannierref03_Read.f k s) (l, e) ∧ ((e = 0 ∧ rightL l = true ∧ strOfNums (layL l) = s) ∨ (e = 30 ∧ l = [])) := by
  obtain ⟨l, e, g1, g2, g3⟩ := read_both s hs s.size 0 [] (by omega) (by omega) (by simp)
  rw [cut_zero] at g1
  refine ⟨l, e, g1, g2, ?_⟩
  rcases g3 with ⟨he, hr, hl⟩ | h
  · exact .inl ⟨he, hr, by rw [hl, List.drop_zero]; exact bytesOf_strOf s⟩
  · exact .inr h
end Go.Proofs.YtdofoopnjmbmcaaDoor.Math
namespace Go.Proofs.YtdofoopnjmbmcaaDoor.Math
set_option linter.unusedVariables false
set_option linter.unusedSimpArgs false
open Go.RowKit Go.Proofs.YtdofoopnjmbmcaaDoor.X Go.Proofs.YtdofoopnjmbmcaaDoor.HandF
open Go.Proofs.YtdofoopnjmbmcaaDoorW.PrintWords Go.Proofs.YtdofoopnjmbmcaaDoorW.PrintLast Go.Proofs.YtdofoopnjmbmcaaDoorW.PrintMore

def tailB (n : Int) : Nat → List Int
  | 0 => []
  | j + 1 => n / 2 ^ (8 * j) % 256 :: tailB n j
theorem be8_tail (n : Int) : be8 n = tailB n 8 := rfl
theorem part_num (t : Bool) (n : Int) (s : ByteArray) : ∀ (j k : Nat) (xs : List Int), j ≤ 8 → j < k → xs.length + j < 100 → pannierref03_part.l0 k xs ((j : Int) - 1) t n s = some (xs ++ tailB n j)
  | 0, k, xs, h1, h2, h3 => by
    obtain ⟨k, rfl⟩ : ∃ k', k = k' + 1 := ⟨k - 1, by omega⟩
    rw [pannierref03_part.l0, if_neg (by omega), tailB, List.append_nil]
  | j + 1, k, xs, h1, h2, h3 => by
    obtain ⟨k, rfl⟩ : ∃ k', k = k' + 1 := ⟨k - 1, by omega⟩
    have ih := part_num t n s j k (xs ++ [n / 2 ^ (8 * j) % 256]) (by omega) (by omega) (by simp only [List.length_append, List.length_cons, List.length_nil]; omega)
    have e0 : ((j + 1 : Nat) : Int) - 1 = (j : Int) := by omega
    have e1 : wrap64 (8 * (j : Int)) = ((8 * j : Nat) : Int) := by rw [wrap_small (by omega) (by omega)]; omega
    have e2 : wrap64 ((j : Int) - 1) = (j : Int) - 1 := wrap_small (by omega) (by omega)
    have e3 : shr .u64 n ((8 * j : Nat) : Int) = n / 2 ^ (8 * j) := by
      unfold shr
      rw [Int.toNat_natCast, Nat.min_eq_left (show 8 * j ≤ IntKind.u64.bits by show 8 * j ≤ 64; omega)]
    rw [e0, pannierref03_part.l0, if_pos (by omega), e1, if_pos (by omega), if_pos (by omega), e2, e3, ih, tailB, List.append_assoc]
    rfl
theorem part_text (t : Bool) (n : Int) (s : ByteArray) (hs : s.size ≤ 1000) : ∀ (m i k : Nat) (xs : List Int), s.size = i + m → m < k → xs.length + 2 * m < 10000000 → pannierref03_part.l1 k xs (i : Int) t n s = some (xs ++ escI ((bytesOf s).drop i) ++ [0, 1])
  | 0, i, k, xs, h1, h2, h3 => by
    obtain ⟨k, rfl⟩ : ∃ k', k = k' + 1 := ⟨k - 1, by omega⟩
    rw [pannierref03_part.l1, if_neg (by omega), Option.bind_some, List.drop_eq_nil_of_le (by rw [bytesOf_length]; omega), if_pos (by simp only [List.length_cons, List.length_nil]; omega), escI, List.append_nil]
  | m + 1, i, k, xs, h1, h2, h3 => by
    obtain ⟨k, rfl⟩ : ∃ k', k = k' + 1 := ⟨k - 1, by omega⟩
    have hl := bytesOf_length s
    have hd : (bytesOf s).drop i = rd (bytesOf s) (i : Int) :: (bytesOf s).drop (i + 1) := by
      rw [List.drop_eq_getElem_cons (by omega), rd_get (by omega)]
    rw [pannierref03_part.l1, if_pos (by omega), if_pos (by omega), if_pos (by omega), Option.bind_some, ← rd_bytesOf, wrap_succ (by omega), hd, escI]
    by_cases c : rd (bytesOf s) (i : Int) = 0
    · rw [if_pos c, if_pos c, if_pos (by simp only [List.length_append, List.length_cons, List.length_nil]; omega), part_text t n s hs m (i + 1) k _ (by omega) (by omega) (by simp only [List.length_append, List.length_cons, List.length_nil]; omega), c]
      simp
    · rw [if_neg c, if_neg c, part_text t n s hs m (i + 1) k _ (by omega) (by omega) (by simp only [List.length_append, List.length_cons, List.length_nil]; omega)]
      simp
theorem refPart_ev (p : S41) (hp : rightP p = true) : Ev (fun k => pannierref03_part.f k p.f0 p.f1 p.f2) (partB p) := by
  refine ⟨1000, fun k hk => ?_⟩
  obtain ⟨t, n, s⟩ := p
  show pannierref03_part.f k t n s = _
  unfold pannierref03_part.f partB
  cases t with
  | true =>
    have h5 := right_size hp rfl
    dsimp only at h5
    rw [if_pos rfl, if_pos rfl, if_pos (by decide)]
    have := part_text true n s (by omega) s.size 0 k ([] ++ [2]) (by omega) (by omega) (by simp only [List.length_append, List.length_cons, List.length_nil]; omega)
    refine this.trans ?_
    rw [List.drop_zero, escS_bytes]
    rfl
  | false =>
    rw [if_neg (show ¬ (false = true) by decide), if_neg (show ¬ ((⟨false, n, s⟩ : S41).f0 = true) from fun h => by cases h), if_pos (by decide)]
    have := part_num false n s 8 k ([] ++ [1]) (by omega) (by omega) (by simp)
    refine this.trans ?_
    rw [← be8_tail]
    rfl

theorem lay_loop (l : List S41) (hr : l.all rightP = true) (hl : l.length ≤ 8) : ∀ (d i : Nat) (xs : List Int), i + d = l.length → xs.length ≤ 1027 * i → Ev (fun k => pannierref03_Lay.l0 k l xs (i : Int)) (strOfNums (xs ++ layL (l.drop i)), 0)
  | 0, i, xs, h1, h2 => by
    refine Ev.step (f := fun _ => some (strOfNums (xs ++ layL (l.drop i)), (0 : Int))) (fun k => ?_) (Ev.now _)
    rw [pannierref03_Lay.l0, if_neg (by omega), List.drop_eq_nil_of_le (by omega)]
    rw [show layL ([] : List S41) = [] from rfl, List.append_nil]
  | d + 1, i, xs, h1, h2 => by
    have hi : i < l.length := by omega
    have hp : rightP (rd_T41 l (i : Int)) = true := by rw [rd_T41_get l i hi]; exact List.all_eq_true.1 hr _ (List.getElem_mem hi)
    have hpl := partB_length hp
    have ih := lay_loop l hr hl d (i + 1) (xs ++ partB (rd_T41 l (i : Int))) (by omega) (by rw [List.length_append]; omega)
    refine Ev.step (f := fun k => (pannierref03_part.f k ((rd_T41 l (i : Int)).f0) ((rd_T41 l (i : Int)).f1) ((rd_T41 l (i : Int)).f2)).bind fun t => if xs.length + t.length < 140737488355328 then pannierref03_Lay.l0 k l (xs ++ t) (wrap64 ((i : Int) + 1)) else none) (fun k => ?_) ?_
    · rw [pannierref03_Lay.l0, if_pos (by omega), if_pos (by omega)]
    · refine Ev.bind (refPart_ev _ hp) ?_
      refine Ev.congr (fun k => ?_) (r := _) (f := fun k => pannierref03_Lay.l0 k l (xs ++ partB (rd_T41 l (i : Int))) ((i + 1 : Nat) : Int)) ?_
      · rw [if_pos (by omega), wrap_succ (by omega)]
      · rw [rd_T41_drop l i hi]
        have e : layL (rd_T41 l (i : Int) :: l.drop (i + 1)) = partB (rd_T41 l (i : Int)) ++ layL (l.drop (i + 1)) := by unfold layL; rw [List.map_cons, List.flatten_cons]
        rw [e, ← List.append_assoc]
        exact ih

theorem refLay_ev (l : List S41) (hl : l.length ≤ 140737488355328) : Ev (fun k => pannierref03_Lay.f k l) (if rightL l = true then (strOfNums (layL l), 0) else (⟨#[]⟩, 2)) := by
  unfold pannierref03_Lay.f
  refine Ev.bind (refRight_ev l hl) ?_
  cases hr : rightL l with
  | true =>
    obtain ⟨h1, h2, h3⟩ := rightL_parts hr
    exact lay_loop l h1 h3 l.length 0 [] (by omega) (by simp)
  | false => exact Ev.now _

theorem same_loop (l : List S41) (hl : l.length ≤ 8) : ∀ (d i : Nat), i + d = l.length → pannierref03_Same.l0 (d + 1) l l (i : Int) = some true
  | 0, i, h => by rw [pannierref03_Same.l0, if_neg (by omega)]
  | d + 1, i, h => by
    rw [pannierref03_Same.l0, if_pos (by omega), if_pos (by omega), if_pos (by omega), wrap_succ (by omega), beq_self_eq_true, beq_self_eq_true, beq_self_eq_true, same_loop l hl d (i + 1) (by omega)]
    rfl
theorem same_ev (l : List S41) (hl : l.length ≤ 8) : Ev (fun k => pannierref03_Same.f k l l) true := by
  refine Ev.of (fun k => pannierref03_Same.mono _ _ k) (k := l.length + 1) ?_
  unfold pannierref03_Same.f
  rw [if_pos rfl]
  exact same_loop l hl l.length 0 (by omega)
end Go.Proofs.YtdofoopnjmbmcaaDoor.Math
namespace Go.Proofs.YtdofoopnjmbmcaaDoor.Math
set_option linter.unusedVariables false
set_option linter.unusedSimpArgs false
open Go.RowKit Go.Proofs.YtdofoopnjmbmcaaDoor.X Go.Proofs.YtdofoopnjmbmcaaDoor.HandF
open Go.Proofs.YtdofoopnjmbmcaaDoorW.PrintWords Go.Proofs.YtdofoopnjmbmcaaDoorW.PrintLast Go.Proofs.YtdofoopnjmbmcaaDoorW.PrintMore

theorem cb_cons (x y : UInt8) (a b : List UInt8) : Lib.compareBytes (x :: a) (y :: b) = if x < y then -1 else if y < x then 1 else Lib.compareBytes a b := rfl
theorem cb_same (x : UInt8) (a b : List UInt8) : Lib.compareBytes (x :: a) (x :: b) = Lib.compareBytes a b := by
  rw [cb_cons, if_neg (UInt8.lt_irrefl x), if_neg (UInt8.lt_irrefl x)]
theorem cb_refl : ∀ a : List UInt8, Lib.compareBytes a a = 0
  | [] => rfl
  | x :: a => by rw [cb_same]; exact cb_refl a
theorem cb_zero : ∀ {a b : List UInt8}, Lib.compareBytes a b = 0 → a = b
  | [], [], _ => rfl
  | [], _ :: _, h => by cases h
  | _ :: _, [], h => by cases h
  | x :: a, y :: b, h => by
    rw [cb_cons] at h
    by_cases c1 : x < y
    · rw [if_pos c1] at h; cases h
    · rw [if_neg c1] at h
      by_cases c2 : y < x
      · rw [if_pos c2] at h; cases h
      · rw [if_neg c2] at h
        have e : x = y := UInt8.le_antisymm (UInt8.not_lt.1 c2) (UInt8.not_lt.1 c1)
        rw [e, cb_zero h]
theorem u8_lt {a b : Int} (ha : 0 ≤ a ∧ a ≤ 255) (hb : 0 ≤ b ∧ b ≤ 255) : UInt8.ofNat a.toNat < UInt8.ofNat b.toNat ↔ a < b := by
  rw [UInt8.lt_iff_toNat_lt, UInt8.toNat_ofNat', UInt8.toNat_ofNat']
  omega

theorem num_cmp (n m : Int) (X Y : List UInt8) : ∀ j : Nat, n / 2 ^ (8 * j) = m / 2 ^ (8 * j) → Lib.compareBytes (u8s (tailB n j) ++ X) (u8s (tailB m j) ++ Y) = if n < m then -1 else if m < n then 1 else Lib.compareBytes X Y
  | 0, h => by
    have e : n = m := by simpa using h
    subst e
    rw [if_neg (by omega), if_neg (by omega)]
    rfl
  | j + 1, h => by
    have ih := num_cmp n m X Y j
    have hP : (0 : Int) < 2 ^ (8 * j) := Int.pow_pos (by decide)
    have hn : n / 2 ^ (8 * (j + 1)) = n / 2 ^ (8 * j) / 256 := by
      rw [Int.ediv_ediv, if_neg (fun h => absurd h.1 (by omega)), Int.sub_zero, show (8 * (j + 1)) = 8 * j + 8 by omega, Int.pow_add]
      rfl
    have hm : m / 2 ^ (8 * (j + 1)) = m / 2 ^ (8 * j) / 256 := by
      rw [Int.ediv_ediv, if_neg (fun h => absurd h.1 (by omega)), Int.sub_zero, show (8 * (j + 1)) = 8 * j + 8 by omega, Int.pow_add]
      rfl
    rw [hn, hm] at h
    have mono1 : n ≤ m → n / 2 ^ (8 * j) ≤ m / 2 ^ (8 * j) := fun h => Int.ediv_le_ediv hP h
    have mono2 : m ≤ n → m / 2 ^ (8 * j) ≤ n / 2 ^ (8 * j) := fun h => Int.ediv_le_ediv hP h
    rw [tailB, tailB]
    show Lib.compareBytes (UInt8.ofNat (n / 2 ^ (8 * j) % 256).toNat :: (u8s (tailB n j) ++ X)) (UInt8.ofNat (m / 2 ^ (8 * j) % 256).toNat :: (u8s (tailB m j) ++ Y)) = _
    obtain ⟨a, ha⟩ : ∃ a, n / 2 ^ (8 * j) = a := ⟨_, rfl⟩
    obtain ⟨b, hb⟩ : ∃ b, m / 2 ^ (8 * j) = b := ⟨_, rfl⟩
    rw [ha, hb] at h mono1 mono2 ih ⊢
    rw [cb_cons]
    simp only [u8_lt (a := a % 256) (b := b % 256) (by omega) (by omega), u8_lt (a := b % 256) (b := a % 256) (by omega) (by omega)]
    by_cases c1 : a % 256 < b % 256
    · rw [if_pos c1, if_pos (by omega)]
    · rw [if_neg c1]
      by_cases c2 : b % 256 < a % 256
      · rw [if_pos c2, if_neg (by omega), if_pos (by omega)]
      · rw [if_neg c2]
        exact ih (by omega)

theorem esc_cmp (X Y : List UInt8) : ∀ a b : List UInt8, Lib.compareBytes (escU a ++ (0 :: 1 :: X)) (escU b ++ (0 :: 1 :: Y)) = if Lib.compareBytes a b = 0 then Lib.compareBytes X Y else Lib.compareBytes a b
  | [], [] => by
    show Lib.compareBytes (0 :: 1 :: X) (0 :: 1 :: Y) = _
    rw [cb_same, cb_same]
    rfl
  | [], y :: b => by
    show Lib.compareBytes (0 :: 1 :: X) _ = _
    rw [escU]
    by_cases hy : y = 0
    · rw [if_pos hy]
      show Lib.compareBytes (0 :: 1 :: X) (0 :: 255 :: _) = _
      rw [cb_same, cb_cons, if_pos (by decide)]
      rfl
    · rw [if_neg hy]
      show Lib.compareBytes (0 :: 1 :: X) (y :: _) = _
      rw [cb_cons, if_pos (UInt8.pos_iff_ne_zero.2 hy)]
      rfl
  | x :: a, [] => by
    show Lib.compareBytes _ (0 :: 1 :: Y) = _
    rw [escU]
    by_cases hx : x = 0
    · rw [if_pos hx]
      show Lib.compareBytes (0 :: 255 :: _) (0 :: 1 :: Y) = _
      rw [cb_same, cb_cons, if_neg (by decide), if_pos (by decide)]
      rfl
    · rw [if_neg hx]
      show Lib.compareBytes (x :: _) (0 :: 1 :: Y) = _
      rw [cb_cons, if_neg (UInt8.not_lt.2 (UInt8.zero_le)), if_pos (UInt8.pos_iff_ne_zero.2 hx)]
      rfl
  | x :: a, y :: b => by
    have ih := esc_cmp X Y a b
    rw [escU, escU, cb_cons]
    by_cases hx : x = 0
    · rw [if_pos hx]
      by_cases hy : y = 0
      · rw [if_pos hy, hx, hy, if_neg (UInt8.lt_irrefl 0), if_neg (UInt8.lt_irrefl 0)]
        show Lib.compareBytes (0 :: 255 :: (escU a ++ _)) (0 :: 255 :: (escU b ++ _)) = _
        rw [cb_same, cb_same]
        exact ih
      · rw [if_neg hy, hx, if_pos (UInt8.pos_iff_ne_zero.2 hy)]
        show Lib.compareBytes (0 :: _) (y :: _) = _
        rw [cb_cons, if_pos (UInt8.pos_iff_ne_zero.2 hy)]
        rfl
    · rw [if_neg hx]
      by_cases hy : y = 0
      · rw [if_pos hy, hy, if_neg (UInt8.not_lt.2 (UInt8.zero_le)), if_pos (UInt8.pos_iff_ne_zero.2 hx)]
        show Lib.compareBytes (x :: _) (0 :: _) = _
        rw [cb_cons, if_neg (UInt8.not_lt.2 (UInt8.zero_le)), if_pos (UInt8.pos_iff_ne_zero.2 hx)]
        rfl
      · rw [if_neg hy]
        show Lib.compareBytes (x :: (escU a ++ _)) (y :: (escU b ++ _)) = _
        rw [cb_cons, ih]
        by_cases c1 : x < y
        · rw [if_pos c1, if_pos c1]; rfl
        · rw [if_neg c1, if_neg c1]
          by_cases c2 : y < x
          · rw [if_pos c2, if_pos c2]; rfl
          · rw [if_neg c2, if_neg c2]

def InU64 (p : S41) : Prop := 0 ≤ p.f1 ∧ p.f1 < 18446744073709551616
theorem u8s_bytes (s : ByteArray) : u8s (bytesOf s) = s.data.toList := by
  rw [← str_list, bytesOf_strOf, Lib.toList_data]

theorem part_cmp (p q : S41) (hp : rightP p = true) (hq : rightP q = true) (up : InU64 p) (uq : InU64 q) (X Y : List UInt8) :
    Lib.compareBytes (u8s (partB p) ++ X) (u8s (partB q) ++ Y) = if orderP p q = 0 then Lib.compareBytes X Y else orderP p q := by
  obtain ⟨t, n, s⟩ := p
  obtain ⟨t', n', s'⟩ := q
  unfold rightP at hp hq
  cases t <;> cases t'
  · rw [if_neg (fun h => by cases h)] at hp hq
    have hs : s.data.toList = [] := by rw [← Lib.toList_data]; exact beq_iff_eq.1 hp
    have hs' : s'.data.toList = [] := by rw [← Lib.toList_data]; exact beq_iff_eq.1 hq
    have e1 : u8s (partB ⟨false, n, s⟩) ++ X = 1 :: (u8s (tailB n 8) ++ X) := rfl
    have e2 : u8s (partB ⟨false, n', s'⟩) ++ Y = 1 :: (u8s (tailB n' 8) ++ Y) := rfl
    have h1 := up.1
    have h2 := up.2
    have h3 := uq.1
    have h4 := uq.2
    dsimp only at h1 h2 h3 h4
    rw [e1, e2, cb_same, num_cmp n n' X Y 8 (by omega)]
    unfold orderP cmpN
    dsimp only
    rw [hs, hs', if_neg (show ¬ ((false != false) = true) by decide)]
    by_cases c1 : n < n'
    · rw [if_pos c1, if_pos c1]; rfl
    · rw [if_neg c1, if_neg c1]
      by_cases c2 : n' < n
      · rw [if_pos c2, if_pos c2]; rfl
      · rw [if_neg c2, if_neg c2]; rfl
  · rfl
  · rfl
  · rw [if_pos rfl, Bool.and_eq_true] at hp hq
    obtain rfl : n = 0 := beq_iff_eq.1 hp.1
    obtain rfl : n' = 0 := beq_iff_eq.1 hq.1
    have e1 : ∀ (s : ByteArray) (X : List UInt8), u8s (partB ⟨true, 0, s⟩) ++ X = 2 :: (escU s.data.toList ++ (0 :: 1 :: X)) := fun s X => by
      have : partB ⟨true, 0, s⟩ = 2 :: (bytesOf (escS s) ++ [0, 1]) := by unfold partB; rw [if_pos rfl]; rfl
      rw [this]
      show 2 :: (u8s (bytesOf (escS s) ++ [0, 1]) ++ X) = _
      rw [u8s_append, u8s_bytes, List.append_assoc]
      rfl
    rw [e1, e1, cb_same, esc_cmp]
    rfl

theorem lay_cmp : ∀ (l m : List S41), l.all rightP = true → m.all rightP = true → (∀ p ∈ l, InU64 p) → (∀ p ∈ m, InU64 p) → Lib.compareBytes (u8s (layL l)) (u8s (layL m)) = compareL l m
  | [], [], _, _, _, _ => rfl
  | [], q :: m, _, _, _, _ => by
    obtain ⟨x, r, h, _⟩ := lay_head (l := q :: m) (by simp)
    rw [h]
    rfl
  | p :: l, [], _, _, _, _ => by
    obtain ⟨x, r, h, _⟩ := lay_head (l := p :: l) (by simp)
    rw [h]
    rfl
  | p :: l, q :: m, h1, h2, h3, h4 => by
    rw [List.all_cons, Bool.and_eq_true] at h1 h2
    have ih := lay_cmp l m h1.2 h2.2 (fun x hx => h3 x (List.mem_cons_of_mem _ hx)) (fun x hx => h4 x (List.mem_cons_of_mem _ hx))
    have e : ∀ (p : S41) l, u8s (layL (p :: l)) = u8s (partB p) ++ u8s (layL l) := fun p l => by
      rw [← u8s_append]
      unfold layL
      rw [List.map_cons, List.flatten_cons]
    rw [e, e, part_cmp p q h1.1 h2.1 (h3 p (by simp)) (h4 q (by simp)), ih, compareL]

theorem read_lay : ∀ (r acc : List S41), rightL (acc ++ r) = true → (∀ p ∈ r, InU64 p) → Ev (fun k => keys_Read.l0 k (strOfNums (layL r)) acc) (acc ++ r, 0)
  | [], acc, h, _ => by
    rw [List.append_nil] at h ⊢
    refine Ev.step (f := fun _ => some (acc, (0 : Int))) (fun k => ?_) (Ev.now _)
    have hn : (strOfNums (layL [])).toList = [] := (nil_iff _).2 (by rw [strOfNums_size]; rfl)
    rw [keys_Read.l0, if_pos hn, rightL_eq, Option.bind_some, h, if_pos rfl]
  | p :: r, acc, h, hu => by
    have ih := read_lay r (acc ++ [p]) (by rw [List.append_assoc]; exact h) (fun x hx => hu x (List.mem_cons_of_mem _ hx))
    rw [List.append_assoc] at ih
    obtain ⟨ha, hl1, hl8⟩ := rightL_parts h
    have hp : rightP p = true := List.all_eq_true.1 ha p (by simp)
    have hall : (p :: r).all rightP = true := List.all_eq_true.2 fun x hx => List.all_eq_true.1 ha x (List.mem_append_right _ hx)
    rw [List.length_append, List.length_cons] at hl8
    have hlen := laid_length hall
    have e : layL (p :: r) = partB p ++ layL r := by unfold layL; rw [List.map_cons, List.flatten_cons]
    have hlen2 : (layL (p :: r)).length ≤ 1027 * 8 := by unfold layL; rw [List.length_cons] at hlen; omega
    have hsz := strOfNums_size (layL (p :: r))
    obtain ⟨x, q, hx, _⟩ := part_head p
    have hpos : 1 ≤ (partB p).length := by rw [hx]; simp
    have hle : (layL (p :: r)).length = (partB p).length + (layL r).length := by rw [e, List.length_append]
    have hf := first_eq (strOfNums (layL (p :: r))) (by omega)
    rw [bytes_str (layL_bytes _), e, first_back p hp (hu p (by simp)), ← e] at hf
    have hn : ¬ (strOfNums (layL (p :: r))).toList = [] := fun h => by have := (nil_iff _).1 h; omega
    have hcut : (strOfNums (layL (p :: r))).extract (partB p).length (strOfNums (layL (p :: r))).size = strOfNums (layL r) := by
      apply bytes_inj
      rw [bytes_cut, bytes_str (layL_bytes _), bytes_str (layL_bytes _), e, List.drop_left]
    refine Ev.step (fun k => ?_) ih
    rw [keys_Read.l0, if_neg hn, hf, Option.bind_some]
    dsimp only
    rw [if_neg (show ¬ (((partB p).length : Int) = 0) by omega), if_neg (show ¬ ((acc.length : Int) = 8) by omega), if_pos (show acc.length < 4398046511104 by omega), if_pos (show (0 : Int) ≤ ((partB p).length : Int) by omega), if_pos (show ((partB p).length : Int) ≤ ((strOfNums (layL (p :: r))).size : Int) by omega), Int.toNat_natCast, hcut]

theorem KeysOrder (l m : List S41) (hl : l.length ≤ 140737488355328) (hm : m.length ≤ 140737488355328) (ul : ∀ p ∈ l, InU64 p) (um : ∀ p ∈ m, InU64 p) : ∃ k, pannierlaw03_KeysOrder.f k l m = some true := by
  have hlay : ∀ l : List S41, keys_Lay.f l = some (if rightL l = true then (strOfNums (layL l), 0) else (⟨#[]⟩, 2)) := fun l => by
    cases hr : rightL l with
    | true => rw [lay_right hr, if_pos rfl]
    | false => rw [lay_wrong hr, if_neg (by decide)]
  cases c : rightL l with
  | false =>
    refine ⟨1, ?_⟩
    unfold pannierlaw03_KeysOrder.f
    rw [shown_some, Option.bind_some, hlay, Option.bind_some, hlay, Option.bind_some, c, if_neg (show ¬ (false = true) by decide)]
    dsimp only
    rw [if_neg (show ¬ ((2 : Int) = 0) by decide), pannierlaw03_KeysOrder.j0, if_pos rfl]
  | true =>
    cases d : rightL m with
    | false =>
      refine ⟨1, ?_⟩
      unfold pannierlaw03_KeysOrder.f
      rw [shown_some, Option.bind_some, hlay, Option.bind_some, hlay, Option.bind_some, c, d, if_pos rfl, if_pos rfl, if_neg (show ¬ (false = true) by decide)]
      rw [show ((2 : Int) != 0) = true from rfl, pannierlaw03_KeysOrder.j0, if_pos rfl]
    | true =>
      obtain ⟨hal, _, h8⟩ := rightL_parts c
      obtain ⟨ham, _, _⟩ := rightL_parts d
      obtain ⟨K1, g1⟩ := read_lay l [] c ul
      obtain ⟨K2, g2⟩ := same_ev l h8
      refine ⟨K1 + K2 + 1, ?_⟩
      have h1 := g1 (K1 + K2) (by omega)
      have h2 := g2 (K1 + K2) (by omega)
      dsimp only at h1 h2
      have h1' : keys_Read.f (K1 + K2) (strOfNums (layL l)) = some (l, 0) := h1
      have hc : keys_Compare.f l m = some (compareL l m) := by unfold keys_Compare.f; rw [if_pos ⟨hl, hm⟩]
      have hcmp := lay_cmp l m hal ham ul um
      rw [← str_list, ← str_list] at hcmp
      have hless := compare_less (strOfNums (layL l)).toList (strOfNums (layL m)).toList
      unfold pannierlaw03_KeysOrder.f
      rw [shown_some, Option.bind_some, hlay, Option.bind_some, hlay, Option.bind_some, c, d, if_pos rfl, if_pos rfl, if_pos rfl]
      rw [show ((0 : Int) != 0) = false from rfl, pannierlaw03_KeysOrder.j0, if_neg (by decide), hc, Option.bind_some, h1', Option.bind_some, if_pos rfl]
      have t1 : (decide (compareL l m < 0) == Op.bytesLess (strOfNums (layL l)).toList (strOfNums (layL m)).toList) = true := by
        rw [← hcmp, hless]
        cases Op.bytesLess (strOfNums (layL l)).toList (strOfNums (layL m)).toList
        · cases Op.bytesLess (strOfNums (layL m)).toList (strOfNums (layL l)).toList <;> rfl
        · rfl
      have t2 : ((compareL l m == 0) == ((strOfNums (layL l)).toList == (strOfNums (layL m)).toList)) = true := by
        rw [← hcmp]
        by_cases e : (strOfNums (layL l)).toList = (strOfNums (layL m)).toList
        · rw [e, cb_refl]
          simp
        · rw [beq_eq_false_iff_ne.2 e, beq_eq_false_iff_ne.2 (fun h => e (cb_zero h))]
          rfl
      dsimp only
      rw [if_pos t1, if_pos t2, if_pos rfl, h2, Option.bind_some]

theorem order_walk (A0 : Option Addr) (c0 : Nat) (l : List S41) (A1 : Option Addr) (c1 : Nat) (m : List S41) (w : World) (h0 : Kd.C k41 w A0 l.length l) (g0 : l.length ≤ c0) (h1 : Kd.C k41 w A1 m.length m) (g1 : m.length ≤ c1) (hl : l.length ≤ 140737488351232) (hm : m.length ≤ 140737488351232)
    (wl : ∀ p ∈ l, (Lit.int .u64 p.f1).wf = true ∧ p.f2.size ≤ maxLen) (wm : ∀ p ∈ m, (Lit.int .u64 p.f1).wf = true ∧ p.f2.size ≤ maxLen) :
    Calls Tryd.prog 4 #[.slice A0 l.length c0, .slice A1 m.length c1] w fun e w' => e = .returned (.bool true) ∧ Below w.heap.size w w' := by
  have wfu : ∀ n : Int, (Lit.int .u64 n).wf = true → 0 ≤ n ∧ n < 18446744073709551616 := fun n h => by
    have h1 : IntKind.u64.min ≤ n ∧ n ≤ IntKind.u64.max := by simpa [Lit.wf] using h
    have h2 : IntKind.u64.min = 0 := by decide
    have h3 : IntKind.u64.max = 18446744073709551615 := by decide
    rw [h2, h3] at h1
    omega
  obtain ⟨k, h⟩ := KeysOrder l m (by omega) (by omega) (fun p hp => wfu _ (wl p hp).1) (fun p hp => wfu _ (wm p hp).1)
  exact pannierlaw03_KeysOrder.calls k A0 c0 l A1 c1 m true w h0 g0 h1 g1 h
end Go.Proofs.YtdofoopnjmbmcaaDoor.Math
