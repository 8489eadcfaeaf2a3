/- Plain facts: keys' bytes. -/
import Derived.Test.YtdofoopnjmbmcaaDoorStandMath
import Derived.Test.YtdofoopnjmbmcaaDoorHandB
namespace Go.Proofs.YtdofoopnjmbmcaaDoor.Math
set_option linter.unusedVariables false
set_option linter.unusedSimpArgs false
open Go.RowKit Go.Proofs.YtdofoopnjmbmcaaDoor.X Go.Proofs.YtdofoopnjmbmcaaDoor.HandF
open Go.Proofs.YtdofoopnjmbmcaaDoorW.PrintWords Go.Proofs.YtdofoopnjmbmcaaDoorW.PrintLast Go.Proofs.YtdofoopnjmbmcaaDoorW.PrintMore

def Bytes (l : List Int) : Prop := ∀ x ∈ l, 0 ≤ x ∧ x ≤ 255
theorem bytesOf_bytes (s : ByteArray) : Bytes (bytesOf s) := by
  intro x hx
  unfold bytesOf at hx
  obtain ⟨b, _, rfl⟩ := List.mem_map.1 hx
  have := b.toNat_lt
  omega
theorem Bytes.append {l m : List Int} (h : Bytes l) (k : Bytes m) : Bytes (l ++ m) := fun x hx => (List.mem_append.1 hx).elim (h x) (k x)
theorem Bytes.left {l m : List Int} (h : Bytes (l ++ m)) : Bytes l := fun x hx => h x (List.mem_append_left _ hx)
theorem Bytes.right {l m : List Int} (h : Bytes (l ++ m)) : Bytes m := fun x hx => h x (List.mem_append_right _ hx)
theorem bytes_lit {l : List Int} (h : l.all (fun x => decide (0 ≤ x ∧ x ≤ 255)) = true) : Bytes l := fun x hx => of_decide_eq_true (List.all_eq_true.1 h x hx)
theorem be8_bytes (n : Int) : Bytes (be8 n) := by
  intro x hx
  unfold be8 at hx
  obtain ⟨i, _, rfl⟩ := List.mem_map.1 hx
  omega
theorem partB_bytes (p : S41) : Bytes (partB p) := by
  unfold partB
  split
  · exact ((bytes_lit (by decide)).append (bytesOf_bytes _)).append (bytes_lit (by decide))
  · exact (bytes_lit (by decide)).append (be8_bytes _)
/-- A key's bytes. -/
def layL (l : List S41) : List Int := (l.map partB).flatten
theorem layL_bytes : ∀ l : List S41, Bytes (layL l)
  | [] => fun _ h => by cases h
  | p :: l => (partB_bytes p).append (layL_bytes l)
theorem layL_append (a b : List S41) : layL (a ++ b) = layL a ++ layL b := by unfold layL; rw [List.map_append, List.flatten_append]

def u8s (l : List Int) : List UInt8 := l.map fun n => UInt8.ofNat n.toNat
theorem str_list (l : List Int) : (strOfNums l).toList = u8s l := by rw [Lib.toList_data]; rfl
theorem u8s_append (a b : List Int) : u8s (a ++ b) = u8s a ++ u8s b := List.map_append
theorem bytes_str {l : List Int} (hb : Bytes l) : bytesOf (strOfNums l) = l := by
  unfold bytesOf
  rw [strOfNums_data, List.map_map]
  conv => rhs; rw [← List.map_id l]
  refine List.map_congr_left fun x hx => ?_
  have := hb x hx
  show ((UInt8.ofNat x.toNat).toNat : Int) = x
  rw [UInt8.toNat_ofNat']
  omega
theorem str_inj {a b : List Int} (ha : Bytes a) (hb : Bytes b) (h : strOfNums a = strOfNums b) : a = b := by
  rw [← bytes_str ha, h, bytes_str hb]

theorem lay_some {l : List S41} {s : ByteArray} {e : Int} (h : keys_Lay.f l = some (s, e)) (he : e = 0) : rightL l = true ∧ s = strOfNums (layL l) := by
  unfold keys_Lay.f at h
  rw [rightL_eq, Option.bind_some] at h
  cases hr : rightL l with
  | true =>
    rw [hr, if_pos rfl] at h
    simp only [Option.some.injEq, Prod.mk.injEq] at h
    exact ⟨rfl, h.1.symm⟩
  | false =>
    rw [hr, if_neg (by decide)] at h
    simp only [Option.some.injEq, Prod.mk.injEq] at h
    rw [he] at h
    exact absurd h.2 (by decide)
theorem lay_right {l : List S41} (h : rightL l = true) : keys_Lay.f l = some (strOfNums (layL l), 0) := by
  unfold keys_Lay.f
  rw [rightL_eq, Option.bind_some, h, if_pos rfl]
  rfl
theorem lay_wrong {l : List S41} (h : rightL l = false) : keys_Lay.f l = some (⟨#[]⟩, 2) := by
  unfold keys_Lay.f
  rw [rightL_eq, Option.bind_some, h, if_neg (by decide)]
theorem rightL_parts {l : List S41} (h : rightL l = true) : l.all rightP = true ∧ 1 ≤ l.length ∧ l.length ≤ 8 := by
  unfold rightL at h
  rw [Bool.and_eq_true, Bool.and_eq_true] at h
  exact ⟨h.1.1, of_decide_eq_true h.1.2, of_decide_eq_true h.2⟩
theorem rightL_mk {l : List S41} (h : l.all rightP = true) (h1 : 1 ≤ l.length) (h2 : l.length ≤ 8) : rightL l = true := by
  unfold rightL
  rw [h, decide_eq_true h1, decide_eq_true h2]
  rfl

theorem strip_zero (l : List Int) : ∀ n, stripN l n = 0 → ∀ i, i < n → rd l (i : Int) = 255
  | 0, _, i, hi => by omega
  | n + 1, h, i, hi => by
    rw [stripN] at h
    by_cases c : rd l (n : Int) = 255
    · rw [if_pos c] at h
      by_cases e : i = n
      · rw [e]; exact c
      · exact strip_zero l n h i (by omega)
    · rw [if_neg c] at h
      cases h
theorem strip_succ (l : List Int) : ∀ n m, stripN l n = m + 1 → m < n ∧ rd l (m : Int) ≠ 255
  | 0, m, h => by cases h
  | n + 1, m, h => by
    rw [stripN] at h
    by_cases c : rd l (n : Int) = 255
    · rw [if_pos c] at h
      have := strip_succ l n m h
      exact ⟨by omega, this.2⟩
    · rw [if_neg c] at h
      obtain rfl : n = m := by omega
      exact ⟨by omega, c⟩

theorem less_behind (p : List UInt8) {x y : UInt8} (h : x < y) (a b : List UInt8) : Op.bytesLess (p ++ x :: a) (p ++ y :: b) = true := by
  induction p with
  | nil => show Op.bytesLess (x :: a) (y :: b) = true; rw [less_cons, if_pos h]
  | cons z p ih =>
    show Op.bytesLess (z :: (p ++ x :: a)) (z :: (p ++ y :: b)) = true
    rw [less_cons, if_neg (UInt8.lt_irrefl z), if_neg (UInt8.lt_irrefl z)]
    exact ih

theorem rd_get {l : List Int} {i : Nat} (h : i < l.length) : rd l (i : Int) = l[i] := by
  unfold rd
  rw [Int.toNat_natCast, List.getD_eq_getElem?_getD, List.getElem?_eq_getElem h]
  rfl

/-- What is behind a text that some byte of which is not 255 is behind all that begin so. -/
theorem behind_less {t : List Int} (ht : Bytes t) (r : List Int) (h : ∃ i, i < t.length ∧ rd t (i : Int) ≠ 255) : ∃ u, behindS (strOfNums t) = (u, true) ∧ Op.bytesLess (strOfNums (t ++ r)).toList u.toList = true := by
  unfold behindS
  rw [bytes_str ht, strOfNums_size]
  cases hs : stripN t t.length with
  | zero =>
    obtain ⟨i, hi, hne⟩ := h
    exact absurd (strip_zero t _ hs i hi) hne
  | succ m =>
    obtain ⟨hm, hne⟩ := strip_succ t _ m hs
    refine ⟨_, rfl, ?_⟩
    rw [rd_get hm] at hne ⊢
    have hb := ht t[m] (List.getElem_mem hm)
    have e1 : t ++ r = t.take m ++ (t[m] :: (t.drop (m + 1) ++ r)) := by
      rw [← List.cons_append, ← List.drop_eq_getElem_cons hm, ← List.append_assoc, List.take_append_drop]
    have e2 : (t.take (m + 1)).set m ((t[m] + 1) % 256) = t.take m ++ [(t[m] + 1) % 256] := by
      rw [List.take_succ_eq_append_getElem hm, List.set_append_right _ _ (by rw [List.length_take]; omega)]
      congr 1
      rw [List.length_take, Nat.min_eq_left (by omega), Nat.sub_self]
      rfl
    rw [e1, e2, str_list, str_list, u8s_append, u8s_append]
    refine less_behind _ ?_ _ _
    rw [UInt8.lt_iff_toNat_lt, UInt8.toNat_ofNat', UInt8.toNat_ofNat']
    omega

theorem part_head (p : S41) : ∃ x r, partB p = x :: r ∧ (x = 1 ∨ x = 2) := by
  unfold partB
  split
  · exact ⟨2, _, rfl, .inr rfl⟩
  · exact ⟨1, _, rfl, .inl rfl⟩
theorem lay_head {l : List S41} (h : 1 ≤ l.length) : ∃ x r, layL l = x :: r ∧ (x = 1 ∨ x = 2) := by
  cases l with
  | nil => simp at h
  | cons p l =>
    obtain ⟨x, r, h1, h2⟩ := part_head p
    exact ⟨x, r ++ layL l, by unfold layL; rw [List.map_cons, List.flatten_cons, h1]; rfl, h2⟩
end Go.Proofs.YtdofoopnjmbmcaaDoor.Math
