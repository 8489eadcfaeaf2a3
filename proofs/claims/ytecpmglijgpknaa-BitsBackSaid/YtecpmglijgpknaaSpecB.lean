/- Plain facts: the bits of a row behind which bits were laid. -/
import Derived.Test.YtecpmglijgpknaaSpecP
namespace Go.Proofs.Ytecpmglijgpknaa.Math
set_option linter.unusedVariables false
set_option linter.unusedSimpArgs false
open Go.RowKit Go.Proofs.Ytecpmglijgpknaa.X Go.Proofs.Ytecpmglijgpknaa.HandF Go.Proofs.Ytecpmglijgpknaa.Hand
open Go.Proofs.YtecpmglijgpknaaW.PrintWords Go.Proofs.YtecpmglijgpknaaW.PrintLast Go.Proofs.YtecpmglijgpknaaW.PrintMore

theorem or_bits : ∀ x : Fin 256, ∀ r : Fin 8, ∀ j : Fin 8, (x.val ||| 128 / 2 ^ r.val) / 2 ^ (7 - j.val) % 2 = if j = r then 1 else x.val / 2 ^ (7 - j.val) % 2 := by decide +kernel

theorem rd_at {l : List Int} {i : Nat} : rd l (i : Int) = l.getD i 0 := by unfold rd; rw [Int.toNat_natCast]
theorem bitN_eq {l l' : List Int} {i : Nat} (h : l'.getD (i / 8) 0 = l.getD (i / 8) 0) : bitN l' i = bitN l i := by
  unfold bitN; rw [rd_at, rd_at, h]
theorem bitN_out {l : List Int} {i : Nat} (h : l.length ≤ i / 8) : bitN l i = 0 := by
  unfold bitN; rw [rd_at, List.getD_eq_getElem?_getD, List.getElem?_eq_none h]; simp

/-- A row of bytes with m bits, nothing behind them. -/
structure Row (l : List Int) (m : Nat) : Prop where
  bytes : Bytes l
  len : (m + 7) / 8 = l.length
  pad : ∀ i, m ≤ i → bitN l i = 0
theorem Row.of_right {l : List Int} {m : Nat} (hb : Bytes l) (h : rightB l (m : Int) = true) : Row l m := by
  obtain ⟨h0, h1, h2⟩ := rightB_iff.1 h
  refine ⟨hb, by omega, fun i hi => ?_⟩
  by_cases h8 : i < 8 * l.length
  · exact h2 i h8 (by omega)
  · exact bitN_out (by omega)
theorem Row.right {l : List Int} {m : Nat} (h : Row l m) : rightB l (m : Int) = true :=
  rightB_iff.2 ⟨by omega, by have := h.len; omega, fun i _ hi => h.pad i (by omega)⟩
theorem Row.nil : Row [] 0 := ⟨fun x hx => by simp at hx, rfl, fun i _ => bitN_out (by simp)⟩

theorem byte_or {x : Int} (r : Nat) (h0 : 0 ≤ x) (h1 : x ≤ 255) (hr : r < 8) : Go.bits .or .u8 x (128 / 2 ^ r) = ((x.toNat ||| 128 / 2 ^ r : Nat) : Int) := by
  obtain ⟨y, rfl⟩ := Int.eq_ofNat_of_zero_le h0
  have hp : 128 / 2 ^ r < 256 := Nat.lt_of_le_of_lt (Nat.div_le_self _ _) (by decide)
  have e : ((128 : Int) / 2 ^ r) = ((128 / 2 ^ r : Nat) : Int) := by simp
  rw [e, u8_or_nat y _ (by omega) hp, Int.toNat_natCast]

theorem row_step {l : List Int} {m : Nat} (h : Row l m) (b : Bool) : ∃ l', stepB (l, (m : Int)) b = (l', ((m + 1 : Nat) : Int)) ∧ Row l' (m + 1) ∧ bitN l' m = b.toNat ∧ ∀ i, i < m → bitN l' i = bitN l i := by
  obtain ⟨hb, hlen, hpad⟩ := h
  by_cases h8 : m % 8 = 0
  · have hm : m = 8 * l.length := by omega
    have hz : Bytes (l ++ [0]) := by
      intro x hx
      rcases List.mem_append.1 hx with h | h
      · exact hb x h
      · simp at h; omega
    have hbit0 : ∀ i, bitN (l ++ [0]) i = bitN l i := fun i => by
      apply bitN_eq
      rw [List.getD_eq_getElem?_getD, List.getD_eq_getElem?_getD]
      rcases Nat.lt_trichotomy (i / 8) l.length with h | h | h
      · rw [List.getElem?_append_left h]
      · rw [h, List.getElem?_append_right (Nat.le_refl _), Nat.sub_self, List.getElem?_eq_none (Nat.le_refl _)]; rfl
      · rw [List.getElem?_eq_none (by simp; omega), List.getElem?_eq_none (by omega)]
    cases b with
    | false =>
      refine ⟨l ++ [0], ?_, ⟨hz, by simp; omega, fun i hi => by rw [hbit0]; exact hpad i (by omega)⟩, by rw [hbit0]; exact hpad m (Nat.le_refl _), fun i _ => hbit0 i⟩
      have hc : (m : Int) % 8 = 0 := by omega
      unfold stepB
      simp only
      rw [if_pos hc]
      simp
    | true =>
      have hs : stepB (l, (m : Int)) true = ((l ++ [0]).set l.length 128, ((m + 1 : Nat) : Int)) := by
        have hc : (m : Int) % 8 = 0 := by omega
        have hc2 : ((m : Int) % 8).toNat = 0 := by omega
        unfold stepB
        simp only
        rw [if_pos hc, hc2]
        have : rd (l ++ [0]) (((l ++ [0]).length : Int) - 1) = 0 := by
          rw [List.length_append, List.length_singleton, show (((l.length + 1 : Nat) : Int) - 1) = (l.length : Int) by omega, rd_at]
          simp
        rw [this]
        simp
        decide
      have hg : ∀ i, ((l ++ [0]).set l.length 128).getD i 0 = if i = l.length then 128 else (l ++ [0]).getD i 0 := fun i => by
        rw [List.getD_eq_getElem?_getD, List.getD_eq_getElem?_getD, List.getElem?_set]
        by_cases he : l.length = i
        · subst he; simp
        · rw [if_neg he, if_neg (fun h => he h.symm)]
      refine ⟨_, hs, ⟨?_, by simp; omega, ?_⟩, ?_, ?_⟩
      · intro x hx
        rcases List.mem_or_eq_of_mem_set hx with h | h
        · exact hz x h
        · omega
      · intro i hi
        by_cases he : i / 8 = l.length
        · unfold bitN
          rw [rd_at, hg, if_pos he]
          have := or_bits ⟨0, by decide⟩ ⟨0, by decide⟩ ⟨i % 8, by omega⟩
          simp only [Nat.zero_or, Nat.pow_zero, Nat.div_one, Fin.mk.injEq] at this
          rw [show (128 : Int).toNat = 128 from rfl, this, if_neg (by omega)]
          simp
        · rw [bitN_eq (l := l ++ [0]) (by rw [hg, if_neg he]), hbit0]; exact hpad i (by omega)
      · unfold bitN
        rw [rd_at, hg, if_pos (by omega), h8]
        decide
      · intro i hi
        rw [bitN_eq (l := l ++ [0]) (by rw [hg, if_neg (by omega)]), hbit0]
  · obtain ⟨p, hp⟩ : ∃ p, l.length = p + 1 := ⟨l.length - 1, by omega⟩
    have hmp : m / 8 = p := by omega
    cases b with
    | false =>
      refine ⟨l, ?_, ⟨hb, by omega, fun i hi => hpad i (by omega)⟩, hpad m (Nat.le_refl _), fun i _ => rfl⟩
      have hc : ¬ (m : Int) % 8 = 0 := by omega
      unfold stepB
      simp only
      rw [if_neg hc]
      simp
    | true =>
      obtain ⟨x0, x1⟩ := rd_byte hb (p : Int)
      have hor := byte_or (m % 8) x0 x1 (Nat.mod_lt _ (by decide))
      have hlt : ((rd l (p : Int)).toNat ||| 128 / 2 ^ (m % 8)) < 256 := Nat.or_lt_two_pow (n := 8) (by omega) (Nat.lt_of_le_of_lt (Nat.div_le_self _ _) (by decide))
      have hs : stepB (l, (m : Int)) true = (l.set p (((rd l (p : Int)).toNat ||| 128 / 2 ^ (m % 8) : Nat) : Int), ((m + 1 : Nat) : Int)) := by
        have hc : ¬ (m : Int) % 8 = 0 := by omega
        have hc2 : ((m : Int) % 8).toNat = m % 8 := by omega
        unfold stepB
        simp only
        rw [if_neg hc, hc2, hp, show (((p + 1 : Nat) : Int) - 1) = (p : Int) by omega, hor]
        simp
      obtain ⟨y, hy⟩ : ∃ y, ((rd l (p : Int)).toNat ||| 128 / 2 ^ (m % 8)) = y := ⟨_, rfl⟩
      have hbits := or_bits ⟨(rd l (p : Int)).toNat, by omega⟩ ⟨m % 8, Nat.mod_lt _ (by decide)⟩
      simp only [hy] at hbits
      rw [hy] at hs hlt
      have hg : ∀ i, (l.set p (y : Int)).getD i 0 = if i = p then (y : Int) else l.getD i 0 := fun i => by
        rw [List.getD_eq_getElem?_getD, List.getD_eq_getElem?_getD, List.getElem?_set]
        by_cases he : p = i
        · subst he; simp [hp]
        · rw [if_neg he, if_neg (fun h => he h.symm)]
      have hin : ∀ i, i / 8 = p → bitN (l.set p (y : Int)) i = if i % 8 = m % 8 then 1 else bitN l i := fun i hi => by
        unfold bitN
        rw [rd_at, hg, if_pos hi, Int.toNat_natCast, hi]
        have := hbits ⟨i % 8, Nat.mod_lt _ (by decide)⟩
        simpa using this
      refine ⟨_, hs, ⟨?_, by simp; omega, ?_⟩, ?_, ?_⟩
      · intro x hx
        rcases List.mem_or_eq_of_mem_set hx with h | h
        · exact hb x h
        · omega
      · intro i hi
        by_cases he : i / 8 = p
        · rw [hin i he, if_neg (by omega)]; exact hpad i (by omega)
        · rw [bitN_eq (l := l) (by rw [hg, if_neg he])]; exact hpad i (by omega)
      · rw [hin m hmp, if_pos rfl]; rfl
      · intro i hi
        by_cases he : i / 8 = p
        · rw [hin i he, if_neg (by omega)]
        · rw [bitN_eq (l := l) (by rw [hg, if_neg he])]

theorem row_fold : ∀ (L : List Bool) {l : List Int} {m : Nat}, Row l m → ∃ l', L.foldl stepB (l, (m : Int)) = (l', ((m + L.length : Nat) : Int)) ∧ Row l' (m + L.length) ∧ (∀ i, i < m → bitN l' i = bitN l i) ∧ ∀ j, (hj : j < L.length) → bitN l' (m + j) = (L[j]).toNat
  | [], l, m, h => ⟨l, rfl, h, fun _ _ => rfl, fun j hj => absurd hj (by simp)⟩
  | b :: L, l, m, h => by
    obtain ⟨l1, e1, r1, b1, k1⟩ := row_step h b
    obtain ⟨l2, e2, r2, k2, b2⟩ := row_fold L r1
    refine ⟨l2, ?_, ?_, fun i hi => (k2 i (by omega)).trans (k1 i hi), fun j hj => ?_⟩
    · rw [List.foldl_cons, e1, e2, List.length_cons]; congr 2; omega
    · rw [List.length_cons, show m + (L.length + 1) = m + 1 + L.length by omega]; exact r2
    · cases j with
      | zero => rw [Nat.add_zero, k2 m (by omega), b1]; rfl
      | succ j =>
        rw [show m + (j + 1) = m + 1 + j by omega]
        exact b2 j (by simpa using hj)
end Go.Proofs.Ytecpmglijgpknaa.Math
