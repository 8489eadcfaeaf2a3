/- Plain facts: what keys.first and the reference's first read from bytes. -/
import Derived.Test.YtdofoopnjmbmcaaDoorKeyMath
import Derived.Test.YtdofoopnjmbmcaaDoorHandF
import Derived.Test.YtdofoopnjmbmcaaDoorX27
namespace Go.Proofs.YtdofoopnjmbmcaaDoor.Math
set_option linter.unusedVariables false
set_option linter.unusedSimpArgs false
open Go.RowKit Go.Proofs.YtdofoopnjmbmcaaDoor.X Go.Proofs.YtdofoopnjmbmcaaDoor.HandF
open Go.Proofs.YtdofoopnjmbmcaaDoorW.PrintWords Go.Proofs.YtdofoopnjmbmcaaDoorW.PrintLast Go.Proofs.YtdofoopnjmbmcaaDoorW.PrintMore

/-- A text's bytes, each 0 followed by 255. -/
def escI : List Int → List Int
  | [] => []
  | c :: r => if c = 0 then 0 :: 255 :: escI r else c :: escI r
theorem esc_map : ∀ l : List UInt8, (escU l).map (fun b => (b.toNat : Int)) = escI (l.map fun b => (b.toNat : Int))
  | [] => rfl
  | x :: r => by
    have ih := esc_map r
    rw [escU, List.map_cons, escI]
    by_cases c : x = 0
    · subst c
      rw [if_pos rfl, if_pos (by rfl), List.map_cons, List.map_cons, ih]
      rfl
    · have hx : ¬ ((x.toNat : Int) = 0) := fun h => c (UInt8.toNat_inj.1 (by show x.toNat = 0; omega))
      rw [if_neg c, if_neg hx, List.map_cons, ih]
theorem escS_bytes (s : ByteArray) : bytesOf (escS s) = escI (bytesOf s) := esc_map s.data.toList
theorem esc_bytes_back : ∀ {ys : List Int}, Bytes (escI ys) → Bytes ys
  | [], _ => fun _ h => by cases h
  | c :: r, h => by
    rw [escI] at h
    by_cases c0 : c = 0
    · rw [if_pos c0] at h
      have ih := esc_bytes_back (ys := r) (fun x hx => h x (by simp [hx]))
      intro x hx
      rcases List.mem_cons.1 hx with rfl | hx
      · omega
      · exact ih x hx
    · rw [if_neg c0] at h
      have ih := esc_bytes_back (ys := r) (fun x hx => h x (by simp [hx]))
      intro x hx
      rcases List.mem_cons.1 hx with rfl | hx
      · exact h x (by simp)
      · exact ih x hx

/-- What is told of bytes up to the end mark: the text, how many were read, is the mark right. -/
def decL : List Int → Option (List Int × Int × Bool)
  | c :: d :: r => if c = 0 then (if d = 255 then (decL r).map (fun t => (c :: t.1, t.2.1 + 2, t.2.2)) else some ([], 2, decide (d = 1))) else (decL (d :: r)).map (fun t => (c :: t.1, t.2.1 + 1, t.2.2))
  | _ => none

theorem fold_dec : ∀ (m : Nat) (x : List Int), x.length ≤ m → ∀ (xs : List Int) (n : Int), foldP (piecesL x) xs n = (decL x).map (fun t => (xs ++ t.1, n + t.2.1, t.2.2))
  | 0, x, h, xs, n => by
    obtain rfl : x = [] := List.eq_nil_of_length_eq_zero (by omega)
    rfl
  | m + 1, x, h, xs, n => by
    match x, h with
    | [], _ => rfl
    | [_], _ => rfl
    | c :: d :: r, h =>
      simp only [List.length_cons] at h
      rw [piecesL, decL]
      by_cases c0 : c = 0
      · rw [if_pos c0, if_pos c0, foldP, if_pos c0]
        by_cases d0 : d = 255
        · rw [if_pos d0, if_pos d0, fold_dec m r (by omega)]
          cases decL r with
          | none => rfl
          | some t => simp; omega
        · rw [if_neg d0, if_neg d0]
          simp
      · rw [if_neg c0, if_neg c0, foldP, if_neg c0, fold_dec m (d :: r) (by simp only [List.length_cons]; omega)]
        cases decL (d :: r) with
        | none => rfl
        | some t => simp; omega

theorem dec_canon : ∀ (m : Nat) (x : List Int), x.length ≤ m → ∀ (ys : List Int) (u : Int), decL x = some (ys, u, true) → ∃ r, x = escI ys ++ [0, 1] ++ r ∧ u = (escI ys).length + 2
  | 0, x, h, ys, u, e => by
    obtain rfl : x = [] := List.eq_nil_of_length_eq_zero (by omega)
    cases e
  | m + 1, x, h, ys, u, e => by
    match x, h, e with
    | [], _, e => cases e
    | [_], _, e => cases e
    | c :: d :: r, h, e =>
      simp only [List.length_cons] at h
      rw [decL] at e
      by_cases c0 : c = 0
      · rw [if_pos c0] at e
        by_cases d0 : d = 255
        · rw [if_pos d0] at e
          obtain ⟨⟨ys', u', b'⟩, e1, e2⟩ := Option.map_eq_some_iff.1 e
          simp only [Prod.mk.injEq] at e2
          obtain ⟨rfl, rfl, rfl⟩ := e2
          obtain ⟨q, hq, hu⟩ := dec_canon m r (by omega) ys' u' e1
          refine ⟨q, ?_, ?_⟩
          · rw [escI, if_pos c0, c0, d0, hq]
            rfl
          · rw [escI, if_pos c0, hu]
            simp only [List.length_cons]
            omega
        · rw [if_neg d0] at e
          simp only [Option.some.injEq, Prod.mk.injEq, decide_eq_true_eq] at e
          obtain ⟨rfl, rfl, e3⟩ := e
          exact ⟨r, by rw [c0, e3]; rfl, rfl⟩
      · rw [if_neg c0] at e
        obtain ⟨⟨ys', u', b'⟩, e1, e2⟩ := Option.map_eq_some_iff.1 e
        simp only [Prod.mk.injEq] at e2
        obtain ⟨rfl, rfl, rfl⟩ := e2
        obtain ⟨q, hq, hu⟩ := dec_canon m (d :: r) (by simp only [List.length_cons]; omega) ys' u' e1
        refine ⟨q, ?_, ?_⟩
        · rw [escI, if_neg c0, hq]
          rfl
        · rw [escI, if_neg c0, hu]
          simp only [List.length_cons]
          omega

theorem dec_cons {c : Int} {t : List Int} (hc : c ≠ 0) (h : 1 ≤ t.length) : decL (c :: t) = (decL t).map (fun t => (c :: t.1, t.2.1 + 1, t.2.2)) := by
  match t, h with
  | d :: r, _ => rw [decL, if_neg hc]
theorem dec_back : ∀ (ys r : List Int), decL (escI ys ++ [0, 1] ++ r) = some (ys, ((escI ys).length : Int) + 2, true)
  | [], r => by
    show decL (0 :: 1 :: r) = _
    rw [decL, if_pos rfl, if_neg (by decide)]
    rfl
  | c :: ys, r => by
    have ih := dec_back ys r
    rw [escI]
    by_cases c0 : c = 0
    · rw [if_pos c0]
      show decL (0 :: 255 :: (escI ys ++ [0, 1] ++ r)) = _
      rw [decL, if_pos rfl, if_pos rfl, ih, c0]
      simp only [Option.map_some, List.length_cons, Option.some.injEq, Prod.mk.injEq]
      exact ⟨trivial, by omega, trivial⟩
    · rw [if_neg c0]
      show decL (c :: (escI ys ++ [0, 1] ++ r)) = _
      rw [dec_cons c0 (by simp only [List.length_append, List.length_cons, List.length_nil]; omega), ih]
      simp only [Option.map_some, List.length_cons, Option.some.injEq, Prod.mk.injEq]
      exact ⟨trivial, by omega, trivial⟩

/-- The number that bytes behind the first are. -/
def numI (b : List Int) : Nat → Int
  | 0 => 0
  | i + 1 => Go.bits .or .u64 (IntKind.u64.wrap (numI b i * 256)) (IntKind.u64.wrap (rd b (1 + (i : Int))))
theorem numN_numI (s : ByteArray) : ∀ i, numN s i = numI (bytesOf s) i
  | 0 => rfl
  | i + 1 => by rw [numN, numI, numN_numI s i, rd_bytesOf]
theorem or_add {v x : Int} (h0 : 0 ≤ v) (h1 : v < 72057594037927936) (h2 : 0 ≤ x) (h3 : x ≤ 255) : Go.bits .or .u64 (IntKind.u64.wrap (v * 256)) (IntKind.u64.wrap x) = v * 256 + x := by
  obtain ⟨a, rfl⟩ := Int.eq_ofNat_of_zero_le h0
  obtain ⟨y, rfl⟩ := Int.eq_ofNat_of_zero_le h2
  have e1 : IntKind.u64.wrap ((a : Int) * 256) = ((a * 256 : Nat) : Int) := by rw [IntKind.wrap_u64]; omega
  have e2 : IntKind.u64.wrap (y : Int) = (y : Int) := by rw [IntKind.wrap_u64]; omega
  rw [e1, e2, u64_or_nat _ _ (by omega) (by omega)]
  have := Nat.two_pow_add_eq_or_of_lt (b := y) (i := 8) (by omega) a
  rw [show 2 ^ 8 * a = a * 256 by omega] at this
  rw [← this]
  omega

/-- The part that bytes begin with. -/
def firstI (b : List Int) : Bool × Int × ByteArray × Int :=
  if rd b 0 = 1 ∧ 9 ≤ b.length then (false, numI b 8, ⟨#[]⟩, 9)
  else if rd b 0 = 2 then (match decL (b.drop 1) with | some (ys, u, true) => (true, 0, strOfNums ys, 1 + u) | _ => (false, 0, ⟨#[]⟩, 0))
  else (false, 0, ⟨#[]⟩, 0)

theorem bytes_cut (s : ByteArray) (a : Nat) : bytesOf (s.extract a s.size) = (bytesOf s).drop a := by
  unfold bytesOf
  rw [ByteArray.data_extract, Array.toList_extract, List.extract_eq_take_drop, List.take_of_length_le (by rw [List.length_drop, data_length]; omega), List.map_drop]

theorem first_eq (s : ByteArray) (h : 0 < s.size ∧ s.size ≤ 140737488351232) : keys_first.f s = some (firstI (bytesOf s)) := by
  unfold keys_first.f firstI firstT
  rw [if_pos h, bytesOf_length, rd_bytesOf, numN_numI, fold_dec _ _ (Nat.le_refl _), bytes_cut]
  by_cases c1 : bt s 0 = 1 ∧ 9 ≤ s.size
  · rw [if_pos c1, if_pos c1]
  · rw [if_neg c1, if_neg c1]
    by_cases c2 : bt s 0 = 2
    · rw [if_pos c2, if_pos c2]
      cases decL ((bytesOf s).drop 1) with
      | none => rfl
      | some t =>
        obtain ⟨ys, u, b⟩ := t
        cases b <;> rfl
    · rw [if_neg c2, if_neg c2]

theorem nine {b : List Int} (h : 9 ≤ b.length) : ∃ a0 a1 a2 a3 a4 a5 a6 a7 a8 r, b = a0 :: a1 :: a2 :: a3 :: a4 :: a5 :: a6 :: a7 :: a8 :: r := by
  match b, h with
  | a0 :: a1 :: a2 :: a3 :: a4 :: a5 :: a6 :: a7 :: a8 :: r, _ => exact ⟨_, _, _, _, _, _, _, _, _, _, rfl⟩
  | [], h | [_], h | [_, _], h | [_, _, _], h | [_, _, _, _], h | [_, _, _, _, _], h | [_, _, _, _, _, _], h | [_, _, _, _, _, _, _], h | [_, _, _, _, _, _, _, _], h => simp at h

theorem num_nine {a0 a1 a2 a3 a4 a5 a6 a7 a8 : Int} {r : List Int} (h1 : 0 ≤ a1 ∧ a1 ≤ 255) (h2 : 0 ≤ a2 ∧ a2 ≤ 255) (h3 : 0 ≤ a3 ∧ a3 ≤ 255) (h4 : 0 ≤ a4 ∧ a4 ≤ 255) (h5 : 0 ≤ a5 ∧ a5 ≤ 255) (h6 : 0 ≤ a6 ∧ a6 ≤ 255) (h7 : 0 ≤ a7 ∧ a7 ≤ 255) (h8 : 0 ≤ a8 ∧ a8 ≤ 255) :
    numI (a0 :: a1 :: a2 :: a3 :: a4 :: a5 :: a6 :: a7 :: a8 :: r) 8 = (((((((a1 * 256 + a2) * 256 + a3) * 256 + a4) * 256 + a5) * 256 + a6) * 256 + a7) * 256 + a8) := by
  have g1 : numI (a0 :: a1 :: a2 :: a3 :: a4 :: a5 :: a6 :: a7 :: a8 :: r) 1 = a1 := by
    rw [numI, numI]
    show Go.bits .or .u64 (IntKind.u64.wrap (0 * 256)) (IntKind.u64.wrap a1) = a1
    rw [or_add (by omega) (by omega) h1.1 h1.2]
    omega
  have g2 := by
    have e : numI (a0 :: a1 :: a2 :: a3 :: a4 :: a5 :: a6 :: a7 :: a8 :: r) 2 = Go.bits .or .u64 (IntKind.u64.wrap (numI (a0 :: a1 :: a2 :: a3 :: a4 :: a5 :: a6 :: a7 :: a8 :: r) 1 * 256)) (IntKind.u64.wrap a2) := rfl
    rw [g1, or_add (by omega) (by omega) h2.1 h2.2] at e
    exact e
  have g3 := by
    have e : numI (a0 :: a1 :: a2 :: a3 :: a4 :: a5 :: a6 :: a7 :: a8 :: r) 3 = Go.bits .or .u64 (IntKind.u64.wrap (numI (a0 :: a1 :: a2 :: a3 :: a4 :: a5 :: a6 :: a7 :: a8 :: r) 2 * 256)) (IntKind.u64.wrap a3) := rfl
    rw [g2, or_add (by omega) (by omega) h3.1 h3.2] at e
    exact e
  have g4 := by
    have e : numI (a0 :: a1 :: a2 :: a3 :: a4 :: a5 :: a6 :: a7 :: a8 :: r) 4 = Go.bits .or .u64 (IntKind.u64.wrap (numI (a0 :: a1 :: a2 :: a3 :: a4 :: a5 :: a6 :: a7 :: a8 :: r) 3 * 256)) (IntKind.u64.wrap a4) := rfl
    rw [g3, or_add (by omega) (by omega) h4.1 h4.2] at e
    exact e
  have g5 := by
    have e : numI (a0 :: a1 :: a2 :: a3 :: a4 :: a5 :: a6 :: a7 :: a8 :: r) 5 = Go.bits .or .u64 (IntKind.u64.wrap (numI (a0 :: a1 :: a2 :: a3 :: a4 :: a5 :: a6 :: a7 :: a8 :: r) 4 * 256)) (IntKind.u64.wrap a5) := rfl
    rw [g4, or_add (by omega) (by omega) h5.1 h5.2] at e
    exact e
  have g6 := by
    have e : numI (a0 :: a1 :: a2 :: a3 :: a4 :: a5 :: a6 :: a7 :: a8 :: r) 6 = Go.bits .or .u64 (IntKind.u64.wrap (numI (a0 :: a1 :: a2 :: a3 :: a4 :: a5 :: a6 :: a7 :: a8 :: r) 5 * 256)) (IntKind.u64.wrap a6) := rfl
    rw [g5, or_add (by omega) (by omega) h6.1 h6.2] at e
    exact e
  have g7 := by
    have e : numI (a0 :: a1 :: a2 :: a3 :: a4 :: a5 :: a6 :: a7 :: a8 :: r) 7 = Go.bits .or .u64 (IntKind.u64.wrap (numI (a0 :: a1 :: a2 :: a3 :: a4 :: a5 :: a6 :: a7 :: a8 :: r) 6 * 256)) (IntKind.u64.wrap a7) := rfl
    rw [g6, or_add (by omega) (by omega) h7.1 h7.2] at e
    exact e
  have e : numI (a0 :: a1 :: a2 :: a3 :: a4 :: a5 :: a6 :: a7 :: a8 :: r) 8 = Go.bits .or .u64 (IntKind.u64.wrap (numI (a0 :: a1 :: a2 :: a3 :: a4 :: a5 :: a6 :: a7 :: a8 :: r) 7 * 256)) (IntKind.u64.wrap a8) := rfl
  rw [g7, or_add (by omega) (by omega) h8.1 h8.2] at e
  exact e

theorem be8_nine {n a1 a2 a3 a4 a5 a6 a7 a8 : Int} (h1 : 0 ≤ a1 ∧ a1 ≤ 255) (h2 : 0 ≤ a2 ∧ a2 ≤ 255) (h3 : 0 ≤ a3 ∧ a3 ≤ 255) (h4 : 0 ≤ a4 ∧ a4 ≤ 255) (h5 : 0 ≤ a5 ∧ a5 ≤ 255) (h6 : 0 ≤ a6 ∧ a6 ≤ 255) (h7 : 0 ≤ a7 ∧ a7 ≤ 255) (h8 : 0 ≤ a8 ∧ a8 ≤ 255)
    (h : n = (((((((a1 * 256 + a2) * 256 + a3) * 256 + a4) * 256 + a5) * 256 + a6) * 256 + a7) * 256 + a8)) : be8 n = [a1, a2, a3, a4, a5, a6, a7, a8] := by
  show [n / 2 ^ 56 % 256, n / 2 ^ 48 % 256, n / 2 ^ 40 % 256, n / 2 ^ 32 % 256, n / 2 ^ 24 % 256, n / 2 ^ 16 % 256, n / 2 ^ 8 % 256, n / 2 ^ 0 % 256] = _
  congr 1
  · omega
  congr 1
  · omega
  congr 1
  · omega
  congr 1
  · omega
  congr 1
  · omega
  congr 1
  · omega
  congr 1
  · omega
  congr 1
  omega

theorem bytesOf_strOf (s : ByteArray) : strOfNums (bytesOf s) = s := by
  refine ByteArray.ext (Array.toList_inj.1 ?_)
  rw [strOfNums_data]
  unfold bytesOf
  rw [List.map_map]
  conv => rhs; rw [← List.map_id s.data.toList]
  refine List.map_congr_left fun x hx => ?_
  show UInt8.ofNat ((x.toNat : Int).toNat) = x
  rw [Int.toNat_natCast]
  exact UInt8.ofNat_toNat

/-- What is read as a part is what the part is laid as. -/
theorem first_canon {b : List Int} (hb : Bytes b) {t : Bool} {n : Int} {s : ByteArray} {m : Int} (h : firstI b = (t, n, s, m)) (hm : m ≠ 0) : ∃ r, b = partB ⟨t, n, s⟩ ++ r ∧ m = (partB ⟨t, n, s⟩).length := by
  unfold firstI at h
  by_cases c1 : rd b 0 = 1 ∧ 9 ≤ b.length
  · rw [if_pos c1] at h
    simp only [Prod.mk.injEq] at h
    obtain ⟨rfl, hn, rfl, rfl⟩ := h
    obtain ⟨a0, a1, a2, a3, a4, a5, a6, a7, a8, r, rfl⟩ := nine c1.2
    have e0 : a0 = 1 := c1.1
    have k1 := hb a1 (by simp)
    have k2 := hb a2 (by simp)
    have k3 := hb a3 (by simp)
    have k4 := hb a4 (by simp)
    have k5 := hb a5 (by simp)
    have k6 := hb a6 (by simp)
    have k7 := hb a7 (by simp)
    have k8 := hb a8 (by simp)
    rw [num_nine k1 k2 k3 k4 k5 k6 k7 k8] at hn
    have hp : partB ⟨false, n, ⟨#[]⟩⟩ = [1, a1, a2, a3, a4, a5, a6, a7, a8] := by
      unfold partB
      rw [if_neg (fun h => by cases h), be8_nine k1 k2 k3 k4 k5 k6 k7 k8 hn.symm]
      rfl
    rw [hp]
    exact ⟨r, by rw [e0]; rfl, rfl⟩
  · rw [if_neg c1] at h
    by_cases c2 : rd b 0 = 2
    · rw [if_pos c2] at h
      cases hd : decL (b.drop 1) with
      | none =>
        rw [hd] at h
        simp only [Prod.mk.injEq] at h
        exact absurd h.2.2.2.symm hm
      | some q =>
        obtain ⟨ys, u, g⟩ := q
        rw [hd] at h
        cases g with
        | false =>
          simp only [Prod.mk.injEq] at h
          exact absurd h.2.2.2.symm hm
        | true =>
          simp only [Prod.mk.injEq] at h
          obtain ⟨rfl, rfl, rfl, rfl⟩ := h
          obtain ⟨r, hr, hu⟩ := dec_canon _ _ (Nat.le_refl _) _ _ hd
          have hbl : b = 2 :: b.drop 1 := by
            match b, c2 with
            | x :: l, c2 => rw [show x = 2 from c2]; rfl
          have hby : Bytes ys := esc_bytes_back (Bytes.left (m := [0, 1]) (Bytes.left (m := r) (by rw [← hr]; exact fun x hx => hb x (List.mem_of_mem_drop hx))))
          have hp : partB ⟨true, 0, strOfNums ys⟩ = 2 :: (escI ys ++ [0, 1]) := by
            unfold partB
            rw [if_pos rfl, escS_bytes, bytes_str hby]
            rfl
          rw [hp]
          refine ⟨r, ?_, ?_⟩
          · rw [hbl, hr]
            rfl
          · rw [hu]
            simp only [List.length_cons, List.length_append, List.length_nil]
            omega
    · rw [if_neg c2] at h
      simp only [Prod.mk.injEq] at h
      exact absurd h.2.2.2.symm hm

/-- What a part is laid as is read as the part. -/
theorem first_back (p : S41) (hp : rightP p = true) (hn : 0 ≤ p.f1 ∧ p.f1 < 18446744073709551616) (r : List Int) : firstI (partB p ++ r) = (p.f0, p.f1, p.f2, ((partB p).length : Int)) := by
  obtain ⟨t, n, s⟩ := p
  dsimp only at hn ⊢
  cases t with
  | true =>
    unfold rightP at hp
    rw [if_pos rfl, Bool.and_eq_true] at hp
    obtain rfl : n = 0 := beq_iff_eq.1 hp.1
    have e : partB ⟨true, 0, s⟩ = 2 :: (escI (bytesOf s) ++ [0, 1]) := by
      unfold partB
      rw [if_pos rfl, escS_bytes]
      rfl
    rw [e]
    unfold firstI
    have e2 : rd (2 :: (escI (bytesOf s) ++ [0, 1]) ++ r) 0 = 2 := rfl
    have e3 : (2 :: (escI (bytesOf s) ++ [0, 1]) ++ r).drop 1 = escI (bytesOf s) ++ [0, 1] ++ r := rfl
    rw [e2, e3, if_neg (fun h => absurd h.1 (by decide)), if_pos rfl, dec_back]
    dsimp only
    rw [bytesOf_strOf]
    simp only [Prod.mk.injEq, List.length_cons, List.length_append, List.length_nil]
    refine ⟨trivial, trivial, trivial, ?_⟩
    omega
  | false =>
    unfold rightP at hp
    rw [if_neg (fun h => by cases h)] at hp
    have hs : s = ⟨#[]⟩ := by
      have h1 : s.toList = [] := beq_iff_eq.1 hp
      refine ByteArray.ext (Array.toList_inj.1 ?_)
      rw [← Lib.toList_data, h1]
    subst hs
    have e : partB ⟨false, n, ⟨#[]⟩⟩ = [1, n / 2 ^ 56 % 256, n / 2 ^ 48 % 256, n / 2 ^ 40 % 256, n / 2 ^ 32 % 256, n / 2 ^ 24 % 256, n / 2 ^ 16 % 256, n / 2 ^ 8 % 256, n / 2 ^ 0 % 256] := rfl
    rw [e]
    unfold firstI
    rw [if_pos ⟨rfl, by simp⟩]
    simp only [Prod.mk.injEq]
    refine ⟨trivial, ?_, trivial, rfl⟩
    show numI (_ :: _ :: _ :: _ :: _ :: _ :: _ :: _ :: _ :: r) 8 = n
    rw [num_nine (by omega) (by omega) (by omega) (by omega) (by omega) (by omega) (by omega) (by omega)]
    have s1 : n / 2 ^ 56 % 256 = n / 2 ^ 56 := by omega
    have s2 : n / 2 ^ 56 * 256 + n / 2 ^ 48 % 256 = n / 2 ^ 48 := by omega
    have s3 : n / 2 ^ 48 * 256 + n / 2 ^ 40 % 256 = n / 2 ^ 40 := by omega
    have s4 : n / 2 ^ 40 * 256 + n / 2 ^ 32 % 256 = n / 2 ^ 32 := by omega
    have s5 : n / 2 ^ 32 * 256 + n / 2 ^ 24 % 256 = n / 2 ^ 24 := by omega
    have s6 : n / 2 ^ 24 * 256 + n / 2 ^ 16 % 256 = n / 2 ^ 16 := by omega
    have s7 : n / 2 ^ 16 * 256 + n / 2 ^ 8 % 256 = n / 2 ^ 8 := by omega
    rw [s1, s2, s3, s4, s5, s6, s7]
    omega
end Go.Proofs.YtdofoopnjmbmcaaDoor.Math
