/- Plain facts: what is opened, by the program and by the reference, is the same; and what is opened is what was sealed. -/
import Derived.Test.YtecfoepcgammcaaSealMath
import Derived.Test.YtecfoepcgammcaaHandO
import Derived.Test.YtecfoepcgammcaaHandP
import Derived.Test.YtecfoepcgammcaaBackMath
namespace Go.Proofs.Ytecfoepcgammcaa.Math
set_option linter.unusedVariables false
set_option linter.unusedSimpArgs false
open Go.RowKit Go.Proofs.Ytecfoepcgammcaa.X Go.Proofs.Ytecfoepcgammcaa.HandF
open Go.Proofs.YtecfoepcgammcaaW.PrintWords Go.Proofs.YtecfoepcgammcaaW.PrintLast Go.Proofs.YtecfoepcgammcaaW.PrintMore

theorem rd_cons (x : Int) (l : List Int) (p : Nat) : rd (x :: l) ((p + 1 : Nat) : Int) = rd l (p : Int) := by
  unfold rd; rw [Int.toNat_natCast, Int.toNat_natCast]; rfl
theorem acc_cons (x : Int) (l : List Int) : ∀ (d p v : Nat), acc (x :: l) (p + 1) d v = acc l p d v
  | 0, p, v => rfl
  | d + 1, p, v => by rw [acc, acc, rd_cons, acc_cons x l d]
theorem numAt_cons (x : Int) (l : List Int) (p : Nat) : numAt (x :: l) (p + 1) = (numAt l p).map fun t => (t.1, t.2 + 1) := by
  unfold numAt
  rw [rd_cons, acc_cons, List.length_cons, show l.length + 1 - (p + 1) = l.length - p by omega]
  split
  · rfl
  · split
    · rw [Option.map_some]; congr 2; omega
    · rfl

/-- What a text's bytes come to: the text, and where it ends. -/
def textAt (l : List Int) (p : Nat) (most : Int) : Option (ByteArray × Nat) :=
  (numAt l p).bind fun t => if most < 0 ∨ (t.1 : Int) > most ∨ l.length < t.2 + t.1 then none else some (strOfNums ((l.take (t.2 + t.1)).drop t.2), t.2 + t.1)
def textRes (o : Option (ByteArray × Nat)) : ByteArray × Int × Int := match o with | none => (⟨#[]⟩, 0, 20) | some (s, q) => (s, (q : Int), 0)

theorem txt_none (l : List Int) (most : Int) : txt l most (0, 0, 20) = some (⟨#[]⟩, 0, 20) := by
  unfold txt
  rw [if_neg (by simp)]

theorem txt_is {l : List Int} (hb : Bytes l) (hl : l.length ≤ 140737488371712) {p : Nat} (hp : p < l.length) {most : Int} (hm : most ≤ 9223372036854775807) : txt l most (takeNum l (p : Int)) = some (textRes (textAt l p most)) := by
  unfold takeNum textAt
  rw [if_pos (by omega), Int.toNat_natCast]
  cases hn : numAt l p with
  | none => exact txt_none l most
  | some vq =>
    obtain ⟨v, q⟩ := vq
    obtain ⟨hv, hq, hpq⟩ := numAt_is hb hn
    rw [Option.bind_some]
    show txt l most ((v : Int), (q : Int), 0) = _
    unfold txt
    dsimp only
    rw [if_pos rfl]
    by_cases c2 : most < 0
    · rw [if_pos c2, if_pos (Or.inl c2)]; rfl
    rw [if_neg c2]
    have e0 : IntKind.u64.wrap most = most := by rw [IntKind.wrap_u64]; omega
    rw [e0]
    by_cases c3 : (v : Int) > most
    · rw [if_pos c3, if_pos (Or.inr (Or.inl c3))]; rfl
    rw [if_neg c3]
    have e1 : IntKind.u64.wrap (wrap64 ((l.length : Int) - (q : Int))) = (l.length : Int) - (q : Int) := by
      rw [wrap_small (by omega) (by omega), IntKind.wrap_u64]; omega
    rw [e1]
    clear e1
    by_cases c4 : (v : Int) > (l.length : Int) - (q : Int)
    · rw [if_pos c4, if_pos (Or.inr (Or.inr (by omega)))]; rfl
    have hvl : v + q ≤ l.length := by omega
    have c5 : (q : Int) ≤ ((q + v : Nat) : Int) := by omega
    have c6 : ((q + v : Nat) : Int) ≤ (l.length : Int) := by omega
    have e2 : wrap64 (v : Int) = (v : Int) := wrap_small (by omega) (by omega)
    have e3 : wrap64 ((q : Int) + (v : Int)) = ((q + v : Nat) : Int) := by rw [wrap_small (by omega) (by omega)]; omega
    rw [if_neg c4, if_pos (Int.natCast_nonneg q), e2, e3, if_pos c5, if_pos c6, if_neg (by omega), Int.toNat_natCast, Int.toNat_natCast]
    rfl

theorem textAt_cons (x : Int) (l : List Int) (p : Nat) (most : Int) : textAt (x :: l) (p + 1) most = (textAt l p most).map fun t => (t.1, t.2 + 1) := by
  unfold textAt
  rw [numAt_cons]
  cases hn : numAt l p with
  | none => rfl
  | some vq =>
    obtain ⟨v, q⟩ := vq
    rw [Option.map_some, Option.bind_some, Option.bind_some]
    dsimp only
    by_cases c : most < 0 ∨ (v : Int) > most ∨ l.length < q + v
    · rw [if_pos c, if_pos (by rw [List.length_cons]; omega)]; rfl
    · rw [if_neg c, if_neg (by rw [List.length_cons]; omega), Option.map_some, show q + 1 + v = (q + v) + 1 by omega, List.take_succ_cons, List.drop_succ_cons]

theorem bytes_str {l : List Int} (hb : Bytes l) : bytesOf (strOfNums l) = l := by
  unfold bytesOf
  rw [strOfNums_data, List.map_map]
  conv => rhs; rw [← List.map_id l]
  refine List.map_congr_left fun x hx => ?_
  have := hb x hx
  show ((UInt8.ofNat x.toNat).toNat : Int) = x
  rw [UInt8.toNat_ofNat']
  omega
theorem str_inj {a b : List Int} (ha : Bytes a) (hb : Bytes b) (h : strOfNums a = strOfNums b) : a = b := by
  rw [← bytes_str ha, h, bytes_str hb]
theorem str_bytes (s : ByteArray) : strOfNums (bytesOf s) = s := by
  refine ByteArray.ext (Array.toList_inj.1 ?_)
  rw [strOfNums_data]
  unfold bytesOf
  rw [List.map_map]
  conv => rhs; rw [← List.map_id s.data.toList]
  refine List.map_congr_left fun x _ => ?_
  show UInt8.ofNat ((x.toNat : Int)).toNat = x
  rw [Int.toNat_natCast]
  exact UInt8.ofNat_toNat
theorem Bytes.take {l : List Int} (h : Bytes l) (n : Nat) : Bytes (l.take n) := fun x hx => h x (List.mem_of_mem_take hx)
theorem Bytes.drop {l : List Int} (h : Bytes l) (n : Nat) : Bytes (l.drop n) := fun x hx => h x (List.mem_of_mem_drop hx)
theorem Bytes.append {l m : List Int} (h : Bytes l) (k : Bytes m) : Bytes (l ++ m) := fun x hx => (List.mem_append.1 hx).elim (h x) (k x)
theorem Bytes.cons {x : Int} {l : List Int} (hx : 0 ≤ x ∧ x ≤ 255) (h : Bytes l) : Bytes (x :: l) := fun y hy => by
  rcases List.mem_cons.1 hy with rfl | hy
  · exact hx
  · exact h y hy

/-- What a text is read from are its bytes. -/
theorem textAt_one {l : List Int} (hb : Bytes l) {p q : Nat} {s : ByteArray} {most : Int} (h : textAt l p most = some (s, q)) : (l.take q).drop p = numB s.size ++ bytesOf s ∧ p < q ∧ q ≤ l.length := by
  unfold textAt at h
  cases hn : numAt l p with
  | none => rw [hn] at h; cases h
  | some vq =>
    obtain ⟨v, q0⟩ := vq
    rw [hn, Option.bind_some] at h
    obtain ⟨h1, hv, hq0, hpq⟩ := numAt_one hb hn
    dsimp only at h
    split at h
    · cases h
    rename_i c
    simp only [Option.some.injEq, Prod.mk.injEq] at h
    obtain ⟨rfl, rfl⟩ := h
    have hlen : ((l.take (q0 + v)).drop q0).length = v := by rw [List.length_drop, List.length_take]; omega
    rw [strOfNums_size, hlen, bytes_str ((hb.take _).drop _), ← h1]
    refine ⟨?_, by omega, by omega⟩
    have e : l.take (q0 + v) = l.take q0 ++ (l.take (q0 + v)).drop q0 := by
      conv => lhs; rw [← List.take_append_drop q0 (l.take (q0 + v))]
      rw [List.take_take, Nat.min_eq_left (by omega)]
    conv => lhs; rw [e]
    rw [List.drop_append_of_le_length (by rw [List.length_take]; omega)]

theorem sum_bytes (n : Int) : Bytes (sumBytes n) := by
  intro x hx
  unfold sumBytes at hx
  simp only [List.mem_cons, List.mem_nil_iff, or_false] at hx
  rcases hx with rfl | rfl | rfl | rfl <;> omega
theorem numB_bytes (n : Nat) : Bytes (numB n) := be_bytes _ _

theorem extract_bytes (s : ByteArray) (a b : Nat) : bytesOf (s.extract a b) = ((bytesOf s).take b).drop a := by
  unfold bytesOf
  rw [ByteArray.data_extract, Array.toList_extract, List.extract_eq_take_drop, List.map_take, List.map_drop, List.drop_take]

/-- The program opens as the reference does. -/
theorem open_same (s : ByteArray) (hs : s.size ≤ 140737488371712) (p : Nat) (hp : p < s.size) (most : Int) (hm : most ≤ 9223372036854775807) :
    openOf (bytesOf (s.extract p s.size)) (p : Int) most = refOpenOf s p most ∧ ∃ r, refOpenOf s p most = some r := by
  have hbs := bytesOf_bytes' s
  obtain ⟨b, hb⟩ : ∃ b, (bytesOf s).drop p = b := ⟨_, rfl⟩
  have hlen : b.length = s.size - p := by rw [← hb, List.length_drop, bytesOf_length]
  have hbb : Bytes b := by rw [← hb]; exact hbs.drop p
  have e1 : bytesOf (s.extract p s.size) = b := by rw [extract_bytes, List.take_of_length_le (by rw [bytesOf_length]; omega), hb]
  have hx : rd b 0 = bt s (p : Int) := by
    rw [← rd_bytesOf, ← hb]
    unfold rd
    rw [List.getD_eq_getElem?_getD, List.getD_eq_getElem?_getD, List.getElem?_drop]
    simp
  obtain ⟨x, l, rfl⟩ : ∃ x l, b = x :: l := by
    cases b with
    | nil => rw [List.length_nil] at hlen; omega
    | cons x l => exact ⟨x, l, rfl⟩
  have hll : l.length + 1 = s.size - p := by rw [← hlen, List.length_cons]
  have hbl : Bytes l := fun y hy => hbb y (List.mem_cons_of_mem _ hy)
  have hxx : x = bt s (p : Int) := by rw [← hx]; rfl
  have e2 : bytesOf (s.extract (p + 1) s.size) = l := by
    rw [extract_bytes, List.take_of_length_le (by rw [bytesOf_length]; omega), ← List.drop_drop, hb]; rfl
  unfold openOf refOpenOf
  rw [e1, e2]
  have t1 : txt (x :: l) most (takeNum (x :: l) 1) = some (textRes ((textAt l 0 most).map fun t => (t.1, t.2 + 1))) ∨ l = [] := by
    by_cases c : l = []
    · exact .inr c
    · left
      have := txt_is hbb (by omega) (p := 1) (by have := List.length_pos_iff.2 c; rw [List.length_cons]; omega) hm
      rw [show ((1 : Nat) : Int) = 1 from rfl] at this
      rw [this, textAt_cons]
  have t2 : txt l most (takeNum l 0) = some (textRes (textAt l 0 most)) ∨ l = [] := by
    by_cases c : l = []
    · exact .inr c
    · left
      have := txt_is hbl (by omega) (p := 0) (List.length_pos_iff.2 c) hm
      rw [show ((0 : Nat) : Int) = 0 from rfl] at this
      exact this
  by_cases c : l = []
  · subst c
    have f1 : takeNum [x] 1 = (0, 0, 20) := by unfold takeNum; rw [if_neg (by simp)]
    have f2 : takeNum [] 0 = (0, 0, 20) := by unfold takeNum; rw [if_neg (by simp)]
    rw [f1, f2, txt_none, txt_none]
    exact ⟨rfl, _, rfl⟩
  replace t1 := t1.resolve_right c
  replace t2 := t2.resolve_right c
  rw [t1, t2, Option.bind_some, Option.bind_some]
  cases hn : textAt l 0 most with
  | none => exact ⟨rfl, _, rfl⟩
  | some t =>
    obtain ⟨body, q⟩ := t
    rw [Option.map_some]
    obtain ⟨h1, hq0, hql⟩ := textAt_one hbl hn
    rw [List.drop_zero] at h1
    obtain ⟨T, hT⟩ : ∃ T, textRes (some (body, q + 1)) = T := ⟨_, rfl⟩
    obtain ⟨U, hU⟩ : ∃ U, textRes (some (body, q)) = U := ⟨_, rfl⟩
    have hT1 : T.1 = body := by rw [← hT]; rfl
    have hT2 : T.2.1 = ((q + 1 : Nat) : Int) := by rw [← hT]; rfl
    have hT3 : T.2.2 = 0 := by rw [← hT]; rfl
    have hU1 : U.1 = body := by rw [← hU]; rfl
    have hU2 : U.2.1 = ((q : Nat) : Int) := by rw [← hU]; rfl
    have hU3 : U.2.2 = 0 := by rw [← hU]; rfl
    rw [hT, hU, if_pos hT3, if_pos hU3, hT2, hU2, hT1, hU1]
    clear hT hU hT1 hT2 hT3 hU1 hU2 hU3
    by_cases c4 : (((x :: l).length : Nat) : Int) - ((q + 1 : Nat) : Int) < 4
    · have c4' : (s.size : Int) - (p : Int) - 1 - (q : Int) < 4 := by rw [List.length_cons] at c4; omega
      rw [if_pos c4, if_pos c4']
      exact ⟨rfl, _, rfl⟩
    · have c4' : ¬ ((s.size : Int) - (p : Int) - 1 - (q : Int) < 4) := by rw [List.length_cons] at c4; omega
      rw [if_neg c4, if_neg c4']
      rw [List.length_cons] at c4
      rw [Int.toNat_natCast, Int.toNat_natCast, hx, ← hxx]
      have hbody : (x :: l).take (q + 1) = bodyOf x body := by
        rw [List.take_succ_cons, h1]; unfold bodyOf; rw [List.append_assoc]; rfl
      rw [hbody]
      have hsplit : (x :: l).take (q + 1 + 4) = bodyOf x body ++ ((x :: l).take (q + 1 + 4)).drop (q + 1) := by
        conv => lhs; rw [← List.take_append_drop (q + 1) ((x :: l).take (q + 1 + 4))]
        rw [List.take_take, Nat.min_eq_left (by omega), hbody]
      have hext : s.extract p (p + 1 + q + 4) = strOfNums ((x :: l).take (q + 1 + 4)) := by
        rw [← str_bytes (s.extract p (p + 1 + q + 4)), extract_bytes, List.drop_take, hb]
        congr 2
        omega
      have hbody2 : Bytes (bodyOf x body) := by rw [← hbody]; exact hbb.take _
      have hiff : (sumBytes (Go.bits .xor .u32 4294967295 (crcList 4294967295 (bodyOf x body))) = ((x :: l).take (q + 1 + 4)).drop (q + 1)) ↔ strOfNums (sealOf x body) = s.extract p (p + 1 + q + 4) := by
        rw [hext]
        unfold sealOf
        constructor
        · intro h
          rw [hsplit, h]
        · intro h
          have := str_inj (hbody2.append (sum_bytes _)) (hbb.take _) h
          rw [hsplit] at this
          exact List.append_cancel_left this
      by_cases c5 : sumBytes (Go.bits .xor .u32 4294967295 (crcList 4294967295 (bodyOf x body))) = ((x :: l).take (q + 1 + 4)).drop (q + 1)
      · rw [if_pos c5, if_pos (hiff.1 c5)]
        refine ⟨?_, _, rfl⟩
        congr 4
        omega
      · rw [if_neg c5, if_neg (fun h => c5 (hiff.2 h))]
        exact ⟨rfl, _, rfl⟩
end Go.Proofs.Ytecfoepcgammcaa.Math
