/- The plain law of WireOne. -/
import Derived.Test.YtecfoepcgammcaaX10
import Derived.Test.YtecfoepcgammcaaOpenMath
namespace Go.Proofs.Ytecfoepcgammcaa.Math
set_option linter.unusedVariables false
set_option linter.unusedSimpArgs false
open Go.RowKit Go.Proofs.Ytecfoepcgammcaa.X Go.Proofs.Ytecfoepcgammcaa.HandF
open Go.Proofs.YtecfoepcgammcaaW.PrintWords Go.Proofs.YtecfoepcgammcaaW.PrintLast Go.Proofs.YtecfoepcgammcaaW.PrintMore

theorem textAt_size {l : List Int} {p q : Nat} {s : ByteArray} {most : Int} (h : textAt l p most = some (s, q)) : s.size ≤ l.length := by
  unfold textAt at h
  cases hn : numAt l p with
  | none => rw [hn] at h; cases h
  | some vq =>
    obtain ⟨v, q0⟩ := vq
    rw [hn, Option.bind_some] at h
    dsimp only at h
    split at h
    · cases h
    simp only [Option.some.injEq, Prod.mk.injEq] at h
    obtain ⟨rfl, rfl⟩ := h
    rw [strOfNums_size, List.length_drop, List.length_take]
    omega

/-- What is opened was sealed so. -/
theorem refopen_one (s : ByteArray) (hs : s.size ≤ 140737488351232) (p : Nat) (hp : p < s.size) (most : Int) (hm : most ≤ 9223372036854775807) {a c : Int} {t : ByteArray} {e : Int}
    (h : refOpenOf s p most = some (a, t, c, e)) (he : e = 0) : ∃ r : Nat, c = (r : Int) ∧ p ≤ r ∧ r ≤ s.size ∧ strOfNums (sealOf a t) = s.extract p r ∧ t.size ≤ s.size := by
  subst he
  unfold refOpenOf at h
  have hl : (bytesOf (s.extract (p + 1) s.size)).length = s.size - (p + 1) := by rw [bytesOf_length, ByteArray.size_extract]; omega
  by_cases c0 : s.size = p + 1
  · have f2 : takeNum (bytesOf (s.extract (p + 1) s.size)) 0 = (0, 0, 20) := by unfold takeNum; rw [if_neg (by rw [hl]; omega)]
    rw [f2, txt_none, Option.bind_some, if_neg (by decide)] at h
    simp at h
  have hb := bytesOf_bytes' (s.extract (p + 1) s.size)
  have t2 := txt_is hb (by omega) (p := 0) (by omega) hm
  rw [show ((0 : Nat) : Int) = 0 from rfl] at t2
  rw [t2, Option.bind_some] at h
  cases hn : textAt (bytesOf (s.extract (p + 1) s.size)) 0 most with
  | none => rw [hn] at h; simp [textRes] at h
  | some bq =>
    obtain ⟨body, q⟩ := bq
    have hsz := textAt_size hn
    obtain ⟨h1, hq0, hql⟩ := textAt_one hb hn
    rw [hn] at h
    obtain ⟨U, hU⟩ : ∃ U, textRes (some (body, q)) = U := ⟨_, rfl⟩
    have hU1 : U.1 = body := by rw [← hU]; rfl
    have hU2 : U.2.1 = ((q : Nat) : Int) := by rw [← hU]; rfl
    have hU3 : U.2.2 = 0 := by rw [← hU]; rfl
    rw [hU, if_pos hU3, hU2, hU1] at h
    by_cases c4 : (s.size : Int) - (p : Int) - 1 - (q : Int) < 4
    · rw [if_pos c4] at h; simp at h
    · rw [if_neg c4, Int.toNat_natCast] at h
      by_cases c5 : strOfNums (sealOf (bt s (p : Int)) body) = s.extract p (p + 1 + q + 4)
      · rw [if_pos c5] at h
        simp only [Option.some.injEq, Prod.mk.injEq] at h
        obtain ⟨rfl, rfl, rfl, _⟩ := h
        exact ⟨p + 1 + q + 4, by omega, by omega, by omega, c5, by omega⟩
      · rw [if_neg c5] at h; simp at h

theorem text_nil {s : ByteArray} (hs : s.size + 4096 ≤ 140737488355328) : Ev (fun k => wire_Text.f k ([] : List Int) s) (numB s.size ++ bytesOf s) := by
  obtain ⟨k1, h1⟩ := number_some (l := []) (n := s.size) (by omega) (by simp)
  have hw : IntKind.u64.wrap (s.size : Int) = (s.size : Int) := by rw [IntKind.wrap_u64]; omega
  have hn9 := numB_len s.size
  refine ⟨k1, fun k hk => ?_⟩
  have h2 := h1 k hk
  dsimp only at h2 ⊢
  rw [List.nil_append] at h2
  unfold wire_Text.f
  rw [hw, h2, Option.bind_some, if_pos (by omega)]

theorem one_j1 {l : List Int} (hb : Bytes l) (hl : l.length ≤ 140737488351232) (p : Int) (k : Nat) : pannierlaw02_WireOne.j1 (k + 1) l p true false = some true := by
  have hsz : (strOfNums l).size = l.length := strOfNums_size l
  rw [pannierlaw02_WireOne.j1, if_neg (by decide)]
  by_cases c : 0 ≤ p ∧ p < l.length
  · obtain ⟨n, rfl⟩ := Int.eq_ofNat_of_zero_le c.1
    obtain ⟨h1, ⟨a, t, c', e⟩, h2⟩ := open_same (strOfNums l) (by omega) n (by omega) (l.length : Int) (by omega)
    have h3 : wire_Open.f (strOfNums l) (n : Int) (l.length : Int) = some (a, t, c', e) := by
      unfold wire_Open.f
      rw [if_pos (by omega), if_pos (by omega), Int.toNat_natCast, h1, h2]
    rw [h3, Option.bind_some, if_pos rfl]
    by_cases c0 : e = 0
    · obtain ⟨r, rfl, hr1, hr2, hr3, hr4⟩ := refopen_one (strOfNums l) (by omega) n (by omega) _ (by omega) h2 c0
      have g1 : (n : Int) ≤ (r : Int) := by omega
      have g2 : (r : Int) ≤ (l.length : Int) := by omega
      rw [if_pos c0, seal_some _ _ (show t.size + 4096 ≤ 140737488355328 by omega), Option.bind_some, if_pos c.1, if_pos g1, if_pos g2, hr3, Int.toNat_natCast, Int.toNat_natCast]
      have e1 : (strOfNums l).extract n r = strOfNums ((l.take r).drop n) := by
        rw [← str_bytes ((strOfNums l).extract n r), extract_bytes, bytes_str hb]
      rw [e1]
      simp
    · rw [if_neg c0]
  · have h3 : wire_Open.f (strOfNums l) p (l.length : Int) = some (0, ⟨#[]⟩, 0, 20) := by
      unfold wire_Open.f
      rw [if_pos (by omega), if_neg (by omega)]
    rw [h3, Option.bind_some, if_pos rfl, if_neg (by decide)]

theorem one_j0 {l : List Int} (hb : Bytes l) (hl : l.length ≤ 140737488351232) (p : Int) : ∃ k0, ∀ k, k0 ≤ k → pannierlaw02_WireOne.j0 (k + 1) l p true false = some true := by
  obtain ⟨r, hr, k1, h1⟩ := text_ev hb (by omega) p (l.length : Int)
  obtain ⟨s, q, e⟩ := r
  by_cases c : 0 ≤ p ∧ p < l.length
  · obtain ⟨n, rfl⟩ := Int.eq_ofNat_of_zero_le c.1
    rw [txt_is hb (by omega) (by omega) (by omega)] at hr
    cases ht : textAt l n (l.length : Int) with
    | none =>
      rw [ht] at hr
      simp only [textRes, Option.some.injEq, Prod.mk.injEq] at hr
      obtain ⟨rfl, rfl, rfl⟩ := hr
      refine ⟨k1 + 1, fun k hk => ?_⟩
      obtain ⟨j, rfl⟩ : ∃ j, k = j + 1 := ⟨k - 1, by omega⟩
      have h2 := h1 (j + 1) (by omega)
      dsimp only at h2
      rw [pannierlaw02_WireOne.j0, if_neg (by decide), h2, Option.bind_some, if_neg (by decide)]
      exact one_j1 hb hl _ j
    | some sq =>
      obtain ⟨s', q'⟩ := sq
      rw [ht] at hr
      simp only [textRes, Option.some.injEq, Prod.mk.injEq] at hr
      obtain ⟨rfl, rfl, rfl⟩ := hr
      have hsz := textAt_size ht
      obtain ⟨g1, g2, g3⟩ := textAt_one hb ht
      obtain ⟨k2, h3⟩ := text_nil (s := s') (by omega)
      refine ⟨max k1 k2 + 1, fun k hk => ?_⟩
      obtain ⟨j, rfl⟩ : ∃ j, k = j + 1 := ⟨k - 1, by omega⟩
      have h2 := h1 (j + 1) (by omega)
      have h4 := h3 (j + 1) (by omega)
      dsimp only at h2 h4
      have g4 : (n : Int) ≤ (q' : Int) := by omega
      have g5 : (q' : Int) ≤ (l.length : Int) := by omega
      rw [pannierlaw02_WireOne.j0, if_neg (by decide), h2, Option.bind_some, if_pos rfl, h4, Option.bind_some, if_pos c.1, if_pos g4, if_pos g5, Int.toNat_natCast, Int.toNat_natCast, g1]
      rw [bne_self_eq_false]
      exact one_j1 hb hl _ j
  · have hT : takeNum l p = (0, 0, 20) := by unfold takeNum; rw [if_neg c]
    rw [hT, txt_none] at hr
    simp only [Option.some.injEq, Prod.mk.injEq] at hr
    obtain ⟨rfl, rfl, rfl⟩ := hr
    refine ⟨k1 + 1, fun k hk => ?_⟩
    obtain ⟨j, rfl⟩ : ∃ j, k = j + 1 := ⟨k - 1, by omega⟩
    have h2 := h1 (j + 1) (by omega)
    dsimp only at h2
    rw [pannierlaw02_WireOne.j0, if_neg (by decide), h2, Option.bind_some, if_neg (by decide)]
    exact one_j1 hb hl _ j
end Go.Proofs.Ytecfoepcgammcaa.Math
namespace Go.Proofs.Ytecfoepcgammcaa.Pure
open Go.RowKit Go.Proofs.Ytecfoepcgammcaa.X Go.Proofs.YtecfoepcgammcaaW.PrintWords Go.Proofs.YtecfoepcgammcaaW.PrintLast Go.Proofs.Ytecfoepcgammcaa.Math Go.Proofs.Ytecfoepcgammcaa.HandF

theorem WireOne : pannierlaw02_WireOne.Pure := by
  intro l p h0 h1 h2 h3
  have hb := bytes_of_wf h2
  have hl : l.length ≤ 140737488351232 := by omega
  obtain ⟨k1, e1⟩ := shown_ev
  obtain ⟨k2, e2⟩ := one_j0 hb hl p
  obtain ⟨k3, e3⟩ := take_ev hb (by omega) p
  dsimp only at e1 e3
  by_cases c : 0 ≤ p ∧ p < l.length
  · obtain ⟨n, rfl⟩ := Int.eq_ofNat_of_zero_le c.1
    have hT : takeNum l (n : Int) = numRes (numAt l n) := by unfold takeNum; rw [if_pos c, Int.toNat_natCast]
    rw [hT] at e3
    cases hn : numAt l n with
    | none =>
      rw [hn] at e3
      refine ⟨max (max k1 k2) k3 + 1, ?_⟩
      unfold pannierlaw02_WireOne.f
      rw [e1 _ (by omega), Option.bind_some, e3 _ (by omega), Option.bind_some]
      unfold numRes
      dsimp only
      rw [if_neg (by decide)]
      exact e2 _ (by omega)
    | some vq =>
      obtain ⟨v, q⟩ := vq
      rw [hn] at e3
      obtain ⟨g1, g2, g3, g4⟩ := numAt_one hb hn
      obtain ⟨k4, e4⟩ := number_some (l := []) (n := v) g2 (by simp)
      dsimp only at e4
      have e3' : ∀ k, k3 ≤ k → wire_TakeNumber.f k l (n : Int) = some ((v : Int), (q : Int), 0) := e3
      refine ⟨max (max k1 k2) (max k3 k4) + 1, ?_⟩
      have g5 : (n : Int) ≤ (q : Int) := by omega
      have g6 : (q : Int) ≤ (l.length : Int) := by omega
      unfold pannierlaw02_WireOne.f
      rw [e1 _ (by omega), Option.bind_some, e3' _ (by omega), Option.bind_some, if_pos rfl, e4 _ (by omega), Option.bind_some, if_pos c.1, if_pos g5, if_pos g6, Int.toNat_natCast, Int.toNat_natCast, g1, List.nil_append, bne_self_eq_false]
      exact e2 _ (by omega)
  · have hT : takeNum l p = (0, 0, 20) := by unfold takeNum; rw [if_neg c]
    rw [hT] at e3
    refine ⟨max (max k1 k2) k3 + 1, ?_⟩
    unfold pannierlaw02_WireOne.f
    rw [e1 _ (by omega), Option.bind_some, e3 _ (by omega), Option.bind_some, if_neg (by decide)]
    exact e2 _ (by omega)
end Go.Proofs.Ytecfoepcgammcaa.Pure
