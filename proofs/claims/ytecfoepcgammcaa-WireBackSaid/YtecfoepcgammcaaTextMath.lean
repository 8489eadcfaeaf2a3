/- Plain facts of chapter 2: which text bytes are; a number laid is read. -/
import Derived.Test.YtecfoepcgammcaaTakeMath
import Derived.Test.YtecfoepcgammcaaX18
namespace Go.Proofs.Ytecfoepcgammcaa.Math
set_option linter.unusedVariables false
set_option linter.unusedSimpArgs false
open Go.RowKit Go.Proofs.Ytecfoepcgammcaa.X Go.Proofs.Ytecfoepcgammcaa.HandF
open Go.Proofs.YtecfoepcgammcaaW.PrintWords Go.Proofs.YtecfoepcgammcaaW.PrintLast Go.Proofs.YtecfoepcgammcaaW.PrintMore

theorem numAt_is {l : List Int} (hb : Bytes l) {p v q : Nat} (h : numAt l p = some (v, q)) : v < 18446744073709551616 ∧ q ≤ l.length ∧ p < q := by
  unfold numAt at h
  by_cases c1 : l.length - p ≤ lz (rd l (p : Int)).toNat
  · rw [if_pos c1] at h; cases h
  rw [if_neg c1] at h
  by_cases c2 : ex (acc l (p + 1) (lz (rd l (p : Int)).toNat) ((rd l (p : Int)).toNat % 2 ^ (7 - lz (rd l (p : Int)).toNat))) = lz (rd l (p : Int)).toNat
  · rw [if_pos c2] at h
    simp only [Option.some.injEq, Prod.mk.injEq] at h
    obtain ⟨rfl, rfl⟩ := h
    refine ⟨acc_lt hb _ _ _ (Nat.lt_of_le_of_lt (Nat.mod_le _ _) ?_), by omega, by omega⟩
    have := rd_byte hb (p : Int)
    omega
  · rw [if_neg c2] at h; cases h

theorem numB_len (n : Nat) : (numB n).length ≤ 9 := by
  unfold numB
  rw [be_length]
  have := ex_le n
  omega

/-- What a text's bytes come to. -/
def txt (l : List Int) (most : Int) (bt : Int × Int × Int) : Option (ByteArray × Int × Int) :=
  if bt.2.2 = 0 then (if most < 0 then (some ((⟨#[]⟩ : ByteArray), 0, 20)) else (if bt.1 > (IntKind.u64.wrap (most)) then (some ((⟨#[]⟩ : ByteArray), 0, 20)) else (if bt.1 > (IntKind.u64.wrap (wrap64 ((l.length : Int) - bt.2.1))) then (some ((⟨#[]⟩ : ByteArray), 0, 20)) else (if 0 ≤ bt.2.1 then (if bt.2.1 ≤ (wrap64 (bt.2.1 + (wrap64 (bt.1)))) then (if (wrap64 (bt.2.1 + (wrap64 (bt.1)))) ≤ (l.length : Int) then (some (strOfNums ((l.take ((wrap64 (bt.2.1 + (wrap64 (bt.1)))) : Int).toNat).drop (bt.2.1 : Int).toNat), wrap64 (bt.2.1 + (wrap64 (bt.1))), 0)) else (none)) else (none)) else (none))))) else (some ((⟨#[]⟩ : ByteArray), 0, 20))

theorem txt_some {l : List Int} (hb : Bytes l) (hl : l.length ≤ 140737488371712) (p most : Int) : ∃ r, txt l most (takeNum l p) = some r := by
  unfold takeNum
  by_cases c1 : 0 ≤ p ∧ p < l.length
  · rw [if_pos c1]
    cases hn : numAt l p.toNat with
    | none => exact ⟨_, rfl⟩
    | some vq =>
      obtain ⟨v, q⟩ := vq
      obtain ⟨hv, hq, _⟩ := numAt_is hb hn
      show ∃ r, txt l most ((v : Int), (q : Int), 0) = some r
      unfold txt
      dsimp only
      rw [if_pos rfl]
      by_cases c2 : most < 0
      · exact ⟨_, if_pos c2⟩
      rw [if_neg c2]
      by_cases c3 : (v : Int) > IntKind.u64.wrap most
      · exact ⟨_, if_pos c3⟩
      rw [if_neg c3]
      have e1 : IntKind.u64.wrap (wrap64 ((l.length : Int) - (q : Int))) = (l.length : Int) - (q : Int) := by
        rw [wrap_small (by omega) (by omega), IntKind.wrap_u64]; omega
      rw [e1]
      clear e1
      by_cases c4 : (v : Int) > (l.length : Int) - (q : Int)
      · exact ⟨_, if_pos c4⟩
      have hvl : v + q ≤ l.length := by omega
      have c5 : (q : Int) ≤ ((q + v : Nat) : Int) := by omega
      have c6 : ((q + v : Nat) : Int) ≤ (l.length : Int) := by omega
      have e2 : wrap64 (v : Int) = (v : Int) := wrap_small (by omega) (by omega)
      have e3 : wrap64 ((q : Int) + (v : Int)) = ((q + v : Nat) : Int) := by rw [wrap_small (by omega) (by omega)]; omega
      rw [if_neg c4, if_pos (Int.natCast_nonneg q), e2, e3, if_pos c5, if_pos c6]
      exact ⟨_, rfl⟩
  · rw [if_neg c1]; exact ⟨_, rfl⟩

theorem text_ev {l : List Int} (hb : Bytes l) (hl : l.length ≤ 140737488371712) (p most : Int) : ∃ r, txt l most (takeNum l p) = some r ∧ Ev (fun k => wire_TakeText.f k l p most) r := by
  obtain ⟨r, hr⟩ := txt_some hb hl p most
  obtain ⟨k0, h0⟩ := take_ev hb hl p
  refine ⟨r, hr, k0, fun k hk => ?_⟩
  have h1 := h0 k hk
  dsimp only at h1 ⊢
  unfold wire_TakeText.f
  rw [h1, Option.bind_some]
  exact hr
theorem txt_end {l : List Int} {most : Int} {bt : Int × Int × Int} {s : ByteArray} {q e : Int} (h : txt l most bt = some (s, q, e)) (he : e = 0) : 0 ≤ bt.2.1 ∧ bt.2.1 ≤ q ∧ q ≤ (l.length : Int) ∧ s = strOfNums ((l.take q.toNat).drop bt.2.1.toNat) := by
  subst he
  unfold txt at h
  by_cases c1 : bt.2.2 = 0
  · rw [if_pos c1] at h
    by_cases c2 : most < 0
    · rw [if_pos c2] at h; simp at h
    rw [if_neg c2] at h
    by_cases c3 : bt.1 > IntKind.u64.wrap most
    · rw [if_pos c3] at h; simp at h
    rw [if_neg c3] at h
    by_cases c4 : bt.1 > IntKind.u64.wrap (wrap64 ((l.length : Int) - bt.2.1))
    · rw [if_pos c4] at h; simp at h
    rw [if_neg c4] at h
    by_cases c5 : 0 ≤ bt.2.1
    · rw [if_pos c5] at h
      by_cases c6 : bt.2.1 ≤ wrap64 (bt.2.1 + wrap64 bt.1)
      · rw [if_pos c6] at h
        by_cases c7 : wrap64 (bt.2.1 + wrap64 bt.1) ≤ (l.length : Int)
        · rw [if_pos c7] at h
          simp only [Option.some.injEq, Prod.mk.injEq] at h
          obtain ⟨rfl, rfl, _⟩ := h
          exact ⟨c5, c6, c7, rfl⟩
        · rw [if_neg c7] at h; cases h
      · rw [if_neg c6] at h; cases h
    · rw [if_neg c5] at h; cases h
  · rw [if_neg c1] at h; simp at h
end Go.Proofs.Ytecfoepcgammcaa.Math
