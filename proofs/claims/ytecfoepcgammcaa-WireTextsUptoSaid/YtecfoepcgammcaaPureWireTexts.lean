/- The plain law of WireTexts, where what comes in is small. -/
import Derived.Test.YtecfoepcgammcaaX6
import Derived.Test.YtecfoepcgammcaaTakeMath
namespace Go.Proofs.Ytecfoepcgammcaa.Math
set_option linter.unusedVariables false
set_option linter.unusedSimpArgs false
open Go.RowKit Go.Proofs.Ytecfoepcgammcaa.X Go.Proofs.Ytecfoepcgammcaa.HandF
open Go.Proofs.YtecfoepcgammcaaW.PrintWords Go.Proofs.YtecfoepcgammcaaW.PrintLast Go.Proofs.YtecfoepcgammcaaW.PrintMore

theorem numAt_some {l : List Int} (hb : Bytes l) {p v q : Nat} (h : numAt l p = some (v, q)) : v < 18446744073709551616 ∧ q ≤ l.length ∧ p < q := by
  unfold numAt at h
  by_cases c1 : l.length - p ≤ lz (rd l (p : Int)).toNat
  · rw [if_pos c1] at h; cases h
  rw [if_neg c1] at h
  by_cases c2 : ex (acc l (p + 1) (lz (rd l (p : Int)).toNat) ((rd l (p : Int)).toNat % 2 ^ (7 - lz (rd l (p : Int)).toNat))) = lz (rd l (p : Int)).toNat
  · rw [if_pos c2] at h
    simp only [Option.some.injEq, Prod.mk.injEq] at h
    obtain ⟨rfl, rfl⟩ := h
    refine ⟨acc_lt hb _ _ _ (Nat.lt_of_le_of_lt (Nat.mod_le _ _) ?_), by omega, by omega⟩
    have := rd_byte hb (p : Int)
    omega
  · rw [if_neg c2] at h; cases h

theorem numB_length (n : Nat) : (numB n).length ≤ 9 := by
  unfold numB
  rw [be_length]
  have := ex_le n
  omega

/-- What a text's bytes come to. -/
def textOf (l : List Int) (most : Int) (bt : Int × Int × Int) : Option (ByteArray × Int × Int) :=
  if bt.2.2 = 0 then (if most < 0 then (some ((⟨#[]⟩ : ByteArray), 0, 20)) else (if bt.1 > (IntKind.u64.wrap (most)) then (some ((⟨#[]⟩ : ByteArray), 0, 20)) else (if bt.1 > (IntKind.u64.wrap (wrap64 ((l.length : Int) - bt.2.1))) then (some ((⟨#[]⟩ : ByteArray), 0, 20)) else (if 0 ≤ bt.2.1 then (if bt.2.1 ≤ (wrap64 (bt.2.1 + (wrap64 (bt.1)))) then (if (wrap64 (bt.2.1 + (wrap64 (bt.1)))) ≤ (l.length : Int) then (some (strOfNums ((l.take ((wrap64 (bt.2.1 + (wrap64 (bt.1)))) : Int).toNat).drop (bt.2.1 : Int).toNat), wrap64 (bt.2.1 + (wrap64 (bt.1))), 0)) else (none)) else (none)) else (none))))) else (some ((⟨#[]⟩ : ByteArray), 0, 20))

theorem textOf_some {l : List Int} (hb : Bytes l) (hl : l.length ≤ 140737488355328) (p most : Int) : ∃ r, textOf l most (takeNum l p) = some r := by
  unfold takeNum
  by_cases c1 : 0 ≤ p ∧ p < l.length
  · rw [if_pos c1]
    cases hn : numAt l p.toNat with
    | none => exact ⟨_, rfl⟩
    | some vq =>
      obtain ⟨v, q⟩ := vq
      obtain ⟨hv, hq, _⟩ := numAt_some hb hn
      show ∃ r, textOf l most ((v : Int), (q : Int), 0) = some r
      unfold textOf
      dsimp only
      rw [if_pos rfl]
      by_cases c2 : most < 0
      · exact ⟨_, if_pos c2⟩
      rw [if_neg c2]
      by_cases c3 : (v : Int) > IntKind.u64.wrap most
      · exact ⟨_, if_pos c3⟩
      rw [if_neg c3]
      have e1 : IntKind.u64.wrap (wrap64 ((l.length : Int) - (q : Int))) = (l.length : Int) - (q : Int) := by
        rw [wrap_small (by omega) (by omega), IntKind.wrap_u64]; omega
      rw [e1]
      clear e1
      by_cases c4 : (v : Int) > (l.length : Int) - (q : Int)
      · exact ⟨_, if_pos c4⟩
      have hvl : v + q ≤ l.length := by omega
      have c5 : (q : Int) ≤ ((q + v : Nat) : Int) := by omega
      have c6 : ((q + v : Nat) : Int) ≤ (l.length : Int) := by omega
      have e2 : wrap64 (v : Int) = (v : Int) := wrap_small (by omega) (by omega)
      have e3 : wrap64 ((q : Int) + (v : Int)) = ((q + v : Nat) : Int) := by rw [wrap_small (by omega) (by omega)]; omega
      rw [if_neg c4, if_pos (Int.natCast_nonneg q), e2, e3, if_pos c5, if_pos c6]
      exact ⟨_, rfl⟩
  · rw [if_neg c1]; exact ⟨_, rfl⟩

theorem WireTexts_small (l : List Int) (s : ByteArray) (p most : Int) (hb : Bytes l) (hl : l.length ≤ 1048576) (hs : s.size ≤ 1048576) : ∃ k, pannierlaw02_WireTexts.f k l s p most = some true := by
  obtain ⟨k1, h1⟩ := number_some (l := l) (n := s.size) (by omega) (by omega)
  obtain ⟨k2, h2⟩ := take_ev hb (by omega) p
  obtain ⟨k3, h3⟩ := shown_ev
  obtain ⟨k4, h4⟩ := reftake_ev hb (by omega) p
  dsimp only at h1 h2 h3 h4
  obtain ⟨r, hr⟩ := textOf_some hb (by omega) p most
  have hw : IntKind.u64.wrap (s.size : Int) = (s.size : Int) := by rw [IntKind.wrap_u64]; omega
  have hn9 := numB_length s.size
  have hlen : (l ++ numB s.size).length + s.size < 140737488355328 := by rw [List.length_append]; omega
  have hr1 : HandF.pannierref02_Number.f l (s.size : Int) = some (l ++ numB s.size) := by
    unfold HandF.pannierref02_Number.f
    rw [if_pos ⟨by omega, by omega, by omega⟩, Int.toNat_natCast]
  refine ⟨max (max k1 k2) (max k3 k4), ?_⟩
  have t1 : wire_TakeText.f (max (max k1 k2) (max k3 k4)) l p most = some r := by
    unfold wire_TakeText.f
    rw [h2 _ (by omega), Option.bind_some]
    exact hr
  have t2 : pannierref02_TakeText.f (max (max k1 k2) (max k3 k4)) l p most = some r := by
    unfold pannierref02_TakeText.f
    rw [h4 _ (by omega), Option.bind_some]
    exact hr
  have t3 : wire_Text.f (max (max k1 k2) (max k3 k4)) l s = some (l ++ numB s.size ++ bytesOf s) := by
    unfold wire_Text.f
    rw [hw, h1 _ (by omega), Option.bind_some, if_pos hlen]
  have t4 : pannierref02_Text.f l s = some (l ++ numB s.size ++ bytesOf s) := by
    unfold pannierref02_Text.f
    rw [hw, hr1, Option.bind_some, if_pos hlen]
  unfold pannierlaw02_WireTexts.f
  rw [h3 _ (by omega), Option.bind_some, t1, Option.bind_some, t2, Option.bind_some, if_pos rfl, t3, Option.bind_some, t4, Option.bind_some, if_pos rfl, if_pos rfl, if_pos rfl]
  simp

/-- The call, where what comes in is small. -/
theorem texts_walk (a0 : Option Addr) (len0 cap0 : Nat) (z0 : List Int) (a1 : ByteArray) (a2 : Int) (a3 : Int) (w : World) (w0 : (a0 = none ∧ len0 = 0 ∧ cap0 = 0 ∧ z0 = []) ∨ ∃ x, a0 = some x ∧ len0 ≤ cap0 ∧ cap0 ≤ maxLen ∧ z0.length = cap0 ∧ (∀ i, i < z0.length → w.cell? (x.add i) = some (.int .u8 (z0.getD i 0))) ∧ ∀ n ∈ z0, (Lit.int .u8 n).wf = true) (y0 : len0 ≤ 1048576) (w1 : a1.size ≤ 1048576) :
    Calls Try.prog 6 #[.slice a0 len0 cap0, .string a1, .int .i64 a2, .int .i64 a3] w fun e w' => e = .returned (.bool true) ∧ Below w.heap.size w w' := by
  obtain ⟨l0, rfl, hr0, hm0, hw0, hc0⟩ := ReadsInt.ofRowC w0
  obtain ⟨k, h⟩ := WireTexts_small l0 a1 a2 a3 (bytes_of_wf hw0) y0 w1
  refine (pannierlaw02_WireTexts.calls k _ _ l0 a1 a2 a3 true w (Kd.C_of_reads (d := (0 : Int)) (h1 := fun _ => rfl) hr0) hc0 h).mono ?_
  rintro e w' ⟨rfl, hd⟩
  exact ⟨rfl, hd⟩
end Go.Proofs.Ytecfoepcgammcaa.Math
