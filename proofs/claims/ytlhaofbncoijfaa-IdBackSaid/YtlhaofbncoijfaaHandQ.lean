/- The walk of id.Split, for trees that lie in memory. -/
import Derived.Test.YtlhaofbncoijfaaSplit
import Derived.Test.YtlhaofbncoijfaaRightMath
import Derived.Test.YtlhaofbncoijfaaX13
namespace Go.Proofs.Ytlhaofbncoijfaa.HandF
set_option linter.unusedVariables false
set_option linter.unusedSimpArgs false
open Go.RowKit Go.Proofs.Ytlhaofbncoijfaa.X Go.Proofs.Ytlhaofbncoijfaa.Tree Go.Proofs.Ytlhaofbncoijfaa.Blocks
open Go.Proofs.YtlhaofbncoijfaaW.PrintWords Go.Proofs.YtlhaofbncoijfaaW.PrintLast Go.Proofs.YtlhaofbncoijfaaW.PrintMore

theorem S24_eta (s : S24) : (⟨s.f0, s.f1⟩ : S24) = s := by cases s; rfl
/-- What Norm hands back. -/
def NormS (s : S24) : S24 × Int := if rightB s = true then (match T.ofS s with | some t => (t.norm.toS, 0) | none => (⟨false, []⟩, 2)) else (⟨false, []⟩, 2)
theorem NormS_right (t : T) (h : t.right) : NormS t.toS = (t.norm.toS, 0) := by
  unfold NormS
  rw [right_T, decide_eq_true h, if_pos rfl, T.of_toS]
theorem NormS_bad (s : S24) (h : rightB s = false) : NormS s = (⟨false, []⟩, 2) := by
  unfold NormS
  rw [h, if_neg (by decide)]
theorem Norm13 (k : Kd2) (w : World) (hl : k.1.f1.length ≤ k.2.2) (hC : Kd.C k24 w k.2.1 k.1.f1.length k.1.f1) :
    Calls Try.prog 13 #[kv k] w fun e w' => ∃ k' : Kd2, e = .returned (.tuple #[kv k', .int .i64 (NormS k.1).2]) ∧ k'.1 = (NormS k.1).1 ∧ Ft w' (fun j => w.heap.size ≤ j) k' ∧ Below w.heap.size w w' := by
  obtain ⟨s, A, c⟩ := k
  have hf : id_Norm.f 33 s.f0 s.f1 = some ((NormS s).1.f0, (NormS s).1.f1, (NormS s).2) := by
    unfold id_Norm.f id_Right.f
    rw [S24_eta, Option.bind_some]
    cases hr : rightB s
    · rw [NormS_bad s hr]; rfl
    · obtain ⟨t, rfl, ht⟩ := (right_iff s).1 hr
      rw [NormS_right t ht, if_pos rfl, norm_f t 33 (by have := ht.1; omega)]
      rfl
  refine (id_Norm.calls 33 s.f0 A c s.f1 _ _ _ w hC hl hf).mono ?_
  rintro e w' ⟨v, rfl, hv, hbl⟩
  obtain ⟨A', c', rfl, hl', hff⟩ := Kd.N_V (base' := 0) hv
  exact ⟨((NormS s).1, A', c'), rfl, rfl, ⟨hl', hff⟩, hbl⟩
/-- What Split hands back. -/
def SplitS (s : S24) : S24 × S24 × Int :=
  if (NormS s).2 = 0 then (match T.ofS (NormS s).1 with
    | some t => if t.split.1.right ∧ t.split.2.right then (t.split.1.toS, t.split.2.toS, 0) else (⟨false, []⟩, ⟨false, []⟩, 41)
    | none => (⟨false, []⟩, ⟨false, []⟩, 41))
  else (⟨false, []⟩, ⟨false, []⟩, (NormS s).2)

/-- How it is left. -/
theorem Split15_out {w W : World} {k : Kd2} {a b c d : Value} {R : Ending → World → Prop} {tmps : Array Value} (k1 k2 : Kd2) (r : Int) (h : SpI w W k #[a, b] #[c, d])
    (h2 : tmps.getD 2 undef = .pointer (some ⟨w.heap.size + 1, 0, none⟩)) (h3 : tmps.getD 3 undef = .pointer (some ⟨w.heap.size + 1 + 1, 0, none⟩)) (h4 : tmps.getD 4 undef = .int .i64 r)
    (hR : ∀ W', SpI w W' k #[.bool k1.1.f0, .slice k1.2.1 k1.1.f1.length k1.2.2] #[.bool k2.1.f0, .slice k2.2.1 k2.1.f1.length k2.2.2] → (∀ j, j ≠ w.heap.size + 1 → j ≠ w.heap.size + 1 + 1 → W'.heap[j]? = W.heap[j]?) → R (.returned (.tuple #[kv k1, kv k2, .int .i64 r])) W') :
    bodyPost Try.prog Try.f15 R .ret { tmps := tmps, defers := [] } ((((W.setCell ⟨w.heap.size + 1, 0, none⟩ (.bool k1.1.f0)).setCell ⟨w.heap.size + 1, 1, none⟩ (.slice k1.2.1 k1.1.f1.length k1.2.2)).setCell ⟨w.heap.size + 1 + 1, 0, none⟩ (.bool k2.1.f0)).setCell ⟨w.heap.size + 1 + 1, 1, none⟩ (.slice k2.2.1 k2.1.f1.length k2.2.2)) := by
  have hs := h.store (x := .bool k1.1.f0) (y := .slice k1.2.1 k1.1.f1.length k1.2.2) (z := .bool k2.1.f0) (u := .slice k2.2.1 k2.1.f1.length k2.2.2)
  have hres := results_list (P := Try.prog) (fn := Try.f15) (tmps := tmps) (rs := [.cell 2 24, .cell 3 24, .tmp 4]) rfl (by simp) (.cell (w.heap.size + 1) 24 _ (0, 0) _ h2 hs.one Try.underlying24 rfl (by kernel_rfl) (.cell (w.heap.size + 1 + 1) 24 _ (0, 0) _ h3 hs.two Try.underlying24 rfl (by kernel_rfl) (.tmp .nil)))
  rw [h4] at hres
  refine bodyPost_ret hres rfl ?_
  refine hR _ hs (fun j h1 h2 => ?_)
  rw [set_other (by simpa using h2), set_other (by simpa using h2), set_other (by simpa using h1), set_other (by simpa using h1)]
set_option maxRecDepth 100000 in
set_option maxHeartbeats 40000000 in
theorem Split15 (k : Kd2) (w : World) (hl : k.1.f1.length ≤ k.2.2) (hC : Kd.C k24 w k.2.1 k.1.f1.length k.1.f1) :
    Calls Try.prog 15 #[kv k] w fun e w' => ∃ k1 k2 : Kd2, e = .returned (.tuple #[kv k1, kv k2, .int .i64 (SplitS k.1).2.2]) ∧ k1.1 = (SplitS k.1).1 ∧ k2.1 = (SplitS k.1).2.1 ∧ Ft w' (fun j => w.heap.size ≤ j) k1 ∧ Ft w' (fun j => w.heap.size ≤ j) k2 ∧ Below w.heap.size w w' := by
  have HL := Lib.hid hl
  have HC := Lib.hid hC
  clear hl hC
  have hu24 := Try.underlying24
  have hu22 := Try.underlying22
  go_enter Try.func15, Try.ntmps15
  go_wp2_with fail
  obtain ⟨W0, hW0⟩ : ∃ W0, ((w.alloc (.cells #[.bool k.1.f0, .slice k.2.1 k.1.f1.length k.2.2] 24)).alloc (.cells #[.bool false, .slice none 0 0] 24)).alloc (.cells #[.bool false, .slice none 0 0] 24) = W0 := ⟨_, rfl⟩
  have hI : SpI w W0 k #[.bool false, .slice none 0 0] #[.bool false, .slice none 0 0] := by
    rw [← hW0]
    refine ⟨(((Below.refl _ _).alloc (Nat.le_refl _) _).alloc (by simp) _).alloc (by simp; omega) _, blk_alloc (blk_alloc (blk_new _ _) _) _, blk_alloc ?_ _, ?_⟩
    · have := blk_new (w.alloc (.cells #[.bool k.1.f0, .slice k.2.1 k.1.f1.length k.2.2] 24)) (.cells #[.bool false, .slice none 0 0] 24)
      rwa [World.size_alloc] at this
    · have := blk_new ((w.alloc (.cells #[.bool k.1.f0, .slice k.2.1 k.1.f1.length k.2.2] 24)).alloc (.cells #[.bool false, .slice none 0 0] 24)) (.cells #[.bool false, .slice none 0 0] 24)
      rwa [World.size_alloc, World.size_alloc] at this
  rw [hW0]
  have HI := Lib.hid hI
  clear hI hW0
  refine (Norm13 k _ HL.out (Kd.C_below HC.out HI.out.below)).mono ?_
  rintro e w1 ⟨k', rfl, hk', hf', hb1⟩
  have HI1 := Lib.hid (HI.out.step hb1)
  have HK' := Lib.hid hk'
  have HF' := Lib.hid hf'
  have HS0 := Lib.hid (Array.getElem?_eq_some_iff.1 HI.out.two).1
  clear hb1 hk' hf'
  by_cases h0 : (NormS k.1).2 = 0
  · obtain ⟨t, ht⟩ : ∃ t : T, t.toS = (NormS k.1).1 := by
      cases hr : rightB k.1
      · rw [NormS_bad _ hr] at h0; cases h0
      · obtain ⟨t, h1, h2⟩ := (right_iff _).1 hr
        exact ⟨t.norm, by rw [← h1, NormS_right t h2]⟩
    have HS : Hid (SplitS k.1 = if t.split.1.right ∧ t.split.2.right then (t.split.1.toS, t.split.2.toS, 0) else (⟨false, []⟩, ⟨false, []⟩, 41)) := by
      unfold SplitS
      rw [if_pos h0, ← ht, T.of_toS]
      exact rfl
    have HT := Lib.hid ht
    clear ht
    have e0 : ((NormS k.1).2 != 0) = false := bne_eq_false_iff_eq.2 h0
    go_wp2_with fail
    have g2 := blk_new w1 (.cells #[.bool k'.1.f0, .slice k'.2.1 k'.1.f1.length k'.2.2] 24)
    obtain ⟨W2, hW2⟩ : ∃ W2, w1.alloc (.cells #[.bool k'.1.f0, .slice k'.2.1 k'.1.f1.length k'.2.2] 24) = W2 := ⟨_, rfl⟩
    have hb2 : Below w1.heap.size w1 W2 := by rw [← hW2]; exact (Below.refl _ _).alloc (Nat.le_refl _) _
    rw [hW2] at g2
    rw [hW2]
    have HI2 := Lib.hid (HI1.out.step hb2)
    have HB2 := Lib.hid hb2
    clear hW2 g2 hb2
    refine (split_calls t k' W2 _ (by rw [HK'.out, HT.out]) (HF'.out.below HB2.out)).mono ?_
    rintro e w3 ⟨p, q, rfl, hp, hq, fp, fq, hb3⟩
    have HI3 := Lib.hid (HI2.out.step hb3)
    have HP := Lib.hid hp
    have HQ := Lib.hid hq
    have FP := Lib.hid fp
    have FQ := Lib.hid fq
    have HS2 := Lib.hid (Array.getElem?_eq_some_iff.1 HI2.out.two).1
    clear hb3 hp hq fp fq
    go_wp2_with fail
    obtain ⟨W4, hW4⟩ : ∃ W4, (w3.alloc (.cells #[.bool p.1.f0, .slice p.2.1 p.1.f1.length p.2.2] 24)).alloc (.cells #[.bool q.1.f0, .slice q.2.1 q.1.f1.length q.2.2] 24) = W4 := ⟨_, rfl⟩
    have hb4 : Below w3.heap.size w3 W4 := by rw [← hW4]; exact ((Below.refl _ _).alloc (Nat.le_refl _) _).alloc (by simp) _
    have gp : W4.heap[w3.heap.size]? = some (.cells #[.bool p.1.f0, .slice p.2.1 p.1.f1.length p.2.2] 24 (0, 0)) := by rw [← hW4]; exact blk_alloc (blk_new _ _) _
    have gq : W4.heap[w3.heap.size + 1]? = some (.cells #[.bool q.1.f0, .slice q.2.1 q.1.f1.length q.2.2] 24 (0, 0)) := by
      rw [← hW4]; have := blk_new (w3.alloc (.cells #[.bool p.1.f0, .slice p.2.1 p.1.f1.length p.2.2] 24)) (.cells #[.bool q.1.f0, .slice q.2.1 q.1.f1.length q.2.2] 24); rwa [World.size_alloc] at this
    rw [hW4]
    have HI4 := Lib.hid (HI3.out.step hb4)
    have GP := Lib.hid gp
    have GQ := Lib.hid gq
    have FP4 := Lib.hid (FP.out.below hb4)
    have FQ4 := Lib.hid (FQ.out.below hb4)
    clear hb4 gp gq hW4
    refine (right_calls p W4 ⟨FP4.out.1, FP4.out.now⟩).mono ?_
    rintro e w5 ⟨rfl, hb5⟩
    have HI5 := Lib.hid (HI4.out.step hb5)
    have GP5 := Lib.hid (blk_below GP.out hb5)
    have GQ5 := Lib.hid (blk_below GQ.out hb5)
    have FP5 := Lib.hid (FP4.out.below hb5)
    have FQ5 := Lib.hid (FQ4.out.below hb5)
    have q0 := cell0 GQ5.out
    have q1 := cell1 GQ5.out
    have hrp : rightB p.1 = decide t.split.1.right := by rw [HP.out, right_T]
    have hrq : rightB q.1 = decide t.split.2.right := by rw [HQ.out, right_T]
    have HRQ := Lib.hid hrq
    clear hb5 hrq
    rw [hrp]
    clear hrp
    by_cases r1 : t.split.1.right
    · rw [decide_eq_true r1]
      go_wp2_with fail
      refine (right_calls q w5 ⟨FQ5.out.1, FQ5.out.now⟩).mono ?_
      rintro e w6 ⟨rfl, hb6⟩
      have HI6 := Lib.hid (HI5.out.step hb6)
      have GP6 := Lib.hid (blk_below GP5.out hb6)
      have GQ6 := Lib.hid (blk_below GQ5.out hb6)
      have FP6 := Lib.hid (FP5.out.below hb6)
      have FQ6 := Lib.hid (FQ5.out.below hb6)
      clear hb6 q0 q1
      rw [HRQ.out]
      have n0 := cell0 HI6.out.one
      have n1 := cell0 HI6.out.two
      have m0 := cell1 HI6.out.one
      have m1 := cell1 HI6.out.two
      have f1 := free2 HI6.out.one
      have f2 := free2 HI6.out.two
      by_cases r2 : t.split.2.right
      · rw [decide_eq_true r2]
        go_wp2_with fail
        have z0 : w6.drew.cell? ⟨w3.heap.size, 0, none⟩ = some (.bool p.1.f0) := cell0 GP6.out
        have z1 : w6.drew.cell? ⟨w3.heap.size, 1, none⟩ = some (.slice p.2.1 p.1.f1.length p.2.2) := cell1 GP6.out
        have z2 : w6.drew.cell? ⟨w3.heap.size + 1, 0, none⟩ = some (.bool q.1.f0) := cell0 GQ6.out
        have z3 : w6.drew.cell? ⟨w3.heap.size + 1, 1, none⟩ = some (.slice q.2.1 q.1.f1.length q.2.2) := cell1 GQ6.out
        have n0' : w6.drew.cell? ⟨w.heap.size + 1, 0, none⟩ = some (.bool false) := n0
        have n1' : w6.drew.cell? ⟨w.heap.size + 1 + 1, 0, none⟩ = some (.bool false) := n1
        have m0' : w6.drew.cell? ⟨w.heap.size + 1, 1, none⟩ = some (.slice none 0 0) := m0
        have m1' : w6.drew.cell? ⟨w.heap.size + 1 + 1, 1, none⟩ = some (.slice none 0 0) := m1
        have f1' : ∀ o, w6.drew.frozen? ⟨w.heap.size + 1, o, none⟩ = false := f1
        have f2' : ∀ o, w6.drew.frozen? ⟨w.heap.size + 1 + 1, o, none⟩ = false := f2
        have y0 := cell0 GP6.out
        have y1 := cell1 GP6.out
        have y2 := cell0 GQ6.out
        have y3 := cell1 GQ6.out
        have hlt1 := (Array.getElem?_eq_some_iff.1 HI3.out.two).1
        have ne1 : w3.heap.size ≠ w.heap.size + 1 := by omega
        have ne2 : w3.heap.size ≠ w.heap.size + 1 + 1 := by omega
        have ne3 : w3.heap.size + 1 ≠ w.heap.size + 1 := by omega
        have ne4 : w3.heap.size + 1 ≠ w.heap.size + 1 + 1 := by omega
        have ne5 : w3.heap.size ≠ w.heap.size := by omega
        have ne6 := ne5.symm
        have ne7 := ne1.symm
        have ne8 := ne2.symm
        have ne9 := ne4.symm
        go_region_with (first | fail)
        all_goals
          go_wp2_with fail
          refine Split15_out p q 0 (HI6.out.step (W' := w6.drew) (Below.refl _ _).drew) rfl rfl rfl ?_
          intro W' hI' hm
          have hs := HS.out
          rw [if_pos ⟨r1, r2⟩] at hs
          refine ⟨p, q, by rw [hs], by rw [hs]; exact HP.out, by rw [hs]; exact HQ.out, (FP6.out.move (W' := W') (fun j hj => hm j ?_ ?_)).mono (fun j hj => ?_), (FQ6.out.move (W' := W') (fun j hj => hm j ?_ ?_)).mono (fun j hj => ?_), hI'.below⟩
          all_goals (have h0' := HS0.out; have h2' := HS2.out; have h3' := HI.out.below.size; have h4' := HI2.out.below.size; rcases hj with hj | hj <;> omega)
      · rw [decide_eq_false r2]
        go_wp2_with fail
        refine Split15_out (⟨false, []⟩, none, 0) (⟨false, []⟩, none, 0) 41 HI6.out rfl rfl rfl ?_
        intro W' hI' hm
        have hs := HS.out
        rw [if_neg (fun h => r2 h.2)] at hs
        exact ⟨(⟨false, []⟩, none, 0), (⟨false, []⟩, none, 0), by rw [hs], by rw [hs], by rw [hs], Ft.leaf _ _ _, Ft.leaf _ _ _, hI'.below⟩
    · rw [decide_eq_false r1]
      have n0 := cell0 HI5.out.one
      have n1 := cell0 HI5.out.two
      have m0 := cell1 HI5.out.one
      have m1 := cell1 HI5.out.two
      have f1 := free2 HI5.out.one
      have f2 := free2 HI5.out.two
      go_wp2_with fail
      refine Split15_out (⟨false, []⟩, none, 0) (⟨false, []⟩, none, 0) 41 HI5.out rfl rfl rfl ?_
      intro W' hI' hm
      have hs := HS.out
      rw [if_neg (fun h => r1 h.1)] at hs
      exact ⟨(⟨false, []⟩, none, 0), (⟨false, []⟩, none, 0), by rw [hs], by rw [hs], by rw [hs], Ft.leaf _ _ _, Ft.leaf _ _ _, hI'.below⟩
  · have e0 : ((NormS k.1).2 != 0) = true := bne_iff_ne.2 h0
    have gx := blk_new w1 (.cells #[.bool k'.1.f0, .slice k'.2.1 k'.1.f1.length k'.2.2] 24)
    have hI2 := HI1.out.step ((Below.refl _ _).alloc (Nat.le_refl _) (.cells #[.bool k'.1.f0, .slice k'.2.1 k'.1.f1.length k'.2.2] 24))
    have n0 := cell0 hI2.one
    have n1 := cell0 hI2.two
    have m0 := cell1 hI2.one
    have m1 := cell1 hI2.two
    have f1 := free2 hI2.one
    have f2 := free2 hI2.two
    have HI2 := Lib.hid hI2
    clear hI2
    go_wp2_with fail
    refine Split15_out (⟨false, []⟩, none, 0) (⟨false, []⟩, none, 0) (NormS k.1).2 HI2.out rfl rfl rfl ?_
    intro W' hI' hm
    have hs : SplitS k.1 = (⟨false, []⟩, ⟨false, []⟩, (NormS k.1).2) := by unfold SplitS; rw [if_neg h0]
    exact ⟨(⟨false, []⟩, none, 0), (⟨false, []⟩, none, 0), by rw [hs], by rw [hs], by rw [hs], Ft.leaf _ _ _, Ft.leaf _ _ _, hI'.below⟩
end Go.Proofs.Ytlhaofbncoijfaa.HandF
