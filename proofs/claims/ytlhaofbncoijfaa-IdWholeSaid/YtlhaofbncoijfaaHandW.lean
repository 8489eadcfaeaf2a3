/- A contract by hand, in the print's form: shown holds. -/
import Derived.Test.YtlhaofbncoijfaaHandQ
import Derived.Test.YtlhaofbncoijfaaHandH
namespace Go.Proofs.Ytlhaofbncoijfaa.HandF
set_option linter.unusedVariables false
set_option linter.unusedSimpArgs false
open Go.RowKit Go.Proofs.Ytlhaofbncoijfaa.X Go.Proofs.Ytlhaofbncoijfaa.Tree Go.Proofs.Ytlhaofbncoijfaa.Blocks
open Go.Proofs.YtlhaofbncoijfaaW.PrintWords Go.Proofs.YtlhaofbncoijfaaW.PrintLast Go.Proofs.YtlhaofbncoijfaaW.PrintMore

def pannierlaw04_shown.f : Option Bool := some true
theorem Show28 (k : Kd2) (t : T) (w : World) (hk : k.1 = t.toS) (ht : t.right) (hl : k.1.f1.length ≤ k.2.2) (hC : Kd.C k24 w k.2.1 k.1.f1.length k.1.f1) :
    Calls Try.prog 28 #[kv k] w fun e w' => e = .returned (.tuple #[.string ⟨t.norm.text.toArray⟩, .int .i64 0]) ∧ Below w.heap.size w w' := by
  obtain ⟨s, A, c⟩ := k
  dsimp only at hk
  subst hk
  refine id_Show.calls t.toS.f0 A c t.toS.f1 _ _ w hC hl ?_
  unfold id_Show.f
  rw [S24_eta, right_T, decide_eq_true ht, if_pos rfl, T.of_toS]
  rfl
theorem SplitS_one : SplitS ⟨true, []⟩ = ((T.node (.leaf true) (.leaf false)).toS, (T.node (.leaf false) (.leaf true)).toS, 0) := by
  have h : NormS ⟨true, []⟩ = (⟨true, []⟩, 0) := NormS_right (.leaf true) (by decide)
  unfold SplitS
  rw [h, if_pos rfl]
  rw [show T.ofS ((⟨true, []⟩ : S24), (0 : Int)).1 = some (.leaf true) from T.of_toS (.leaf true)]
  exact if_pos (by decide)
set_option maxRecDepth 100000 in
set_option maxHeartbeats 40000000 in
theorem pannierlaw04_shown.calls (r : Bool) (w : World) (h : pannierlaw04_shown.f = some r) :
    Calls Try.prog 12 #[] w fun e w' => e = .returned (.bool r) ∧ Below w.heap.size w w' := by
  obtain rfl : true = r := by simpa [pannierlaw04_shown.f] using h
  clear h
  have hu24 := Try.underlying24
  have hu22 := Try.underlying22
  have hu9 := Try.underlying9
  go_enter Try.func12, Try.ntmps12
  go_wp2_with fail
  refine (Split15 (⟨true, []⟩, none, 0) w (Nat.le_refl _) (Kd.C_nil _ _)).mono ?_
  rintro e w1 ⟨k1, k2, rfl, h1, h2, f1, f2, hb1⟩
  rw [SplitS_one] at h1 h2
  dsimp only at h1 h2
  have H1 := Lib.hid h1
  have H2 := Lib.hid h2
  have F1 := Lib.hid f1
  have F2 := Lib.hid f2
  have HB1 := Lib.hid hb1
  have es : (SplitS ⟨true, []⟩).2.2 = 0 := by rw [SplitS_one]
  clear h1 h2 f1 f2 hb1
  dsimp only
  rw [es]
  clear es
  go_wp2_with fail
  obtain ⟨W4, hW4⟩ : ∃ W4, (w1.alloc (.cells #[.bool k1.1.f0, .slice k1.2.1 k1.1.f1.length k1.2.2] 24)).alloc (.cells #[.bool k2.1.f0, .slice k2.2.1 k2.1.f1.length k2.2.2] 24) = W4 := ⟨_, rfl⟩
  have hb4 : Below w1.heap.size w1 W4 := by rw [← hW4]; exact ((Below.refl _ _).alloc (Nat.le_refl _) _).alloc (by simp) _
  have gq : W4.heap[w1.heap.size + 1]? = some (.cells #[.bool k2.1.f0, .slice k2.2.1 k2.1.f1.length k2.2.2] 24 (0, 0)) := by
    rw [← hW4]; have := blk_new (w1.alloc (.cells #[.bool k1.1.f0, .slice k1.2.1 k1.1.f1.length k1.2.2] 24)) (.cells #[.bool k2.1.f0, .slice k2.2.1 k2.1.f1.length k2.2.2] 24); rwa [World.size_alloc] at this
  rw [hW4]
  have HB4 := Lib.hid (HB1.out.trans (hb4.mono HB1.out.size))
  have F1' := Lib.hid (F1.out.below hb4)
  have F2' := Lib.hid (F2.out.below hb4)
  have GQ := Lib.hid gq
  clear hb4 gq hW4
  refine (Show28 k1 _ W4 H1.out (by decide) F1'.out.1 F1'.out.now).mono ?_
  rintro e w5 ⟨rfl, hb5⟩
  have HB5 := Lib.hid (HB4.out.trans (hb5.mono HB4.out.size))
  have F2'' := Lib.hid (F2'.out.below hb5)
  have q0 := cell0 (blk_below GQ.out hb5)
  have q1 := cell1 (blk_below GQ.out hb5)
  clear hb5
  rw [show (⟨(T.node (.leaf true) (.leaf false)).norm.text.toArray⟩ : ByteArray) = ⟨#[40, 49, 44, 48, 41]⟩ from rfl]
  go_wp2_with fail
  refine (Show28 k2 _ w5 H2.out (by decide) F2''.out.1 F2''.out.now).mono ?_
  rintro e w6 ⟨rfl, hb6⟩
  have HB6 := Lib.hid (HB5.out.trans (hb6.mono HB5.out.size))
  clear hb6 q0 q1
  rw [show (⟨(T.node (.leaf false) (.leaf true)).norm.text.toArray⟩ : ByteArray) = ⟨#[40, 48, 44, 49, 41]⟩ from rfl]
  go_wp2_with fail
  go_ret
  exact ⟨rfl, HB6.out⟩
end Go.Proofs.Ytlhaofbncoijfaa.HandF
