/- The walk of id.Sum. -/
import Derived.Test.YtlhaofbncoijfaaSum
import Derived.Test.YtlhaofbncoijfaaHandQ
import Derived.Test.YtlhaofbncoijfaaHandH
namespace Go.Proofs.Ytlhaofbncoijfaa.HandF
set_option linter.unusedVariables false
set_option linter.unusedSimpArgs false
open Go.RowKit Go.Proofs.Ytlhaofbncoijfaa.X Go.Proofs.Ytlhaofbncoijfaa.Tree Go.Proofs.Ytlhaofbncoijfaa.Blocks
open Go.Proofs.YtlhaofbncoijfaaW.PrintWords Go.Proofs.YtlhaofbncoijfaaW.PrintLast Go.Proofs.YtlhaofbncoijfaaW.PrintMore

/-- What Sum hands back of two right trees. -/
def SumT (a b : T) : S24 × Int :=
  if (T.sum a.norm b.norm).2 = true then (if (T.sum a.norm b.norm).1.right then ((T.sum a.norm b.norm).1.norm.toS, 0) else (⟨false, []⟩, 2)) else (⟨false, []⟩, 42)
/-- How it is left. -/
theorem Sum22_out {w W : World} {k m : Kd2} {a b : Value} {R : Ending → World → Prop} {tmps : Array Value} (k1 : Kd2) (x : Int) (h : SuI w W k m #[a, b])
    (h2 : tmps.getD 4 undef = .pointer (some ⟨w.heap.size + 1 + 1, 0, none⟩)) (h3 : tmps.getD 5 undef = .int .i64 x)
    (hR : ∀ W', Below w.heap.size w W' → (∀ j, j ≠ w.heap.size + 1 + 1 → W'.heap[j]? = W.heap[j]?) → R (.returned (.tuple #[kv k1, .int .i64 x])) W') :
    bodyPost Try.prog Try.f22 R .ret { tmps := tmps, defers := [] } ((W.setCell ⟨w.heap.size + 1 + 1, 0, none⟩ (.bool k1.1.f0)).setCell ⟨w.heap.size + 1 + 1, 1, none⟩ (.slice k1.2.1 k1.1.f1.length k1.2.2)) := by
  have hs : ((W.setCell ⟨w.heap.size + 1 + 1, 0, none⟩ (.bool k1.1.f0)).setCell ⟨w.heap.size + 1 + 1, 1, none⟩ (.slice k1.2.1 k1.1.f1.length k1.2.2)).heap[w.heap.size + 1 + 1]? = some (.cells #[.bool k1.1.f0, .slice k1.2.1 k1.1.f1.length k1.2.2] 24 (0, 0)) := set1 (set0 h.out)
  refine bodyPost_ret (results_ct rfl _ _ (w.heap.size + 1 + 1) 24 _ (0, 0) _ h2 hs Try.underlying24 rfl (by kernel_rfl)) rfl ?_
  rw [h3]
  refine hR _ ((h.below.setCell (Nat.le_trans (Nat.le_succ _) (Nat.le_succ _)) _).setCell (Nat.le_trans (Nat.le_succ _) (Nat.le_succ _)) _) (fun j h2 => ?_)
  rw [set_other (by simpa using h2), set_other (by simpa using h2)]

set_option maxRecDepth 100000 in
set_option maxHeartbeats 40000000 in
theorem Sum22_bad (k m : Kd2) (w : World) (hk : k.1.f1.length ≤ k.2.2) (hkC : Kd.C k24 w k.2.1 k.1.f1.length k.1.f1) (hm : m.1.f1.length ≤ m.2.2) (hmC : Kd.C k24 w m.2.1 m.1.f1.length m.1.f1) (h : (rightB k.1 && rightB m.1) = false) :
    Calls Try.prog 22 #[kv k, kv m] w fun e w' => e = .returned (.tuple #[.agg #[.bool false, .slice none 0 0], .int .i64 2]) ∧ Below w.heap.size w w' := by
  have HK := Lib.hid hk
  have HKC := Lib.hid hkC
  have HM := Lib.hid hm
  have HMC := Lib.hid hmC
  have HH := Lib.hid h
  clear hk hkC hm hmC h
  have hu24 := Try.underlying24
  have hu22 := Try.underlying22
  go_enter Try.func22, Try.ntmps22
  go_wp2_with fail
  obtain ⟨W0, hW0⟩ : ∃ W0, ((w.alloc (.cells #[.bool k.1.f0, .slice k.2.1 k.1.f1.length k.2.2] 24)).alloc (.cells #[.bool m.1.f0, .slice m.2.1 m.1.f1.length m.2.2] 24)).alloc (.cells #[.bool false, .slice none 0 0] 24) = W0 := ⟨_, rfl⟩
  have hI : SuI w W0 k m #[.bool false, .slice none 0 0] := by
    rw [← hW0]
    refine ⟨(((Below.refl _ _).alloc (Nat.le_refl _) _).alloc (by simp) _).alloc (by simp; omega) _, blk_alloc (blk_alloc (blk_new _ _) _) _, blk_alloc ?_ _, ?_⟩
    · have := blk_new (w.alloc (.cells #[.bool k.1.f0, .slice k.2.1 k.1.f1.length k.2.2] 24)) (.cells #[.bool m.1.f0, .slice m.2.1 m.1.f1.length m.2.2] 24)
      rwa [World.size_alloc] at this
    · have := blk_new ((w.alloc (.cells #[.bool k.1.f0, .slice k.2.1 k.1.f1.length k.2.2] 24)).alloc (.cells #[.bool m.1.f0, .slice m.2.1 m.1.f1.length m.2.2] 24)) (.cells #[.bool false, .slice none 0 0] 24)
      rwa [World.size_alloc, World.size_alloc] at this
  rw [hW0]
  have HI := Lib.hid hI
  clear hI hW0
  refine (right_calls k _ ⟨HK.out, Kd.C_below HKC.out HI.out.below⟩).mono ?_
  rintro e w1 ⟨rfl, hb1⟩
  have HI1 := Lib.hid (HI.out.step hb1)
  clear hb1
  have r0 := cell0 HI1.out.right
  have r1 := cell1 HI1.out.right
  have o0 := cell0 HI1.out.out
  have o1 := cell1 HI1.out.out
  have fo := free2 HI1.out.out
  cases hr : rightB k.1
  · go_wp2_with fail
    refine Sum22_out (⟨false, []⟩, none, 0) 2 HI1.out rfl rfl ?_
    intro W' hb' _
    exact ⟨rfl, hb'⟩
  · have hrm : rightB m.1 = false := by have := HH.out; rw [hr] at this; simpa using this
    have HRM := Lib.hid hrm
    clear hrm
    go_wp2_with fail
    refine (right_calls m _ ⟨HM.out, Kd.C_below HMC.out HI1.out.below⟩).mono ?_
    rintro e w2 ⟨rfl, hb2⟩
    have HI2 := Lib.hid (HI1.out.step hb2)
    clear hb2 r0 r1 o0 o1 fo
    have o0 := cell0 HI2.out.out
    have o1 := cell1 HI2.out.out
    have fo := free2 HI2.out.out
    rw [HRM.out]
    go_wp2_with fail
    refine Sum22_out (⟨false, []⟩, none, 0) 2 HI2.out rfl rfl ?_
    intro W' hb' _
    exact ⟨rfl, hb'⟩

set_option maxRecDepth 100000 in
set_option maxHeartbeats 40000000 in
theorem Sum22 (k m : Kd2) (a b : T) (w : World) (ha : k.1 = a.toS) (hb : m.1 = b.toS) (hra : a.right) (hrb : b.right) (hk : k.1.f1.length ≤ k.2.2) (hkC : Kd.C k24 w k.2.1 k.1.f1.length k.1.f1) (hm : m.1.f1.length ≤ m.2.2) (hmC : Kd.C k24 w m.2.1 m.1.f1.length m.1.f1) :
    Calls Try.prog 22 #[kv k, kv m] w fun e w' => ∃ k1 : Kd2, e = .returned (.tuple #[kv k1, .int .i64 (SumT a b).2]) ∧ k1.1 = (SumT a b).1 ∧ Ft w' (fun j => w.heap.size ≤ j) k1 ∧ Below w.heap.size w w' := by
  have HKA := Lib.hid ha
  have HKB := Lib.hid hb
  have HRA : Hid (rightB k.1 = true) := by rw [ha, right_T]; exact decide_eq_true hra
  have HRB : Hid (rightB m.1 = true) := by rw [hb, right_T]; exact decide_eq_true hrb
  have HK := Lib.hid hk
  have HKC := Lib.hid hkC
  have HM := Lib.hid hm
  have HMC := Lib.hid hmC
  clear hk hkC hm hmC ha hb hra hrb
  have hu24 := Try.underlying24
  have hu22 := Try.underlying22
  go_enter Try.func22, Try.ntmps22
  go_wp2_with fail
  obtain ⟨W0, hW0⟩ : ∃ W0, ((w.alloc (.cells #[.bool k.1.f0, .slice k.2.1 k.1.f1.length k.2.2] 24)).alloc (.cells #[.bool m.1.f0, .slice m.2.1 m.1.f1.length m.2.2] 24)).alloc (.cells #[.bool false, .slice none 0 0] 24) = W0 := ⟨_, rfl⟩
  have hI : SuI w W0 k m #[.bool false, .slice none 0 0] := by
    rw [← hW0]
    refine ⟨(((Below.refl _ _).alloc (Nat.le_refl _) _).alloc (by simp) _).alloc (by simp; omega) _, blk_alloc (blk_alloc (blk_new _ _) _) _, blk_alloc ?_ _, ?_⟩
    · have := blk_new (w.alloc (.cells #[.bool k.1.f0, .slice k.2.1 k.1.f1.length k.2.2] 24)) (.cells #[.bool m.1.f0, .slice m.2.1 m.1.f1.length m.2.2] 24)
      rwa [World.size_alloc] at this
    · have := blk_new ((w.alloc (.cells #[.bool k.1.f0, .slice k.2.1 k.1.f1.length k.2.2] 24)).alloc (.cells #[.bool m.1.f0, .slice m.2.1 m.1.f1.length m.2.2] 24)) (.cells #[.bool false, .slice none 0 0] 24)
      rwa [World.size_alloc, World.size_alloc] at this
  rw [hW0]
  have HI := Lib.hid hI
  clear hI hW0
  refine (right_calls k _ ⟨HK.out, Kd.C_below HKC.out HI.out.below⟩).mono ?_
  rintro e w1 ⟨rfl, hb1⟩
  have HI1 := Lib.hid (HI.out.step hb1)
  clear hb1
  have r0 := cell0 HI1.out.right
  have r1 := cell1 HI1.out.right
  rw [HRA.out]
  go_wp2_with fail
  refine (right_calls m _ ⟨HM.out, Kd.C_below HMC.out HI1.out.below⟩).mono ?_
  rintro e w4 ⟨rfl, hb2⟩
  have HI4 := Lib.hid (HI1.out.step hb2)
  clear hb2 r0 r1
  rw [HRB.out]
  go_wp2_with fail
  have HD4 := Lib.hid (HI4.out.step (W' := w4.drew) (Below.refl _ _).drew)
  have HZ4 := Lib.hid (HI4.out.step (W' := (w4.alloc (.cells #[.bool false, .slice none 0 0] 24)).drew) (((Below.refl _ _).alloc (Nat.le_refl _) _).drew))
  have GZ4 := Lib.hid (show (w4.alloc (.cells #[.bool false, .slice none 0 0] 24)).drew.heap[w4.heap.size]? = some (.cells #[.bool false, .slice none 0 0] 24 (0, 0)) from blk_new w4 _)
  have held : ∀ W, SuI w W k m #[.bool false, .slice none 0 0] →
      W.cell? ⟨w.heap.size, 0, none⟩ = some (.bool k.1.f0) ∧ W.cell? ⟨w.heap.size, 1, none⟩ = some (.slice k.2.1 k.1.f1.length k.2.2) ∧ W.cell? ⟨w.heap.size + 1, 0, none⟩ = some (.bool m.1.f0) ∧ W.cell? ⟨w.heap.size + 1, 1, none⟩ = some (.slice m.2.1 m.1.f1.length m.2.2) :=
    fun W h => ⟨cell0 h.left, cell1 h.left, cell0 h.right, cell1 h.right⟩
  have HELD := Lib.hid held
  have hst : ∀ W, SuI w W k m #[.bool false, .slice none 0 0] → SuI w (W.alloc (.cells #[.bool false, .slice none 0 0] 24)) k m #[.bool false, .slice none 0 0] := fun W h => h.step ((Below.refl _ _).alloc (Nat.le_refl _) _)
  have HST := Lib.hid hst
  clear held hst
  have HL4 := Lib.hid HI4.out.lt
  go_region_held3 (fun w' => w'.cell? ⟨w.heap.size, 0, none⟩ = some (.bool k.1.f0) ∧ w'.cell? ⟨w.heap.size, 1, none⟩ = some (.slice k.2.1 k.1.f1.length k.2.2) ∧ w'.cell? ⟨w.heap.size + 1, 0, none⟩ = some (.bool m.1.f0) ∧ w'.cell? ⟨w.heap.size + 1, 1, none⟩ = some (.slice m.2.1 m.1.f1.length m.2.2))
    (with_reducible first | exact HELD.out _ HD4.out | exact HELD.out _ HZ4.out | exact HELD.out _ HI5.out | exact HELD.out _ (HST.out _ HI5.out) | exact HELD.out _ HI6.out | exact HELD.out _ (HST.out _ HI6.out) | exact HELD.out _ HI7.out | exact HELD.out _ (HI7.out.step ((Below.refl _ _).alloc (Nat.le_refl _) _)) | exact HELD.out _ ((HI7.out.far HGL.out).far HGL.out) | exact HELD.out _ ((HI7.out.far HLA.out).far HLA.out) | exact HELD.out _ ((HI7.out.far HLB.out).far HLB.out))
    (first
      | (go_at_call 36; (with_reducible refine (norm_calls k a _ HKA.out HK.out ?_).mono ?_); (exact Kd.C_below HKC.out (by with_reducible first | exact HD4.out.below | exact HZ4.out.below)); rintro e w5 ⟨na, rfl, hna, fna, hb5⟩; have HI5 := Lib.hid (by with_reducible first | exact HD4.out.step hb5 | exact HZ4.out.step hb5 : SuI w w5 k m #[.bool false, .slice none 0 0]); have HNA := Lib.hid hna; have FNA := Lib.hid fna; (try with_reducible have gl5 := Lib.hid (blk_below GZ4.out hb5)); have HS5 := Lib.hid hb5.size; clear hna fna hb5)
      | (go_at_call 36; (with_reducible refine (norm_calls m b _ HKB.out HM.out ?_).mono ?_); (exact Kd.C_below HMC.out (by with_reducible first | exact HI5.out.below | exact (HST.out _ HI5.out).below)); rintro e w6 ⟨nb, rfl, hnb, fnb, hb6⟩; have HI6 := Lib.hid (by with_reducible first | exact HI5.out.step hb6 | exact (HST.out _ HI5.out).step hb6 : SuI w w6 k m #[.bool false, .slice none 0 0]); have HNB := Lib.hid hnb; have FNB := Lib.hid fnb; (with_reducible first | have FNA6 := Lib.hid (FNA.out.below hb6) | have FNA6 := Lib.hid ((FNA.out.alloc (.cells #[.bool false, .slice none 0 0] 24)).below hb6)); (with_reducible first | have gl6 := Lib.hid (blk_below gl5.out hb6) | have gl6 := Lib.hid (blk_below (blk_new w5 (.cells #[.bool false, .slice none 0 0] 24)) hb6) | skip); have HS6 := Lib.hid hb6.size; clear hnb fnb hb6)
      | (go_at_call 43; (first | (with_reducible refine (sum_calls a.norm b.norm na nb _ (fun j => _ ∨ _) HNA.out HNB.out (FNA6.out.mono (fun j h => Or.inl h)) (FNB.out.mono (fun j h => Or.inr h))).mono ?_) | (with_reducible refine (sum_calls a.norm b.norm na nb _ (fun j => _ ∨ _) HNA.out HNB.out ((FNA6.out.alloc (.cells #[.bool false, .slice none 0 0] 24)).mono (fun j h => Or.inl h)) ((FNB.out.alloc (.cells #[.bool false, .slice none 0 0] 24)).mono (fun j h => Or.inr h))).mono ?_)); rintro e w7 ⟨k1, rfl, hk1, hf1, hb7⟩; have HI7 := Lib.hid (by with_reducible first | exact HI6.out.step hb7 | exact (HST.out _ HI6.out).step hb7 : SuI w w7 k m #[.bool false, .slice none 0 0]); have HK1 := Lib.hid hk1; have HF1 := Lib.hid hf1; (with_reducible first | have gl7 := blk_below gl6.out hb7 | have gl7 := blk_below (blk_new w6 (.cells #[.bool false, .slice none 0 0] 24)) hb7 | skip); (try have gl70 := cell0 gl7); (try have gl71 := cell1 gl7); (try have gl7f := free2 gl7); (try have GL7 := Lib.hid gl7); (try clear gl7); have HLA := Lib.hid HI5.out.lt; have HLB := Lib.hid HI6.out.lt; have HGL := Lib.hid HI4.out.lt; have HS7 := Lib.hid hb7.size; clear hk1 hf1 hb7))
  all_goals
    rename_i hHeld
    clear hHeld
    first
      | (have hI8 := (HI7.out.far (o := 0) (u := .bool k1.1.f0) HLB.out).far (o := 1) (u := .slice k1.2.1 k1.1.f1.length k1.2.2) HLB.out
         have hL8 : SuL w ((w7.setCell ⟨w6.heap.size, 0, none⟩ (.bool k1.1.f0)).setCell ⟨w6.heap.size, 1, none⟩ (.slice k1.2.1 k1.1.f1.length k1.2.2)) (fun _ => False) w6.heap.size k1 := SuL.ahead GL7.out HF1.out (fun j hj => by
            have e4 : (w4.alloc (.cells #[.bool false, .slice none 0 0] 24)).drew.heap.size = w4.heap.size + 1 := World.size_alloc _ _
            have e5 : (w5.alloc (.cells #[.bool false, .slice none 0 0] 24)).heap.size = w5.heap.size + 1 := World.size_alloc _ _
            have e6 : (w6.alloc (.cells #[.bool false, .slice none 0 0] 24)).heap.size = w6.heap.size + 1 := World.size_alloc _ _
            have d4 : w4.drew.heap.size = w4.heap.size := rfl
            have hs5 := HS5.out
            have hs6 := HS6.out
            have hs7 := HS7.out
            have l4 := HL4.out
            have la := HLA.out
            have lb := HLB.out
            refine ⟨.inr ?_, ?_⟩
            · rcases hj with (hj | hj) | hj <;> omega
            · rcases hj with (hj | hj) | hj <;> omega) HLB.out
         obtain ⟨W8, hW8⟩ : ∃ W8, (w7.setCell ⟨w6.heap.size, 0, none⟩ (.bool k1.1.f0)).setCell ⟨w6.heap.size, 1, none⟩ (.slice k1.2.1 k1.1.f1.length k1.2.2) = W8 := ⟨_, rfl⟩
         rw [hW8] at hI8 hL8
         with_reducible rw [hW8]
         obtain ⟨g, hg⟩ : ∃ g, w6.heap.size = g := ⟨_, rfl⟩
         rw [hg] at hL8 ⊢)
      | (have hI8 := (HI7.out.far (o := 0) (u := .bool k1.1.f0) HLA.out).far (o := 1) (u := .slice k1.2.1 k1.1.f1.length k1.2.2) HLA.out
         have hL8 : SuL w ((w7.setCell ⟨w5.heap.size, 0, none⟩ (.bool k1.1.f0)).setCell ⟨w5.heap.size, 1, none⟩ (.slice k1.2.1 k1.1.f1.length k1.2.2)) (fun _ => False) w5.heap.size k1 := SuL.ahead GL7.out HF1.out (fun j hj => by
            have e4 : (w4.alloc (.cells #[.bool false, .slice none 0 0] 24)).drew.heap.size = w4.heap.size + 1 := World.size_alloc _ _
            have e5 : (w5.alloc (.cells #[.bool false, .slice none 0 0] 24)).heap.size = w5.heap.size + 1 := World.size_alloc _ _
            have e6 : (w6.alloc (.cells #[.bool false, .slice none 0 0] 24)).heap.size = w6.heap.size + 1 := World.size_alloc _ _
            have d4 : w4.drew.heap.size = w4.heap.size := rfl
            have hs5 := HS5.out
            have hs6 := HS6.out
            have hs7 := HS7.out
            have l4 := HL4.out
            have la := HLA.out
            have lb := HLB.out
            refine ⟨.inr ?_, ?_⟩
            · rcases hj with (hj | hj) | hj <;> omega
            · rcases hj with (hj | hj) | hj <;> omega) HLA.out
         obtain ⟨W8, hW8⟩ : ∃ W8, (w7.setCell ⟨w5.heap.size, 0, none⟩ (.bool k1.1.f0)).setCell ⟨w5.heap.size, 1, none⟩ (.slice k1.2.1 k1.1.f1.length k1.2.2) = W8 := ⟨_, rfl⟩
         rw [hW8] at hI8 hL8
         with_reducible rw [hW8]
         obtain ⟨g, hg⟩ : ∃ g, w5.heap.size = g := ⟨_, rfl⟩
         rw [hg] at hL8 ⊢)
      | (have hI8 := (HI7.out.far (o := 0) (u := .bool k1.1.f0) HL4.out).far (o := 1) (u := .slice k1.2.1 k1.1.f1.length k1.2.2) HL4.out
         have hL8 : SuL w ((w7.setCell ⟨w4.heap.size, 0, none⟩ (.bool k1.1.f0)).setCell ⟨w4.heap.size, 1, none⟩ (.slice k1.2.1 k1.1.f1.length k1.2.2)) (fun _ => False) w4.heap.size k1 := SuL.ahead GL7.out HF1.out (fun j hj => by
            have e4 : (w4.alloc (.cells #[.bool false, .slice none 0 0] 24)).drew.heap.size = w4.heap.size + 1 := World.size_alloc _ _
            have e5 : (w5.alloc (.cells #[.bool false, .slice none 0 0] 24)).heap.size = w5.heap.size + 1 := World.size_alloc _ _
            have e6 : (w6.alloc (.cells #[.bool false, .slice none 0 0] 24)).heap.size = w6.heap.size + 1 := World.size_alloc _ _
            have d4 : w4.drew.heap.size = w4.heap.size := rfl
            have hs5 := HS5.out
            have hs6 := HS6.out
            have hs7 := HS7.out
            have l4 := HL4.out
            have la := HLA.out
            have lb := HLB.out
            refine ⟨.inr ?_, ?_⟩
            · rcases hj with (hj | hj) | hj <;> omega
            · rcases hj with (hj | hj) | hj <;> omega) HL4.out
         obtain ⟨W8, hW8⟩ : ∃ W8, (w7.setCell ⟨w4.heap.size, 0, none⟩ (.bool k1.1.f0)).setCell ⟨w4.heap.size, 1, none⟩ (.slice k1.2.1 k1.1.f1.length k1.2.2) = W8 := ⟨_, rfl⟩
         rw [hW8] at hI8 hL8
         with_reducible rw [hW8]
         obtain ⟨g, hg⟩ : ∃ g, w4.heap.size = g := ⟨_, rfl⟩
         rw [hg] at hL8 ⊢)
      | (have hI8 := HI7.out.step ((Below.refl _ _).alloc (Nat.le_refl _) (.cells #[.bool k1.1.f0, .slice k1.2.1 k1.1.f1.length k1.2.2] 24))
         have hL8 : SuL w (w7.alloc (.cells #[.bool k1.1.f0, .slice k1.2.1 k1.1.f1.length k1.2.2] 24)) (fun _ => False) w7.heap.size k1 := SuL.behind HF1.out (fun j hj => by
            have d4 : w4.drew.heap.size = w4.heap.size := rfl
            have l4 := HL4.out
            have la := HLA.out
            have lb := HLB.out
            refine .inr ?_
            rcases hj with (hj | hj) | hj <;> omega) HI7.out.lt
         obtain ⟨W8, hW8⟩ : ∃ W8, w7.alloc (.cells #[.bool k1.1.f0, .slice k1.2.1 k1.1.f1.length k1.2.2] 24) = W8 := ⟨_, rfl⟩
         rw [hW8] at hI8 hL8
         with_reducible rw [hW8]
         obtain ⟨g, hg⟩ : ∃ g, w7.heap.size = g := ⟨_, rfl⟩
         rw [hg] at hL8 ⊢)
    have HI8 := Lib.hid hI8
    have HL8 := Lib.hid hL8
    have b0 := cell0 hL8.box
    have b1 := cell1 hL8.box
    have o0 := cell0 hI8.out
    have o1 := cell1 hI8.out
    have fo := free2 hI8.out
    clear hI8 hL8 hg hW8
    cases hx : (T.sum a.norm b.norm).2
    · go_wp2_with fail
      refine Sum22_out (⟨false, []⟩, none, 0) 42 HI8.out rfl rfl ?_
      intro W' hb' _
      have hS : SumT a b = (⟨false, []⟩, 42) := by unfold SumT; rw [hx]; rfl
      exact ⟨(⟨false, []⟩, none, 0), by rw [hS], by rw [hS], Ft.leaf _ _ _, hb'⟩
    · go_wp2_with fail
      refine (right_calls k1 _ ⟨HL8.out.foot.1, HL8.out.foot.now⟩).mono ?_
      rintro e w9 ⟨rfl, hb9⟩
      have HI9 := Lib.hid (HI8.out.step hb9)
      have HL9 := Lib.hid (HL8.out.step hb9)
      clear hb9 b0 b1 o0 o1 fo
      rw [show rightB k1.1 = decide (T.sum a.norm b.norm).1.right by rw [HK1.out, right_T]]
      have b0 := cell0 HL9.out.box
      have b1 := cell1 HL9.out.box
      have o0 := cell0 HI9.out.out
      have o1 := cell1 HI9.out.out
      have fo := free2 HI9.out.out
      by_cases hr : (T.sum a.norm b.norm).1.right
      · rw [decide_eq_true hr]
        go_wp2_with fail
        refine (norm_calls k1 _ _ HK1.out HL9.out.foot.1 HL9.out.foot.now).mono ?_
        rintro e w10 ⟨k2, rfl, hk2, hf2, hb10⟩
        have HI10 := Lib.hid (HI9.out.step hb10)
        have HK2 := Lib.hid hk2
        have HF2 := Lib.hid hf2
        have HS9 := Lib.hid HI9.out.lt
        clear hk2 hf2 hb10 b0 b1 o0 o1 fo
        have o0 := cell0 HI10.out.out
        have o1 := cell1 HI10.out.out
        have fo := free2 HI10.out.out
        go_wp2_with fail
        refine Sum22_out k2 0 HI10.out rfl rfl ?_
        intro W' hb' hm
        have hS : SumT a b = ((T.sum a.norm b.norm).1.norm.toS, 0) := by unfold SumT; rw [hx, if_pos rfl, if_pos hr]
        exact ⟨k2, by rw [hS], by rw [hS]; exact HK2.out, (HF2.out.move (fun j hj => hm j (by have := HS9.out; have := hj.1; omega))).mono (fun j hj => by have := HS9.out; have := hj.1; omega), hb'⟩
      · rw [decide_eq_false hr]
        go_wp2_with fail
        refine Sum22_out (⟨false, []⟩, none, 0) 2 HI9.out rfl rfl ?_
        intro W' hb' _
        have hS : SumT a b = (⟨false, []⟩, 2) := by unfold SumT; rw [hx, if_pos rfl, if_neg hr]
        exact ⟨(⟨false, []⟩, none, 0), by rw [hS], by rw [hS], Ft.leaf _ _ _, hb'⟩
end Go.Proofs.Ytlhaofbncoijfaa.HandF
