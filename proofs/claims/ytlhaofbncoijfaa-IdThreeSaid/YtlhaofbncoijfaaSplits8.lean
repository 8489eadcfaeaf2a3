/- The walk of the law IdSplits. -/
import Derived.Test.YtlhaofbncoijfaaSumMath
import Derived.Test.YtlhaofbncoijfaaHandW
import Derived.Deep.RegionHeld3
namespace Go.Proofs.Ytlhaofbncoijfaa.HandF
set_option linter.unusedVariables false
set_option linter.unusedSimpArgs false
open Go.RowKit Go.Proofs.Ytlhaofbncoijfaa.X Go.Proofs.Ytlhaofbncoijfaa.Tree Go.Proofs.Ytlhaofbncoijfaa.Blocks
open Go.Proofs.YtlhaofbncoijfaaW.PrintWords Go.Proofs.YtlhaofbncoijfaaW.PrintLast Go.Proofs.YtlhaofbncoijfaaW.PrintMore

theorem SplitS_bad (s : S24) (h : rightB s = false) : SplitS s = (⟨false, []⟩, ⟨false, []⟩, 2) := by
  unfold SplitS
  rw [NormS_bad s h]
  rfl
theorem SplitS_T (t : T) (h : t.right) : SplitS t.toS = if t.norm.split.1.right ∧ t.norm.split.2.right then (t.norm.split.1.toS, t.norm.split.2.toS, 0) else (⟨false, []⟩, ⟨false, []⟩, 41) := by
  unfold SplitS
  rw [NormS_right t h, if_pos rfl, T.of_toS]

theorem Ft.len {W : World} {ok : Nat → Prop} {k : Kd2} (h : Ft W ok k) : k.1.f1.length ≤ k.2.2 := h.1
/-- What lies: the tree's box, and its cells. -/
def box24 (W : World) (g : Nat) (k : Kd2) : Prop := W.heap[g]? = some (.cells #[.bool k.1.f0, .slice k.2.1 k.1.f1.length k.2.2] 24 (0, 0))
theorem box24.below {W W' : World} {g : Nat} {k : Kd2} (h : box24 W g k) (hb : Below W.heap.size W W') : box24 W' g k := blk_below h hb
theorem box24.new (W : World) (k : Kd2) : box24 (W.alloc (.cells #[.bool k.1.f0, .slice k.2.1 k.1.f1.length k.2.2] 24)) W.heap.size k := blk_new _ _
theorem box24.c0 {W : World} {g : Nat} {k : Kd2} (h : box24 W g k) : W.cell? ⟨g, 0, none⟩ = some (.bool k.1.f0) := cell0 h
theorem box24.c1 {W : World} {g : Nat} {k : Kd2} (h : box24 W g k) : W.cell? ⟨g, 1, none⟩ = some (.slice k.2.1 k.1.f1.length k.2.2) := cell1 h

theorem SameN (k : Kd2) (a : T) (w : World) (ha : k.1 = a.toS) (hra : a.right) (hk : k.1.f1.length ≤ k.2.2) (hkC : Kd.C k24 w k.2.1 k.1.f1.length k.1.f1) :
    Calls Try.prog 23 #[.agg #[.bool k.1.f0, .slice k.2.1 k.1.f1.length k.2.2], .agg #[.bool false, .slice none 0 0]] w fun e w' => e = .returned (.bool (T.eqb a.norm (.leaf false))) ∧ Below w.heap.size w w' :=
  Same23 k (⟨false, []⟩, none, 0) a (.leaf false) w ha rfl hra (by decide) hk hkC (Nat.le_refl _) (Kd.C_nil _ _)
set_option maxRecDepth 100000 in
set_option maxHeartbeats 40000000 in
theorem Splits8_bad (k : Kd2) (w : World) (hl : k.1.f1.length ≤ k.2.2) (hC : Kd.C k24 w k.2.1 k.1.f1.length k.1.f1) (x : Int) (hx : x = 2 ∨ x = 41) (hs : (SplitS k.1).2.2 = x) (hr : (x == 2) = !rightB k.1) :
    Calls Try.prog 8 #[kv k] w fun e w' => e = .returned (.bool true) ∧ Below w.heap.size w w' := by
  have HL := Lib.hid hl
  have HC := Lib.hid hC
  have HS := Lib.hid hs
  have HR := Lib.hid hr
  have e0 : (x != 0) = true := by rcases hx with rfl | rfl <;> rfl
  clear hl hC hs hr hx
  have hu24 := Try.underlying24
  have hu22 := Try.underlying22
  have hu26 := Try.underlying26
  go_enter Try.func8, Try.ntmps8
  go_wp2_with fail
  have hb0 : Below w.heap.size w (w.alloc (.cells #[.bool k.1.f0, .slice k.2.1 k.1.f1.length k.2.2] 24)) := (Below.refl _ _).alloc (Nat.le_refl _) _
  have g0 := box24.new w k
  refine (pannierlaw04_shown.calls true _ rfl).mono ?_
  rintro e w1 ⟨rfl, hb1⟩
  have HB1 := Lib.hid (hb0.trans (hb1.mono hb0.size))
  have G1 := Lib.hid (g0.below hb1)
  have t0 := G1.out.c0
  have t1 := G1.out.c1
  clear hb0 g0 hb1
  go_wp2_with fail
  refine (Split15 k w1 HL.out (Kd.C_below HC.out HB1.out)).mono ?_
  rintro e w2 ⟨k1, k2, rfl, h1, h2, f1, f2, hb2⟩
  have HB2 := Lib.hid (HB1.out.trans (hb2.mono HB1.out.size))
  have G2 := Lib.hid (G1.out.below hb2)
  rw [HS.out]
  clear h1 h2 f1 f2 t0 t1 hb2
  have t0 := G2.out.c0
  have t1 := G2.out.c1
  have g3 : box24 ((w2.alloc (.cells #[.bool k1.1.f0, .slice k1.2.1 k1.1.f1.length k1.2.2] 24)).alloc (.cells #[.bool k2.1.f0, .slice k2.2.1 k2.1.f1.length k2.2.2] 24)) w.heap.size k := blk_alloc (blk_alloc G2.out _) _
  have s0 := g3.c0
  have s1 := g3.c1
  clear g3
  go_wp2_with fail
  have hb3 : Below w2.heap.size w2 ((w2.alloc (.cells #[.bool k1.1.f0, .slice k1.2.1 k1.1.f1.length k1.2.2] 24)).alloc (.cells #[.bool k2.1.f0, .slice k2.2.1 k2.1.f1.length k2.2.2] 24)) := ((Below.refl _ _).alloc (Nat.le_refl _) _).alloc (by simp) _
  have HB3 := Lib.hid (HB2.out.trans (hb3.mono HB2.out.size))
  refine (right_calls k _ ⟨HL.out, Kd.C_below HC.out HB3.out⟩).mono ?_
  rintro e w4 ⟨rfl, hb4⟩
  have HB4 := Lib.hid (HB3.out.trans (hb4.mono HB3.out.size))
  have hr2 : ((x == 2) == !rightB k.1) = true := by rw [HR.out]; simp
  clear t0 t1 hb3 hb4
  go_wp2_with fail
  go_ret
  exact ⟨rfl, HB4.out⟩
set_option maxRecDepth 100000 in
set_option maxHeartbeats 40000000 in
theorem Splits8_good (k : Kd2) (t : T) (w : World) (hk : k.1 = t.toS) (ht : t.right) (h1 : t.norm.split.1.right) (h2 : t.norm.split.2.right) (hl : k.1.f1.length ≤ k.2.2) (hC : Kd.C k24 w k.2.1 k.1.f1.length k.1.f1) :
    Calls Try.prog 8 #[kv k] w fun e w' => e = .returned (.bool true) ∧ Below w.heap.size w w' := by
  have HL := Lib.hid hl
  have HC := Lib.hid hC
  have HK := Lib.hid hk
  have HT := Lib.hid ht
  have H1 := Lib.hid h1
  have H2 := Lib.hid h2
  have HS : Hid (SplitS k.1 = (t.norm.split.1.toS, t.norm.split.2.toS, 0)) := Lib.hid (by rw [hk, SplitS_T t ht, if_pos ⟨h1, h2⟩])
  have HU : Hid (SumT t.norm.split.1 t.norm.split.2 = (t.norm.toS, 0)) := Lib.hid (split_SumT (T.norm_nf t) (norm_right ht) h1 h2)
  clear hk ht h1 h2 hl hC
  have hu24 := Try.underlying24
  have hu22 := Try.underlying22
  have hu26 := Try.underlying26
  go_enter Try.func8, Try.ntmps8
  go_wp2_with fail
  have hb0 : Below w.heap.size w (w.alloc (.cells #[.bool k.1.f0, .slice k.2.1 k.1.f1.length k.2.2] 24)) := (Below.refl _ _).alloc (Nat.le_refl _) _
  have g0 := box24.new w k
  refine (pannierlaw04_shown.calls true _ rfl).mono ?_
  rintro e w1 ⟨rfl, hb1⟩
  have HB1 := Lib.hid (hb0.trans (hb1.mono hb0.size))
  have G1 := Lib.hid (g0.below hb1)
  have t0 := G1.out.c0
  have t1 := G1.out.c1
  clear hb0 g0 hb1
  go_wp2_with fail
  refine (Split15 k w1 HL.out (Kd.C_below HC.out HB1.out)).mono ?_
  rintro e w2 ⟨p, q, rfl, h1, h2, f1, f2, hb2⟩
  have HB2 := Lib.hid (HB1.out.trans (hb2.mono HB1.out.size))
  have G2 := Lib.hid (G1.out.below hb2)
  have es : (SplitS k.1).2.2 = 0 := by rw [HS.out]
  rw [es]
  rw [HS.out] at h1 h2
  have HP := Lib.hid h1
  have HQ := Lib.hid h2
  have FP := Lib.hid f1
  have FQ := Lib.hid f2
  clear h1 h2 f1 f2 t0 t1 hb2 es
  have t0 := G2.out.c0
  have t1 := G2.out.c1
  go_wp2_with fail
  obtain ⟨W3, hW3⟩ : ∃ W3, (w2.alloc (.cells #[.bool p.1.f0, .slice p.2.1 p.1.f1.length p.2.2] 24)).alloc (.cells #[.bool q.1.f0, .slice q.2.1 q.1.f1.length q.2.2] 24) = W3 := ⟨_, rfl⟩
  have hb3 : Below w2.heap.size w2 W3 := by rw [← hW3]; exact ((Below.refl _ _).alloc (Nat.le_refl _) _).alloc (by simp) _
  have gp : box24 W3 w2.heap.size p := by rw [← hW3]; exact blk_alloc (box24.new _ _) _
  have gq : box24 W3 (w2.heap.size + 1) q := by rw [← hW3]; have := box24.new (w2.alloc (.cells #[.bool p.1.f0, .slice p.2.1 p.1.f1.length p.2.2] 24)) q; rwa [World.size_alloc] at this
  rw [hW3]
  have HB3 := Lib.hid (HB2.out.trans (hb3.mono HB2.out.size))
  have G3 := Lib.hid (G2.out.below hb3)
  have FP3 := Lib.hid (FP.out.below hb3)
  have FQ3 := Lib.hid (FQ.out.below hb3)
  have GP3 := Lib.hid gp
  have GQ3 := Lib.hid gq
  clear hb3 gp gq hW3 t0 t1 FP FQ G1 G2
  refine (Sum22 p q _ _ W3 HP.out HQ.out H1.out H2.out FP3.out.1 FP3.out.now FQ3.out.1 FQ3.out.now).mono ?_
  rintro e w4 ⟨s, rfl, hs, fs, hb4⟩
  have es : (SumT t.norm.split.1 t.norm.split.2).2 = 0 := by rw [HU.out]
  rw [es]
  rw [HU.out] at hs
  have HB4 := Lib.hid (HB3.out.trans (hb4.mono HB3.out.size))
  have HSS := Lib.hid hs
  have FS := Lib.hid fs
  have G4 := Lib.hid (G3.out.below hb4)
  have GP4 := Lib.hid (GP3.out.below hb4)
  have GQ4 := Lib.hid (GQ3.out.below hb4)
  have FP4 := Lib.hid (FP3.out.below hb4)
  have FQ4 := Lib.hid (FQ3.out.below hb4)
  clear hs fs hb4 es FP3 FQ3 GP3 GQ3 G3
  go_wp2_with fail
  obtain ⟨W5, hW5⟩ : ∃ W5, (w4.alloc (.cells #[.bool s.1.f0, .slice s.2.1 s.1.f1.length s.2.2] 24)).alloc (.cells #[.bool false, .slice none 0 0] 24) = W5 := ⟨_, rfl⟩
  have hb5 : Below w4.heap.size w4 W5 := by rw [← hW5]; exact ((Below.refl _ _).alloc (Nat.le_refl _) _).alloc (by simp) _
  have gs : box24 W5 w4.heap.size s := by rw [← hW5]; exact blk_alloc (box24.new _ _) _
  have gn : box24 W5 (w4.heap.size + 1) (⟨false, []⟩, none, 0) := by rw [← hW5]; have := box24.new (w4.alloc (.cells #[.bool s.1.f0, .slice s.2.1 s.1.f1.length s.2.2] 24)) (⟨false, []⟩, none, 0); rwa [World.size_alloc] at this
  rw [hW5]
  have HB5 := Lib.hid (HB4.out.trans (hb5.mono HB4.out.size))
  have HELD : Hid (∀ W, Below W5.heap.size W5 W →
      W.cell? ⟨w.heap.size, 0, none⟩ = some (.bool k.1.f0) ∧ W.cell? ⟨w.heap.size, 1, none⟩ = some (.slice k.2.1 k.1.f1.length k.2.2) ∧
      W.cell? ⟨w2.heap.size, 0, none⟩ = some (.bool p.1.f0) ∧ W.cell? ⟨w2.heap.size, 1, none⟩ = some (.slice p.2.1 p.1.f1.length p.2.2) ∧
      W.cell? ⟨w2.heap.size + 1, 0, none⟩ = some (.bool q.1.f0) ∧ W.cell? ⟨w2.heap.size + 1, 1, none⟩ = some (.slice q.2.1 q.1.f1.length q.2.2) ∧
      W.cell? ⟨w4.heap.size, 0, none⟩ = some (.bool s.1.f0) ∧ W.cell? ⟨w4.heap.size, 1, none⟩ = some (.slice s.2.1 s.1.f1.length s.2.2) ∧
      W.cell? ⟨w4.heap.size + 1, 0, none⟩ = some (.bool false) ∧ W.cell? ⟨w4.heap.size + 1, 1, none⟩ = some (.slice none 0 0)) := Lib.hid (fun W hW => by
    have a := (G4.out.below hb5).below hW
    have b := (GP4.out.below hb5).below hW
    have c := (GQ4.out.below hb5).below hW
    have d := gs.below hW
    have e := gn.below hW
    exact ⟨a.c0, a.c1, b.c0, b.c1, c.c0, c.c1, d.c0, d.c1, e.c0, e.c1⟩)
  have FP5 := Lib.hid (FP4.out.below hb5)
  have FQ5 := Lib.hid (FQ4.out.below hb5)
  have FS5 := Lib.hid (FS.out.below hb5)
  have FK5 : Hid (Kd.C k24 W5 k.2.1 k.1.f1.length k.1.f1) := Lib.hid (Kd.C_below HC.out HB5.out)
  obtain ⟨c, hc⟩ : ∃ c, T.eqb t.norm (.leaf false) = c := ⟨_, rfl⟩
  have HNS : Hid (T.eqb t.norm.norm t.norm = true) := Lib.hid (by rw [T.norm_of_nf (T.norm_nf t)]; exact eqb_self _)
  have HAP : Hid ((T.sum t.norm.split.1.norm t.norm.split.2.norm).2 = true) := Lib.hid (by rw [split_sum (T.norm_nf t) (norm_right HT.out) H1.out H2.out])
  have HNP : Hid (T.eqb t.norm.split.1.norm (.leaf false) = c) := Lib.hid (by rw [← hc]; exact (split_none (T.norm_nf t)).1)
  have HNQ : Hid (T.eqb t.norm.split.2.norm (.leaf false) = c) := Lib.hid (by rw [← hc]; exact (split_none (T.norm_nf t)).2)
  have HNT : Hid (T.eqb t.norm (.leaf false) = c) := Lib.hid hc
  have HRN : Hid (T.right (.leaf false)) := Lib.hid (by decide)
  have HTN : Hid t.norm.right := Lib.hid (norm_right HT.out)
  have B0 := Lib.hid (Below.refl W5.heap.size W5)
  have B1 : Hid (Below W5.heap.size W5 W5.drew) := Lib.hid (Below.refl _ _).drew
  clear hc hb5 gs gn hW5 G4 GP4 GQ4 FP4 FQ4 FS
  go_region_held3 (fun W => W.cell? ⟨w.heap.size, 0, none⟩ = some (.bool k.1.f0) ∧ W.cell? ⟨w.heap.size, 1, none⟩ = some (.slice k.2.1 k.1.f1.length k.2.2) ∧
      W.cell? ⟨w2.heap.size, 0, none⟩ = some (.bool p.1.f0) ∧ W.cell? ⟨w2.heap.size, 1, none⟩ = some (.slice p.2.1 p.1.f1.length p.2.2) ∧
      W.cell? ⟨w2.heap.size + 1, 0, none⟩ = some (.bool q.1.f0) ∧ W.cell? ⟨w2.heap.size + 1, 1, none⟩ = some (.slice q.2.1 q.1.f1.length q.2.2) ∧
      W.cell? ⟨w4.heap.size, 0, none⟩ = some (.bool s.1.f0) ∧ W.cell? ⟨w4.heap.size, 1, none⟩ = some (.slice s.2.1 s.1.f1.length s.2.2) ∧
      W.cell? ⟨w4.heap.size + 1, 0, none⟩ = some (.bool false) ∧ W.cell? ⟨w4.heap.size + 1, 1, none⟩ = some (.slice none 0 0))
    (with_reducible first | exact HELD.out _ B1.out | exact HELD.out _ B0.out | exact HELD.out _ X1.out | exact HELD.out _ X2.out | exact HELD.out _ X3.out | exact HELD.out _ X4.out | exact HELD.out _ X5.out | exact HELD.out _ X6.out)
    (first
      | (go_at_call 23; (with_reducible refine (SameN k t _ HK.out HT.out HL.out (Kd.C_below FK5.out X5.out)).mono ?_); rintro e w16 ⟨rfl, hb16⟩; have X6 := Lib.hid (X5.out.trans (hb16.mono X5.out.size)); rw [HNT.out]; clear hb16)
      | (go_at_call 23; (with_reducible refine (SameN q _ _ HQ.out H2.out (FQ5.out.below X4.out).len (FQ5.out.below X4.out).now).mono ?_); rintro e w15 ⟨rfl, hb15⟩; have X5 := Lib.hid (X4.out.trans (hb15.mono X4.out.size)); rw [HNQ.out]; clear hb15)
      | (go_at_call 23; (with_reducible refine (SameN k t _ HK.out HT.out HL.out (Kd.C_below FK5.out X3.out)).mono ?_); rintro e w14 ⟨rfl, hb14⟩; have X4 := Lib.hid (X3.out.trans (hb14.mono X3.out.size)); rw [HNT.out]; clear hb14)
      | (go_at_call 23; (with_reducible refine (SameN p _ _ HP.out H1.out (FP5.out.below X2.out).len (FP5.out.below X2.out).now).mono ?_); rintro e w13 ⟨rfl, hb13⟩; have X3 := Lib.hid (X2.out.trans (hb13.mono X2.out.size)); rw [HNP.out]; clear hb13)
      | (go_at_call 25; (with_reducible refine (Apart25 p q _ _ _ HP.out HQ.out H1.out H2.out (FP5.out.below X1.out).len (FP5.out.below X1.out).now (FQ5.out.below X1.out).len (FQ5.out.below X1.out).now).mono ?_); rintro e w12 ⟨rfl, hb12⟩; have X2 := Lib.hid (X1.out.trans (hb12.mono X1.out.size)); rw [HAP.out]; clear hb12)
      | (go_at_call 23; (with_reducible refine (Same23 s k _ t _ HSS.out HK.out HTN.out HT.out (FS5.out.below B1.out).len (FS5.out.below B1.out).now HL.out (Kd.C_below FK5.out B1.out)).mono ?_); rintro e w11 ⟨rfl, hb11⟩; have X1 := Lib.hid (B1.out.trans (hb11.mono B1.out.size)); rw [HNS.out]; clear hb11))
  all_goals
    have HB6 := Lib.hid (HB5.out.trans (X6.out.mono HB5.out.size))
    go_wp2_with fail
    go_ret
    exact ⟨rfl, HB6.out⟩
/-- The law IdSplits tells true of every tree that lies in memory. -/
theorem Splits8 (k : Kd2) (w : World) (hl : k.1.f1.length ≤ k.2.2) (hC : Kd.C k24 w k.2.1 k.1.f1.length k.1.f1) :
    Calls Try.prog 8 #[kv k] w fun e w' => e = .returned (.bool true) ∧ Below w.heap.size w w' := by
  cases hr : rightB k.1
  · exact Splits8_bad k w hl hC 2 (.inl rfl) (by rw [SplitS_bad _ hr]) (by rw [hr]; rfl)
  · obtain ⟨t, hk, ht⟩ := (right_iff _).1 hr
    by_cases h : t.norm.split.1.right ∧ t.norm.split.2.right
    · exact Splits8_good k t w hk.symm ht h.1 h.2 hl hC
    · exact Splits8_bad k w hl hC 41 (.inr rfl) (by rw [← hk, SplitS_T t ht, if_neg h]) (by rw [hr]; rfl)
end Go.Proofs.Ytlhaofbncoijfaa.HandF
