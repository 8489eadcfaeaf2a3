/- The walk of id.split. -/
import Derived.Test.YtlhaofbncoijfaaKids
import Derived.Deep.RegionWith
import Derived.Deep.RegionHeld3
import Derived.Lib.Hide
import Derived.Test.YtlhaofbncoijfaaBlocks
namespace Go.Proofs.Ytlhaofbncoijfaa.HandF
set_option linter.unusedVariables false
set_option linter.unusedSimpArgs false
open Go.RowKit Go.Proofs.Ytlhaofbncoijfaa.X Go.Proofs.Ytlhaofbncoijfaa.Tree Go.Proofs.Ytlhaofbncoijfaa.Blocks
open Go.Proofs.YtlhaofbncoijfaaW.PrintWords Go.Proofs.YtlhaofbncoijfaaW.PrintLast Go.Proofs.YtlhaofbncoijfaaW.PrintMore

theorem pair_calls (ka kb : Kd2) (w : World) (ok : Nat → Prop) (ha : Ft w ok ka) (hb : Ft w ok kb) :
    Calls Try.prog 65 #[kv ka, kv kb] w fun e w' => ∃ k' : Kd2, e = .returned (kv k') ∧ k'.1 = ⟨false, [ka.1, kb.1]⟩ ∧ Ft w' (fun j => ok j ∨ w.heap.size ≤ j) k' ∧ Below w.heap.size w w' := by
  have hu24 := Try.underlying24
  have hu22 := Try.underlying22
  go_enter Try.func65, Try.ntmps65
  go_wp2
  obtain ⟨W3, hW3⟩ : ∃ W3, ((w.alloc (.cells #[.bool ka.1.f0, .slice ka.2.1 ka.1.f1.length ka.2.2] 24)).alloc (.cells #[.bool kb.1.f0, .slice kb.2.1 kb.1.f1.length kb.2.2] 24)).alloc (.cells #[.bool false, .slice (some ⟨w.heap.size + 1 + 1 + 1, 0, none⟩) 2 2] 24) = W3 := ⟨_, rfl⟩
  have hs3 : W3.heap.size = w.heap.size + 1 + 1 + 1 := by rw [← hW3]; simp
  have hb3 : Below w.heap.size w W3 := by rw [← hW3]; exact (((Below.refl _ _).alloc (Nat.le_refl _) _).alloc (by simp) _).alloc (by simp; omega) _
  have g3 : W3.heap[w.heap.size + 1 + 1]? = some (.cells #[.bool false, .slice (some ⟨w.heap.size + 1 + 1 + 1, 0, none⟩) 2 2] 24 (0, 0)) := by
    rw [← hW3]
    have := blk_new ((w.alloc (.cells #[.bool ka.1.f0, .slice ka.2.1 ka.1.f1.length ka.2.2] 24)).alloc (.cells #[.bool kb.1.f0, .slice kb.2.1 kb.1.f1.length kb.2.2] 24)) (.cells #[.bool false, .slice (some ⟨w.heap.size + 1 + 1 + 1, 0, none⟩) 2 2] 24)
    rwa [World.size_alloc, World.size_alloc] at this
  rw [hW3]
  have hb4 : Below w.heap.size w (W3.alloc (.cells #[.bool ka.1.f0, .slice ka.2.1 ka.1.f1.length ka.2.2, .bool kb.1.f0, .slice kb.2.1 kb.1.f1.length kb.2.2] 24)) := hb3.alloc (by omega) _
  have g4 := blk_new W3 (.cells #[.bool ka.1.f0, .slice ka.2.1 ka.1.f1.length ka.2.2, .bool kb.1.f0, .slice kb.2.1 kb.1.f1.length kb.2.2] 24)
  rw [hs3] at g4
  have g3' := blk_alloc g3 (.cells #[.bool ka.1.f0, .slice ka.2.1 ka.1.f1.length ka.2.2, .bool kb.1.f0, .slice kb.2.1 kb.1.f1.length kb.2.2] 24)
  refine bodyPost_ret (results_cell_row rfl _ _ (w.heap.size + 1 + 1) 24 _ (0, 0) _ rfl g3' hu24 rfl (by kernel_rfl)) rfl ?_
  refine ⟨(⟨false, [ka.1, kb.1]⟩, some ⟨w.heap.size + 1 + 1 + 1, 0, none⟩, 2), rfl, rfl, ?_, hb4⟩
  exact Ft.two ((ha.below hb4).mono (fun j hj => .inl hj)) ((hb.below hb4).mono (fun j hj => .inl hj)) (.inr (by omega)) false g4

/-- The boxes of split. -/
structure SpI (w W : World) (k : Kd2) (c1 c2 : Array Value) : Prop where
  below : Below w.heap.size w W
  tree : W.heap[w.heap.size]? = some (.cells #[.bool k.1.f0, .slice k.2.1 k.1.f1.length k.2.2] 24 (0, 0))
  one : W.heap[w.heap.size + 1]? = some (.cells c1 24 (0, 0))
  two : W.heap[w.heap.size + 1 + 1]? = some (.cells c2 24 (0, 0))
theorem SpI.step {w W W' : World} {k : Kd2} {c1 c2 : Array Value} (h : SpI w W k c1 c2) (hb : Below W.heap.size W W') : SpI w W' k c1 c2 :=
  ⟨h.below.trans (hb.mono h.below.size), blk_below h.tree hb, blk_below h.one hb, blk_below h.two hb⟩
theorem SpI.store {w W : World} {k : Kd2} {a b c d x y z u : Value} (h : SpI w W k #[a, b] #[c, d]) :
    SpI w ((((W.setCell ⟨w.heap.size + 1, 0, none⟩ x).setCell ⟨w.heap.size + 1, 1, none⟩ y).setCell ⟨w.heap.size + 1 + 1, 0, none⟩ z).setCell ⟨w.heap.size + 1 + 1, 1, none⟩ u) k #[x, y] #[z, u] := by
  have o : ∀ (W : World) (j g o : Nat) (u : Value), j ≠ g → (W.setCell ⟨g, o, none⟩ u).heap[j]? = W.heap[j]? := fun W j g o u hne => set_other (by simpa using hne)
  refine ⟨(((h.below.setCell (Nat.le_succ _) _).setCell (Nat.le_succ _) _).setCell (Nat.le_trans (Nat.le_succ _) (Nat.le_succ _)) _).setCell (Nat.le_trans (Nat.le_succ _) (Nat.le_succ _)) _, ?_, ?_, ?_⟩
  · rw [o _ _ _ _ _ (by omega), o _ _ _ _ _ (by omega), o _ _ _ _ _ (by omega), o _ _ _ _ _ (by omega)]; exact h.tree
  · rw [o _ _ _ _ _ (by omega), o _ _ _ _ _ (by omega)]; exact set1 (set0 h.one)
  · exact set1 (set0 (by rw [o _ _ _ _ _ (by omega), o _ _ _ _ _ (by omega)]; exact h.two))
theorem SpI.far1 {w W : World} {k : Kd2} {c1 c2 : Array Value} (h : SpI w W k c1 c2) (o : Nat) (u : Value) : ∃ c, SpI w (W.setCell ⟨w.heap.size + 1, o, none⟩ u) k c c2 := by
  obtain ⟨c, hc⟩ := set_typed h.one o u
  exact ⟨c, h.below.setCell (Nat.le_succ _) _, (set_other (by show _ ≠ w.heap.size + 1; omega)).trans h.tree, hc, (set_other (by show _ ≠ w.heap.size + 1; omega)).trans h.two⟩
theorem SpI.far2 {w W : World} {k : Kd2} {c1 c2 : Array Value} (h : SpI w W k c1 c2) (o : Nat) (u : Value) : ∃ c, SpI w (W.setCell ⟨w.heap.size + 1 + 1, o, none⟩ u) k c1 c := by
  obtain ⟨c, hc⟩ := set_typed h.two o u
  exact ⟨c, h.below.setCell (Nat.le_trans (Nat.le_succ _) (Nat.le_succ _)) _, (set_other (by show _ ≠ w.heap.size + 1 + 1; omega)).trans h.tree, (set_other (by show _ ≠ w.heap.size + 1 + 1; omega)).trans h.one, hc⟩
/-- How it is left. -/
theorem split_out {w W : World} {k : Kd2} {a b c d : Value} {R : Ending → World → Prop} {tmps : Array Value} (k1 k2 : Kd2) (h : SpI w W k #[a, b] #[c, d])
    (h2 : tmps.getD 2 undef = .pointer (some ⟨w.heap.size + 1, 0, none⟩)) (h3 : tmps.getD 3 undef = .pointer (some ⟨w.heap.size + 1 + 1, 0, none⟩))
    (hR : ∀ W', SpI w W' k #[.bool k1.1.f0, .slice k1.2.1 k1.1.f1.length k1.2.2] #[.bool k2.1.f0, .slice k2.2.1 k2.1.f1.length k2.2.2] → (∀ j, j ≠ w.heap.size + 1 → j ≠ w.heap.size + 1 + 1 → W'.heap[j]? = W.heap[j]?) → R (.returned (.tuple #[kv k1, kv k2])) W') :
    bodyPost Try.prog Try.f39 R .ret { tmps := tmps, defers := [] } ((((W.setCell ⟨w.heap.size + 1, 0, none⟩ (.bool k1.1.f0)).setCell ⟨w.heap.size + 1, 1, none⟩ (.slice k1.2.1 k1.1.f1.length k1.2.2)).setCell ⟨w.heap.size + 1 + 1, 0, none⟩ (.bool k2.1.f0)).setCell ⟨w.heap.size + 1 + 1, 1, none⟩ (.slice k2.2.1 k2.1.f1.length k2.2.2)) := by
  have hs := h.store (x := .bool k1.1.f0) (y := .slice k1.2.1 k1.1.f1.length k1.2.2) (z := .bool k2.1.f0) (u := .slice k2.2.1 k2.1.f1.length k2.2.2)
  refine bodyPost_ret (results_cc rfl _ _ (w.heap.size + 1) (w.heap.size + 1 + 1) 24 24 _ _ (0, 0) (0, 0) _ _ h2 hs.one Try.underlying24 rfl (by kernel_rfl) h3 hs.two Try.underlying24 rfl (by kernel_rfl)) rfl ?_
  refine hR _ hs (fun j h1 h2 => ?_)
  rw [set_other (by simpa using h2), set_other (by simpa using h2), set_other (by simpa using h1), set_other (by simpa using h1)]
set_option maxRecDepth 100000 in
set_option maxHeartbeats 40000000 in
theorem split_calls : ∀ (t : T) (k : Kd2) (w : World) (ok : Nat → Prop), k.1 = t.toS → Ft w ok k →
    Calls Try.prog 39 #[kv k] w fun e w' => ∃ k1 k2 : Kd2, e = .returned (.tuple #[kv k1, kv k2]) ∧ k1.1 = t.split.1.toS ∧ k2.1 = t.split.2.toS ∧ Ft w' (fun j => ok j ∨ w.heap.size ≤ j) k1 ∧ Ft w' (fun j => ok j ∨ w.heap.size ≤ j) k2 ∧ Below w.heap.size w w'
  | .leaf b, k, w, ok, hk, h => by
    have HK := Lib.hid hk
    have HF := Lib.hid h
    clear hk h
    have hu24 := Try.underlying24
    have hu22 := Try.underlying22
    go_enter Try.func39, Try.ntmps39
    go_wp2_with fail
    obtain ⟨W0, hW0⟩ : ∃ W0, ((w.alloc (.cells #[.bool k.1.f0, .slice k.2.1 k.1.f1.length k.2.2] 24)).alloc (.cells #[.bool false, .slice none 0 0] 24)).alloc (.cells #[.bool false, .slice none 0 0] 24) = W0 := ⟨_, rfl⟩
    have hI : SpI w W0 k #[.bool false, .slice none 0 0] #[.bool false, .slice none 0 0] := by
      rw [← hW0]
      refine ⟨(((Below.refl _ _).alloc (Nat.le_refl _) _).alloc (by simp) _).alloc (by simp; omega) _, blk_alloc (blk_alloc (blk_new _ _) _) _, blk_alloc ?_ _, ?_⟩
      · have := blk_new (w.alloc (.cells #[.bool k.1.f0, .slice k.2.1 k.1.f1.length k.2.2] 24)) (.cells #[.bool false, .slice none 0 0] 24)
        rwa [World.size_alloc] at this
      · have := blk_new ((w.alloc (.cells #[.bool k.1.f0, .slice k.2.1 k.1.f1.length k.2.2] 24)).alloc (.cells #[.bool false, .slice none 0 0] 24)) (.cells #[.bool false, .slice none 0 0] 24)
        rwa [World.size_alloc, World.size_alloc] at this
    rw [hW0]
    have hc0 := cell0 hI.tree
    have hc1 := cell1 hI.tree
    have HI := Lib.hid hI
    clear hI hW0
    cases b
    · refine (none_calls k (.leaf false) _ ok HK.out (HF.out.below HI.out.below)).mono ?_
      rintro e w1 ⟨rfl, hb1⟩
      have HI1 := Lib.hid (HI.out.step hb1)
      clear hb1 hc0 hc1
      have n0 := cell0 HI1.out.one
      have n1 := cell0 HI1.out.two
      have m0 := cell1 HI1.out.one
      have m1 := cell1 HI1.out.two
      have f1 := free2 HI1.out.one
      have f2 := free2 HI1.out.two
      go_wp2_with fail
      refine split_out (⟨false, []⟩, none, 0) (⟨false, []⟩, none, 0) HI1.out rfl rfl ?_
      intro W' hI' _
      exact ⟨_, _, rfl, rfl, rfl, Ft.leaf _ _ _, Ft.leaf _ _ _, hI'.below⟩
    · refine (none_calls k (.leaf true) _ ok HK.out (HF.out.below HI.out.below)).mono ?_
      rintro e w1 ⟨rfl, hb1⟩
      have HI1 := Lib.hid (HI.out.step hb1)
      clear hb1 hc0 hc1
      have hc0 := cell0 HI1.out.tree
      have hc1 := cell1 HI1.out.tree
      go_wp2_with fail
      refine (one_calls k (.leaf true) _ ok HK.out (HF.out.below HI1.out.below)).mono ?_
      rintro e w2 ⟨rfl, hb2⟩
      have HI2 := Lib.hid (HI1.out.step hb2)
      clear hb2 hc0 hc1
      go_wp2_with fail
      refine (pair_calls (⟨true, []⟩, none, 0) (⟨false, []⟩, none, 0) _ (fun _ => False) (Ft.leaf _ _ _) (Ft.leaf _ _ _)).mono ?_
      rintro e w3 ⟨k1, rfl, hk1, hf1, hb3⟩
      have HI3 := Lib.hid (HI2.out.step hb3)
      have HK1 := Lib.hid hk1
      have HF1 := Lib.hid hf1
      clear hb3 hk1 hf1
      go_wp2_with fail
      refine (pair_calls (⟨false, []⟩, none, 0) (⟨true, []⟩, none, 0) _ (fun _ => False) (Ft.leaf _ _ _) (Ft.leaf _ _ _)).mono ?_
      rintro e w4 ⟨k2, rfl, hk2, hf2, hb4⟩
      have HI4 := Lib.hid (HI3.out.step hb4)
      have HK2 := Lib.hid hk2
      have HF2 := Lib.hid hf2
      have HF1' := Lib.hid (HF1.out.below hb4)
      clear hb4 hk2 hf2
      have n0 := cell0 HI4.out.one
      have n1 := cell0 HI4.out.two
      have m0 := cell1 HI4.out.one
      have m1 := cell1 HI4.out.two
      have f1 := free2 HI4.out.one
      have f2 := free2 HI4.out.two
      go_wp2_with fail
      refine split_out k1 k2 HI4.out rfl rfl ?_
      intro W' hI' hm
      have hz := HI2.out.below.size
      have hz3 := HI3.out.below.size
      have l2 := (Array.getElem?_eq_some_iff.1 HI2.out.two).1
      have l3 := (Array.getElem?_eq_some_iff.1 HI3.out.two).1
      refine ⟨k1, k2, rfl, HK1.out, HK2.out, (HF1'.out.move (fun j hj => hm j ?_ ?_)).mono (fun j hj => ?_), (HF2.out.move (fun j hj => hm j ?_ ?_)).mono (fun j hj => ?_), hI'.below⟩
      all_goals (rcases hj with hj | hj <;> first | exact hj.elim | omega | (right; omega))
  | .node a b, k, w, ok, hk, h => by
    obtain ⟨ad, ka, kb, hA, hka, hkb, ha, hb, x0, x1, x2, x3⟩ := h.bound.kids hk
    have hbd := h.bound
    obtain ⟨s, A, c⟩ := k
    dsimp only at hk hA hbd
    subst hA
    obtain rfl : s = ⟨false, [a.toS, b.toS]⟩ := hk
    have HF := Lib.hid hbd
    have HA := Lib.hid ha
    have HB := Lib.hid hb
    have HKA := Lib.hid hka
    have HKB := Lib.hid hkb
    have X0 := Lib.hid x0
    have X1 := Lib.hid x1
    have X2 := Lib.hid x2
    have X3 := Lib.hid x3
    clear h hbd ha hb hka hkb x0 x1 x2 x3
    have hu24 := Try.underlying24
    have hu22 := Try.underlying22
    show Calls Try.prog 39 #[.agg #[.bool false, .slice (some ad) 2 c]] w _
    go_enter Try.func39, Try.ntmps39
    go_wp2_with fail
    obtain ⟨W0, hW0⟩ : ∃ W0, ((w.alloc (.cells #[.bool false, .slice (some ad) 2 c] 24)).alloc (.cells #[.bool false, .slice none 0 0] 24)).alloc (.cells #[.bool false, .slice none 0 0] 24) = W0 := ⟨_, rfl⟩
    have hI : SpI w W0 (⟨false, [a.toS, b.toS]⟩, some ad, c) #[.bool false, .slice none 0 0] #[.bool false, .slice none 0 0] := by
      rw [← hW0]
      refine ⟨(((Below.refl _ _).alloc (Nat.le_refl _) _).alloc (by simp) _).alloc (by simp; omega) _, blk_alloc (blk_alloc (blk_new _ _) _) _, blk_alloc ?_ _, ?_⟩
      · have := blk_new (w.alloc (.cells #[.bool false, .slice (some ad) 2 c] 24)) (.cells #[.bool false, .slice none 0 0] 24)
        rwa [World.size_alloc] at this
      · have := blk_new ((w.alloc (.cells #[.bool false, .slice (some ad) 2 c] 24)).alloc (.cells #[.bool false, .slice none 0 0] 24)) (.cells #[.bool false, .slice none 0 0] 24)
        rwa [World.size_alloc, World.size_alloc] at this
    rw [hW0]
    have HI := Lib.hid hI
    clear hI hW0
    refine (none_calls (⟨false, [a.toS, b.toS]⟩, some ad, c) (.node a b) _ _ rfl (HF.out.below HI.out.below)).mono ?_
    rintro e w1 ⟨rfl, hb1⟩
    have HI1 := Lib.hid (HI.out.step hb1)
    clear hb1
    have hc0 : w1.cell? ⟨w.heap.size, 0, none⟩ = some (.bool false) := cell0 HI1.out.tree
    have hc1 : w1.cell? ⟨w.heap.size, 1, none⟩ = some (.slice (some ad) 2 c) := cell1 HI1.out.tree
    go_wp2_with fail
    refine (one_calls (⟨false, [a.toS, b.toS]⟩, some ad, c) (.node a b) _ _ rfl (HF.out.below HI1.out.below)).mono ?_
    rintro e w2 ⟨rfl, hb2⟩
    have HI2 := Lib.hid (HI1.out.step hb2)
    clear hb2 hc0 hc1
    have hc0 : w2.cell? ⟨w.heap.size, 0, none⟩ = some (.bool false) := cell0 HI2.out.tree
    have hc1 : w2.cell? ⟨w.heap.size, 1, none⟩ = some (.slice (some ad) 2 c) := cell1 HI2.out.tree
    have hx0 := kcell HI2.out.below X0.out
    have hx1 := kcell HI2.out.below X1.out
    go_wp2_with fail
    refine (none_calls ka a _ _ HKA.out (HA.out.below HI2.out.below)).mono ?_
    rintro e w3 ⟨rfl, hb3⟩
    have HI3 := Lib.hid (HI2.out.step hb3)
    clear hb3 hc0 hc1 hx0 hx1
    have hc0 : w3.cell? ⟨w.heap.size, 0, none⟩ = some (.bool false) := cell0 HI3.out.tree
    have hc1 : w3.cell? ⟨w.heap.size, 1, none⟩ = some (.slice (some ad) 2 c) := cell1 HI3.out.tree
    have hx2 := kcell HI3.out.below X2.out
    have hx3 := kcell HI3.out.below X3.out
    cases hna : a.isNone
    · go_wp2_with fail
      refine (none_calls kb b _ _ HKB.out (HB.out.below HI3.out.below)).mono ?_
      rintro e w4 ⟨rfl, hb4⟩
      have HI4 := Lib.hid (HI3.out.step hb4)
      clear hb4 hc0 hc1 hx2 hx3
      have hc0 : w4.cell? ⟨w.heap.size, 0, none⟩ = some (.bool false) := cell0 HI4.out.tree
      have hc1 : w4.cell? ⟨w.heap.size, 1, none⟩ = some (.slice (some ad) 2 c) := cell1 HI4.out.tree
      have hx0 := kcell HI4.out.below X0.out
      have hx1 := kcell HI4.out.below X1.out
      have hx2 := kcell HI4.out.below X2.out
      have hx3 := kcell HI4.out.below X3.out
      cases hnb : b.isNone
      · go_wp2_with fail
        have HD4 := Lib.hid (HI4.out.step (W' := w4.drew) (Below.refl _ _).drew)
        have hc0' : w4.drew.cell? ⟨w.heap.size, 0, none⟩ = some (.bool false) := hc0
        have hc1' : w4.drew.cell? ⟨w.heap.size, 1, none⟩ = some (.slice (some ad) 2 c) := hc1
        have hx0' : w4.drew.cell? ad = _ := hx0
        have hx1' : w4.drew.cell? ⟨ad.block, ad.off + 1, none⟩ = _ := hx1
        have hx2' : w4.drew.cell? ⟨ad.block, ad.off + 2, none⟩ = _ := hx2
        have hx3' : w4.drew.cell? ⟨ad.block, ad.off + 2 + 1, none⟩ = _ := hx3
        have HA4 := Lib.hid (HA.out.below HD4.out.below)
        have HB4 := Lib.hid (HB.out.below HD4.out.below)
        clear hc0 hc1 hx0 hx1 hx2 hx3
        have held : ∀ W, (∃ c1 c2, SpI w W (⟨false, [a.toS, b.toS]⟩, some ad, c) c1 c2) → W.cell? ⟨w.heap.size, 1, none⟩ = some (.slice (some ad) 2 c) ∧ W.cell? ad = some (.bool ka.1.f0) ∧ W.cell? ⟨ad.block, ad.off + 1, none⟩ = some (.slice ka.2.1 ka.1.f1.length ka.2.2) ∧ W.cell? ⟨ad.block, ad.off + 2, none⟩ = some (.bool kb.1.f0) ∧ W.cell? ⟨ad.block, ad.off + 2 + 1, none⟩ = some (.slice kb.2.1 kb.1.f1.length kb.2.2) :=
          fun W ⟨c1, c2, h⟩ => ⟨cell1 h.tree, kcell h.below X0.out, kcell h.below X1.out, kcell h.below X2.out, kcell h.below X3.out⟩
        have HELD := Lib.hid held
        have far1 : ∀ W o u, (∃ c1 c2, SpI w W (⟨false, [a.toS, b.toS]⟩, some ad, c) c1 c2) → ∃ c1 c2, SpI w (W.setCell ⟨w.heap.size + 1, o, none⟩ u) (⟨false, [a.toS, b.toS]⟩, some ad, c) c1 c2 := fun W o u ⟨c1, c2, h⟩ => let ⟨c', h'⟩ := h.far1 o u; ⟨c', c2, h'⟩
        have far2 : ∀ W o u, (∃ c1 c2, SpI w W (⟨false, [a.toS, b.toS]⟩, some ad, c) c1 c2) → ∃ c1 c2, SpI w (W.setCell ⟨w.heap.size + 1 + 1, o, none⟩ u) (⟨false, [a.toS, b.toS]⟩, some ad, c) c1 c2 := fun W o u ⟨c1, c2, h⟩ => let ⟨c', h'⟩ := h.far2 o u; ⟨c1, c', h'⟩
        have FAR1 := Lib.hid far1
        have FAR2 := Lib.hid far2
        clear held far1 far2
        go_region_held3 (fun w' => w'.cell? ⟨w.heap.size, 1, none⟩ = some (.slice (some ad) 2 c) ∧ w'.cell? ad = some (.bool ka.1.f0) ∧ w'.cell? ⟨ad.block, ad.off + 1, none⟩ = some (.slice ka.2.1 ka.1.f1.length ka.2.2) ∧ w'.cell? ⟨ad.block, ad.off + 2, none⟩ = some (.bool kb.1.f0) ∧ w'.cell? ⟨ad.block, ad.off + 2 + 1, none⟩ = some (.slice kb.2.1 kb.1.f1.length kb.2.2))
          (first | exact HELD.out _ ⟨_, _, HD4.out⟩ | exact HELD.out _ ⟨_, _, HI6.out⟩ | exact HELD.out _ ⟨_, _, HI7.out⟩ | exact HELD.out _ (FAR1.out _ _ _ (FAR1.out _ _ _ ⟨_, _, HI7.out⟩)) | exact HELD.out _ (FAR2.out _ _ _ (FAR2.out _ _ _ (FAR1.out _ _ _ (FAR1.out _ _ _ ⟨_, _, HI7.out⟩)))))
          (first
          | (go_at_call 65; refine (pair_calls ka (⟨false, []⟩, none, 0) _ _ HA4.out (Ft.leaf _ _ _)).mono ?_; rintro e w6 ⟨k1, rfl, hk1, hf1, hb6⟩; have HI6 := Lib.hid (HD4.out.step hb6); have HK1 := Lib.hid hk1; have HF1 := Lib.hid hf1; have HB6 := Lib.hid (HB4.out.below hb6); have hd1 : w6.cell? ⟨w.heap.size, 1, none⟩ = some (.slice (some ad) 2 c) := cell1 HI6.out.tree; have hy2 := kcell HI6.out.below X2.out; have hy3 := kcell HI6.out.below X3.out; clear hk1 hf1 hb6)
          | (go_at_call 65; refine (pair_calls (⟨false, []⟩, none, 0) kb _ _ (Ft.leaf _ _ _) HB6.out).mono ?_; rintro e w7 ⟨k2, rfl, hk2, hf2, hb7⟩; have HI7 := Lib.hid (HI6.out.step hb7); have HK2 := Lib.hid hk2; have HF2 := Lib.hid hf2; have HF1' := Lib.hid (HF1.out.below hb7); have n0 := cell0 HI7.out.one; have n1 := cell0 HI7.out.two; have m0 := cell1 HI7.out.one; have m1 := cell1 HI7.out.two; have f1 := free2 HI7.out.one; have f2 := free2 HI7.out.two; clear hk2 hf2 hb7))
        all_goals go_wp2_with fail
        all_goals
          refine split_out k1 k2 HI7.out rfl rfl ?_
          intro W' hI' hm
          have hz5 := (Array.getElem?_eq_some_iff.1 HD4.out.two).1
          have hz6 := (Array.getElem?_eq_some_iff.1 HI6.out.two).1
          refine ⟨k1, k2, rfl, by rw [HK1.out, HKA.out]; simp [T.split, hna, hnb, T.toS], by rw [HK2.out, HKB.out]; simp [T.split, hna, hnb, T.toS], (HF1'.out.move (fun j hj => hm j ?_ ?_)).mono (fun j hj => ?_), (HF2.out.move (fun j hj => hm j ?_ ?_)).mono (fun j hj => ?_), hI'.below⟩
          all_goals (rcases hj with hj | hj <;> first | omega | (left; exact hj.1) | (right; omega))
      · go_wp2_with fail
        refine (split_calls a ka _ _ HKA.out (HA.out.below HI4.out.below)).mono ?_
        rintro e w5 ⟨p, q, rfl, hp, hq, fp, fq, hb5x⟩
        have HI5x := Lib.hid (HI4.out.step hb5x)
        have HP := Lib.hid hp
        have HQ := Lib.hid hq
        have FP := Lib.hid fp
        have FQ := Lib.hid fq
        clear hb5x hc0 hc1 hx0 hx1 hx2 hx3 hp hq fp fq
        go_wp2_with fail
        obtain ⟨W5, hW5⟩ : ∃ W5, (w5.alloc (.cells #[.bool p.1.f0, .slice p.2.1 p.1.f1.length p.2.2] 24)).alloc (.cells #[.bool q.1.f0, .slice q.2.1 q.1.f1.length q.2.2] 24) = W5 := ⟨_, rfl⟩
        have hb5 : Below w5.heap.size w5 W5 := by rw [← hW5]; exact ((Below.refl _ _).alloc (Nat.le_refl _) _).alloc (by simp) _
        have gp : W5.heap[w5.heap.size]? = some (.cells #[.bool p.1.f0, .slice p.2.1 p.1.f1.length p.2.2] 24 (0, 0)) := by rw [← hW5]; exact blk_alloc (blk_new _ _) _
        have gq : W5.heap[w5.heap.size + 1]? = some (.cells #[.bool q.1.f0, .slice q.2.1 q.1.f1.length q.2.2] 24 (0, 0)) := by
          rw [← hW5]; have := blk_new (w5.alloc (.cells #[.bool p.1.f0, .slice p.2.1 p.1.f1.length p.2.2] 24)) (.cells #[.bool q.1.f0, .slice q.2.1 q.1.f1.length q.2.2] 24); rwa [World.size_alloc] at this
        rw [hW5]
        have HI5 := Lib.hid (HI5x.out.step hb5)
        have HD5 := Lib.hid (HI5.out.step (W' := W5.drew) (Below.refl _ _).drew)
        have FP5 := Lib.hid (FP.out.below (hb5.drew))
        have FQ5 := Lib.hid (FQ.out.below (hb5.drew))
        have GP := Lib.hid gp
        have GQ := Lib.hid gq
        have p0 : W5.drew.cell? ⟨w5.heap.size, 0, none⟩ = some (.bool p.1.f0) := cell0 gp
        have p1 : W5.drew.cell? ⟨w5.heap.size, 1, none⟩ = some (.slice p.2.1 p.1.f1.length p.2.2) := cell1 gp
        have q0 : W5.drew.cell? ⟨w5.heap.size + 1, 0, none⟩ = some (.bool q.1.f0) := cell0 gq
        have q1 : W5.drew.cell? ⟨w5.heap.size + 1, 1, none⟩ = some (.slice q.2.1 q.1.f1.length q.2.2) := cell1 gq
        clear hb5 gp gq hW5
        go_region_with (first
          | (go_at_call 65; refine (pair_calls p (⟨false, []⟩, none, 0) _ _ FP5.out (Ft.leaf _ _ _)).mono ?_; rintro e w6 ⟨k1, rfl, hk1, hf1, hb6⟩; have HI6 := Lib.hid (HD5.out.step hb6); have HK1 := Lib.hid hk1; have HF1 := Lib.hid hf1; have FQ6 := Lib.hid (FQ5.out.below hb6); have q0' := cell0 (blk_below (w := W5.drew) GQ.out hb6); have q1' := cell1 (blk_below (w := W5.drew) GQ.out hb6); clear hk1 hf1 hb6)
          | (go_at_call 65; refine (pair_calls q (⟨false, []⟩, none, 0) _ _ FQ6.out (Ft.leaf _ _ _)).mono ?_; rintro e w7 ⟨k2, rfl, hk2, hf2, hb7⟩; have HI7 := Lib.hid (HI6.out.step hb7); have HK2 := Lib.hid hk2; have HF2 := Lib.hid hf2; have HF1' := Lib.hid (HF1.out.below hb7); have n0 := cell0 HI7.out.one; have n1 := cell0 HI7.out.two; have m0 := cell1 HI7.out.one; have m1 := cell1 HI7.out.two; have f1 := free2 HI7.out.one; have f2 := free2 HI7.out.two; clear hk2 hf2 hb7))
        all_goals go_wp2_with fail
        all_goals
          refine split_out k1 k2 HI7.out rfl rfl ?_
          intro W' hI' hm
          have hz3 := (Array.getElem?_eq_some_iff.1 HI4.out.two).1
          have hz5 := (Array.getElem?_eq_some_iff.1 HD5.out.two).1
          have hz6 := (Array.getElem?_eq_some_iff.1 HI6.out.two).1
          refine ⟨k1, k2, rfl, by rw [HK1.out, HP.out]; simp [T.split, hna, hnb, T.toS], by rw [HK2.out, HQ.out]; simp [T.split, hna, hnb, T.toS], (HF1'.out.move (fun j hj => hm j ?_ ?_)).mono (fun j hj => ?_), (HF2.out.move (fun j hj => hm j ?_ ?_)).mono (fun j hj => ?_), hI'.below⟩
          all_goals (rcases hj with (hj | hj) | hj <;> first | omega | (left; exact hj.1) | (right; omega))
    · go_wp2_with fail
      refine (split_calls b kb _ _ HKB.out (HB.out.below HI3.out.below)).mono ?_
      rintro e w4 ⟨p, q, rfl, hp, hq, fp, fq, hb4⟩
      have HI4 := Lib.hid (HI3.out.step hb4)
      have HP := Lib.hid hp
      have HQ := Lib.hid hq
      have FP := Lib.hid fp
      have FQ := Lib.hid fq
      clear hb4 hc0 hc1 hx2 hx3 hp hq fp fq
      go_wp2_with fail
      obtain ⟨W5, hW5⟩ : ∃ W5, (w4.alloc (.cells #[.bool p.1.f0, .slice p.2.1 p.1.f1.length p.2.2] 24)).alloc (.cells #[.bool q.1.f0, .slice q.2.1 q.1.f1.length q.2.2] 24) = W5 := ⟨_, rfl⟩
      have hb5 : Below w4.heap.size w4 W5 := by rw [← hW5]; exact ((Below.refl _ _).alloc (Nat.le_refl _) _).alloc (by simp) _
      have gp : W5.heap[w4.heap.size]? = some (.cells #[.bool p.1.f0, .slice p.2.1 p.1.f1.length p.2.2] 24 (0, 0)) := by rw [← hW5]; exact blk_alloc (blk_new _ _) _
      have gq : W5.heap[w4.heap.size + 1]? = some (.cells #[.bool q.1.f0, .slice q.2.1 q.1.f1.length q.2.2] 24 (0, 0)) := by
        rw [← hW5]; have := blk_new (w4.alloc (.cells #[.bool p.1.f0, .slice p.2.1 p.1.f1.length p.2.2] 24)) (.cells #[.bool q.1.f0, .slice q.2.1 q.1.f1.length q.2.2] 24); rwa [World.size_alloc] at this
      rw [hW5]
      have HI5 := Lib.hid (HI4.out.step hb5)
      have HD5 := Lib.hid (HI5.out.step (W' := W5.drew) (Below.refl _ _).drew)
      have FP5 := Lib.hid (FP.out.below (hb5.drew))
      have FQ5 := Lib.hid (FQ.out.below (hb5.drew))
      have GP := Lib.hid gp
      have GQ := Lib.hid gq
      have p0 : W5.drew.cell? ⟨w4.heap.size, 0, none⟩ = some (.bool p.1.f0) := cell0 gp
      have p1 : W5.drew.cell? ⟨w4.heap.size, 1, none⟩ = some (.slice p.2.1 p.1.f1.length p.2.2) := cell1 gp
      have q0 : W5.drew.cell? ⟨w4.heap.size + 1, 0, none⟩ = some (.bool q.1.f0) := cell0 gq
      have q1 : W5.drew.cell? ⟨w4.heap.size + 1, 1, none⟩ = some (.slice q.2.1 q.1.f1.length q.2.2) := cell1 gq
      clear hb5 gp gq hW5
      go_region_with (first
        | (go_at_call 65; refine (pair_calls (⟨false, []⟩, none, 0) p _ _ (Ft.leaf _ _ _) FP5.out).mono ?_; rintro e w6 ⟨k1, rfl, hk1, hf1, hb6⟩; have HI6 := Lib.hid (HD5.out.step hb6); have HK1 := Lib.hid hk1; have HF1 := Lib.hid hf1; have FQ6 := Lib.hid (FQ5.out.below hb6); have q0' := cell0 (blk_below (w := W5.drew) GQ.out hb6); have q1' := cell1 (blk_below (w := W5.drew) GQ.out hb6); clear hk1 hf1 hb6)
        | (go_at_call 65; refine (pair_calls (⟨false, []⟩, none, 0) q _ _ (Ft.leaf _ _ _) FQ6.out).mono ?_; rintro e w7 ⟨k2, rfl, hk2, hf2, hb7⟩; have HI7 := Lib.hid (HI6.out.step hb7); have HK2 := Lib.hid hk2; have HF2 := Lib.hid hf2; have HF1' := Lib.hid (HF1.out.below hb7); have n0 := cell0 HI7.out.one; have n1 := cell0 HI7.out.two; have m0 := cell1 HI7.out.one; have m1 := cell1 HI7.out.two; have f1 := free2 HI7.out.one; have f2 := free2 HI7.out.two; clear hk2 hf2 hb7))
      all_goals go_wp2_with fail
      all_goals
        refine split_out k1 k2 HI7.out rfl rfl ?_
        intro W' hI' hm
        have hz3 := (Array.getElem?_eq_some_iff.1 HI3.out.two).1
        have hz5 := (Array.getElem?_eq_some_iff.1 HD5.out.two).1
        have hz6 := (Array.getElem?_eq_some_iff.1 HI6.out.two).1
        refine ⟨k1, k2, rfl, by rw [HK1.out, HP.out]; simp [T.split, hna, T.toS], by rw [HK2.out, HQ.out]; simp [T.split, hna, T.toS], (HF1'.out.move (fun j hj => hm j ?_ ?_)).mono (fun j hj => ?_), (HF2.out.move (fun j hj => hm j ?_ ?_)).mono (fun j hj => ?_), hI'.below⟩
        all_goals (rcases hj with (hj | hj) | hj <;> first | omega | (left; exact hj.1) | (right; omega))
end Go.Proofs.Ytlhaofbncoijfaa.HandF
