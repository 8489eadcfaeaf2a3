/- The walk of the law IdNorms. -/
import Derived.Test.YtlhaofbncoijfaaRefBase
import Derived.Test.YtlhaofbncoijfaaSplit
namespace Go.Proofs.Ytlhaofbncoijfaa.HandF
set_option linter.unusedVariables false
set_option linter.unusedSimpArgs false
open Go.RowKit Go.Proofs.Ytlhaofbncoijfaa.X Go.Proofs.Ytlhaofbncoijfaa.Tree Go.Proofs.Ytlhaofbncoijfaa.Blocks
open Go.Proofs.YtlhaofbncoijfaaW.PrintWords Go.Proofs.YtlhaofbncoijfaaW.PrintLast Go.Proofs.YtlhaofbncoijfaaW.PrintMore
theorem Leaf62 (b : Bool) (w : World) : Calls Try.prog 62 #[.bool b] w fun e w' => e = .returned (.agg #[.bool b, .slice none 0 0]) ∧ Below w.heap.size w w' := by
  have hu24 := Try.underlying24
  have hu22 := Try.underlying22
  have g := blk_new w (.cells #[.bool b, .slice none 0 0] 24)
  go_enter Try.func62, Try.ntmps62
  go_wp2_with fail
  refine bodyPost_ret (results_cell_row rfl _ _ w.heap.size 24 _ (0, 0) _ rfl g hu24 rfl (by kernel_rfl)) rfl ?_
  exact ⟨rfl, (Below.refl _ _).alloc (Nat.le_refl _) _⟩
/-- How it is left. -/
theorem parted_out {w W : World} {k : Kd2} {a b c d : Value} {R : Ending → World → Prop} {tmps : Array Value} (k1 k2 : Kd2) (h : SpI w W k #[a, b] #[c, d])
    (h2 : tmps.getD 2 undef = .pointer (some ⟨w.heap.size + 1, 0, none⟩)) (h3 : tmps.getD 3 undef = .pointer (some ⟨w.heap.size + 1 + 1, 0, none⟩))
    (hR : ∀ W', SpI w W' k #[.bool k1.1.f0, .slice k1.2.1 k1.1.f1.length k1.2.2] #[.bool k2.1.f0, .slice k2.2.1 k2.1.f1.length k2.2.2] → (∀ j, j ≠ w.heap.size + 1 → j ≠ w.heap.size + 1 + 1 → W'.heap[j]? = W.heap[j]?) → R (.returned (.tuple #[kv k1, kv k2])) W') :
    bodyPost Try.prog Try.f40 R .ret { tmps := tmps, defers := [] } ((((W.setCell ⟨w.heap.size + 1, 0, none⟩ (.bool k1.1.f0)).setCell ⟨w.heap.size + 1, 1, none⟩ (.slice k1.2.1 k1.1.f1.length k1.2.2)).setCell ⟨w.heap.size + 1 + 1, 0, none⟩ (.bool k2.1.f0)).setCell ⟨w.heap.size + 1 + 1, 1, none⟩ (.slice k2.2.1 k2.1.f1.length k2.2.2)) := by
  have hs := h.store (x := .bool k1.1.f0) (y := .slice k1.2.1 k1.1.f1.length k1.2.2) (z := .bool k2.1.f0) (u := .slice k2.2.1 k2.1.f1.length k2.2.2)
  refine bodyPost_ret (results_cc rfl _ _ (w.heap.size + 1) (w.heap.size + 1 + 1) 24 24 _ _ (0, 0) (0, 0) _ _ h2 hs.one Try.underlying24 rfl (by kernel_rfl) h3 hs.two Try.underlying24 rfl (by kernel_rfl)) rfl ?_
  refine hR _ hs (fun j h1 h2 => ?_)
  rw [set_other (by simpa using h2), set_other (by simpa using h2), set_other (by simpa using h1), set_other (by simpa using h1)]
theorem SpI.mk0 (w : World) (k : Kd2) : SpI w (((w.alloc (.cells #[.bool k.1.f0, .slice k.2.1 k.1.f1.length k.2.2] 24)).alloc (.cells #[.bool false, .slice none 0 0] 24)).alloc (.cells #[.bool false, .slice none 0 0] 24)) k #[.bool false, .slice none 0 0] #[.bool false, .slice none 0 0] := by
  refine ⟨(((Below.refl _ _).alloc (Nat.le_refl _) _).alloc (by simp) _).alloc (by simp; omega) _, blk_alloc (blk_alloc (blk_new _ _) _) _, blk_alloc ?_ _, ?_⟩
  · have := blk_new (w.alloc (.cells #[.bool k.1.f0, .slice k.2.1 k.1.f1.length k.2.2] 24)) (.cells #[.bool false, .slice none 0 0] 24)
    rwa [World.size_alloc] at this
  · have := blk_new ((w.alloc (.cells #[.bool k.1.f0, .slice k.2.1 k.1.f1.length k.2.2] 24)).alloc (.cells #[.bool false, .slice none 0 0] 24)) (.cells #[.bool false, .slice none 0 0] 24)
    rwa [World.size_alloc, World.size_alloc] at this

set_option maxRecDepth 100000 in
set_option maxHeartbeats 40000000 in
theorem parted_leaf (b : Bool) (k : Kd2) (w : World) (ok : Nat → Prop) (hk : k.1 = (T.leaf b).toS) (h : Ft w ok k) :
    Calls Try.prog 40 #[kv k] w fun e w' => ∃ k1 k2 : Kd2, e = .returned (.tuple #[kv k1, kv k2]) ∧ k1.1 = (T.leaf b).split.1.toS ∧ k2.1 = (T.leaf b).split.2.toS ∧ Ft w' (fun j => ok j ∨ w.heap.size ≤ j) k1 ∧ Ft w' (fun j => ok j ∨ w.heap.size ≤ j) k2 ∧ Below w.heap.size w w' := by
  obtain ⟨⟨o, l⟩, A, c⟩ := k
  simp only [T.toS, S24.mk.injEq] at hk
  obtain ⟨rfl, rfl⟩ := hk
  have h0 := SpI.mk0 w (⟨o, []⟩, A, c)
  obtain ⟨W0, hW0⟩ : ∃ W0, ((w.alloc (.cells #[.bool o, .slice A 0 c] 24)).alloc (.cells #[.bool false, .slice none 0 0] 24)).alloc (.cells #[.bool false, .slice none 0 0] 24) = W0 := ⟨_, rfl⟩
  have h1 : SpI w W0 (⟨o, []⟩, A, c) #[.bool false, .slice none 0 0] #[.bool false, .slice none 0 0] := by rw [← hW0]; exact h0
  have HI := Lib.hid h1
  have HF := Lib.hid h
  clear h0 h1 h
  have hu24 := Try.underlying24
  have hu22 := Try.underlying22
  have t0 : W0.cell? ⟨w.heap.size, 0, none⟩ = some (.bool o) := cell0 HI.out.tree
  have t1 : W0.cell? ⟨w.heap.size, 1, none⟩ = some (.slice A 0 c) := cell1 HI.out.tree
  have n0 := cell0 HI.out.one
  have n1 := cell0 HI.out.two
  have m0 := cell1 HI.out.one
  have m1 := cell1 HI.out.two
  have f1 := free2 HI.out.one
  have f2 := free2 HI.out.two
  cases o
  · go_enter Try.func40, Try.ntmps40
    go_wp2_with fail
    have t0' : W0.drew.cell? ⟨w.heap.size, 0, none⟩ = some (.bool false) := t0
    have t1' : W0.drew.cell? ⟨w.heap.size, 1, none⟩ = some (.slice A 0 c) := t1
    have n0' : W0.drew.cell? ⟨w.heap.size + 1, 0, none⟩ = some (.bool false) := n0
    have n1' : W0.drew.cell? ⟨w.heap.size + 1 + 1, 0, none⟩ = some (.bool false) := n1
    have m0' : W0.drew.cell? ⟨w.heap.size + 1, 1, none⟩ = some (.slice none 0 0) := m0
    have m1' : W0.drew.cell? ⟨w.heap.size + 1 + 1, 1, none⟩ = some (.slice none 0 0) := m1
    have f1' : ∀ o, W0.drew.frozen? ⟨w.heap.size + 1, o, none⟩ = false := f1
    have f2' : ∀ o, W0.drew.frozen? ⟨w.heap.size + 1 + 1, o, none⟩ = false := f2
    go_region_with (first | fail)
    all_goals
      go_wp2_with fail
      refine parted_out (⟨false, []⟩, A, c) (⟨false, []⟩, A, c) (HI.out.step (W' := W0.drew) (Below.refl _ _).drew) rfl rfl ?_
      intro W' hI' hm
      exact ⟨(⟨false, []⟩, A, c), (⟨false, []⟩, A, c), rfl, rfl, rfl, (HF.out.below hI'.below).mono (fun j hj => .inl hj), (HF.out.below hI'.below).mono (fun j hj => .inl hj), hI'.below⟩
  · go_enter Try.func40, Try.ntmps40
    clear n0 n1 m0 m1 f1 f2
    go_wp2_with fail
    refine (Leaf62 true _).mono ?_
    rintro e w1 ⟨rfl, hb1⟩
    have HI1 := Lib.hid (HI.out.step hb1)
    clear hb1 t0 t1
    go_wp2_with fail
    refine (Leaf62 false _).mono ?_
    rintro e w2 ⟨rfl, hb2⟩
    have HI2 := Lib.hid (HI1.out.step hb2)
    clear hb2
    go_wp2_with fail
    obtain ⟨W3, hW3⟩ : ∃ W3, w2.alloc (.cells #[.bool true, .slice none 0 0, .bool false, .slice none 0 0] 24) = W3 := ⟨_, rfl⟩
    have hb3 : Below w2.heap.size w2 W3 := by rw [← hW3]; exact (Below.refl _ _).alloc (Nat.le_refl _) _
    have g3 := blk_new w2 (.cells #[.bool true, .slice none 0 0, .bool false, .slice none 0 0] 24)
    rw [hW3] at g3 ⊢
    have HI3 := Lib.hid (HI2.out.step hb3)
    have G3 := Lib.hid g3
    clear g3 hW3 hb3
    refine (Leaf62 false _).mono ?_
    rintro e w4 ⟨rfl, hb4⟩
    have HI4 := Lib.hid (HI3.out.step hb4)
    have G4 := Lib.hid (blk_below G3.out hb4)
    clear hb4
    go_wp2_with fail
    refine (Leaf62 true _).mono ?_
    rintro e w5 ⟨rfl, hb5⟩
    have hI5 := HI4.out.step hb5
    have HI5 := Lib.hid (hI5.step ((Below.refl _ _).alloc (Nat.le_refl _) (.cells #[.bool false, .slice none 0 0, .bool true, .slice none 0 0] 24)))
    have G5 := Lib.hid (blk_alloc (blk_below G4.out hb5) (.cells #[.bool false, .slice none 0 0, .bool true, .slice none 0 0] 24))
    have G6 := Lib.hid (blk_new w5 (.cells #[.bool false, .slice none 0 0, .bool true, .slice none 0 0] 24))
    have n0 := cell0 HI5.out.one
    have n1 := cell0 HI5.out.two
    have m0 := cell1 HI5.out.one
    have m1 := cell1 HI5.out.two
    have f1 := free2 HI5.out.one
    have f2 := free2 HI5.out.two
    have L2 := Lib.hid (Array.getElem?_eq_some_iff.1 HI2.out.two).1
    have L5 := Lib.hid (Array.getElem?_eq_some_iff.1 hI5.two).1
    clear hb5 hI5
    go_wp2_with fail
    refine parted_out (⟨false, [⟨true, []⟩, ⟨false, []⟩]⟩, some ⟨w2.heap.size, 0, none⟩, 2) (⟨false, [⟨false, []⟩, ⟨true, []⟩]⟩, some ⟨w5.heap.size, 0, none⟩, 2) HI5.out rfl rfl ?_
    intro W' hI' hm
    have q1 := (hm w2.heap.size (by have := L2.out; omega) (by have := L2.out; omega)).trans G5.out
    have q2 := (hm w5.heap.size (by have := L5.out; omega) (by have := L5.out; omega)).trans G6.out
    refine ⟨_, _, rfl, rfl, rfl, ?_, ?_, hI'.below⟩
    · exact Ft.two (ka := (⟨true, []⟩, none, 0)) (kb := (⟨false, []⟩, none, 0)) (Ft.leaf _ _ _) (Ft.leaf _ _ _) (.inr (by have := L2.out; omega)) false q1
    · exact Ft.two (ka := (⟨false, []⟩, none, 0)) (kb := (⟨true, []⟩, none, 0)) (Ft.leaf _ _ _) (Ft.leaf _ _ _) (.inr (by have := L5.out; omega)) false q2
end Go.Proofs.Ytlhaofbncoijfaa.HandF
namespace Go.Proofs.Ytlhaofbncoijfaa.HandF
set_option linter.unusedVariables false
set_option linter.unusedSimpArgs false
open Go.RowKit Go.Proofs.Ytlhaofbncoijfaa.X Go.Proofs.Ytlhaofbncoijfaa.Tree Go.Proofs.Ytlhaofbncoijfaa.Blocks
open Go.Proofs.YtlhaofbncoijfaaW.PrintWords Go.Proofs.YtlhaofbncoijfaaW.PrintLast Go.Proofs.YtlhaofbncoijfaaW.PrintMore
/-- What lies while the two parts are built: the outs, and the boxes of the two halves. -/
def PaI (w W : World) (k : Kd2) (g : Nat) (p q : Kd2) : Prop := ∃ c1 c2, SpI w W k c1 c2 ∧ W.heap[g]? = some (.cells #[.bool p.1.f0, .slice p.2.1 p.1.f1.length p.2.2] 24 (0, 0)) ∧ W.heap[g + 1]? = some (.cells #[.bool q.1.f0, .slice q.2.1 q.1.f1.length q.2.2] 24 (0, 0)) ∧ w.heap.size + 1 + 1 < g
@[reducible] def PaC (W : World) (g : Nat) (p q : Kd2) : Prop := W.cell? ⟨g, 0, none⟩ = some (.bool p.1.f0) ∧ W.cell? ⟨g, 1, none⟩ = some (.slice p.2.1 p.1.f1.length p.2.2) ∧ W.cell? ⟨g + 1, 0, none⟩ = some (.bool q.1.f0) ∧ W.cell? ⟨g + 1, 1, none⟩ = some (.slice q.2.1 q.1.f1.length q.2.2)
theorem PaI.cells {w W : World} {k : Kd2} {g : Nat} {p q : Kd2} (h : PaI w W k g p q) : PaC W g p q := by
  obtain ⟨_, _, _, h1, h2, _⟩ := h
  exact ⟨cell0 h1, cell1 h1, cell0 h2, cell1 h2⟩
theorem PaI.step {w W W' : World} {k : Kd2} {g : Nat} {p q : Kd2} (h : PaI w W k g p q) (hb : Below W.heap.size W W') : PaI w W' k g p q := by
  obtain ⟨c1, c2, h0, h1, h2, h3⟩ := h
  exact ⟨c1, c2, h0.step hb, blk_below h1 hb, blk_below h2 hb, h3⟩
theorem PaI.alloc {w W : World} {k : Kd2} {g : Nat} {p q : Kd2} {ob : Obj} (h : PaI w W k g p q) : PaI w (W.alloc ob) k g p q := h.step ((Below.refl _ _).alloc (Nat.le_refl _) _)
theorem PaI.far1 {w W : World} {k : Kd2} {g : Nat} {p q : Kd2} {o : Nat} {u : Value} (h : PaI w W k g p q) : PaI w (W.setCell ⟨w.heap.size + 1, o, none⟩ u) k g p q := by
  obtain ⟨c1, c2, h0, h1, h2, h3⟩ := h
  obtain ⟨c', h'⟩ := h0.far1 o u
  exact ⟨c', c2, h', (set_other (by show g ≠ w.heap.size + 1; omega)).trans h1, (set_other (by show g + 1 ≠ w.heap.size + 1; omega)).trans h2, h3⟩
theorem PaI.far2 {w W : World} {k : Kd2} {g : Nat} {p q : Kd2} {o : Nat} {u : Value} (h : PaI w W k g p q) : PaI w (W.setCell ⟨w.heap.size + 1 + 1, o, none⟩ u) k g p q := by
  obtain ⟨c1, c2, h0, h1, h2, h3⟩ := h
  obtain ⟨c', h'⟩ := h0.far2 o u
  exact ⟨c1, c', h', (set_other (by show g ≠ w.heap.size + 1 + 1; omega)).trans h1, (set_other (by show g + 1 ≠ w.heap.size + 1 + 1; omega)).trans h2, h3⟩
/-- A tree's value tells whether it is nothing. -/
theorem none_bits (a : T) (ka : Kd2) (h : ka.1 = a.toS) : (((ka.1.f1.length : Int) == 0) && !ka.1.f0) = a.isNone := by
  rw [h]
  cases a with
  | leaf b => cases b <;> rfl
  | node c d => rfl
/-- The outs while they are empty, in the worlds of a region that makes two rows and stores the first out. -/
theorem SpI.outs {w W : World} {k : Kd2} (h : SpI w W k #[.bool false, .slice none 0 0] #[.bool false, .slice none 0 0]) :
    (∀ o1, SpI w (W.alloc o1) k #[.bool false, .slice none 0 0] #[.bool false, .slice none 0 0]) ∧
    (∀ o1 o2, SpI w ((W.alloc o1).alloc o2) k #[.bool false, .slice none 0 0] #[.bool false, .slice none 0 0]) ∧
    (∀ u u' o2, (((W.setCell ⟨w.heap.size + 1, 0, none⟩ u).setCell ⟨w.heap.size + 1, 1, none⟩ u').alloc o2).heap[w.heap.size + 1 + 1]? = some (.cells #[.bool false, .slice none 0 0] 24 (0, 0))) ∧
    (∀ o1 u u' o2, ((((W.alloc o1).setCell ⟨w.heap.size + 1, 0, none⟩ u).setCell ⟨w.heap.size + 1, 1, none⟩ u').alloc o2).heap[w.heap.size + 1 + 1]? = some (.cells #[.bool false, .slice none 0 0] 24 (0, 0))) := by
  have ga : ∀ o1, SpI w (W.alloc o1) k #[.bool false, .slice none 0 0] #[.bool false, .slice none 0 0] := fun o1 => h.step ((Below.refl _ _).alloc (Nat.le_refl _) o1)
  refine ⟨ga, fun o1 o2 => (ga o1).step ((Below.refl _ _).alloc (Nat.le_refl _) o2), fun u u' o2 => ?_, fun o1 u u' o2 => ?_⟩
  · exact blk_alloc ((set_other (by show w.heap.size + 1 + 1 ≠ w.heap.size + 1; omega)).trans ((set_other (by show w.heap.size + 1 + 1 ≠ w.heap.size + 1; omega)).trans h.two)) o2
  · exact blk_alloc ((set_other (by show w.heap.size + 1 + 1 ≠ w.heap.size + 1; omega)).trans ((set_other (by show w.heap.size + 1 + 1 ≠ w.heap.size + 1; omega)).trans (ga o1).two)) o2
theorem SpI.al {w W : World} {k : Kd2} {c1 c2 : Array Value} {ob : Obj} (h : SpI w W k c1 c2) : SpI w (W.alloc ob) k c1 c2 := h.step ((Below.refl _ _).alloc (Nat.le_refl _) _)
theorem SpI.set1 {w W : World} {k : Kd2} {x y : Value} {c2 : Array Value} (h : SpI w W k #[.bool false, .slice none 0 0] c2) : SpI w ((W.setCell ⟨w.heap.size + 1, 0, none⟩ x).setCell ⟨w.heap.size + 1, 1, none⟩ y) k #[x, y] c2 := by
  have o : ∀ (W : World) (j g o : Nat) (u : Value), j ≠ g → (W.setCell ⟨g, o, none⟩ u).heap[j]? = W.heap[j]? := fun W j g o u hne => set_other (by simpa using hne)
  refine ⟨(h.below.setCell (Nat.le_succ _) _).setCell (Nat.le_succ _) _, ?_, Blocks.set1 (set0 h.one), ?_⟩
  · rw [o _ _ _ _ _ (by omega), o _ _ _ _ _ (by omega)]; exact h.tree
  · rw [o _ _ _ _ _ (by omega), o _ _ _ _ _ (by omega)]; exact h.two
theorem SpI.set2 {w W : World} {k : Kd2} {x y : Value} {c1 : Array Value} (h : SpI w W k c1 #[.bool false, .slice none 0 0]) : SpI w ((W.setCell ⟨w.heap.size + 1 + 1, 0, none⟩ x).setCell ⟨w.heap.size + 1 + 1, 1, none⟩ y) k c1 #[x, y] := by
  have o : ∀ (W : World) (j g o : Nat) (u : Value), j ≠ g → (W.setCell ⟨g, o, none⟩ u).heap[j]? = W.heap[j]? := fun W j g o u hne => set_other (by simpa using hne)
  refine ⟨(h.below.setCell (Nat.le_trans (Nat.le_succ _) (Nat.le_succ _)) _).setCell (Nat.le_trans (Nat.le_succ _) (Nat.le_succ _)) _, ?_, ?_, Blocks.set1 (set0 h.two)⟩
  · rw [o _ _ _ _ _ (by omega), o _ _ _ _ _ (by omega)]; exact h.tree
  · rw [o _ _ _ _ _ (by omega), o _ _ _ _ _ (by omega)]; exact h.one
/-- As it was, but for the outs and what is new. -/
structure Nx (w W W' : World) : Prop where
  size : W.heap.size ≤ W'.heap.size
  same : ∀ j, j < W.heap.size → j ≠ w.heap.size + 1 → j ≠ w.heap.size + 1 + 1 → W'.heap[j]? = W.heap[j]?
theorem Nx.refl (w W : World) : Nx w W W := ⟨Nat.le_refl _, fun _ _ _ _ => rfl⟩
theorem Nx.below {w W W' W'' : World} (h : Nx w W W') (hb : Below W'.heap.size W' W'') : Nx w W W'' :=
  ⟨Nat.le_trans h.size hb.size, fun j h0 h1 h2 => by
    rw [← h.same j h0 h1 h2]
    obtain ⟨b, hbb⟩ : ∃ b, W'.heap[j]? = some b := ⟨W'.heap[j]'(Nat.lt_of_lt_of_le h0 h.size), Array.getElem?_eq_getElem _⟩
    exact (blk_below hbb hb).trans hbb.symm⟩
theorem Nx.al {w W W' : World} {ob : Obj} (h : Nx w W W') : Nx w W (W'.alloc ob) := h.below ((Below.refl _ _).alloc (Nat.le_refl _) _)
theorem Nx.set1 {w W W' : World} {o : Nat} {u : Value} (h : Nx w W W') : Nx w W (W'.setCell ⟨w.heap.size + 1, o, none⟩ u) :=
  ⟨by rw [World.size_setCell]; exact h.size, fun j h0 h1 h2 => (set_other (by simpa using h1)).trans (h.same j h0 h1 h2)⟩
theorem Nx.set2 {w W W' : World} {o : Nat} {u : Value} (h : Nx w W W') : Nx w W (W'.setCell ⟨w.heap.size + 1 + 1, o, none⟩ u) :=
  ⟨by rw [World.size_setCell]; exact h.size, fun j h0 h1 h2 => (set_other (by simpa using h2)).trans (h.same j h0 h1 h2)⟩
theorem Ft.nx {w W W' : World} {ok : Nat → Prop} {k : Kd2} (h : Ft W ok k) (hn : Nx w W W') (ho : ∀ j, ok j → j ≠ w.heap.size + 1 ∧ j ≠ w.heap.size + 1 + 1) : Ft W' ok k :=
  (h.bound.move (fun j hj => hn.same j hj.2 (ho j hj.1).1 (ho j hj.1).2)).mono (fun _ hj => hj.1)
/-- The blocks of new rows. -/
theorem row_set1 {W : World} {j o : Nat} {u : Value} {b : Obj} (w : World) (hj : w.heap.size + 1 + 1 < j) (h : W.heap[j]? = some b) : (W.setCell ⟨w.heap.size + 1, o, none⟩ u).heap[j]? = some b :=
  (set_other (by show j ≠ w.heap.size + 1; omega)).trans h
theorem row_set2 {W : World} {j o : Nat} {u : Value} {b : Obj} (w : World) (hj : w.heap.size + 1 + 1 < j) (h : W.heap[j]? = some b) : (W.setCell ⟨w.heap.size + 1 + 1, o, none⟩ u).heap[j]? = some b :=
  (set_other (by show j ≠ w.heap.size + 1 + 1; omega)).trans h
theorem row_new {W : World} {j : Nat} {b : Obj} (hj : W.heap.size = j) : (W.alloc b).heap[j]? = some b := by rw [← hj]; exact blk_new _ _
/-- How it is left, with two new rows. -/
theorem parted_fin {w Wf : World} {k : Kd2} {ok : Nat → Prop} {g1 g2 : Nat} {R : Ending → World → Prop} {tmps : Array Value} (x1 y1 x2 y2 : Kd2)
    (h : SpI w Wf k #[.bool false, .slice (some ⟨g1, 0, none⟩) 2 2] #[.bool false, .slice (some ⟨g2, 0, none⟩) 2 2])
    (h2 : tmps.getD 2 undef = .pointer (some ⟨w.heap.size + 1, 0, none⟩)) (h3 : tmps.getD 3 undef = .pointer (some ⟨w.heap.size + 1 + 1, 0, none⟩))
    (r1 : Wf.heap[g1]? = some (.cells #[.bool x1.1.f0, .slice x1.2.1 x1.1.f1.length x1.2.2, .bool y1.1.f0, .slice y1.2.1 y1.1.f1.length y1.2.2] 24 (0, 0)))
    (r2 : Wf.heap[g2]? = some (.cells #[.bool x2.1.f0, .slice x2.2.1 x2.1.f1.length x2.2.2, .bool y2.1.f0, .slice y2.2.1 y2.1.f1.length y2.2.2] 24 (0, 0)))
    (hg1 : ok g1) (hg2 : ok g2) (fx1 : Ft Wf ok x1) (fy1 : Ft Wf ok y1) (fx2 : Ft Wf ok x2) (fy2 : Ft Wf ok y2)
    (hR : ∀ k1 k2 : Kd2, k1.1 = ⟨false, [x1.1, y1.1]⟩ → k2.1 = ⟨false, [x2.1, y2.1]⟩ → Ft Wf ok k1 → Ft Wf ok k2 → Below w.heap.size w Wf → R (.returned (.tuple #[kv k1, kv k2])) Wf) :
    bodyPost Try.prog Try.f40 R .ret { tmps := tmps, defers := [] } Wf := by
  refine bodyPost_ret (results_cc rfl _ _ (w.heap.size + 1) (w.heap.size + 1 + 1) 24 24 _ _ (0, 0) (0, 0) _ _ h2 h.one Try.underlying24 rfl (by kernel_rfl) h3 h.two Try.underlying24 rfl (by kernel_rfl)) rfl ?_
  exact hR (⟨false, [x1.1, y1.1]⟩, some ⟨g1, 0, none⟩, 2) (⟨false, [x2.1, y2.1]⟩, some ⟨g2, 0, none⟩, 2) rfl rfl (Ft.two fx1 fy1 hg1 false r1) (Ft.two fx2 fy2 hg2 false r2) h.below
set_option maxRecDepth 100000 in
set_option maxHeartbeats 40000000 in
theorem parted_none (a b : T) (k : Kd2) (w : World) (ok : Nat → Prop) (hk : k.1 = (T.node a b).toS) (h : Ft w ok k) (hna : a.isNone = true)
    (ih : ∀ (k : Kd2) (w : World) (ok : Nat → Prop), k.1 = b.toS → Ft w ok k → Calls Try.prog 40 #[kv k] w fun e w' => ∃ k1 k2 : Kd2, e = .returned (.tuple #[kv k1, kv k2]) ∧ k1.1 = b.split.1.toS ∧ k2.1 = b.split.2.toS ∧ Ft w' (fun j => ok j ∨ w.heap.size ≤ j) k1 ∧ Ft w' (fun j => ok j ∨ w.heap.size ≤ j) k2 ∧ Below w.heap.size w w') :
    Calls Try.prog 40 #[kv k] w fun e w' => ∃ k1 k2 : Kd2, e = .returned (.tuple #[kv k1, kv k2]) ∧ k1.1 = (T.node a b).split.1.toS ∧ k2.1 = (T.node a b).split.2.toS ∧ Ft w' (fun j => ok j ∨ w.heap.size ≤ j) k1 ∧ Ft w' (fun j => ok j ∨ w.heap.size ≤ j) k2 ∧ Below w.heap.size w w' := by
  obtain ⟨ad, ka, kb, hA, hka, hkb, ha, hb, x0, x1, x2, x3⟩ := h.bound.kids hk
  obtain ⟨s, A, c⟩ := k
  dsimp only at hk hA
  subst hA
  obtain rfl : s = ⟨false, [a.toS, b.toS]⟩ := hk
  have h0 := SpI.mk0 w (⟨false, [a.toS, b.toS]⟩, some ad, c)
  obtain ⟨W0, hW0⟩ : ∃ W0, ((w.alloc (.cells #[.bool false, .slice (some ad) 2 c] 24)).alloc (.cells #[.bool false, .slice none 0 0] 24)).alloc (.cells #[.bool false, .slice none 0 0] 24) = W0 := ⟨_, rfl⟩
  have h1 : SpI w W0 (⟨false, [a.toS, b.toS]⟩, some ad, c) #[.bool false, .slice none 0 0] #[.bool false, .slice none 0 0] := by rw [← hW0]; exact h0
  have HI := Lib.hid h1
  have HKA := Lib.hid hka
  have HKB := Lib.hid hkb
  have HFA := Lib.hid (ha.below h1.below)
  have HFB := Lib.hid (hb.below h1.below)
  have IH := Lib.hid ih
  have ea := none_bits a ka hka
  have eb := none_bits b kb hkb
  rw [hna] at ea
  clear eb
  have y0 := kcell h1.below x0
  have y1 := kcell h1.below x1
  have y2 := kcell h1.below x2
  have y3 := kcell h1.below x3
  clear h0 h1 h ha hb hkb hka x0 x1 x2 x3 ih
  have hu24 := Try.underlying24
  have hu22 := Try.underlying22
  have t0 : W0.cell? ⟨w.heap.size, 0, none⟩ = some (.bool false) := cell0 HI.out.tree
  have t1 : W0.cell? ⟨w.heap.size, 1, none⟩ = some (.slice (some ad) 2 c) := cell1 HI.out.tree
  obtain ⟨W1, hW1⟩ : ∃ W1, W0.alloc (.cells #[.bool ka.1.f0, .slice ka.2.1 ka.1.f1.length ka.2.2] 24) = W1 := ⟨_, rfl⟩
  obtain ⟨W2, hW2⟩ : ∃ W2, W1.alloc (.cells #[.bool kb.1.f0, .slice kb.2.1 kb.1.f1.length kb.2.2] 24) = W2 := ⟨_, rfl⟩
  have hs1 : W1.heap.size = W0.heap.size + 1 := by rw [← hW1]; exact World.size_alloc _ _
  have hb1 : Below W0.heap.size W0 W1 := by rw [← hW1]; exact (Below.refl _ _).alloc (Nat.le_refl _) _
  have hb2 : Below W1.heap.size W1 W2 := by rw [← hW2]; exact (Below.refl _ _).alloc (Nat.le_refl _) _
  have g1 : W1.heap[W0.heap.size]? = some (.cells #[.bool ka.1.f0, .slice ka.2.1 ka.1.f1.length ka.2.2] 24 (0, 0)) := by rw [← hW1]; exact blk_new _ _
  have g2 : W2.heap[W0.heap.size + 1]? = some (.cells #[.bool kb.1.f0, .slice kb.2.1 kb.1.f1.length kb.2.2] 24 (0, 0)) := by rw [← hs1, ← hW2]; exact blk_new _ _
  have g1' := blk_below g1 hb2
  have HI1 := Lib.hid (HI.out.step hb1)
  have HI2 := Lib.hid (HI1.out.step hb2)
  have HFA2 := Lib.hid ((HFA.out.below hb1).below hb2)
  have HFB2 := Lib.hid ((HFB.out.below hb1).below hb2)
  have s1 : W1.cell? ⟨w.heap.size, 1, none⟩ = some (.slice (some ad) 2 c) := cell1 HI1.out.tree
  have z2 := kcell hb1 y2
  have z3 := kcell hb1 y3
  have u0 := cell0 g1'
  have u1 := cell1 g1'
  have v0 := cell0 g2
  have v1 := cell1 g2
  have G1 := Lib.hid g1'
  have G2 := Lib.hid g2
  clear g1 g1' g2 hb1 hb2
  show Calls Try.prog 40 #[.agg #[.bool false, .slice (some ad) 2 c]] w _
  obtain ⟨ea1, ea2⟩ : ((ka.1.f1.length : Int) == 0) = true ∧ (!ka.1.f0) = true := by simpa using ea
  clear ea
  go_enter Try.func40, Try.ntmps40
  go_wp2_with fail
  refine (IH.out kb W2 _ HKB.out HFB2.out).mono ?_
  rintro e w3 ⟨p, q, rfl, hp, hq, fp, fq, hb3⟩
  have HP := Lib.hid hp
  have HQ := Lib.hid hq
  have HI3 := Lib.hid (HI2.out.step hb3)
  obtain ⟨W5, hW5⟩ : ∃ W5, (w3.alloc (.cells #[.bool p.1.f0, .slice p.2.1 p.1.f1.length p.2.2] 24)).alloc (.cells #[.bool q.1.f0, .slice q.2.1 q.1.f1.length q.2.2] 24) = W5 := ⟨_, rfl⟩
  have hb5 : Below w3.heap.size w3 W5 := by rw [← hW5]; exact ((Below.refl _ _).alloc (Nat.le_refl _) _).alloc (by simp) _
  have gp : W5.heap[w3.heap.size]? = some (.cells #[.bool p.1.f0, .slice p.2.1 p.1.f1.length p.2.2] 24 (0, 0)) := by rw [← hW5]; exact blk_alloc (blk_new _ _) _
  have gq : W5.heap[w3.heap.size + 1]? = some (.cells #[.bool q.1.f0, .slice q.2.1 q.1.f1.length q.2.2] 24 (0, 0)) := by
    rw [← hW5]; have := blk_new (w3.alloc (.cells #[.bool p.1.f0, .slice p.2.1 p.1.f1.length p.2.2] 24)) (.cells #[.bool q.1.f0, .slice q.2.1 q.1.f1.length q.2.2] 24); rwa [World.size_alloc] at this
  have HI5 := Lib.hid (HI3.out.step hb5)
  have FP := Lib.hid (fp.below hb5)
  have FQ := Lib.hid (fq.below hb5)
  have GP := Lib.hid gp
  have GQ := Lib.hid gq
  clear hp hq fp fq hb3 hb5 gp gq s1 z2 z3 u0 u1 v0 v1 t0 t1 y0 y1 y2 y3
  go_wp2_with fail
  have hQ5 : PaI w W5.drew (⟨false, [a.toS, b.toS]⟩, some ad, c) w3.heap.size p q := ⟨_, _, HI5.out.step (W' := W5.drew) (Below.refl _ _).drew, GP.out, GQ.out, by have := (Array.getElem?_eq_some_iff.1 HI3.out.two).1; omega⟩
  have Q5 := Lib.hid hQ5
  have FP5 : Hid (Ft W5.drew _ p) := Lib.hid (FP.out.below (W' := W5.drew) (Below.refl _ _).drew)
  have FQ5 : Hid (Ft W5.drew _ q) := Lib.hid (FQ.out.below (W' := W5.drew) (Below.refl _ _).drew)
  have HID5 := Lib.hid (HI5.out.step (W' := W5.drew) (Below.refl _ _).drew)
  clear hQ5 hW5
  go_region_held3 (fun W => PaC W w3.heap.size p q)
    ((refine PaI.cells (w := w) (k := (⟨false, [a.toS, b.toS]⟩, some ad, c)) ?_; (with_reducible repeat (first | exact Q5.out | exact Q6.out | exact Q7.out | refine PaI.alloc ?_ | refine PaI.far1 ?_ | refine PaI.far2 ?_))))
    (first
      | (go_at_call 62; (with_reducible refine (Leaf62 false _).mono ?_); rintro e w7 ⟨rfl, hb7⟩; have Q7 : Hid (PaI w w7 (⟨false, [a.toS, b.toS]⟩, some ad, c) w3.heap.size p q) := Lib.hid (by with_reducible first | exact Q6.out.step hb7 | exact (PaI.alloc Q6.out).step hb7); have HI7 : Hid (SpI w w7 (⟨false, [a.toS, b.toS]⟩, some ad, c) #[.bool false, .slice none 0 0] #[.bool false, .slice none 0 0]) := Lib.hid (by with_reducible first | exact HI6.out.step hb7 | exact (HI6.out.step ((Below.refl _ _).alloc (Nat.le_refl _) _)).step hb7); have NX7 : Hid (Nx w W5.drew w7) := Lib.hid (by with_reducible first | exact NX6.out.below hb7 | exact (Nx.al NX6.out).below hb7); (try have ROW := Lib.hid (blk_below (blk_new w6 (.cells #[.bool false, .slice none 0 0, .bool p.1.f0, .slice p.2.1 p.1.f1.length p.2.2] 24)) hb7)); obtain ⟨ga, gb, gr, gs⟩ := SpI.outs HI7.out; have n0 := cell0 HI7.out.one; have m0 := cell1 HI7.out.one; have f1 := free2 HI7.out.one; have n1 := cell0 HI7.out.two; have m1 := cell1 HI7.out.two; have f2 := free2 HI7.out.two; have n0a := (fun o1 => cell0 (ga o1).one); have m0a := (fun o1 => cell1 (ga o1).one); have f1a := (fun o1 => free2 (ga o1).one); have n1a := (fun o1 => cell0 (ga o1).two); have m1a := (fun o1 => cell1 (ga o1).two); have f2a := (fun o1 => free2 (ga o1).two); have n0b := (fun o1 o2 => cell0 (gb o1 o2).one); have m0b := (fun o1 o2 => cell1 (gb o1 o2).one); have f1b := (fun o1 o2 => free2 (gb o1 o2).one); have n1b := (fun o1 o2 => cell0 (gb o1 o2).two); have m1b := (fun o1 o2 => cell1 (gb o1 o2).two); have f2b := (fun o1 o2 => free2 (gb o1 o2).two); have n1r := (fun u u' o2 => cell0 (gr u u' o2)); have m1r := (fun u u' o2 => cell1 (gr u u' o2)); have f2r := (fun u u' o2 => free2 (gr u u' o2)); have n1s := (fun o1 u u' o2 => cell0 (gs o1 u u' o2)); have m1s := (fun o1 u u' o2 => cell1 (gs o1 u u' o2)); have f2s := (fun o1 u u' o2 => free2 (gs o1 u u' o2)); clear ga gb gr gs hb7)
      | (go_at_call 62; (with_reducible refine (Leaf62 false _).mono ?_); rintro e w6 ⟨rfl, hb6⟩; have Q6 := Lib.hid (Q5.out.step hb6); have HI6 := Lib.hid (HID5.out.step hb6); have NX6 := Lib.hid ((Nx.refl w W5.drew).below hb6); clear hb6))
  all_goals
    have LT6 := Lib.hid (Array.getElem?_eq_some_iff.1 HI6.out.two).1
    have LT7 := Lib.hid (Array.getElem?_eq_some_iff.1 HI7.out.two).1
    have LT5 := Lib.hid (Array.getElem?_eq_some_iff.1 HI2.out.two).1
    go_wp2_with fail
    have l5 := LT5.out
    have l6 := LT6.out
    have l7 := LT7.out
    refine' parted_fin (k := (⟨false, [a.toS, b.toS]⟩, some ad, c)) (g1 := _) (g2 := _) (ok := fun j => ok j ∨ w.heap.size ≤ j) (⟨false, []⟩, none, 0) p (⟨false, []⟩, none, 0) q ?_ rfl rfl ?_ ?_ ?_ ?_ (Ft.leaf _ _ _) ?_ (Ft.leaf _ _ _) ?_ ?_
    rotate_left 2
    · with_reducible repeat (first | exact HI7.out | refine SpI.set2 ?_ | refine SpI.set1 ?_ | refine SpI.al ?_)
    · dsimp only [List.length_nil]
      with_reducible repeat (first | exact ROW.out | exact row_new (by simp only [World.size_alloc, World.size_setCell]) | refine blk_alloc ?_ _ | refine row_set2 w (by omega) ?_ | refine row_set1 w (by omega) ?_)
    · dsimp only [List.length_nil]
      with_reducible repeat (first | exact ROW.out | exact row_new (by simp only [World.size_alloc, World.size_setCell]) | refine blk_alloc ?_ _ | refine row_set2 w (by omega) ?_ | refine row_set1 w (by omega) ?_)
    · exact .inr (by omega)
    · exact .inr (by omega)
    · refine (FP5.out.nx (w := w) (W' := _) (by with_reducible repeat (first | exact NX7.out | refine Nx.set2 ?_ | refine Nx.set1 ?_ | refine Nx.al ?_)) ?_).mono ?_
      all_goals (intro j hj; first | (constructor <;> omega) | (rcases hj with hj | hj <;> first | (constructor <;> omega) | (left; exact hj.1) | (right; omega)) | exact Or.inl hj.1)
    · refine (FQ5.out.nx (w := w) (W' := _) (by with_reducible repeat (first | exact NX7.out | refine Nx.set2 ?_ | refine Nx.set1 ?_ | refine Nx.al ?_)) ?_).mono ?_
      all_goals (intro j hj; first | (constructor <;> omega) | (rcases hj with hj | hj <;> first | (constructor <;> omega) | (left; exact hj.1) | (right; omega)) | exact Or.inl hj.1)
    · intro k1 k2 h1 h2 f1 f2 hb
      exact ⟨k1, k2, rfl, by rw [h1, HP.out]; simp [T.split, hna, T.toS], by rw [h2, HQ.out]; simp [T.split, hna, T.toS], f1, f2, hb⟩
set_option maxRecDepth 100000 in
set_option maxHeartbeats 40000000 in
theorem parted_nb (a b : T) (k : Kd2) (w : World) (ok : Nat → Prop) (hk : k.1 = (T.node a b).toS) (h : Ft w ok k) (hna : a.isNone = false) (hnb : b.isNone = true)
    (ih : ∀ (k : Kd2) (w : World) (ok : Nat → Prop), k.1 = a.toS → Ft w ok k → Calls Try.prog 40 #[kv k] w fun e w' => ∃ k1 k2 : Kd2, e = .returned (.tuple #[kv k1, kv k2]) ∧ k1.1 = a.split.1.toS ∧ k2.1 = a.split.2.toS ∧ Ft w' (fun j => ok j ∨ w.heap.size ≤ j) k1 ∧ Ft w' (fun j => ok j ∨ w.heap.size ≤ j) k2 ∧ Below w.heap.size w w') :
    Calls Try.prog 40 #[kv k] w fun e w' => ∃ k1 k2 : Kd2, e = .returned (.tuple #[kv k1, kv k2]) ∧ k1.1 = (T.node a b).split.1.toS ∧ k2.1 = (T.node a b).split.2.toS ∧ Ft w' (fun j => ok j ∨ w.heap.size ≤ j) k1 ∧ Ft w' (fun j => ok j ∨ w.heap.size ≤ j) k2 ∧ Below w.heap.size w w' := by
  obtain ⟨ad, ka, kb, hA, hka, hkb, ha, hb, x0, x1, x2, x3⟩ := h.bound.kids hk
  obtain ⟨s, A, c⟩ := k
  dsimp only at hk hA
  subst hA
  obtain rfl : s = ⟨false, [a.toS, b.toS]⟩ := hk
  have h0 := SpI.mk0 w (⟨false, [a.toS, b.toS]⟩, some ad, c)
  obtain ⟨W0, hW0⟩ : ∃ W0, ((w.alloc (.cells #[.bool false, .slice (some ad) 2 c] 24)).alloc (.cells #[.bool false, .slice none 0 0] 24)).alloc (.cells #[.bool false, .slice none 0 0] 24) = W0 := ⟨_, rfl⟩
  have h1 : SpI w W0 (⟨false, [a.toS, b.toS]⟩, some ad, c) #[.bool false, .slice none 0 0] #[.bool false, .slice none 0 0] := by rw [← hW0]; exact h0
  have HI := Lib.hid h1
  have HKA := Lib.hid hka
  have HKB := Lib.hid hkb
  have HFA := Lib.hid (ha.below h1.below)
  have HFB := Lib.hid (hb.below h1.below)
  have IH := Lib.hid ih
  have ea := none_bits a ka hka
  have eb := none_bits b kb hkb
  rw [hna] at ea
  rw [hnb] at eb
  have y0 := kcell h1.below x0
  have y1 := kcell h1.below x1
  have y2 := kcell h1.below x2
  have y3 := kcell h1.below x3
  clear h0 h1 h ha hb hkb hka x0 x1 x2 x3 ih
  have hu24 := Try.underlying24
  have hu22 := Try.underlying22
  have t0 : W0.cell? ⟨w.heap.size, 0, none⟩ = some (.bool false) := cell0 HI.out.tree
  have t1 : W0.cell? ⟨w.heap.size, 1, none⟩ = some (.slice (some ad) 2 c) := cell1 HI.out.tree
  obtain ⟨W1, hW1⟩ : ∃ W1, W0.alloc (.cells #[.bool ka.1.f0, .slice ka.2.1 ka.1.f1.length ka.2.2] 24) = W1 := ⟨_, rfl⟩
  obtain ⟨W2, hW2⟩ : ∃ W2, W1.alloc (.cells #[.bool kb.1.f0, .slice kb.2.1 kb.1.f1.length kb.2.2] 24) = W2 := ⟨_, rfl⟩
  have hs1 : W1.heap.size = W0.heap.size + 1 := by rw [← hW1]; exact World.size_alloc _ _
  have hb1 : Below W0.heap.size W0 W1 := by rw [← hW1]; exact (Below.refl _ _).alloc (Nat.le_refl _) _
  have hb2 : Below W1.heap.size W1 W2 := by rw [← hW2]; exact (Below.refl _ _).alloc (Nat.le_refl _) _
  have g1 : W1.heap[W0.heap.size]? = some (.cells #[.bool ka.1.f0, .slice ka.2.1 ka.1.f1.length ka.2.2] 24 (0, 0)) := by rw [← hW1]; exact blk_new _ _
  have g2 : W2.heap[W0.heap.size + 1]? = some (.cells #[.bool kb.1.f0, .slice kb.2.1 kb.1.f1.length kb.2.2] 24 (0, 0)) := by rw [← hs1, ← hW2]; exact blk_new _ _
  have g1' := blk_below g1 hb2
  have HI1 := Lib.hid (HI.out.step hb1)
  have HI2 := Lib.hid (HI1.out.step hb2)
  have HFA2 := Lib.hid ((HFA.out.below hb1).below hb2)
  have HFB2 := Lib.hid ((HFB.out.below hb1).below hb2)
  have s1 : W1.cell? ⟨w.heap.size, 1, none⟩ = some (.slice (some ad) 2 c) := cell1 HI1.out.tree
  have z2 := kcell hb1 y2
  have z3 := kcell hb1 y3
  have u0 := cell0 g1'
  have u1 := cell1 g1'
  have v0 := cell0 g2
  have v1 := cell1 g2
  have G1 := Lib.hid g1'
  have G2 := Lib.hid g2
  clear g1 g1' g2 hb1 hb2
  show Calls Try.prog 40 #[.agg #[.bool false, .slice (some ad) 2 c]] w _
  obtain ⟨ca, ea1⟩ : ∃ b, ((ka.1.f1.length : Int) == 0) = b := ⟨_, rfl⟩
  rw [ea1] at ea
  obtain ⟨eb1, eb2⟩ : ((kb.1.f1.length : Int) == 0) = true ∧ (!kb.1.f0) = true := by simpa using eb
  clear eb
  cases ca
  · clear ea
    go_enter Try.func40, Try.ntmps40
    go_wp2_with fail
    refine (IH.out ka W2 _ HKA.out HFA2.out).mono ?_
    rintro e w3 ⟨p, q, rfl, hp, hq, fp, fq, hb3⟩
    have HP := Lib.hid hp
    have HQ := Lib.hid hq
    have HI3 := Lib.hid (HI2.out.step hb3)
    obtain ⟨W5, hW5⟩ : ∃ W5, (w3.alloc (.cells #[.bool p.1.f0, .slice p.2.1 p.1.f1.length p.2.2] 24)).alloc (.cells #[.bool q.1.f0, .slice q.2.1 q.1.f1.length q.2.2] 24) = W5 := ⟨_, rfl⟩
    have hb5 : Below w3.heap.size w3 W5 := by rw [← hW5]; exact ((Below.refl _ _).alloc (Nat.le_refl _) _).alloc (by simp) _
    have gp : W5.heap[w3.heap.size]? = some (.cells #[.bool p.1.f0, .slice p.2.1 p.1.f1.length p.2.2] 24 (0, 0)) := by rw [← hW5]; exact blk_alloc (blk_new _ _) _
    have gq : W5.heap[w3.heap.size + 1]? = some (.cells #[.bool q.1.f0, .slice q.2.1 q.1.f1.length q.2.2] 24 (0, 0)) := by
      rw [← hW5]; have := blk_new (w3.alloc (.cells #[.bool p.1.f0, .slice p.2.1 p.1.f1.length p.2.2] 24)) (.cells #[.bool q.1.f0, .slice q.2.1 q.1.f1.length q.2.2] 24); rwa [World.size_alloc] at this
    have HI5 := Lib.hid (HI3.out.step hb5)
    have FP := Lib.hid (fp.below hb5)
    have FQ := Lib.hid (fq.below hb5)
    have GP := Lib.hid gp
    have GQ := Lib.hid gq
    clear hp hq fp fq hb3 hb5 gp gq s1 z2 z3 u0 u1 v0 v1 t0 t1 y0 y1 y2 y3
    go_wp2_with fail
    have hQ5 : PaI w W5.drew (⟨false, [a.toS, b.toS]⟩, some ad, c) w3.heap.size p q := ⟨_, _, HI5.out.step (W' := W5.drew) (Below.refl _ _).drew, GP.out, GQ.out, by have := (Array.getElem?_eq_some_iff.1 HI3.out.two).1; omega⟩
    have Q5 := Lib.hid hQ5
    have FP5 : Hid (Ft W5.drew _ p) := Lib.hid (FP.out.below (W' := W5.drew) (Below.refl _ _).drew)
    have FQ5 : Hid (Ft W5.drew _ q) := Lib.hid (FQ.out.below (W' := W5.drew) (Below.refl _ _).drew)
    have HID5 := Lib.hid (HI5.out.step (W' := W5.drew) (Below.refl _ _).drew)
    clear hQ5 hW5
    go_region_held3 (fun W => PaC W w3.heap.size p q)
      ((refine PaI.cells (w := w) (k := (⟨false, [a.toS, b.toS]⟩, some ad, c)) ?_; (with_reducible repeat (first | exact Q5.out | exact Q6.out | exact Q7.out | refine PaI.alloc ?_ | refine PaI.far1 ?_ | refine PaI.far2 ?_))))
      (first
        | (go_at_call 62; (with_reducible refine (Leaf62 false _).mono ?_); rintro e w7 ⟨rfl, hb7⟩; have Q7 : Hid (PaI w w7 (⟨false, [a.toS, b.toS]⟩, some ad, c) w3.heap.size p q) := Lib.hid (by with_reducible first | exact Q6.out.step hb7 | exact (PaI.alloc Q6.out).step hb7); have HI7 : Hid (SpI w w7 (⟨false, [a.toS, b.toS]⟩, some ad, c) #[.bool false, .slice none 0 0] #[.bool false, .slice none 0 0]) := Lib.hid (by with_reducible first | exact HI6.out.step hb7 | exact (HI6.out.step ((Below.refl _ _).alloc (Nat.le_refl _) _)).step hb7); have NX7 : Hid (Nx w W5.drew w7) := Lib.hid (by with_reducible first | exact NX6.out.below hb7 | exact (Nx.al NX6.out).below hb7); (try have ROW := Lib.hid (blk_below (blk_new w6 (.cells #[.bool p.1.f0, .slice p.2.1 p.1.f1.length p.2.2, .bool false, .slice none 0 0] 24)) hb7)); obtain ⟨ga, gb, gr, gs⟩ := SpI.outs HI7.out; have n0 := cell0 HI7.out.one; have m0 := cell1 HI7.out.one; have f1 := free2 HI7.out.one; have n1 := cell0 HI7.out.two; have m1 := cell1 HI7.out.two; have f2 := free2 HI7.out.two; have n0a := (fun o1 => cell0 (ga o1).one); have m0a := (fun o1 => cell1 (ga o1).one); have f1a := (fun o1 => free2 (ga o1).one); have n1a := (fun o1 => cell0 (ga o1).two); have m1a := (fun o1 => cell1 (ga o1).two); have f2a := (fun o1 => free2 (ga o1).two); have n0b := (fun o1 o2 => cell0 (gb o1 o2).one); have m0b := (fun o1 o2 => cell1 (gb o1 o2).one); have f1b := (fun o1 o2 => free2 (gb o1 o2).one); have n1b := (fun o1 o2 => cell0 (gb o1 o2).two); have m1b := (fun o1 o2 => cell1 (gb o1 o2).two); have f2b := (fun o1 o2 => free2 (gb o1 o2).two); have n1r := (fun u u' o2 => cell0 (gr u u' o2)); have m1r := (fun u u' o2 => cell1 (gr u u' o2)); have f2r := (fun u u' o2 => free2 (gr u u' o2)); have n1s := (fun o1 u u' o2 => cell0 (gs o1 u u' o2)); have m1s := (fun o1 u u' o2 => cell1 (gs o1 u u' o2)); have f2s := (fun o1 u u' o2 => free2 (gs o1 u u' o2)); clear ga gb gr gs hb7)
        | (go_at_call 62; (with_reducible refine (Leaf62 false _).mono ?_); rintro e w6 ⟨rfl, hb6⟩; have Q6 := Lib.hid (Q5.out.step hb6); have HI6 := Lib.hid (HID5.out.step hb6); have NX6 := Lib.hid ((Nx.refl w W5.drew).below hb6); clear hb6))
    all_goals
      have LT6 := Lib.hid (Array.getElem?_eq_some_iff.1 HI6.out.two).1
      have LT7 := Lib.hid (Array.getElem?_eq_some_iff.1 HI7.out.two).1
      have LT5 := Lib.hid (Array.getElem?_eq_some_iff.1 HI2.out.two).1
      go_wp2_with fail
      have l5 := LT5.out
      have l6 := LT6.out
      have l7 := LT7.out
      refine' parted_fin (k := (⟨false, [a.toS, b.toS]⟩, some ad, c)) (g1 := _) (g2 := _) (ok := fun j => ok j ∨ w.heap.size ≤ j) p (⟨false, []⟩, none, 0) q (⟨false, []⟩, none, 0) ?_ rfl rfl ?_ ?_ ?_ ?_ ?_ (Ft.leaf _ _ _) ?_ (Ft.leaf _ _ _) ?_
      rotate_left 2
      · with_reducible repeat (first | exact HI7.out | refine SpI.set2 ?_ | refine SpI.set1 ?_ | refine SpI.al ?_)
      · dsimp only [List.length_nil]
        with_reducible repeat (first | exact ROW.out | exact row_new (by simp only [World.size_alloc, World.size_setCell]) | refine blk_alloc ?_ _ | refine row_set2 w (by omega) ?_ | refine row_set1 w (by omega) ?_)
      · dsimp only [List.length_nil]
        with_reducible repeat (first | exact ROW.out | exact row_new (by simp only [World.size_alloc, World.size_setCell]) | refine blk_alloc ?_ _ | refine row_set2 w (by omega) ?_ | refine row_set1 w (by omega) ?_)
      · exact .inr (by omega)
      · exact .inr (by omega)
      · refine (FP5.out.nx (w := w) (W' := _) (by with_reducible repeat (first | exact NX7.out | refine Nx.set2 ?_ | refine Nx.set1 ?_ | refine Nx.al ?_)) ?_).mono ?_
        all_goals (intro j hj; first | (constructor <;> omega) | (rcases hj with hj | hj <;> first | (constructor <;> omega) | (left; exact hj.1) | (right; omega)) | exact Or.inl hj.1)
      · refine (FQ5.out.nx (w := w) (W' := _) (by with_reducible repeat (first | exact NX7.out | refine Nx.set2 ?_ | refine Nx.set1 ?_ | refine Nx.al ?_)) ?_).mono ?_
        all_goals (intro j hj; first | (constructor <;> omega) | (rcases hj with hj | hj <;> first | (constructor <;> omega) | (left; exact hj.1) | (right; omega)) | exact Or.inl hj.1)
      · intro k1 k2 h1 h2 f1 f2 hb
        exact ⟨k1, k2, rfl, by rw [h1, HP.out]; simp [T.split, hna, hnb, T.toS], by rw [h2, HQ.out]; simp [T.split, hna, hnb, T.toS], f1, f2, hb⟩
  · rw [Bool.true_and] at ea
    go_enter Try.func40, Try.ntmps40
    go_wp2_with fail
    refine (IH.out ka W2 _ HKA.out HFA2.out).mono ?_
    rintro e w3 ⟨p, q, rfl, hp, hq, fp, fq, hb3⟩
    have HP := Lib.hid hp
    have HQ := Lib.hid hq
    have HI3 := Lib.hid (HI2.out.step hb3)
    obtain ⟨W5, hW5⟩ : ∃ W5, (w3.alloc (.cells #[.bool p.1.f0, .slice p.2.1 p.1.f1.length p.2.2] 24)).alloc (.cells #[.bool q.1.f0, .slice q.2.1 q.1.f1.length q.2.2] 24) = W5 := ⟨_, rfl⟩
    have hb5 : Below w3.heap.size w3 W5 := by rw [← hW5]; exact ((Below.refl _ _).alloc (Nat.le_refl _) _).alloc (by simp) _
    have gp : W5.heap[w3.heap.size]? = some (.cells #[.bool p.1.f0, .slice p.2.1 p.1.f1.length p.2.2] 24 (0, 0)) := by rw [← hW5]; exact blk_alloc (blk_new _ _) _
    have gq : W5.heap[w3.heap.size + 1]? = some (.cells #[.bool q.1.f0, .slice q.2.1 q.1.f1.length q.2.2] 24 (0, 0)) := by
      rw [← hW5]; have := blk_new (w3.alloc (.cells #[.bool p.1.f0, .slice p.2.1 p.1.f1.length p.2.2] 24)) (.cells #[.bool q.1.f0, .slice q.2.1 q.1.f1.length q.2.2] 24); rwa [World.size_alloc] at this
    have HI5 := Lib.hid (HI3.out.step hb5)
    have FP := Lib.hid (fp.below hb5)
    have FQ := Lib.hid (fq.below hb5)
    have GP := Lib.hid gp
    have GQ := Lib.hid gq
    clear hp hq fp fq hb3 hb5 gp gq s1 z2 z3 u0 u1 v0 v1 t0 t1 y0 y1 y2 y3
    go_wp2_with fail
    have hQ5 : PaI w W5.drew (⟨false, [a.toS, b.toS]⟩, some ad, c) w3.heap.size p q := ⟨_, _, HI5.out.step (W' := W5.drew) (Below.refl _ _).drew, GP.out, GQ.out, by have := (Array.getElem?_eq_some_iff.1 HI3.out.two).1; omega⟩
    have Q5 := Lib.hid hQ5
    have FP5 : Hid (Ft W5.drew _ p) := Lib.hid (FP.out.below (W' := W5.drew) (Below.refl _ _).drew)
    have FQ5 : Hid (Ft W5.drew _ q) := Lib.hid (FQ.out.below (W' := W5.drew) (Below.refl _ _).drew)
    have HID5 := Lib.hid (HI5.out.step (W' := W5.drew) (Below.refl _ _).drew)
    clear hQ5 hW5
    go_region_held3 (fun W => PaC W w3.heap.size p q)
      ((refine PaI.cells (w := w) (k := (⟨false, [a.toS, b.toS]⟩, some ad, c)) ?_; (with_reducible repeat (first | exact Q5.out | exact Q6.out | exact Q7.out | refine PaI.alloc ?_ | refine PaI.far1 ?_ | refine PaI.far2 ?_))))
      (first
        | (go_at_call 62; (with_reducible refine (Leaf62 false _).mono ?_); rintro e w7 ⟨rfl, hb7⟩; have Q7 : Hid (PaI w w7 (⟨false, [a.toS, b.toS]⟩, some ad, c) w3.heap.size p q) := Lib.hid (by with_reducible first | exact Q6.out.step hb7 | exact (PaI.alloc Q6.out).step hb7); have HI7 : Hid (SpI w w7 (⟨false, [a.toS, b.toS]⟩, some ad, c) #[.bool false, .slice none 0 0] #[.bool false, .slice none 0 0]) := Lib.hid (by with_reducible first | exact HI6.out.step hb7 | exact (HI6.out.step ((Below.refl _ _).alloc (Nat.le_refl _) _)).step hb7); have NX7 : Hid (Nx w W5.drew w7) := Lib.hid (by with_reducible first | exact NX6.out.below hb7 | exact (Nx.al NX6.out).below hb7); (try have ROW := Lib.hid (blk_below (blk_new w6 (.cells #[.bool p.1.f0, .slice p.2.1 p.1.f1.length p.2.2, .bool false, .slice none 0 0] 24)) hb7)); obtain ⟨ga, gb, gr, gs⟩ := SpI.outs HI7.out; have n0 := cell0 HI7.out.one; have m0 := cell1 HI7.out.one; have f1 := free2 HI7.out.one; have n1 := cell0 HI7.out.two; have m1 := cell1 HI7.out.two; have f2 := free2 HI7.out.two; have n0a := (fun o1 => cell0 (ga o1).one); have m0a := (fun o1 => cell1 (ga o1).one); have f1a := (fun o1 => free2 (ga o1).one); have n1a := (fun o1 => cell0 (ga o1).two); have m1a := (fun o1 => cell1 (ga o1).two); have f2a := (fun o1 => free2 (ga o1).two); have n0b := (fun o1 o2 => cell0 (gb o1 o2).one); have m0b := (fun o1 o2 => cell1 (gb o1 o2).one); have f1b := (fun o1 o2 => free2 (gb o1 o2).one); have n1b := (fun o1 o2 => cell0 (gb o1 o2).two); have m1b := (fun o1 o2 => cell1 (gb o1 o2).two); have f2b := (fun o1 o2 => free2 (gb o1 o2).two); have n1r := (fun u u' o2 => cell0 (gr u u' o2)); have m1r := (fun u u' o2 => cell1 (gr u u' o2)); have f2r := (fun u u' o2 => free2 (gr u u' o2)); have n1s := (fun o1 u u' o2 => cell0 (gs o1 u u' o2)); have m1s := (fun o1 u u' o2 => cell1 (gs o1 u u' o2)); have f2s := (fun o1 u u' o2 => free2 (gs o1 u u' o2)); clear ga gb gr gs hb7)
        | (go_at_call 62; (with_reducible refine (Leaf62 false _).mono ?_); rintro e w6 ⟨rfl, hb6⟩; have Q6 := Lib.hid (Q5.out.step hb6); have HI6 := Lib.hid (HID5.out.step hb6); have NX6 := Lib.hid ((Nx.refl w W5.drew).below hb6); clear hb6))
    all_goals
      have LT6 := Lib.hid (Array.getElem?_eq_some_iff.1 HI6.out.two).1
      have LT7 := Lib.hid (Array.getElem?_eq_some_iff.1 HI7.out.two).1
      have LT5 := Lib.hid (Array.getElem?_eq_some_iff.1 HI2.out.two).1
      go_wp2_with fail
      have l5 := LT5.out
      have l6 := LT6.out
      have l7 := LT7.out
      refine' parted_fin (k := (⟨false, [a.toS, b.toS]⟩, some ad, c)) (g1 := _) (g2 := _) (ok := fun j => ok j ∨ w.heap.size ≤ j) p (⟨false, []⟩, none, 0) q (⟨false, []⟩, none, 0) ?_ rfl rfl ?_ ?_ ?_ ?_ ?_ (Ft.leaf _ _ _) ?_ (Ft.leaf _ _ _) ?_
      rotate_left 2
      · with_reducible repeat (first | exact HI7.out | refine SpI.set2 ?_ | refine SpI.set1 ?_ | refine SpI.al ?_)
      · dsimp only [List.length_nil]
        with_reducible repeat (first | exact ROW.out | exact row_new (by simp only [World.size_alloc, World.size_setCell]) | refine blk_alloc ?_ _ | refine row_set2 w (by omega) ?_ | refine row_set1 w (by omega) ?_)
      · dsimp only [List.length_nil]
        with_reducible repeat (first | exact ROW.out | exact row_new (by simp only [World.size_alloc, World.size_setCell]) | refine blk_alloc ?_ _ | refine row_set2 w (by omega) ?_ | refine row_set1 w (by omega) ?_)
      · exact .inr (by omega)
      · exact .inr (by omega)
      · refine (FP5.out.nx (w := w) (W' := _) (by with_reducible repeat (first | exact NX7.out | refine Nx.set2 ?_ | refine Nx.set1 ?_ | refine Nx.al ?_)) ?_).mono ?_
        all_goals (intro j hj; first | (constructor <;> omega) | (rcases hj with hj | hj <;> first | (constructor <;> omega) | (left; exact hj.1) | (right; omega)) | exact Or.inl hj.1)
      · refine (FQ5.out.nx (w := w) (W' := _) (by with_reducible repeat (first | exact NX7.out | refine Nx.set2 ?_ | refine Nx.set1 ?_ | refine Nx.al ?_)) ?_).mono ?_
        all_goals (intro j hj; first | (constructor <;> omega) | (rcases hj with hj | hj <;> first | (constructor <;> omega) | (left; exact hj.1) | (right; omega)) | exact Or.inl hj.1)
      · intro k1 k2 h1 h2 f1 f2 hb
        exact ⟨k1, k2, rfl, by rw [h1, HP.out]; simp [T.split, hna, hnb, T.toS], by rw [h2, HQ.out]; simp [T.split, hna, hnb, T.toS], f1, f2, hb⟩
set_option maxRecDepth 100000 in
set_option maxHeartbeats 40000000 in
theorem parted_both (a b : T) (k : Kd2) (w : World) (ok : Nat → Prop) (hk : k.1 = (T.node a b).toS) (h : Ft w ok k) (hna : a.isNone = false) (hnb : b.isNone = false) :
    Calls Try.prog 40 #[kv k] w fun e w' => ∃ k1 k2 : Kd2, e = .returned (.tuple #[kv k1, kv k2]) ∧ k1.1 = (T.node a b).split.1.toS ∧ k2.1 = (T.node a b).split.2.toS ∧ Ft w' (fun j => ok j ∨ w.heap.size ≤ j) k1 ∧ Ft w' (fun j => ok j ∨ w.heap.size ≤ j) k2 ∧ Below w.heap.size w w' := by
  obtain ⟨ad, ka, kb, hA, hka, hkb, ha, hb, x0, x1, x2, x3⟩ := h.bound.kids hk
  obtain ⟨s, A, c⟩ := k
  dsimp only at hk hA
  subst hA
  obtain rfl : s = ⟨false, [a.toS, b.toS]⟩ := hk
  have h0 := SpI.mk0 w (⟨false, [a.toS, b.toS]⟩, some ad, c)
  obtain ⟨W0, hW0⟩ : ∃ W0, ((w.alloc (.cells #[.bool false, .slice (some ad) 2 c] 24)).alloc (.cells #[.bool false, .slice none 0 0] 24)).alloc (.cells #[.bool false, .slice none 0 0] 24) = W0 := ⟨_, rfl⟩
  have h1 : SpI w W0 (⟨false, [a.toS, b.toS]⟩, some ad, c) #[.bool false, .slice none 0 0] #[.bool false, .slice none 0 0] := by rw [← hW0]; exact h0
  have HI := Lib.hid h1
  have HKA := Lib.hid hka
  have HKB := Lib.hid hkb
  have HFA := Lib.hid (ha.below h1.below)
  have HFB := Lib.hid (hb.below h1.below)
  have ea := none_bits a ka hka
  have eb := none_bits b kb hkb
  rw [hna] at ea
  rw [hnb] at eb
  have y0 := kcell h1.below x0
  have y1 := kcell h1.below x1
  have y2 := kcell h1.below x2
  have y3 := kcell h1.below x3
  clear h0 h1 h ha hb hkb hka x0 x1 x2 x3
  have hu24 := Try.underlying24
  have hu22 := Try.underlying22
  have t0 : W0.cell? ⟨w.heap.size, 0, none⟩ = some (.bool false) := cell0 HI.out.tree
  have t1 : W0.cell? ⟨w.heap.size, 1, none⟩ = some (.slice (some ad) 2 c) := cell1 HI.out.tree
  obtain ⟨W1, hW1⟩ : ∃ W1, W0.alloc (.cells #[.bool ka.1.f0, .slice ka.2.1 ka.1.f1.length ka.2.2] 24) = W1 := ⟨_, rfl⟩
  obtain ⟨W2, hW2⟩ : ∃ W2, W1.alloc (.cells #[.bool kb.1.f0, .slice kb.2.1 kb.1.f1.length kb.2.2] 24) = W2 := ⟨_, rfl⟩
  have hs1 : W1.heap.size = W0.heap.size + 1 := by rw [← hW1]; exact World.size_alloc _ _
  have hb1 : Below W0.heap.size W0 W1 := by rw [← hW1]; exact (Below.refl _ _).alloc (Nat.le_refl _) _
  have hb2 : Below W1.heap.size W1 W2 := by rw [← hW2]; exact (Below.refl _ _).alloc (Nat.le_refl _) _
  have g1 : W1.heap[W0.heap.size]? = some (.cells #[.bool ka.1.f0, .slice ka.2.1 ka.1.f1.length ka.2.2] 24 (0, 0)) := by rw [← hW1]; exact blk_new _ _
  have g2 : W2.heap[W0.heap.size + 1]? = some (.cells #[.bool kb.1.f0, .slice kb.2.1 kb.1.f1.length kb.2.2] 24 (0, 0)) := by rw [← hs1, ← hW2]; exact blk_new _ _
  have g1' := blk_below g1 hb2
  have HI1 := Lib.hid (HI.out.step hb1)
  have HI2 := Lib.hid (HI1.out.step hb2)
  have HFA2 := Lib.hid ((HFA.out.below hb1).below hb2)
  have HFB2 := Lib.hid ((HFB.out.below hb1).below hb2)
  have s1 : W1.cell? ⟨w.heap.size, 1, none⟩ = some (.slice (some ad) 2 c) := cell1 HI1.out.tree
  have z2 := kcell hb1 y2
  have z3 := kcell hb1 y3
  have u0 := cell0 g1'
  have u1 := cell1 g1'
  have v0 := cell0 g2
  have v1 := cell1 g2
  have G1 := Lib.hid g1'
  have G2 := Lib.hid g2
  clear g1 g1' g2 hb1 hb2
  show Calls Try.prog 40 #[.agg #[.bool false, .slice (some ad) 2 c]] w _
  obtain ⟨ca, ea1⟩ : ∃ b, ((ka.1.f1.length : Int) == 0) = b := ⟨_, rfl⟩
  rw [ea1] at ea
  obtain ⟨cb, eb1⟩ : ∃ b, ((kb.1.f1.length : Int) == 0) = b := ⟨_, rfl⟩
  rw [eb1] at eb
  cases ca
  · clear ea
    cases cb
    · clear eb
      go_enter Try.func40, Try.ntmps40
      go_wp2_with fail
      obtain ⟨W5, hW5⟩ : ∃ W5, W2 = W5 := ⟨_, rfl⟩
      rw [hW5]
      have HI5 := Lib.hid (hW5 ▸ HI2.out)
      have hQ5 : PaI w W5.drew (⟨false, [a.toS, b.toS]⟩, some ad, c) W0.heap.size ka kb := ⟨_, _, HI5.out.step (W' := W5.drew) (Below.refl _ _).drew, hW5 ▸ G1.out, hW5 ▸ G2.out, (Array.getElem?_eq_some_iff.1 HI.out.two).1⟩
      have Q5 := Lib.hid hQ5
      have FP5 : Hid (Ft W5.drew _ ka) := Lib.hid ((hW5 ▸ HFA2.out).below (W' := W5.drew) (Below.refl _ _).drew)
      have FQ5 : Hid (Ft W5.drew _ kb) := Lib.hid ((hW5 ▸ HFB2.out).below (W' := W5.drew) (Below.refl _ _).drew)
      have HID5 := Lib.hid (HI5.out.step (W' := W5.drew) (Below.refl _ _).drew)
      clear hQ5 s1 z2 z3 u0 u1 v0 v1 t0 t1 y0 y1 y2 y3
      go_region_held3 (fun W => PaC W W0.heap.size ka kb)
        ((refine PaI.cells (w := w) (k := (⟨false, [a.toS, b.toS]⟩, some ad, c)) ?_; (with_reducible repeat (first | exact Q5.out | exact Q6.out | exact Q7.out | refine PaI.alloc ?_ | refine PaI.far1 ?_ | refine PaI.far2 ?_))))
        (first
          | (go_at_call 62; (with_reducible refine (Leaf62 false _).mono ?_); rintro e w7 ⟨rfl, hb7⟩; have Q7 : Hid (PaI w w7 (⟨false, [a.toS, b.toS]⟩, some ad, c) W0.heap.size ka kb) := Lib.hid (by with_reducible first | exact Q6.out.step hb7 | exact (PaI.alloc Q6.out).step hb7); have HI7 : Hid (SpI w w7 (⟨false, [a.toS, b.toS]⟩, some ad, c) #[.bool false, .slice none 0 0] #[.bool false, .slice none 0 0]) := Lib.hid (by with_reducible first | exact HI6.out.step hb7 | exact (HI6.out.step ((Below.refl _ _).alloc (Nat.le_refl _) _)).step hb7); have NX7 : Hid (Nx w W5.drew w7) := Lib.hid (by with_reducible first | exact NX6.out.below hb7 | exact (Nx.al NX6.out).below hb7); (try have ROW := Lib.hid (blk_below (blk_new w6 (.cells #[.bool ka.1.f0, .slice ka.2.1 ka.1.f1.length ka.2.2, .bool false, .slice none 0 0] 24)) hb7)); obtain ⟨ga, gb, gr, gs⟩ := SpI.outs HI7.out; have n0 := cell0 HI7.out.one; have m0 := cell1 HI7.out.one; have f1 := free2 HI7.out.one; have n1 := cell0 HI7.out.two; have m1 := cell1 HI7.out.two; have f2 := free2 HI7.out.two; have n0a := (fun o1 => cell0 (ga o1).one); have m0a := (fun o1 => cell1 (ga o1).one); have f1a := (fun o1 => free2 (ga o1).one); have n1a := (fun o1 => cell0 (ga o1).two); have m1a := (fun o1 => cell1 (ga o1).two); have f2a := (fun o1 => free2 (ga o1).two); have n0b := (fun o1 o2 => cell0 (gb o1 o2).one); have m0b := (fun o1 o2 => cell1 (gb o1 o2).one); have f1b := (fun o1 o2 => free2 (gb o1 o2).one); have n1b := (fun o1 o2 => cell0 (gb o1 o2).two); have m1b := (fun o1 o2 => cell1 (gb o1 o2).two); have f2b := (fun o1 o2 => free2 (gb o1 o2).two); have n1r := (fun u u' o2 => cell0 (gr u u' o2)); have m1r := (fun u u' o2 => cell1 (gr u u' o2)); have f2r := (fun u u' o2 => free2 (gr u u' o2)); have n1s := (fun o1 u u' o2 => cell0 (gs o1 u u' o2)); have m1s := (fun o1 u u' o2 => cell1 (gs o1 u u' o2)); have f2s := (fun o1 u u' o2 => free2 (gs o1 u u' o2)); clear ga gb gr gs hb7)
          | (go_at_call 62; (with_reducible refine (Leaf62 false _).mono ?_); rintro e w6 ⟨rfl, hb6⟩; have Q6 := Lib.hid (Q5.out.step hb6); have HI6 := Lib.hid (HID5.out.step hb6); have NX6 := Lib.hid ((Nx.refl w W5.drew).below hb6); clear hb6))
      all_goals
        have LT6 := Lib.hid (Array.getElem?_eq_some_iff.1 HI6.out.two).1
        have LT7 := Lib.hid (Array.getElem?_eq_some_iff.1 HI7.out.two).1
        have LT5 := Lib.hid (Array.getElem?_eq_some_iff.1 HI2.out.two).1
        go_wp2_with fail
        have l5 := LT5.out
        have l6 := LT6.out
        have l7 := LT7.out
        refine' parted_fin (k := (⟨false, [a.toS, b.toS]⟩, some ad, c)) (g1 := _) (g2 := _) (ok := fun j => ok j ∨ w.heap.size ≤ j) ka (⟨false, []⟩, none, 0) (⟨false, []⟩, none, 0) kb ?_ rfl rfl ?_ ?_ ?_ ?_ ?_ (Ft.leaf _ _ _) (Ft.leaf _ _ _) ?_ ?_
        rotate_left 2
        · with_reducible repeat (first | exact HI7.out | refine SpI.set2 ?_ | refine SpI.set1 ?_ | refine SpI.al ?_)
        · dsimp only [List.length_nil]
          with_reducible repeat (first | exact ROW.out | exact row_new (by simp only [World.size_alloc, World.size_setCell]) | refine blk_alloc ?_ _ | refine row_set2 w (by omega) ?_ | refine row_set1 w (by omega) ?_)
        · dsimp only [List.length_nil]
          with_reducible repeat (first | exact ROW.out | exact row_new (by simp only [World.size_alloc, World.size_setCell]) | refine blk_alloc ?_ _ | refine row_set2 w (by omega) ?_ | refine row_set1 w (by omega) ?_)
        · exact .inr (by omega)
        · exact .inr (by omega)
        · refine (FP5.out.nx (w := w) (W' := _) (by with_reducible repeat (first | exact NX7.out | refine Nx.set2 ?_ | refine Nx.set1 ?_ | refine Nx.al ?_)) ?_).mono ?_
          all_goals (intro j hj; first | (constructor <;> omega) | (rcases hj with hj | hj <;> first | (constructor <;> omega) | (left; exact hj.1) | (right; omega)) | exact Or.inl hj.1)
        · refine (FQ5.out.nx (w := w) (W' := _) (by with_reducible repeat (first | exact NX7.out | refine Nx.set2 ?_ | refine Nx.set1 ?_ | refine Nx.al ?_)) ?_).mono ?_
          all_goals (intro j hj; first | (constructor <;> omega) | (rcases hj with hj | hj <;> first | (constructor <;> omega) | (left; exact hj.1) | (right; omega)) | exact Or.inl hj.1)
        · intro k1 k2 h1 h2 f1 f2 hb
          exact ⟨k1, k2, rfl, by rw [h1, HKA.out]; simp [T.split, hna, hnb, T.toS], by rw [h2, HKB.out]; simp [T.split, hna, hnb, T.toS], f1, f2, hb⟩
    · rw [Bool.true_and] at eb
      go_enter Try.func40, Try.ntmps40
      go_wp2_with fail
      obtain ⟨W5, hW5⟩ : ∃ W5, W2 = W5 := ⟨_, rfl⟩
      rw [hW5]
      have HI5 := Lib.hid (hW5 ▸ HI2.out)
      have hQ5 : PaI w W5.drew (⟨false, [a.toS, b.toS]⟩, some ad, c) W0.heap.size ka kb := ⟨_, _, HI5.out.step (W' := W5.drew) (Below.refl _ _).drew, hW5 ▸ G1.out, hW5 ▸ G2.out, (Array.getElem?_eq_some_iff.1 HI.out.two).1⟩
      have Q5 := Lib.hid hQ5
      have FP5 : Hid (Ft W5.drew _ ka) := Lib.hid ((hW5 ▸ HFA2.out).below (W' := W5.drew) (Below.refl _ _).drew)
      have FQ5 : Hid (Ft W5.drew _ kb) := Lib.hid ((hW5 ▸ HFB2.out).below (W' := W5.drew) (Below.refl _ _).drew)
      have HID5 := Lib.hid (HI5.out.step (W' := W5.drew) (Below.refl _ _).drew)
      clear hQ5 s1 z2 z3 u0 u1 v0 v1 t0 t1 y0 y1 y2 y3
      go_region_held3 (fun W => PaC W W0.heap.size ka kb)
        ((refine PaI.cells (w := w) (k := (⟨false, [a.toS, b.toS]⟩, some ad, c)) ?_; (with_reducible repeat (first | exact Q5.out | exact Q6.out | exact Q7.out | refine PaI.alloc ?_ | refine PaI.far1 ?_ | refine PaI.far2 ?_))))
        (first
          | (go_at_call 62; (with_reducible refine (Leaf62 false _).mono ?_); rintro e w7 ⟨rfl, hb7⟩; have Q7 : Hid (PaI w w7 (⟨false, [a.toS, b.toS]⟩, some ad, c) W0.heap.size ka kb) := Lib.hid (by with_reducible first | exact Q6.out.step hb7 | exact (PaI.alloc Q6.out).step hb7); have HI7 : Hid (SpI w w7 (⟨false, [a.toS, b.toS]⟩, some ad, c) #[.bool false, .slice none 0 0] #[.bool false, .slice none 0 0]) := Lib.hid (by with_reducible first | exact HI6.out.step hb7 | exact (HI6.out.step ((Below.refl _ _).alloc (Nat.le_refl _) _)).step hb7); have NX7 : Hid (Nx w W5.drew w7) := Lib.hid (by with_reducible first | exact NX6.out.below hb7 | exact (Nx.al NX6.out).below hb7); (try have ROW := Lib.hid (blk_below (blk_new w6 (.cells #[.bool ka.1.f0, .slice ka.2.1 ka.1.f1.length ka.2.2, .bool false, .slice none 0 0] 24)) hb7)); obtain ⟨ga, gb, gr, gs⟩ := SpI.outs HI7.out; have n0 := cell0 HI7.out.one; have m0 := cell1 HI7.out.one; have f1 := free2 HI7.out.one; have n1 := cell0 HI7.out.two; have m1 := cell1 HI7.out.two; have f2 := free2 HI7.out.two; have n0a := (fun o1 => cell0 (ga o1).one); have m0a := (fun o1 => cell1 (ga o1).one); have f1a := (fun o1 => free2 (ga o1).one); have n1a := (fun o1 => cell0 (ga o1).two); have m1a := (fun o1 => cell1 (ga o1).two); have f2a := (fun o1 => free2 (ga o1).two); have n0b := (fun o1 o2 => cell0 (gb o1 o2).one); have m0b := (fun o1 o2 => cell1 (gb o1 o2).one); have f1b := (fun o1 o2 => free2 (gb o1 o2).one); have n1b := (fun o1 o2 => cell0 (gb o1 o2).two); have m1b := (fun o1 o2 => cell1 (gb o1 o2).two); have f2b := (fun o1 o2 => free2 (gb o1 o2).two); have n1r := (fun u u' o2 => cell0 (gr u u' o2)); have m1r := (fun u u' o2 => cell1 (gr u u' o2)); have f2r := (fun u u' o2 => free2 (gr u u' o2)); have n1s := (fun o1 u u' o2 => cell0 (gs o1 u u' o2)); have m1s := (fun o1 u u' o2 => cell1 (gs o1 u u' o2)); have f2s := (fun o1 u u' o2 => free2 (gs o1 u u' o2)); clear ga gb gr gs hb7)
          | (go_at_call 62; (with_reducible refine (Leaf62 false _).mono ?_); rintro e w6 ⟨rfl, hb6⟩; have Q6 := Lib.hid (Q5.out.step hb6); have HI6 := Lib.hid (HID5.out.step hb6); have NX6 := Lib.hid ((Nx.refl w W5.drew).below hb6); clear hb6))
      all_goals
        have LT6 := Lib.hid (Array.getElem?_eq_some_iff.1 HI6.out.two).1
        have LT7 := Lib.hid (Array.getElem?_eq_some_iff.1 HI7.out.two).1
        have LT5 := Lib.hid (Array.getElem?_eq_some_iff.1 HI2.out.two).1
        go_wp2_with fail
        have l5 := LT5.out
        have l6 := LT6.out
        have l7 := LT7.out
        refine' parted_fin (k := (⟨false, [a.toS, b.toS]⟩, some ad, c)) (g1 := _) (g2 := _) (ok := fun j => ok j ∨ w.heap.size ≤ j) ka (⟨false, []⟩, none, 0) (⟨false, []⟩, none, 0) kb ?_ rfl rfl ?_ ?_ ?_ ?_ ?_ (Ft.leaf _ _ _) (Ft.leaf _ _ _) ?_ ?_
        rotate_left 2
        · with_reducible repeat (first | exact HI7.out | refine SpI.set2 ?_ | refine SpI.set1 ?_ | refine SpI.al ?_)
        · dsimp only [List.length_nil]
          with_reducible repeat (first | exact ROW.out | exact row_new (by simp only [World.size_alloc, World.size_setCell]) | refine blk_alloc ?_ _ | refine row_set2 w (by omega) ?_ | refine row_set1 w (by omega) ?_)
        · dsimp only [List.length_nil]
          with_reducible repeat (first | exact ROW.out | exact row_new (by simp only [World.size_alloc, World.size_setCell]) | refine blk_alloc ?_ _ | refine row_set2 w (by omega) ?_ | refine row_set1 w (by omega) ?_)
        · exact .inr (by omega)
        · exact .inr (by omega)
        · refine (FP5.out.nx (w := w) (W' := _) (by with_reducible repeat (first | exact NX7.out | refine Nx.set2 ?_ | refine Nx.set1 ?_ | refine Nx.al ?_)) ?_).mono ?_
          all_goals (intro j hj; first | (constructor <;> omega) | (rcases hj with hj | hj <;> first | (constructor <;> omega) | (left; exact hj.1) | (right; omega)) | exact Or.inl hj.1)
        · refine (FQ5.out.nx (w := w) (W' := _) (by with_reducible repeat (first | exact NX7.out | refine Nx.set2 ?_ | refine Nx.set1 ?_ | refine Nx.al ?_)) ?_).mono ?_
          all_goals (intro j hj; first | (constructor <;> omega) | (rcases hj with hj | hj <;> first | (constructor <;> omega) | (left; exact hj.1) | (right; omega)) | exact Or.inl hj.1)
        · intro k1 k2 h1 h2 f1 f2 hb
          exact ⟨k1, k2, rfl, by rw [h1, HKA.out]; simp [T.split, hna, hnb, T.toS], by rw [h2, HKB.out]; simp [T.split, hna, hnb, T.toS], f1, f2, hb⟩
  · rw [Bool.true_and] at ea
    cases cb
    · clear eb
      go_enter Try.func40, Try.ntmps40
      go_wp2_with fail
      obtain ⟨W5, hW5⟩ : ∃ W5, W2 = W5 := ⟨_, rfl⟩
      rw [hW5]
      have HI5 := Lib.hid (hW5 ▸ HI2.out)
      have hQ5 : PaI w W5.drew (⟨false, [a.toS, b.toS]⟩, some ad, c) W0.heap.size ka kb := ⟨_, _, HI5.out.step (W' := W5.drew) (Below.refl _ _).drew, hW5 ▸ G1.out, hW5 ▸ G2.out, (Array.getElem?_eq_some_iff.1 HI.out.two).1⟩
      have Q5 := Lib.hid hQ5
      have FP5 : Hid (Ft W5.drew _ ka) := Lib.hid ((hW5 ▸ HFA2.out).below (W' := W5.drew) (Below.refl _ _).drew)
      have FQ5 : Hid (Ft W5.drew _ kb) := Lib.hid ((hW5 ▸ HFB2.out).below (W' := W5.drew) (Below.refl _ _).drew)
      have HID5 := Lib.hid (HI5.out.step (W' := W5.drew) (Below.refl _ _).drew)
      clear hQ5 s1 z2 z3 u0 u1 v0 v1 t0 t1 y0 y1 y2 y3
      go_region_held3 (fun W => PaC W W0.heap.size ka kb)
        ((refine PaI.cells (w := w) (k := (⟨false, [a.toS, b.toS]⟩, some ad, c)) ?_; (with_reducible repeat (first | exact Q5.out | exact Q6.out | exact Q7.out | refine PaI.alloc ?_ | refine PaI.far1 ?_ | refine PaI.far2 ?_))))
        (first
          | (go_at_call 62; (with_reducible refine (Leaf62 false _).mono ?_); rintro e w7 ⟨rfl, hb7⟩; have Q7 : Hid (PaI w w7 (⟨false, [a.toS, b.toS]⟩, some ad, c) W0.heap.size ka kb) := Lib.hid (by with_reducible first | exact Q6.out.step hb7 | exact (PaI.alloc Q6.out).step hb7); have HI7 : Hid (SpI w w7 (⟨false, [a.toS, b.toS]⟩, some ad, c) #[.bool false, .slice none 0 0] #[.bool false, .slice none 0 0]) := Lib.hid (by with_reducible first | exact HI6.out.step hb7 | exact (HI6.out.step ((Below.refl _ _).alloc (Nat.le_refl _) _)).step hb7); have NX7 : Hid (Nx w W5.drew w7) := Lib.hid (by with_reducible first | exact NX6.out.below hb7 | exact (Nx.al NX6.out).below hb7); (try have ROW := Lib.hid (blk_below (blk_new w6 (.cells #[.bool ka.1.f0, .slice ka.2.1 ka.1.f1.length ka.2.2, .bool false, .slice none 0 0] 24)) hb7)); obtain ⟨ga, gb, gr, gs⟩ := SpI.outs HI7.out; have n0 := cell0 HI7.out.one; have m0 := cell1 HI7.out.one; have f1 := free2 HI7.out.one; have n1 := cell0 HI7.out.two; have m1 := cell1 HI7.out.two; have f2 := free2 HI7.out.two; have n0a := (fun o1 => cell0 (ga o1).one); have m0a := (fun o1 => cell1 (ga o1).one); have f1a := (fun o1 => free2 (ga o1).one); have n1a := (fun o1 => cell0 (ga o1).two); have m1a := (fun o1 => cell1 (ga o1).two); have f2a := (fun o1 => free2 (ga o1).two); have n0b := (fun o1 o2 => cell0 (gb o1 o2).one); have m0b := (fun o1 o2 => cell1 (gb o1 o2).one); have f1b := (fun o1 o2 => free2 (gb o1 o2).one); have n1b := (fun o1 o2 => cell0 (gb o1 o2).two); have m1b := (fun o1 o2 => cell1 (gb o1 o2).two); have f2b := (fun o1 o2 => free2 (gb o1 o2).two); have n1r := (fun u u' o2 => cell0 (gr u u' o2)); have m1r := (fun u u' o2 => cell1 (gr u u' o2)); have f2r := (fun u u' o2 => free2 (gr u u' o2)); have n1s := (fun o1 u u' o2 => cell0 (gs o1 u u' o2)); have m1s := (fun o1 u u' o2 => cell1 (gs o1 u u' o2)); have f2s := (fun o1 u u' o2 => free2 (gs o1 u u' o2)); clear ga gb gr gs hb7)
          | (go_at_call 62; (with_reducible refine (Leaf62 false _).mono ?_); rintro e w6 ⟨rfl, hb6⟩; have Q6 := Lib.hid (Q5.out.step hb6); have HI6 := Lib.hid (HID5.out.step hb6); have NX6 := Lib.hid ((Nx.refl w W5.drew).below hb6); clear hb6))
      all_goals
        have LT6 := Lib.hid (Array.getElem?_eq_some_iff.1 HI6.out.two).1
        have LT7 := Lib.hid (Array.getElem?_eq_some_iff.1 HI7.out.two).1
        have LT5 := Lib.hid (Array.getElem?_eq_some_iff.1 HI2.out.two).1
        go_wp2_with fail
        have l5 := LT5.out
        have l6 := LT6.out
        have l7 := LT7.out
        refine' parted_fin (k := (⟨false, [a.toS, b.toS]⟩, some ad, c)) (g1 := _) (g2 := _) (ok := fun j => ok j ∨ w.heap.size ≤ j) ka (⟨false, []⟩, none, 0) (⟨false, []⟩, none, 0) kb ?_ rfl rfl ?_ ?_ ?_ ?_ ?_ (Ft.leaf _ _ _) (Ft.leaf _ _ _) ?_ ?_
        rotate_left 2
        · with_reducible repeat (first | exact HI7.out | refine SpI.set2 ?_ | refine SpI.set1 ?_ | refine SpI.al ?_)
        · dsimp only [List.length_nil]
          with_reducible repeat (first | exact ROW.out | exact row_new (by simp only [World.size_alloc, World.size_setCell]) | refine blk_alloc ?_ _ | refine row_set2 w (by omega) ?_ | refine row_set1 w (by omega) ?_)
        · dsimp only [List.length_nil]
          with_reducible repeat (first | exact ROW.out | exact row_new (by simp only [World.size_alloc, World.size_setCell]) | refine blk_alloc ?_ _ | refine row_set2 w (by omega) ?_ | refine row_set1 w (by omega) ?_)
        · exact .inr (by omega)
        · exact .inr (by omega)
        · refine (FP5.out.nx (w := w) (W' := _) (by with_reducible repeat (first | exact NX7.out | refine Nx.set2 ?_ | refine Nx.set1 ?_ | refine Nx.al ?_)) ?_).mono ?_
          all_goals (intro j hj; first | (constructor <;> omega) | (rcases hj with hj | hj <;> first | (constructor <;> omega) | (left; exact hj.1) | (right; omega)) | exact Or.inl hj.1)
        · refine (FQ5.out.nx (w := w) (W' := _) (by with_reducible repeat (first | exact NX7.out | refine Nx.set2 ?_ | refine Nx.set1 ?_ | refine Nx.al ?_)) ?_).mono ?_
          all_goals (intro j hj; first | (constructor <;> omega) | (rcases hj with hj | hj <;> first | (constructor <;> omega) | (left; exact hj.1) | (right; omega)) | exact Or.inl hj.1)
        · intro k1 k2 h1 h2 f1 f2 hb
          exact ⟨k1, k2, rfl, by rw [h1, HKA.out]; simp [T.split, hna, hnb, T.toS], by rw [h2, HKB.out]; simp [T.split, hna, hnb, T.toS], f1, f2, hb⟩
    · rw [Bool.true_and] at eb
      go_enter Try.func40, Try.ntmps40
      go_wp2_with fail
      obtain ⟨W5, hW5⟩ : ∃ W5, W2 = W5 := ⟨_, rfl⟩
      rw [hW5]
      have HI5 := Lib.hid (hW5 ▸ HI2.out)
      have hQ5 : PaI w W5.drew (⟨false, [a.toS, b.toS]⟩, some ad, c) W0.heap.size ka kb := ⟨_, _, HI5.out.step (W' := W5.drew) (Below.refl _ _).drew, hW5 ▸ G1.out, hW5 ▸ G2.out, (Array.getElem?_eq_some_iff.1 HI.out.two).1⟩
      have Q5 := Lib.hid hQ5
      have FP5 : Hid (Ft W5.drew _ ka) := Lib.hid ((hW5 ▸ HFA2.out).below (W' := W5.drew) (Below.refl _ _).drew)
      have FQ5 : Hid (Ft W5.drew _ kb) := Lib.hid ((hW5 ▸ HFB2.out).below (W' := W5.drew) (Below.refl _ _).drew)
      have HID5 := Lib.hid (HI5.out.step (W' := W5.drew) (Below.refl _ _).drew)
      clear hQ5 s1 z2 z3 u0 u1 v0 v1 t0 t1 y0 y1 y2 y3
      go_region_held3 (fun W => PaC W W0.heap.size ka kb)
        ((refine PaI.cells (w := w) (k := (⟨false, [a.toS, b.toS]⟩, some ad, c)) ?_; (with_reducible repeat (first | exact Q5.out | exact Q6.out | exact Q7.out | refine PaI.alloc ?_ | refine PaI.far1 ?_ | refine PaI.far2 ?_))))
        (first
          | (go_at_call 62; (with_reducible refine (Leaf62 false _).mono ?_); rintro e w7 ⟨rfl, hb7⟩; have Q7 : Hid (PaI w w7 (⟨false, [a.toS, b.toS]⟩, some ad, c) W0.heap.size ka kb) := Lib.hid (by with_reducible first | exact Q6.out.step hb7 | exact (PaI.alloc Q6.out).step hb7); have HI7 : Hid (SpI w w7 (⟨false, [a.toS, b.toS]⟩, some ad, c) #[.bool false, .slice none 0 0] #[.bool false, .slice none 0 0]) := Lib.hid (by with_reducible first | exact HI6.out.step hb7 | exact (HI6.out.step ((Below.refl _ _).alloc (Nat.le_refl _) _)).step hb7); have NX7 : Hid (Nx w W5.drew w7) := Lib.hid (by with_reducible first | exact NX6.out.below hb7 | exact (Nx.al NX6.out).below hb7); (try have ROW := Lib.hid (blk_below (blk_new w6 (.cells #[.bool ka.1.f0, .slice ka.2.1 ka.1.f1.length ka.2.2, .bool false, .slice none 0 0] 24)) hb7)); obtain ⟨ga, gb, gr, gs⟩ := SpI.outs HI7.out; have n0 := cell0 HI7.out.one; have m0 := cell1 HI7.out.one; have f1 := free2 HI7.out.one; have n1 := cell0 HI7.out.two; have m1 := cell1 HI7.out.two; have f2 := free2 HI7.out.two; have n0a := (fun o1 => cell0 (ga o1).one); have m0a := (fun o1 => cell1 (ga o1).one); have f1a := (fun o1 => free2 (ga o1).one); have n1a := (fun o1 => cell0 (ga o1).two); have m1a := (fun o1 => cell1 (ga o1).two); have f2a := (fun o1 => free2 (ga o1).two); have n0b := (fun o1 o2 => cell0 (gb o1 o2).one); have m0b := (fun o1 o2 => cell1 (gb o1 o2).one); have f1b := (fun o1 o2 => free2 (gb o1 o2).one); have n1b := (fun o1 o2 => cell0 (gb o1 o2).two); have m1b := (fun o1 o2 => cell1 (gb o1 o2).two); have f2b := (fun o1 o2 => free2 (gb o1 o2).two); have n1r := (fun u u' o2 => cell0 (gr u u' o2)); have m1r := (fun u u' o2 => cell1 (gr u u' o2)); have f2r := (fun u u' o2 => free2 (gr u u' o2)); have n1s := (fun o1 u u' o2 => cell0 (gs o1 u u' o2)); have m1s := (fun o1 u u' o2 => cell1 (gs o1 u u' o2)); have f2s := (fun o1 u u' o2 => free2 (gs o1 u u' o2)); clear ga gb gr gs hb7)
          | (go_at_call 62; (with_reducible refine (Leaf62 false _).mono ?_); rintro e w6 ⟨rfl, hb6⟩; have Q6 := Lib.hid (Q5.out.step hb6); have HI6 := Lib.hid (HID5.out.step hb6); have NX6 := Lib.hid ((Nx.refl w W5.drew).below hb6); clear hb6))
      all_goals
        have LT6 := Lib.hid (Array.getElem?_eq_some_iff.1 HI6.out.two).1
        have LT7 := Lib.hid (Array.getElem?_eq_some_iff.1 HI7.out.two).1
        have LT5 := Lib.hid (Array.getElem?_eq_some_iff.1 HI2.out.two).1
        go_wp2_with fail
        have l5 := LT5.out
        have l6 := LT6.out
        have l7 := LT7.out
        refine' parted_fin (k := (⟨false, [a.toS, b.toS]⟩, some ad, c)) (g1 := _) (g2 := _) (ok := fun j => ok j ∨ w.heap.size ≤ j) ka (⟨false, []⟩, none, 0) (⟨false, []⟩, none, 0) kb ?_ rfl rfl ?_ ?_ ?_ ?_ ?_ (Ft.leaf _ _ _) (Ft.leaf _ _ _) ?_ ?_
        rotate_left 2
        · with_reducible repeat (first | exact HI7.out | refine SpI.set2 ?_ | refine SpI.set1 ?_ | refine SpI.al ?_)
        · dsimp only [List.length_nil]
          with_reducible repeat (first | exact ROW.out | exact row_new (by simp only [World.size_alloc, World.size_setCell]) | refine blk_alloc ?_ _ | refine row_set2 w (by omega) ?_ | refine row_set1 w (by omega) ?_)
        · dsimp only [List.length_nil]
          with_reducible repeat (first | exact ROW.out | exact row_new (by simp only [World.size_alloc, World.size_setCell]) | refine blk_alloc ?_ _ | refine row_set2 w (by omega) ?_ | refine row_set1 w (by omega) ?_)
        · exact .inr (by omega)
        · exact .inr (by omega)
        · refine (FP5.out.nx (w := w) (W' := _) (by with_reducible repeat (first | exact NX7.out | refine Nx.set2 ?_ | refine Nx.set1 ?_ | refine Nx.al ?_)) ?_).mono ?_
          all_goals (intro j hj; first | (constructor <;> omega) | (rcases hj with hj | hj <;> first | (constructor <;> omega) | (left; exact hj.1) | (right; omega)) | exact Or.inl hj.1)
        · refine (FQ5.out.nx (w := w) (W' := _) (by with_reducible repeat (first | exact NX7.out | refine Nx.set2 ?_ | refine Nx.set1 ?_ | refine Nx.al ?_)) ?_).mono ?_
          all_goals (intro j hj; first | (constructor <;> omega) | (rcases hj with hj | hj <;> first | (constructor <;> omega) | (left; exact hj.1) | (right; omega)) | exact Or.inl hj.1)
        · intro k1 k2 h1 h2 f1 f2 hb
          exact ⟨k1, k2, rfl, by rw [h1, HKA.out]; simp [T.split, hna, hnb, T.toS], by rw [h2, HKB.out]; simp [T.split, hna, hnb, T.toS], f1, f2, hb⟩
theorem parted_calls : ∀ (t : T) (k : Kd2) (w : World) (ok : Nat → Prop), k.1 = t.toS → Ft w ok k → Calls Try.prog 40 #[kv k] w fun e w' => ∃ k1 k2 : Kd2, e = .returned (.tuple #[kv k1, kv k2]) ∧ k1.1 = t.split.1.toS ∧ k2.1 = t.split.2.toS ∧ Ft w' (fun j => ok j ∨ w.heap.size ≤ j) k1 ∧ Ft w' (fun j => ok j ∨ w.heap.size ≤ j) k2 ∧ Below w.heap.size w w'
  | .leaf b, k, w, ok, hk, h => parted_leaf b k w ok hk h
  | .node a b, k, w, ok, hk, h => by
    cases hna : a.isNone
    · cases hnb : b.isNone
      · exact parted_both a b k w ok hk h hna hnb
      · exact parted_nb a b k w ok hk h hna hnb (parted_calls a)
    · exact parted_none a b k w ok hk h hna (parted_calls b)
end Go.Proofs.Ytlhaofbncoijfaa.HandF
namespace Go.Proofs.Ytlhaofbncoijfaa.HandF
set_option linter.unusedVariables false
set_option linter.unusedSimpArgs false
open Go.RowKit Go.Proofs.Ytlhaofbncoijfaa.X Go.Proofs.Ytlhaofbncoijfaa.Tree Go.Proofs.Ytlhaofbncoijfaa.Blocks
open Go.Proofs.YtlhaofbncoijfaaW.PrintWords Go.Proofs.YtlhaofbncoijfaaW.PrintLast Go.Proofs.YtlhaofbncoijfaaW.PrintMore
/-- How it is left. -/
theorem Split16_out {w W : World} {k : Kd2} {a b c d : Value} {R : Ending → World → Prop} {tmps : Array Value} (k1 k2 : Kd2) (r : Int) (h : SpI w W k #[a, b] #[c, d])
    (h2 : tmps.getD 2 undef = .pointer (some ⟨w.heap.size + 1, 0, none⟩)) (h3 : tmps.getD 3 undef = .pointer (some ⟨w.heap.size + 1 + 1, 0, none⟩)) (h4 : tmps.getD 4 undef = .int .i64 r)
    (hR : ∀ W', SpI w W' k #[.bool k1.1.f0, .slice k1.2.1 k1.1.f1.length k1.2.2] #[.bool k2.1.f0, .slice k2.2.1 k2.1.f1.length k2.2.2] → (∀ j, j ≠ w.heap.size + 1 → j ≠ w.heap.size + 1 + 1 → W'.heap[j]? = W.heap[j]?) → R (.returned (.tuple #[kv k1, kv k2, .int .i64 r])) W') :
    bodyPost Try.prog Try.f16 R .ret { tmps := tmps, defers := [] } ((((W.setCell ⟨w.heap.size + 1, 0, none⟩ (.bool k1.1.f0)).setCell ⟨w.heap.size + 1, 1, none⟩ (.slice k1.2.1 k1.1.f1.length k1.2.2)).setCell ⟨w.heap.size + 1 + 1, 0, none⟩ (.bool k2.1.f0)).setCell ⟨w.heap.size + 1 + 1, 1, none⟩ (.slice k2.2.1 k2.1.f1.length k2.2.2)) := by
  have hs := h.store (x := .bool k1.1.f0) (y := .slice k1.2.1 k1.1.f1.length k1.2.2) (z := .bool k2.1.f0) (u := .slice k2.2.1 k2.1.f1.length k2.2.2)
  have hres := results_list (P := Try.prog) (fn := Try.f16) (tmps := tmps) (rs := [.cell 2 24, .cell 3 24, .tmp 4]) rfl (by simp) (.cell (w.heap.size + 1) 24 _ (0, 0) _ h2 hs.one Try.underlying24 rfl (by kernel_rfl) (.cell (w.heap.size + 1 + 1) 24 _ (0, 0) _ h3 hs.two Try.underlying24 rfl (by kernel_rfl) (.tmp .nil)))
  rw [h4] at hres
  refine bodyPost_ret hres rfl ?_
  refine hR _ hs (fun j h1 h2 => ?_)
  rw [set_other (by simpa using h2), set_other (by simpa using h2), set_other (by simpa using h1), set_other (by simpa using h1)]
set_option maxRecDepth 100000 in
set_option maxHeartbeats 40000000 in
theorem Split16 (k : Kd2) (w : World) (hl : k.1.f1.length ≤ k.2.2) (hC : Kd.C k24 w k.2.1 k.1.f1.length k.1.f1) :
    Calls Try.prog 16 #[kv k] w fun e w' => ∃ k1 k2 : Kd2, e = .returned (.tuple #[kv k1, kv k2, .int .i64 (SplitS k.1).2.2]) ∧ k1.1 = (SplitS k.1).1 ∧ k2.1 = (SplitS k.1).2.1 ∧ Ft w' (fun j => w.heap.size ≤ j) k1 ∧ Ft w' (fun j => w.heap.size ≤ j) k2 ∧ Below w.heap.size w w' := by
  have HL := Lib.hid hl
  have HC := Lib.hid hC
  clear hl hC
  have hu24 := Try.underlying24
  have hu22 := Try.underlying22
  go_enter Try.func16, Try.ntmps16
  go_wp2_with fail
  obtain ⟨W0, hW0⟩ : ∃ W0, ((w.alloc (.cells #[.bool k.1.f0, .slice k.2.1 k.1.f1.length k.2.2] 24)).alloc (.cells #[.bool false, .slice none 0 0] 24)).alloc (.cells #[.bool false, .slice none 0 0] 24) = W0 := ⟨_, rfl⟩
  have hI : SpI w W0 k #[.bool false, .slice none 0 0] #[.bool false, .slice none 0 0] := by
    rw [← hW0]
    refine ⟨(((Below.refl _ _).alloc (Nat.le_refl _) _).alloc (by simp) _).alloc (by simp; omega) _, blk_alloc (blk_alloc (blk_new _ _) _) _, blk_alloc ?_ _, ?_⟩
    · have := blk_new (w.alloc (.cells #[.bool k.1.f0, .slice k.2.1 k.1.f1.length k.2.2] 24)) (.cells #[.bool false, .slice none 0 0] 24)
      rwa [World.size_alloc] at this
    · have := blk_new ((w.alloc (.cells #[.bool k.1.f0, .slice k.2.1 k.1.f1.length k.2.2] 24)).alloc (.cells #[.bool false, .slice none 0 0] 24)) (.cells #[.bool false, .slice none 0 0] 24)
      rwa [World.size_alloc, World.size_alloc] at this
  rw [hW0]
  have HI := Lib.hid hI
  clear hI hW0
  refine (Norm14 k _ HL.out (Kd.C_below HC.out HI.out.below)).mono ?_
  rintro e w1 ⟨k', rfl, hk', hf', hb1⟩
  have HI1 := Lib.hid (HI.out.step hb1)
  have HK' := Lib.hid hk'
  have HF' := Lib.hid hf'
  have HS0 := Lib.hid (Array.getElem?_eq_some_iff.1 HI.out.two).1
  clear hb1 hk' hf'
  by_cases h0 : (NormS k.1).2 = 0
  · obtain ⟨t, ht⟩ : ∃ t : T, t.toS = (NormS k.1).1 := by
      cases hr : rightB k.1
      · rw [NormS_bad _ hr] at h0; cases h0
      · obtain ⟨t, h1, h2⟩ := (right_iff _).1 hr
        exact ⟨t.norm, by rw [← h1, NormS_right t h2]⟩
    have HS : Hid (SplitS k.1 = if t.split.1.right ∧ t.split.2.right then (t.split.1.toS, t.split.2.toS, 0) else (⟨false, []⟩, ⟨false, []⟩, 41)) := by
      unfold SplitS
      rw [if_pos h0, ← ht, T.of_toS]
      exact rfl
    have HT := Lib.hid ht
    clear ht
    have e0 : ((NormS k.1).2 != 0) = false := bne_eq_false_iff_eq.2 h0
    go_wp2_with fail
    have g2 := blk_new w1 (.cells #[.bool k'.1.f0, .slice k'.2.1 k'.1.f1.length k'.2.2] 24)
    obtain ⟨W2, hW2⟩ : ∃ W2, w1.alloc (.cells #[.bool k'.1.f0, .slice k'.2.1 k'.1.f1.length k'.2.2] 24) = W2 := ⟨_, rfl⟩
    have hb2 : Below w1.heap.size w1 W2 := by rw [← hW2]; exact (Below.refl _ _).alloc (Nat.le_refl _) _
    rw [hW2] at g2
    rw [hW2]
    have HI2 := Lib.hid (HI1.out.step hb2)
    have HB2 := Lib.hid hb2
    clear hW2 g2 hb2
    refine (parted_calls t k' W2 _ (by rw [HK'.out, HT.out]) (HF'.out.below HB2.out)).mono ?_
    rintro e w3 ⟨p, q, rfl, hp, hq, fp, fq, hb3⟩
    have HI3 := Lib.hid (HI2.out.step hb3)
    have HP := Lib.hid hp
    have HQ := Lib.hid hq
    have FP := Lib.hid fp
    have FQ := Lib.hid fq
    have HS2 := Lib.hid (Array.getElem?_eq_some_iff.1 HI2.out.two).1
    clear hb3 hp hq fp fq
    go_wp2_with fail
    obtain ⟨W4, hW4⟩ : ∃ W4, (w3.alloc (.cells #[.bool p.1.f0, .slice p.2.1 p.1.f1.length p.2.2] 24)).alloc (.cells #[.bool q.1.f0, .slice q.2.1 q.1.f1.length q.2.2] 24) = W4 := ⟨_, rfl⟩
    have hb4 : Below w3.heap.size w3 W4 := by rw [← hW4]; exact ((Below.refl _ _).alloc (Nat.le_refl _) _).alloc (by simp) _
    have gp : W4.heap[w3.heap.size]? = some (.cells #[.bool p.1.f0, .slice p.2.1 p.1.f1.length p.2.2] 24 (0, 0)) := by rw [← hW4]; exact blk_alloc (blk_new _ _) _
    have gq : W4.heap[w3.heap.size + 1]? = some (.cells #[.bool q.1.f0, .slice q.2.1 q.1.f1.length q.2.2] 24 (0, 0)) := by
      rw [← hW4]; have := blk_new (w3.alloc (.cells #[.bool p.1.f0, .slice p.2.1 p.1.f1.length p.2.2] 24)) (.cells #[.bool q.1.f0, .slice q.2.1 q.1.f1.length q.2.2] 24); rwa [World.size_alloc] at this
    rw [hW4]
    have HI4 := Lib.hid (HI3.out.step hb4)
    have GP := Lib.hid gp
    have GQ := Lib.hid gq
    have FP4 := Lib.hid (FP.out.below hb4)
    have FQ4 := Lib.hid (FQ.out.below hb4)
    clear hb4 gp gq hW4
    refine (RefRight18 p W4 FP4.out.1 FP4.out.now).mono ?_
    rintro e w5 ⟨rfl, hb5⟩
    have HI5 := Lib.hid (HI4.out.step hb5)
    have GP5 := Lib.hid (blk_below GP.out hb5)
    have GQ5 := Lib.hid (blk_below GQ.out hb5)
    have FP5 := Lib.hid (FP4.out.below hb5)
    have FQ5 := Lib.hid (FQ4.out.below hb5)
    have q0 := cell0 GQ5.out
    have q1 := cell1 GQ5.out
    have hrp : rightB p.1 = decide t.split.1.right := by rw [HP.out, right_T]
    have hrq : rightB q.1 = decide t.split.2.right := by rw [HQ.out, right_T]
    have HRQ := Lib.hid hrq
    clear hb5 hrq
    rw [hrp]
    clear hrp
    go_wp2_with fail
    refine (RefRight18 q w5 FQ5.out.1 FQ5.out.now).mono ?_
    rintro e w6 ⟨rfl, hb6⟩
    have HI6 := Lib.hid (HI5.out.step hb6)
    have GP6 := Lib.hid (blk_below GP5.out hb6)
    have GQ6 := Lib.hid (blk_below GQ5.out hb6)
    have FP6 := Lib.hid (FP5.out.below hb6)
    have FQ6 := Lib.hid (FQ5.out.below hb6)
    clear hb6 q0 q1
    rw [HRQ.out]
    have n0 := cell0 HI6.out.one
    have n1 := cell0 HI6.out.two
    have m0 := cell1 HI6.out.one
    have m1 := cell1 HI6.out.two
    have f1 := free2 HI6.out.one
    have f2 := free2 HI6.out.two
    by_cases r1 : t.split.1.right
    · rw [decide_eq_true r1]
      by_cases r2 : t.split.2.right
      · rw [decide_eq_true r2]
        go_wp2_with fail
        have z0 : w6.drew.cell? ⟨w3.heap.size, 0, none⟩ = some (.bool p.1.f0) := cell0 GP6.out
        have z1 : w6.drew.cell? ⟨w3.heap.size, 1, none⟩ = some (.slice p.2.1 p.1.f1.length p.2.2) := cell1 GP6.out
        have z2 : w6.drew.cell? ⟨w3.heap.size + 1, 0, none⟩ = some (.bool q.1.f0) := cell0 GQ6.out
        have z3 : w6.drew.cell? ⟨w3.heap.size + 1, 1, none⟩ = some (.slice q.2.1 q.1.f1.length q.2.2) := cell1 GQ6.out
        have n0' : w6.drew.cell? ⟨w.heap.size + 1, 0, none⟩ = some (.bool false) := n0
        have n1' : w6.drew.cell? ⟨w.heap.size + 1 + 1, 0, none⟩ = some (.bool false) := n1
        have m0' : w6.drew.cell? ⟨w.heap.size + 1, 1, none⟩ = some (.slice none 0 0) := m0
        have m1' : w6.drew.cell? ⟨w.heap.size + 1 + 1, 1, none⟩ = some (.slice none 0 0) := m1
        have f1' : ∀ o, w6.drew.frozen? ⟨w.heap.size + 1, o, none⟩ = false := f1
        have f2' : ∀ o, w6.drew.frozen? ⟨w.heap.size + 1 + 1, o, none⟩ = false := f2
        have y0 := cell0 GP6.out
        have y1 := cell1 GP6.out
        have y2 := cell0 GQ6.out
        have y3 := cell1 GQ6.out
        have hlt1 := (Array.getElem?_eq_some_iff.1 HI3.out.two).1
        have ne1 : w3.heap.size ≠ w.heap.size + 1 := by omega
        have ne2 : w3.heap.size ≠ w.heap.size + 1 + 1 := by omega
        have ne3 : w3.heap.size + 1 ≠ w.heap.size + 1 := by omega
        have ne4 : w3.heap.size + 1 ≠ w.heap.size + 1 + 1 := by omega
        have ne5 : w3.heap.size ≠ w.heap.size := by omega
        have ne6 := ne5.symm
        have ne7 := ne1.symm
        have ne8 := ne2.symm
        have ne9 := ne4.symm
        go_region_with (first | fail)
        all_goals
          go_wp2_with fail
          refine Split16_out p q 0 (HI6.out.step (W' := w6.drew) (Below.refl _ _).drew) rfl rfl rfl ?_
          intro W' hI' hm
          have hs := HS.out
          rw [if_pos ⟨r1, r2⟩] at hs
          refine ⟨p, q, by rw [hs], by rw [hs]; exact HP.out, by rw [hs]; exact HQ.out, (FP6.out.move (W' := W') (fun j hj => hm j ?_ ?_)).mono (fun j hj => ?_), (FQ6.out.move (W' := W') (fun j hj => hm j ?_ ?_)).mono (fun j hj => ?_), hI'.below⟩
          all_goals (have h0' := HS0.out; have h2' := HS2.out; have h3' := HI.out.below.size; have h4' := HI2.out.below.size; rcases hj with hj | hj <;> omega)
      · rw [decide_eq_false r2]
        go_wp2_with fail
        refine Split16_out (⟨false, []⟩, none, 0) (⟨false, []⟩, none, 0) 41 HI6.out rfl rfl rfl ?_
        intro W' hI' hm
        have hs := HS.out
        rw [if_neg (fun h => r2 h.2)] at hs
        exact ⟨(⟨false, []⟩, none, 0), (⟨false, []⟩, none, 0), by rw [hs], by rw [hs], by rw [hs], Ft.leaf _ _ _, Ft.leaf _ _ _, hI'.below⟩
    · rw [decide_eq_false r1]
      go_wp2_with fail
      refine Split16_out (⟨false, []⟩, none, 0) (⟨false, []⟩, none, 0) 41 HI6.out rfl rfl rfl ?_
      intro W' hI' hm
      have hs := HS.out
      rw [if_neg (fun h => r1 h.1)] at hs
      exact ⟨(⟨false, []⟩, none, 0), (⟨false, []⟩, none, 0), by rw [hs], by rw [hs], by rw [hs], Ft.leaf _ _ _, Ft.leaf _ _ _, hI'.below⟩
  · have e0 : ((NormS k.1).2 != 0) = true := bne_iff_ne.2 h0
    have gx := blk_new w1 (.cells #[.bool k'.1.f0, .slice k'.2.1 k'.1.f1.length k'.2.2] 24)
    have hI2 := HI1.out.step ((Below.refl _ _).alloc (Nat.le_refl _) (.cells #[.bool k'.1.f0, .slice k'.2.1 k'.1.f1.length k'.2.2] 24))
    have n0 := cell0 hI2.one
    have n1 := cell0 hI2.two
    have m0 := cell1 hI2.one
    have m1 := cell1 hI2.two
    have f1 := free2 hI2.one
    have f2 := free2 hI2.two
    have HI2 := Lib.hid hI2
    clear hI2
    go_wp2_with fail
    refine Split16_out (⟨false, []⟩, none, 0) (⟨false, []⟩, none, 0) (NormS k.1).2 HI2.out rfl rfl rfl ?_
    intro W' hI' hm
    have hs : SplitS k.1 = (⟨false, []⟩, ⟨false, []⟩, (NormS k.1).2) := by unfold SplitS; rw [if_neg h0]
    exact ⟨(⟨false, []⟩, none, 0), (⟨false, []⟩, none, 0), by rw [hs], by rw [hs], by rw [hs], Ft.leaf _ _ _, Ft.leaf _ _ _, hI'.below⟩
end Go.Proofs.Ytlhaofbncoijfaa.HandF
namespace Go.Proofs.Ytlhaofbncoijfaa.HandF
set_option linter.unusedVariables false
set_option linter.unusedSimpArgs false
open Go.RowKit Go.Proofs.Ytlhaofbncoijfaa.X Go.Proofs.Ytlhaofbncoijfaa.Tree Go.Proofs.Ytlhaofbncoijfaa.Blocks
open Go.Proofs.YtlhaofbncoijfaaW.PrintWords Go.Proofs.YtlhaofbncoijfaaW.PrintLast Go.Proofs.YtlhaofbncoijfaaW.PrintMore
theorem SplitS_tree (s : S24) : ∃ a b : T, (SplitS s).1 = a.toS ∧ (SplitS s).2.1 = b.toS := by
  unfold SplitS
  by_cases h : (NormS s).2 = 0
  · rw [if_pos h]
    obtain ⟨t, ht⟩ := NormS_tree s
    rw [ht, T.of_toS]
    dsimp only
    by_cases h2 : t.split.1.right ∧ t.split.2.right
    · rw [if_pos h2]; exact ⟨_, _, rfl, rfl⟩
    · rw [if_neg h2]; exact ⟨.leaf false, .leaf false, rfl, rfl⟩
  · rw [if_neg h]; exact ⟨.leaf false, .leaf false, rfl, rfl⟩
set_option maxRecDepth 100000 in
set_option maxHeartbeats 40000000 in
theorem Norms3 (k : Kd2) (w : World) (hk : k.1.f1.length ≤ k.2.2) (hkC : Kd.C k24 w k.2.1 k.1.f1.length k.1.f1) :
    Calls Try.prog 3 #[kv k] w fun e w' => e = .returned (.bool true) ∧ Below w.heap.size w w' := by
  have LK := Lib.hid hk
  have CK := Lib.hid hkC
  obtain ⟨e1, he1⟩ : ∃ e, (NormS k.1).2 = e := ⟨_, rfl⟩
  obtain ⟨e2, he2⟩ : ∃ e, (SplitS k.1).2.2 = e := ⟨_, rfl⟩
  have E1 := Lib.hid he1
  have E2 := Lib.hid he2
  clear hk hkC he1 he2
  have hu24 := Try.underlying24
  have hu22 := Try.underlying22
  have hu26 := Try.underlying26
  go_enter Try.func3, Try.ntmps3
  go_wp2_with fail
  have B0 : Hid (Below w.heap.size w (w.alloc (.cells #[.bool k.1.f0, .slice k.2.1 k.1.f1.length k.2.2] 24))) := Lib.hid ((Below.refl _ _).alloc (Nat.le_refl _) _)
  have A0 := Lib.hid (box24.new w k)
  refine (pannierlaw04_shown.calls true _ rfl).mono ?_
  rintro e w1 ⟨rfl, hb1⟩
  have A1 := Lib.hid (A0.out.below hb1)
  have B1 := Lib.hid (B0.out.trans (hb1.mono B0.out.size))
  clear hb1 A0
  have a0 := A1.out.c0
  have a1 := A1.out.c1
  go_wp2_with fail
  clear a0 a1
  refine (Norm13 k _ LK.out (Kd.C_below CK.out B1.out)).mono ?_
  rintro e w2 ⟨x, rfl, hx, fx, hb2⟩
  rw [E1.out]
  have HX := Lib.hid hx
  have FX2 := Lib.hid fx
  have A2 := Lib.hid (A1.out.below hb2)
  have B2 := Lib.hid (B1.out.trans (hb2.mono B1.out.size))
  clear hx fx hb2 A1 
  have a0 := (A2.out.alloc (ob := .cells #[.bool x.1.f0, .slice x.2.1 x.1.f1.length x.2.2] 24)).c0
  have a1 := (A2.out.alloc (ob := .cells #[.bool x.1.f0, .slice x.2.1 x.1.f1.length x.2.2] 24)).c1
  go_wp2_with fail
  clear a0 a1
  obtain ⟨W3, hW3⟩ : ∃ W, w2.alloc (.cells #[.bool x.1.f0, .slice x.2.1 x.1.f1.length x.2.2] 24) = W := ⟨_, rfl⟩
  have hb3 : Below w2.heap.size w2 W3 := by rw [← hW3]; exact (Below.refl _ _).alloc (Nat.le_refl _) _
  have gx : box24 W3 w2.heap.size x := by rw [← hW3]; exact box24.new _ _
  rw [hW3]
  have A3 := Lib.hid (A2.out.below hb3)
  have FX3 := Lib.hid (FX2.out.below hb3)
  have B3 := Lib.hid (B2.out.trans (hb3.mono B2.out.size))
  have X3 := Lib.hid gx
  clear gx hb3 hW3 A2 FX2
  refine (Norm14 k _ LK.out (Kd.C_below CK.out B3.out)).mono ?_
  rintro e w4 ⟨y, rfl, hy, fy, hb4⟩
  rw [E1.out]
  have HY := Lib.hid hy
  have FY4 := Lib.hid fy
  have A4 := Lib.hid (A3.out.below hb4)
  have X4 := Lib.hid (X3.out.below hb4)
  have FX4 := Lib.hid (FX3.out.below hb4)
  have B4 := Lib.hid (B3.out.trans (hb4.mono B3.out.size))
  clear hy fy hb4 A3 X3 FX3
  have a0 := (A4.out.alloc (ob := .cells #[.bool y.1.f0, .slice y.2.1 y.1.f1.length y.2.2] 24)).c0
  have a1 := (A4.out.alloc (ob := .cells #[.bool y.1.f0, .slice y.2.1 y.1.f1.length y.2.2] 24)).c1
  go_wp2_with fail
  clear a0 a1
  obtain ⟨W5, hW5⟩ : ∃ W, w4.alloc (.cells #[.bool y.1.f0, .slice y.2.1 y.1.f1.length y.2.2] 24) = W := ⟨_, rfl⟩
  have hb5 : Below w4.heap.size w4 W5 := by rw [← hW5]; exact (Below.refl _ _).alloc (Nat.le_refl _) _
  have gy : box24 W5 w4.heap.size y := by rw [← hW5]; exact box24.new _ _
  rw [hW5]
  have A5 := Lib.hid (A4.out.below hb5)
  have X5 := Lib.hid (X4.out.below hb5)
  have FX5 := Lib.hid (FX4.out.below hb5)
  have FY5 := Lib.hid (FY4.out.below hb5)
  have B5 := Lib.hid (B4.out.trans (hb5.mono B4.out.size))
  have Y5 := Lib.hid gy
  clear gy hb5 hW5 A4 X4 FX4 FY4
  refine (Split15 k _ LK.out (Kd.C_below CK.out B5.out)).mono ?_
  rintro e w6 ⟨p, q, rfl, hp, hq, fp, fq, hb6⟩
  rw [E2.out]
  have HP := Lib.hid hp
  have FP6 := Lib.hid fp
  have HQ := Lib.hid hq
  have FQ6 := Lib.hid fq
  have A6 := Lib.hid (A5.out.below hb6)
  have X6 := Lib.hid (X5.out.below hb6)
  have Y6 := Lib.hid (Y5.out.below hb6)
  have FX6 := Lib.hid (FX5.out.below hb6)
  have FY6 := Lib.hid (FY5.out.below hb6)
  have B6 := Lib.hid (B5.out.trans (hb6.mono B5.out.size))
  clear hp hq fp fq hb6 A5 X5 Y5 FX5 FY5
  have a0 := ((A6.out.alloc (ob := .cells #[.bool p.1.f0, .slice p.2.1 p.1.f1.length p.2.2] 24)).alloc (ob := .cells #[.bool q.1.f0, .slice q.2.1 q.1.f1.length q.2.2] 24)).c0
  have a1 := ((A6.out.alloc (ob := .cells #[.bool p.1.f0, .slice p.2.1 p.1.f1.length p.2.2] 24)).alloc (ob := .cells #[.bool q.1.f0, .slice q.2.1 q.1.f1.length q.2.2] 24)).c1
  go_wp2_with fail
  clear a0 a1
  obtain ⟨W7, hW7⟩ : ∃ W, (w6.alloc (.cells #[.bool p.1.f0, .slice p.2.1 p.1.f1.length p.2.2] 24)).alloc (.cells #[.bool q.1.f0, .slice q.2.1 q.1.f1.length q.2.2] 24) = W := ⟨_, rfl⟩
  have hb7 : Below w6.heap.size w6 W7 := by rw [← hW7]; exact ((Below.refl _ _).alloc (Nat.le_refl _) _).alloc (by simp) _
  have gp : box24 W7 w6.heap.size p := by rw [← hW7]; exact (box24.new _ _).alloc
  have gq : box24 W7 (w6.heap.size + 1) q := by rw [← hW7]; have := box24.new (w6.alloc (.cells #[.bool p.1.f0, .slice p.2.1 p.1.f1.length p.2.2] 24)) q; rwa [World.size_alloc] at this
  rw [hW7]
  have A7 := Lib.hid (A6.out.below hb7)
  have X7 := Lib.hid (X6.out.below hb7)
  have Y7 := Lib.hid (Y6.out.below hb7)
  have FX7 := Lib.hid (FX6.out.below hb7)
  have FY7 := Lib.hid (FY6.out.below hb7)
  have FP7 := Lib.hid (FP6.out.below hb7)
  have FQ7 := Lib.hid (FQ6.out.below hb7)
  have B7 := Lib.hid (B6.out.trans (hb7.mono B6.out.size))
  have P7 := Lib.hid gp
  have Q7 := Lib.hid gq
  clear gp gq hb7 hW7 A6 X6 Y6 FX6 FY6 FP6 FQ6
  refine (Split16 k _ LK.out (Kd.C_below CK.out B7.out)).mono ?_
  rintro e w8 ⟨r, s, rfl, hr, hs, fr, fs, hb8⟩
  rw [E2.out]
  have HR := Lib.hid hr
  have FR8 := Lib.hid fr
  have HS := Lib.hid hs
  have FS8 := Lib.hid fs
  have A8 := Lib.hid (A7.out.below hb8)
  have X8 := Lib.hid (X7.out.below hb8)
  have Y8 := Lib.hid (Y7.out.below hb8)
  have P8 := Lib.hid (P7.out.below hb8)
  have Q8 := Lib.hid (Q7.out.below hb8)
  have FX8 := Lib.hid (FX7.out.below hb8)
  have FY8 := Lib.hid (FY7.out.below hb8)
  have FP8 := Lib.hid (FP7.out.below hb8)
  have FQ8 := Lib.hid (FQ7.out.below hb8)
  have B8 := Lib.hid (B7.out.trans (hb8.mono B7.out.size))
  clear hr hs fr fs hb8 A7 X7 Y7 P7 Q7 FX7 FY7 FP7 FQ7
  go_wp2_with fail
  obtain ⟨W9, hW9⟩ : ∃ W, (w8.alloc (.cells #[.bool r.1.f0, .slice r.2.1 r.1.f1.length r.2.2] 24)).alloc (.cells #[.bool s.1.f0, .slice s.2.1 s.1.f1.length s.2.2] 24) = W := ⟨_, rfl⟩
  have hb9 : Below w8.heap.size w8 W9 := by rw [← hW9]; exact ((Below.refl _ _).alloc (Nat.le_refl _) _).alloc (by simp) _
  have gr : box24 W9 w8.heap.size r := by rw [← hW9]; exact (box24.new _ _).alloc
  have gs : box24 W9 (w8.heap.size + 1) s := by rw [← hW9]; have := box24.new (w8.alloc (.cells #[.bool r.1.f0, .slice r.2.1 r.1.f1.length r.2.2] 24)) s; rwa [World.size_alloc] at this
  rw [hW9]
  have A9 := Lib.hid (A8.out.below hb9)
  have X9 := Lib.hid (X8.out.below hb9)
  have Y9 := Lib.hid (Y8.out.below hb9)
  have P9 := Lib.hid (P8.out.below hb9)
  have Q9 := Lib.hid (Q8.out.below hb9)
  have FX9 := Lib.hid (FX8.out.below hb9)
  have FY9 := Lib.hid (FY8.out.below hb9)
  have FP9 := Lib.hid (FP8.out.below hb9)
  have FQ9 := Lib.hid (FQ8.out.below hb9)
  have FR9 := Lib.hid (FR8.out.below hb9)
  have FS9 := Lib.hid (FS8.out.below hb9)
  have B9 := Lib.hid (B8.out.trans (hb9.mono B8.out.size))
  have R9 := Lib.hid gr
  have S9 := Lib.hid gs
  clear gr gs hb9 hW9 A8 X8 Y8 P8 Q8 FX8 FY8 FP8 FQ8 FR8 FS8
  have HELD : Hid (∀ W, Below W9.heap.size W9 W →
      W.cell? ⟨w.heap.size, 0, none⟩ = some (.bool k.1.f0) ∧ W.cell? ⟨w.heap.size, 1, none⟩ = some (.slice k.2.1 k.1.f1.length k.2.2) ∧
      W.cell? ⟨w2.heap.size, 0, none⟩ = some (.bool x.1.f0) ∧ W.cell? ⟨w2.heap.size, 1, none⟩ = some (.slice x.2.1 x.1.f1.length x.2.2) ∧
      W.cell? ⟨w4.heap.size, 0, none⟩ = some (.bool y.1.f0) ∧ W.cell? ⟨w4.heap.size, 1, none⟩ = some (.slice y.2.1 y.1.f1.length y.2.2) ∧
      W.cell? ⟨w6.heap.size, 0, none⟩ = some (.bool p.1.f0) ∧ W.cell? ⟨w6.heap.size, 1, none⟩ = some (.slice p.2.1 p.1.f1.length p.2.2) ∧
      W.cell? ⟨w6.heap.size + 1, 0, none⟩ = some (.bool q.1.f0) ∧ W.cell? ⟨w6.heap.size + 1, 1, none⟩ = some (.slice q.2.1 q.1.f1.length q.2.2) ∧
      W.cell? ⟨w8.heap.size, 0, none⟩ = some (.bool r.1.f0) ∧ W.cell? ⟨w8.heap.size, 1, none⟩ = some (.slice r.2.1 r.1.f1.length r.2.2) ∧
      W.cell? ⟨w8.heap.size + 1, 0, none⟩ = some (.bool s.1.f0) ∧ W.cell? ⟨w8.heap.size + 1, 1, none⟩ = some (.slice s.2.1 s.1.f1.length s.2.2)) := Lib.hid (fun W hW => by
    have A9 := A9.out.below hW
    have X9 := X9.out.below hW
    have Y9 := Y9.out.below hW
    have P9 := P9.out.below hW
    have Q9 := Q9.out.below hW
    have R9 := R9.out.below hW
    have S9 := S9.out.below hW
    exact ⟨A9.c0, A9.c1, X9.c0, X9.c1, Y9.c0, Y9.c1, P9.c0, P9.c1, Q9.c0, Q9.c1, R9.c0, R9.c1, S9.c0, S9.c1⟩)
  obtain ⟨tx, htx⟩ := NormS_tree k.1
  obtain ⟨tp, tq, htp, htq⟩ := SplitS_tree k.1
  have TX : Hid (x.1 = tx.toS) := Lib.hid (by rw [HX.out, htx])
  have TY : Hid (y.1 = tx.toS) := Lib.hid (by rw [HY.out, htx])
  have TP : Hid (p.1 = tp.toS) := Lib.hid (by rw [HP.out, htp])
  have TR : Hid (r.1 = tp.toS) := Lib.hid (by rw [HR.out, htp])
  have TQ : Hid (q.1 = tq.toS) := Lib.hid (by rw [HQ.out, htq])
  have TS : Hid (s.1 = tq.toS) := Lib.hid (by rw [HS.out, htq])
  have EX : Hid (T.eqb tx tx = true) := Lib.hid (eqb_self _)
  have EP : Hid (T.eqb tp tp = true) := Lib.hid (eqb_self _)
  have EQ : Hid (T.eqb tq tq = true) := Lib.hid (eqb_self _)
  have e11 : (e1 == e1) = true := by simp
  have e22 : (e2 == e2) = true := by simp
  have ebb : (rightB k.1 == rightB k.1) = true := by simp
  have CKn : Hid (Kd.C k24 W9 k.2.1 k.1.f1.length k.1.f1) := Lib.hid (Kd.C_below CK.out B9.out)
  have Y0 : Hid (Below W9.heap.size W9 W9) := Lib.hid (Below.refl _ _)
  have Y1 : Hid (Below W9.heap.size W9 W9.drew) := Lib.hid (Below.refl _ _).drew
  clear htx htp htq A9 X9 Y9 P9 Q9 R9 S9
  go_region_held3 (fun W => W.cell? ⟨w.heap.size, 0, none⟩ = some (.bool k.1.f0) ∧ W.cell? ⟨w.heap.size, 1, none⟩ = some (.slice k.2.1 k.1.f1.length k.2.2) ∧
      W.cell? ⟨w2.heap.size, 0, none⟩ = some (.bool x.1.f0) ∧ W.cell? ⟨w2.heap.size, 1, none⟩ = some (.slice x.2.1 x.1.f1.length x.2.2) ∧
      W.cell? ⟨w4.heap.size, 0, none⟩ = some (.bool y.1.f0) ∧ W.cell? ⟨w4.heap.size, 1, none⟩ = some (.slice y.2.1 y.1.f1.length y.2.2) ∧
      W.cell? ⟨w6.heap.size, 0, none⟩ = some (.bool p.1.f0) ∧ W.cell? ⟨w6.heap.size, 1, none⟩ = some (.slice p.2.1 p.1.f1.length p.2.2) ∧
      W.cell? ⟨w6.heap.size + 1, 0, none⟩ = some (.bool q.1.f0) ∧ W.cell? ⟨w6.heap.size + 1, 1, none⟩ = some (.slice q.2.1 q.1.f1.length q.2.2) ∧
      W.cell? ⟨w8.heap.size, 0, none⟩ = some (.bool r.1.f0) ∧ W.cell? ⟨w8.heap.size, 1, none⟩ = some (.slice r.2.1 r.1.f1.length r.2.2) ∧
      W.cell? ⟨w8.heap.size + 1, 0, none⟩ = some (.bool s.1.f0) ∧ W.cell? ⟨w8.heap.size + 1, 1, none⟩ = some (.slice s.2.1 s.1.f1.length s.2.2))
    (with_reducible first | exact HELD.out _ Y1.out | exact HELD.out _ Y0.out | exact HELD.out _ Z1.out | exact HELD.out _ Z2.out | exact HELD.out _ Z3.out | exact HELD.out _ Z4.out | exact HELD.out _ Z5.out)
    (first
      | (go_at_call 19; (with_reducible refine (Equal19 q s tq tq _ TQ.out TS.out (FQ9.out.below Z4.out).len (FQ9.out.below Z4.out).now (FS9.out.below Z4.out).len (FS9.out.below Z4.out).now).mono ?_); rintro e v5 ⟨rfl, hbz⟩; have Z5 := Lib.hid (Z4.out.trans (hbz.mono Z4.out.size)); rw [EQ.out]; clear hbz)
      | (go_at_call 19; (with_reducible refine (Equal19 p r tp tp _ TP.out TR.out (FP9.out.below Z3.out).len (FP9.out.below Z3.out).now (FR9.out.below Z3.out).len (FR9.out.below Z3.out).now).mono ?_); rintro e v4 ⟨rfl, hbz⟩; have Z4 := Lib.hid (Z3.out.trans (hbz.mono Z3.out.size)); rw [EP.out]; clear hbz)
      | (go_at_call 19; (with_reducible refine (Equal19 x y tx tx _ TX.out TY.out (FX9.out.below Z2.out).len (FX9.out.below Z2.out).now (FY9.out.below Z2.out).len (FY9.out.below Z2.out).now).mono ?_); rintro e v3 ⟨rfl, hbz⟩; have Z3 := Lib.hid (Z2.out.trans (hbz.mono Z2.out.size)); rw [EX.out]; clear hbz)
      | (go_at_call 18; (with_reducible refine (RefRight18 k _ LK.out (Kd.C_below CKn.out Z1.out)).mono ?_); rintro e v2 ⟨rfl, hbz⟩; have Z2 := Lib.hid (Z1.out.trans (hbz.mono Z1.out.size)); clear hbz)
      | (go_at_call 17; (with_reducible refine (Right17 k _ LK.out (Kd.C_below CKn.out Y1.out)).mono ?_); rintro e v1 ⟨rfl, hbz⟩; have Z1 := Lib.hid (Y1.out.trans (hbz.mono Y1.out.size)); clear hbz))
  all_goals
    have HB6 := Lib.hid (B9.out.trans (Z5.out.mono B9.out.size))
    go_wp2_with fail
    go_ret
    exact ⟨rfl, HB6.out⟩
end Go.Proofs.Ytlhaofbncoijfaa.HandF
