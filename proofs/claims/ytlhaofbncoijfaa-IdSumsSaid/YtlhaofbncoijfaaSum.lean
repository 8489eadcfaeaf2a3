/- The walk of id.sum. -/
import Derived.Test.YtlhaofbncoijfaaKids
import Derived.Test.YtlhaofbncoijfaaX60
import Derived.Test.YtlhaofbncoijfaaBlocks
import Derived.Deep.RegionWith
import Derived.Deep.RegionHeld3
import Derived.Lib.Hide
namespace Go.Proofs.Ytlhaofbncoijfaa.HandF
set_option linter.unusedVariables false
set_option linter.unusedSimpArgs false
open Go.RowKit Go.Proofs.Ytlhaofbncoijfaa.X Go.Proofs.Ytlhaofbncoijfaa.Tree Go.Proofs.Ytlhaofbncoijfaa.Blocks
open Go.Proofs.YtlhaofbncoijfaaW.PrintWords Go.Proofs.YtlhaofbncoijfaaW.PrintLast Go.Proofs.YtlhaofbncoijfaaW.PrintMore

theorem join_f (a b : T) : id_join.f a.toS.f0 a.toS.f1 b.toS.f0 b.toS.f1 = some ((T.join a b).toS.f0, (T.join a b).toS.f1) := by
  cases a with
  | leaf x => cases b with
    | leaf y => cases x <;> cases y <;> rfl
    | node c d => rfl
  | node c d => cases b <;> rfl
theorem join_calls (ka kb : Kd2) (a b : T) (w : World) (ok : Nat → Prop) (hka : ka.1 = a.toS) (hkb : kb.1 = b.toS) (ha : Ft w ok ka) (hb : Ft w ok kb) :
    Calls Try.prog 60 #[kv ka, kv kb] w fun e w' => ∃ k' : Kd2, e = .returned (kv k') ∧ k'.1 = (T.join a b).toS ∧ Ft w' (fun j => ok j ∨ w.heap.size ≤ j) k' ∧ Below w.heap.size w w' := by
  obtain ⟨sa, Aa, ca⟩ := ka
  obtain ⟨sb, Ab, cb⟩ := kb
  dsimp only at hka hkb
  subst hka hkb
  refine (id_join.calls a.toS.f0 ok Aa ca a.toS.f1 b.toS.f0 ok Ab cb b.toS.f1 _ _ w ha.toV hb.toV (join_f a b)).mono ?_
  rintro e w' ⟨v, rfl, hv, hbl⟩
  obtain ⟨A, c, rfl, hl, hf⟩ := Kd.N_V (base' := 0) hv
  exact ⟨((T.join a b).toS, A, c), rfl, rfl, ⟨hl, Kd.F_mono hf (fun j hj => by rcases hj with (h | h) | h <;> first | exact .inl h | exact .inr h)⟩, hbl⟩

/-- The boxes of sum. -/
structure SuI (w W : World) (k m : Kd2) (c1 : Array Value) : Prop where
  below : Below w.heap.size w W
  left : W.heap[w.heap.size]? = some (.cells #[.bool k.1.f0, .slice k.2.1 k.1.f1.length k.2.2] 24 (0, 0))
  right : W.heap[w.heap.size + 1]? = some (.cells #[.bool m.1.f0, .slice m.2.1 m.1.f1.length m.2.2] 24 (0, 0))
  out : W.heap[w.heap.size + 1 + 1]? = some (.cells c1 24 (0, 0))
theorem SuI.step {w W W' : World} {k m : Kd2} {c1 : Array Value} (h : SuI w W k m c1) (hb : Below W.heap.size W W') : SuI w W' k m c1 :=
  ⟨h.below.trans (hb.mono h.below.size), blk_below h.left hb, blk_below h.right hb, blk_below h.out hb⟩
theorem SuI.far {w W : World} {k m : Kd2} {c1 : Array Value} (h : SuI w W k m c1) {g o : Nat} {u : Value} (hg : w.heap.size + 1 + 1 < g) : SuI w (W.setCell ⟨g, o, none⟩ u) k m c1 :=
  ⟨h.below.setCell (by show _ ≤ g; omega) _, (set_other (by show _ ≠ g; omega)).trans h.left, (set_other (by show _ ≠ g; omega)).trans h.right, (set_other (by show _ ≠ g; omega)).trans h.out⟩
theorem SuI.lt {w W : World} {k m : Kd2} {c1 : Array Value} (h : SuI w W k m c1) : w.heap.size + 1 + 1 < W.heap.size := (Array.getElem?_eq_some_iff.1 h.out).1
theorem Ft.alloc {W : World} {ok : Nat → Prop} {k : Kd2} (h : Ft W ok k) (o : Obj) : Ft (W.alloc o) ok k := h.below ((Below.refl _ _).alloc (Nat.le_refl _) _)
theorem Ft.set {W : World} {ok : Nat → Prop} {k : Kd2} (h : Ft W ok k) {g o : Nat} {u : Value} (hg : ¬ ok g) : Ft (W.setCell ⟨g, o, none⟩ u) ok k := h.move (fun j hj => set_other (by show j ≠ g; rintro rfl; exact hg hj))
theorem le_alloc (W : World) (o : Obj) : W.heap.size ≤ (W.alloc o).heap.size := by rw [World.size_alloc]; exact Nat.le_succ _
/-- What stands behind the two calls: a tree in a box of its own. -/
structure SuL (w W : World) (ok : Nat → Prop) (g : Nat) (k1 : Kd2) : Prop where
  box : W.heap[g]? = some (.cells #[.bool k1.1.f0, .slice k1.2.1 k1.1.f1.length k1.2.2] 24 (0, 0))
  foot : Ft W (fun j => ((ok j ∧ j < w.heap.size) ∨ w.heap.size + 1 + 1 < j) ∧ j < W.heap.size) k1
  far : w.heap.size + 1 + 1 < g
theorem SuL.step {w W W' : World} {ok : Nat → Prop} {g : Nat} {k1 : Kd2} (h : SuL w W ok g k1) (hb : Below W.heap.size W W') : SuL w W' ok g k1 :=
  ⟨blk_below h.box hb, (h.foot.below hb).mono (fun j hj => ⟨hj.1, Nat.lt_of_lt_of_le hj.2 hb.size⟩), h.far⟩
/-- A box that was made behind the call, and one that was made ahead of it. -/
theorem SuL.behind {w W : World} {ok ok' : Nat → Prop} {k1 : Kd2} (h : Ft W ok' k1) (hok : ∀ j, ok' j → (ok j ∧ j < w.heap.size) ∨ w.heap.size + 1 + 1 < j) (hw : w.heap.size + 1 + 1 < W.heap.size) :
    SuL w (W.alloc (.cells #[.bool k1.1.f0, .slice k1.2.1 k1.1.f1.length k1.2.2] 24)) ok W.heap.size k1 :=
  ⟨blk_new _ _, ((h.alloc _).bound).mono (fun j hj => ⟨hok j hj.1, hj.2⟩), hw⟩
theorem SuL.ahead {w W : World} {ok ok' : Nat → Prop} {k1 : Kd2} {g : Nat} {x y : Value} (hbox : W.heap[g]? = some (.cells #[x, y] 24 (0, 0))) (h : Ft W ok' k1) (hok : ∀ j, ok' j → ((ok j ∧ j < w.heap.size) ∨ w.heap.size + 1 + 1 < j) ∧ j ≠ g) (hg : w.heap.size + 1 + 1 < g) :
    SuL w ((W.setCell ⟨g, 0, none⟩ (.bool k1.1.f0)).setCell ⟨g, 1, none⟩ (.slice k1.2.1 k1.1.f1.length k1.2.2)) ok g k1 :=
  ⟨set1 (set0 hbox), ((((h.mono hok).set (fun h => h.2 rfl)).set (fun h => h.2 rfl)).bound).mono (fun j hj => ⟨hj.1.1, hj.2⟩), hg⟩
theorem SuL.keep {w W : World} {ok : Nat → Prop} {g g2 o : Nat} {k1 : Kd2} {u : Value} {n : Nat} (h : SuL w W ok g k1) (hf : Ft W (fun j => ((ok j ∧ j < w.heap.size) ∨ w.heap.size + 1 + 1 < j) ∧ j < n) k1) (hg : g < n) (hn : n ≤ g2) (hnW : n ≤ W.heap.size) : SuL w (W.setCell ⟨g2, o, none⟩ u) ok g k1 ∧ Ft (W.setCell ⟨g2, o, none⟩ u) (fun j => ((ok j ∧ j < w.heap.size) ∨ w.heap.size + 1 + 1 < j) ∧ j < n) k1 := by
  have hf' := hf.set (g := g2) (o := o) (u := u) (fun hj => by have := hj.2; omega)
  exact ⟨⟨(set_other (by show g ≠ g2; omega)).trans h.box, hf'.mono (fun j hj => ⟨hj.1, by rw [size_set]; have := hj.2; omega⟩), h.far⟩, hf'⟩
/-- How it is left. -/
theorem sum_out {w W : World} {k m : Kd2} {a b : Value} {R : Ending → World → Prop} {tmps : Array Value} (k1 : Kd2) (x : Bool) (h : SuI w W k m #[a, b])
    (h2 : tmps.getD 4 undef = .pointer (some ⟨w.heap.size + 1 + 1, 0, none⟩)) (h3 : tmps.getD 5 undef = .bool x)
    (hR : ∀ W', Below w.heap.size w W' → (∀ j, j ≠ w.heap.size + 1 + 1 → W'.heap[j]? = W.heap[j]?) → R (.returned (.tuple #[kv k1, .bool x])) W') :
    bodyPost Try.prog Try.f43 R .ret { tmps := tmps, defers := [] } ((W.setCell ⟨w.heap.size + 1 + 1, 0, none⟩ (.bool k1.1.f0)).setCell ⟨w.heap.size + 1 + 1, 1, none⟩ (.slice k1.2.1 k1.1.f1.length k1.2.2)) := by
  have hs : ((W.setCell ⟨w.heap.size + 1 + 1, 0, none⟩ (.bool k1.1.f0)).setCell ⟨w.heap.size + 1 + 1, 1, none⟩ (.slice k1.2.1 k1.1.f1.length k1.2.2)).heap[w.heap.size + 1 + 1]? = some (.cells #[.bool k1.1.f0, .slice k1.2.1 k1.1.f1.length k1.2.2] 24 (0, 0)) := set1 (set0 h.out)
  refine bodyPost_ret (results_ct rfl _ _ (w.heap.size + 1 + 1) 24 _ (0, 0) _ h2 hs Try.underlying24 rfl (by kernel_rfl)) rfl ?_
  rw [h3]
  refine hR _ ((h.below.setCell (Nat.le_trans (Nat.le_succ _) (Nat.le_succ _)) _).setCell (Nat.le_trans (Nat.le_succ _) (Nat.le_succ _)) _) (fun j h2 => ?_)
  rw [set_other (by simpa using h2), set_other (by simpa using h2)]

set_option maxRecDepth 100000 in
set_option maxHeartbeats 40000000 in
/-- Where one is a leaf. -/
theorem sum_small (a b : T) (hab : (a.isLeaf || b.isLeaf) = true) (ka kb : Kd2) (w : World) (ok : Nat → Prop) (hka : ka.1 = a.toS) (hkb : kb.1 = b.toS) (ha : Ft w ok ka) (hb : Ft w ok kb) :
    Calls Try.prog 43 #[kv ka, kv kb] w fun e w' => ∃ k1 : Kd2, e = .returned (.tuple #[kv k1, .bool (T.sum a b).2]) ∧ k1.1 = (T.sum a b).1.toS ∧ Ft w' (fun j => ok j ∨ w.heap.size ≤ j) k1 ∧ Below w.heap.size w w' := by
  have HA := Lib.hid ha.bound
  have HB := Lib.hid hb.bound
  have HKA := Lib.hid hka
  have HKB := Lib.hid hkb
  have HAB := Lib.hid hab
  clear ha hb hka hkb hab
  have hu24 := Try.underlying24
  have hu22 := Try.underlying22
  go_enter Try.func43, Try.ntmps43
  go_wp2_with fail
  obtain ⟨W0, hW0⟩ : ∃ W0, ((w.alloc (.cells #[.bool ka.1.f0, .slice ka.2.1 ka.1.f1.length ka.2.2] 24)).alloc (.cells #[.bool kb.1.f0, .slice kb.2.1 kb.1.f1.length kb.2.2] 24)).alloc (.cells #[.bool false, .slice none 0 0] 24) = W0 := ⟨_, rfl⟩
  have hI : SuI w W0 ka kb #[.bool false, .slice none 0 0] := by
    rw [← hW0]
    refine ⟨(((Below.refl _ _).alloc (Nat.le_refl _) _).alloc (by simp) _).alloc (by simp; omega) _, blk_alloc (blk_alloc (blk_new _ _) _) _, blk_alloc ?_ _, ?_⟩
    · have := blk_new (w.alloc (.cells #[.bool ka.1.f0, .slice ka.2.1 ka.1.f1.length ka.2.2] 24)) (.cells #[.bool kb.1.f0, .slice kb.2.1 kb.1.f1.length kb.2.2] 24)
      rwa [World.size_alloc] at this
    · have := blk_new ((w.alloc (.cells #[.bool ka.1.f0, .slice ka.2.1 ka.1.f1.length ka.2.2] 24)).alloc (.cells #[.bool kb.1.f0, .slice kb.2.1 kb.1.f1.length kb.2.2] 24)) (.cells #[.bool false, .slice none 0 0] 24)
      rwa [World.size_alloc, World.size_alloc] at this
  rw [hW0]
  have HI := Lib.hid hI
  clear hI hW0
  refine (none_calls ka a _ _ HKA.out (HA.out.below HI.out.below)).mono ?_
  rintro e w1 ⟨rfl, hb1⟩
  have HI1 := Lib.hid (HI.out.step hb1)
  clear hb1
  have l0 := cell0 HI1.out.left
  have l1 := cell1 HI1.out.left
  have r0 := cell0 HI1.out.right
  have r1 := cell1 HI1.out.right
  have o0 := cell0 HI1.out.out
  have o1 := cell1 HI1.out.out
  have fo := free2 HI1.out.out
  have HZ := Lib.hid (Array.getElem?_eq_some_iff.1 HI1.out.out).1
  cases hna : a.isNone
  · go_wp2_with fail
    refine (none_calls kb b _ _ HKB.out (HB.out.below HI1.out.below)).mono ?_
    rintro e w2 ⟨rfl, hb2⟩
    have HI2 := Lib.hid (HI1.out.step hb2)
    clear hb2 l0 l1 r0 r1 o0 o1 fo
    have l0 := cell0 HI2.out.left
    have l1 := cell1 HI2.out.left
    have r0 := cell0 HI2.out.right
    have r1 := cell1 HI2.out.right
    have o0 := cell0 HI2.out.out
    have o1 := cell1 HI2.out.out
    have fo := free2 HI2.out.out
    cases hnb : b.isNone
    · go_wp2_with fail
      refine (leaf_calls ka a _ _ HKA.out (HA.out.below HI2.out.below)).mono ?_
      rintro e w3 ⟨rfl, hb3⟩
      have HI3 := Lib.hid (HI2.out.step hb3)
      clear hb3 l0 l1 r0 r1 o0 o1 fo
      have l0 := cell0 HI3.out.left
      have l1 := cell1 HI3.out.left
      have r0 := cell0 HI3.out.right
      have r1 := cell1 HI3.out.right
      have o0 := cell0 HI3.out.out
      have o1 := cell1 HI3.out.out
      have fo := free2 HI3.out.out
      have hsum : T.sum a b = (.leaf false, false) := by
        have := HAB.out
        cases a with
        | leaf x => cases x <;> cases b with
          | leaf y => cases y <;> simp_all [T.sum, T.isNone]
          | node c d => simp_all [T.sum, T.isNone]
        | node c d => cases b with
          | leaf y => cases y <;> simp_all [T.sum, T.isNone]
          | node c d => simp_all [T.isLeaf]
      have HSUM := Lib.hid hsum
      clear hsum
      cases hla : a.isLeaf
      · have hlb : b.isLeaf = true := by have := HAB.out; rw [hla] at this; simpa using this
        go_wp2_with fail
        refine (leaf_calls kb b _ _ HKB.out (HB.out.below HI3.out.below)).mono ?_
        rintro e w4 ⟨rfl, hb4⟩
        have HI4 := Lib.hid (HI3.out.step hb4)
        clear hb4 l0 l1 r0 r1 o0 o1 fo
        have o0 := cell0 HI4.out.out
        have o1 := cell1 HI4.out.out
        have fo := free2 HI4.out.out
        go_wp2_with fail
        refine sum_out (⟨false, []⟩, none, 0) false HI4.out rfl rfl ?_
        intro W' hb' hm
        exact ⟨_, by rw [HSUM.out], by rw [HSUM.out]; rfl, Ft.leaf _ _ _, hb'⟩
      · go_wp2_with fail
        refine sum_out (⟨false, []⟩, none, 0) false HI3.out rfl rfl ?_
        intro W' hb' hm
        exact ⟨_, by rw [HSUM.out], by rw [HSUM.out]; rfl, Ft.leaf _ _ _, hb'⟩
    · have hsum : T.sum a b = (a, true) := by
        cases b with
        | leaf y => cases y
                    · cases a with
                      | leaf x => cases x <;> simp_all [T.sum, T.isNone]
                      | node c d => simp [T.sum]
                    · simp [T.isNone] at hnb
        | node c d => simp [T.isNone] at hnb
      have HSUM := Lib.hid hsum
      clear hsum
      go_wp2_with fail
      refine sum_out ka true HI2.out rfl rfl ?_
      intro W' hb' hm
      refine ⟨ka, by rw [HSUM.out], by rw [HSUM.out]; exact HKA.out, ((HA.out.below HI2.out.below).move (fun j hj => hm j (by have := hj.2; omega))).mono (fun j hj => .inl hj.1), hb'⟩
  · have hsum : T.sum a b = (b, true) := by
      cases a with
      | leaf x => cases x
                  · simp [T.sum]
                  · simp [T.isNone] at hna
      | node c d => simp [T.isNone] at hna
    have HSUM := Lib.hid hsum
    clear hsum
    go_wp2_with fail
    refine sum_out kb true HI1.out rfl rfl ?_
    intro W' hb' hm
    refine ⟨kb, by rw [HSUM.out], by rw [HSUM.out]; exact HKB.out, ((HB.out.below HI1.out.below).move (fun j hj => hm j (by have := hj.2; omega))).mono (fun j hj => .inl hj.1), hb'⟩

set_option maxRecDepth 100000 in
set_option maxHeartbeats 40000000 in
/-- Where both are nodes. -/
theorem sum_nodes (a b c d : T)
    (iha : ∀ (ka kb : Kd2) (w : World) (ok : Nat → Prop), ka.1 = a.toS → kb.1 = c.toS → Ft w ok ka → Ft w ok kb → Calls Try.prog 43 #[kv ka, kv kb] w fun e w' => ∃ k1 : Kd2, e = .returned (.tuple #[kv k1, .bool (T.sum a c).2]) ∧ k1.1 = (T.sum a c).1.toS ∧ Ft w' (fun j => ok j ∨ w.heap.size ≤ j) k1 ∧ Below w.heap.size w w')
    (ihb : ∀ (ka kb : Kd2) (w : World) (ok : Nat → Prop), ka.1 = b.toS → kb.1 = d.toS → Ft w ok ka → Ft w ok kb → Calls Try.prog 43 #[kv ka, kv kb] w fun e w' => ∃ k1 : Kd2, e = .returned (.tuple #[kv k1, .bool (T.sum b d).2]) ∧ k1.1 = (T.sum b d).1.toS ∧ Ft w' (fun j => ok j ∨ w.heap.size ≤ j) k1 ∧ Below w.heap.size w w')
    (ka kb : Kd2) (w : World) (ok : Nat → Prop) (hka : ka.1 = (T.node a b).toS) (hkb : kb.1 = (T.node c d).toS) (ha : Ft w ok ka) (hb : Ft w ok kb) :
    Calls Try.prog 43 #[kv ka, kv kb] w fun e w' => ∃ k1 : Kd2, e = .returned (.tuple #[kv k1, .bool (T.sum (.node a b) (.node c d)).2]) ∧ k1.1 = (T.sum (.node a b) (.node c d)).1.toS ∧ Ft w' (fun j => ok j ∨ w.heap.size ≤ j) k1 ∧ Below w.heap.size w w' := by
  obtain ⟨ad, p0, p1, hA, hp0, hp1, fp0, fp1, x0, x1, x2, x3⟩ := ha.bound.kids hka
  obtain ⟨bd, q0, q1, hB, hq0, hq1, fq0, fq1, y0, y1, y2, y3⟩ := hb.bound.kids hkb
  have hba := ha.bound
  have hbb := hb.bound
  obtain ⟨sa, A, ca⟩ := ka
  obtain ⟨sb, B, cb⟩ := kb
  dsimp only at hka hkb hA hB hba hbb
  subst hA hB
  obtain rfl : sa = ⟨false, [a.toS, b.toS]⟩ := hka
  obtain rfl : sb = ⟨false, [c.toS, d.toS]⟩ := hkb
  have HA := Lib.hid hba
  have HB := Lib.hid hbb
  have HP0 := Lib.hid hp0
  have HP1 := Lib.hid hp1
  have HQ0 := Lib.hid hq0
  have HQ1 := Lib.hid hq1
  have FP0 := Lib.hid fp0
  have FP1 := Lib.hid fp1
  have FQ0 := Lib.hid fq0
  have FQ1 := Lib.hid fq1
  have X0 := Lib.hid x0
  have X1 := Lib.hid x1
  have X2 := Lib.hid x2
  have X3 := Lib.hid x3
  have Y0 := Lib.hid y0
  have Y1 := Lib.hid y1
  have Y2 := Lib.hid y2
  have Y3 := Lib.hid y3
  have IHA := Lib.hid iha
  have IHB := Lib.hid ihb
  clear ha hb hba hbb hp0 hp1 hq0 hq1 fp0 fp1 fq0 fq1 x0 x1 x2 x3 y0 y1 y2 y3 iha ihb
  have hu24 := Try.underlying24
  have hu22 := Try.underlying22
  show Calls Try.prog 43 #[.agg #[.bool false, .slice (some ad) 2 ca], .agg #[.bool false, .slice (some bd) 2 cb]] w _
  go_enter Try.func43, Try.ntmps43
  go_wp2_with fail
  obtain ⟨W0, hW0⟩ : ∃ W0, ((w.alloc (.cells #[.bool false, .slice (some ad) 2 ca] 24)).alloc (.cells #[.bool false, .slice (some bd) 2 cb] 24)).alloc (.cells #[.bool false, .slice none 0 0] 24) = W0 := ⟨_, rfl⟩
  have hI : SuI w W0 (⟨false, [a.toS, b.toS]⟩, some ad, ca) (⟨false, [c.toS, d.toS]⟩, some bd, cb) #[.bool false, .slice none 0 0] := by
    rw [← hW0]
    refine ⟨(((Below.refl _ _).alloc (Nat.le_refl _) _).alloc (by simp) _).alloc (by simp; omega) _, blk_alloc (blk_alloc (blk_new _ _) _) _, blk_alloc ?_ _, ?_⟩
    · have := blk_new (w.alloc (.cells #[.bool false, .slice (some ad) 2 ca] 24)) (.cells #[.bool false, .slice (some bd) 2 cb] 24)
      rwa [World.size_alloc] at this
    · have := blk_new ((w.alloc (.cells #[.bool false, .slice (some ad) 2 ca] 24)).alloc (.cells #[.bool false, .slice (some bd) 2 cb] 24)) (.cells #[.bool false, .slice none 0 0] 24)
      rwa [World.size_alloc, World.size_alloc] at this
  rw [hW0]
  have HI := Lib.hid hI
  clear hI hW0
  refine (none_calls (⟨false, [a.toS, b.toS]⟩, some ad, ca) (.node a b) _ _ rfl (HA.out.below HI.out.below)).mono ?_
  rintro e w1 ⟨rfl, hb1⟩
  have HI1 := Lib.hid (HI.out.step hb1)
  clear hb1
  have l0 : w1.cell? ⟨w.heap.size, 0, none⟩ = some (.bool false) := cell0 HI1.out.left
  have l1 : w1.cell? ⟨w.heap.size, 1, none⟩ = some (.slice (some ad) 2 ca) := cell1 HI1.out.left
  have r0 : w1.cell? ⟨w.heap.size + 1, 0, none⟩ = some (.bool false) := cell0 HI1.out.right
  have r1 : w1.cell? ⟨w.heap.size + 1, 1, none⟩ = some (.slice (some bd) 2 cb) := cell1 HI1.out.right
  go_wp2_with fail
  refine (none_calls (⟨false, [c.toS, d.toS]⟩, some bd, cb) (.node c d) _ _ rfl (HB.out.below HI1.out.below)).mono ?_
  rintro e w2 ⟨rfl, hb2⟩
  have HI2 := Lib.hid (HI1.out.step hb2)
  clear hb2 l0 l1 r0 r1
  have l0 : w2.cell? ⟨w.heap.size, 0, none⟩ = some (.bool false) := cell0 HI2.out.left
  have l1 : w2.cell? ⟨w.heap.size, 1, none⟩ = some (.slice (some ad) 2 ca) := cell1 HI2.out.left
  have r0 : w2.cell? ⟨w.heap.size + 1, 0, none⟩ = some (.bool false) := cell0 HI2.out.right
  have r1 : w2.cell? ⟨w.heap.size + 1, 1, none⟩ = some (.slice (some bd) 2 cb) := cell1 HI2.out.right
  go_wp2_with fail
  refine (leaf_calls (⟨false, [a.toS, b.toS]⟩, some ad, ca) (.node a b) _ _ rfl (HA.out.below HI2.out.below)).mono ?_
  rintro e w3 ⟨rfl, hb3⟩
  have HI3 := Lib.hid (HI2.out.step hb3)
  clear hb3 l0 l1 r0 r1
  have l0 : w3.cell? ⟨w.heap.size, 0, none⟩ = some (.bool false) := cell0 HI3.out.left
  have l1 : w3.cell? ⟨w.heap.size, 1, none⟩ = some (.slice (some ad) 2 ca) := cell1 HI3.out.left
  have r0 : w3.cell? ⟨w.heap.size + 1, 0, none⟩ = some (.bool false) := cell0 HI3.out.right
  have r1 : w3.cell? ⟨w.heap.size + 1, 1, none⟩ = some (.slice (some bd) 2 cb) := cell1 HI3.out.right
  go_wp2_with fail
  refine (leaf_calls (⟨false, [c.toS, d.toS]⟩, some bd, cb) (.node c d) _ _ rfl (HB.out.below HI3.out.below)).mono ?_
  rintro e w4 ⟨rfl, hb4⟩
  have HI4 := Lib.hid (HI3.out.step hb4)
  clear hb4 l0 l1 r0 r1
  go_wp2_with fail
  have HD4 := Lib.hid (HI4.out.step (W' := w4.drew) (Below.refl _ _).drew)
  have HZ4 := Lib.hid (HD4.out.step (W' := w4.drew.alloc (.cells #[.bool false, .slice none 0 0] 24)) ((Below.refl _ _).alloc (Nat.le_refl _) _))
  have held : ∀ W, SuI w W (⟨false, [a.toS, b.toS]⟩, some ad, ca) (⟨false, [c.toS, d.toS]⟩, some bd, cb) #[.bool false, .slice none 0 0] →
      W.cell? ⟨w.heap.size, 1, none⟩ = some (.slice (some ad) 2 ca) ∧ W.cell? ⟨w.heap.size + 1, 1, none⟩ = some (.slice (some bd) 2 cb) ∧ W.cell? ad = some (.bool p0.1.f0) ∧ W.cell? ⟨ad.block, ad.off + 1, none⟩ = some (.slice p0.2.1 p0.1.f1.length p0.2.2) ∧ W.cell? bd = some (.bool q0.1.f0) ∧ W.cell? ⟨bd.block, bd.off + 1, none⟩ = some (.slice q0.2.1 q0.1.f1.length q0.2.2) :=
    fun W h => ⟨cell1 h.left, cell1 h.right, kcell h.below X0.out, kcell h.below X1.out, kcell h.below Y0.out, kcell h.below Y1.out⟩
  have HELD := Lib.hid held
  clear held
  go_region_held3 (fun w' => w'.cell? ⟨w.heap.size, 1, none⟩ = some (.slice (some ad) 2 ca) ∧ w'.cell? ⟨w.heap.size + 1, 1, none⟩ = some (.slice (some bd) 2 cb) ∧ w'.cell? ad = some (.bool p0.1.f0) ∧ w'.cell? ⟨ad.block, ad.off + 1, none⟩ = some (.slice p0.2.1 p0.1.f1.length p0.2.2) ∧ w'.cell? bd = some (.bool q0.1.f0) ∧ w'.cell? ⟨bd.block, bd.off + 1, none⟩ = some (.slice q0.2.1 q0.1.f1.length q0.2.2))
    (first | exact HELD.out _ HD4.out | exact HELD.out _ HZ4.out | exact HELD.out _ HI5.out | exact HELD.out _ (HI5.out.step ((Below.refl _ _).alloc (Nat.le_refl _) _)) | exact HELD.out _ ((HI5.out.far HI4.out.lt).far HI4.out.lt) | exact HELD.out _ (HI5.out.far HI4.out.lt))
    (first
      | (go_at_call 43; refine (IHA.out p0 q0 _ _ HP0.out HQ0.out (FP0.out.below (by first | exact HD4.out.below | exact HZ4.out.below)) (FQ0.out.below (by first | exact HD4.out.below | exact HZ4.out.below))).mono ?_; rintro e w5 ⟨k1, rfl, hk1, hf1, hb5⟩; have HI5 := Lib.hid (by first | exact HD4.out.step hb5 | exact HZ4.out.step hb5 : SuI w w5 (⟨false, [a.toS, b.toS]⟩, some ad, ca) (⟨false, [c.toS, d.toS]⟩, some bd, cb) #[.bool false, .slice none 0 0]); have HK1 := Lib.hid hk1; have HF1 := Lib.hid hf1; (try have gl : w5.heap[w4.heap.size]? = some (.cells #[.bool false, .slice none 0 0] 24 (0, 0)) := blk_below (w := w4.drew.alloc (.cells #[.bool false, .slice none 0 0] 24)) (blk_new w4.drew _) hb5); (try have gl0 := cell0 gl); (try have gl1 := cell1 gl); (try have glf := free2 gl); (try have GL := Lib.hid gl); (try clear gl); have HB5 := Lib.hid hb5.size; clear hk1 hf1 hb5))
  all_goals
    have HL4 := Lib.hid HI4.out.lt
    have HL5 := Lib.hid HI5.out.lt
    first
      | (have hI6 := (HI5.out.far (o := 0) (u := .bool k1.1.f0) HL4.out).far (o := 1) (u := .slice k1.2.1 k1.1.f1.length k1.2.2) HL4.out
         have hL6 : SuL w ((w5.setCell ⟨w4.heap.size, 0, none⟩ (.bool k1.1.f0)).setCell ⟨w4.heap.size, 1, none⟩ (.slice k1.2.1 k1.1.f1.length k1.2.2)) ok w4.heap.size k1 := SuL.ahead GL.out HF1.out (fun j hj => by
            have e : (w4.alloc (.cells #[.bool false, .slice none 0 0] 24)).heap.size = w4.heap.size + 1 := World.size_alloc _ _
            have := HL4.out
            rcases hj with hj | hj
            · exact ⟨.inl hj, by have := hj.2; omega⟩
            · have hj2 : w4.heap.size + 1 ≤ j := Nat.le_trans (Nat.le_of_eq e.symm) hj
              exact ⟨.inr (by omega), by omega⟩) HL4.out
         obtain ⟨W6, hW6⟩ : ∃ W6, (w5.setCell ⟨w4.heap.size, 0, none⟩ (.bool k1.1.f0)).setCell ⟨w4.heap.size, 1, none⟩ (.slice k1.2.1 k1.1.f1.length k1.2.2) = W6 := ⟨_, rfl⟩
         rw [hW6] at hI6 hL6 ⊢
         obtain ⟨g, hg⟩ : ∃ g, w4.heap.size = g := ⟨_, rfl⟩
         rw [hg] at hL6 ⊢)
      | (have hI6 := HI5.out.step ((Below.refl _ _).alloc (Nat.le_refl _) (.cells #[.bool k1.1.f0, .slice k1.2.1 k1.1.f1.length k1.2.2] 24))
         have hL6 : SuL w (w5.alloc (.cells #[.bool k1.1.f0, .slice k1.2.1 k1.1.f1.length k1.2.2] 24)) ok w5.heap.size k1 := SuL.behind HF1.out (fun j hj => by
            have := HL4.out
            rcases hj with hj | hj
            · exact .inl hj
            · exact .inr (Nat.lt_of_lt_of_le this hj)) HL5.out
         obtain ⟨W6, hW6⟩ : ∃ W6, w5.alloc (.cells #[.bool k1.1.f0, .slice k1.2.1 k1.1.f1.length k1.2.2] 24) = W6 := ⟨_, rfl⟩
         rw [hW6] at hI6 hL6 ⊢
         obtain ⟨g, hg⟩ : ∃ g, w5.heap.size = g := ⟨_, rfl⟩
         rw [hg] at hL6 ⊢)
    have HI6 := Lib.hid hI6
    have HL6 := Lib.hid hL6
    clear hI6 hL6 hg hW6
    go_wp2_with fail
    have HD6 := Lib.hid (HI6.out.step (W' := W6.drew) (Below.refl _ _).drew)
    have HZ6 := Lib.hid (HD6.out.step (W' := W6.drew.alloc (.cells #[.bool false, .slice none 0 0] 24)) ((Below.refl _ _).alloc (Nat.le_refl _) _))
    have held2 : ∀ W, SuI w W (⟨false, [a.toS, b.toS]⟩, some ad, ca) (⟨false, [c.toS, d.toS]⟩, some bd, cb) #[.bool false, .slice none 0 0] →
        W.cell? ⟨w.heap.size, 1, none⟩ = some (.slice (some ad) 2 ca) ∧ W.cell? ⟨w.heap.size + 1, 1, none⟩ = some (.slice (some bd) 2 cb) ∧ W.cell? ⟨ad.block, ad.off + 2, none⟩ = some (.bool p1.1.f0) ∧ W.cell? ⟨ad.block, ad.off + 2 + 1, none⟩ = some (.slice p1.2.1 p1.1.f1.length p1.2.2) ∧ W.cell? ⟨bd.block, bd.off + 2, none⟩ = some (.bool q1.1.f0) ∧ W.cell? ⟨bd.block, bd.off + 2 + 1, none⟩ = some (.slice q1.2.1 q1.1.f1.length q1.2.2) :=
      fun W h => ⟨cell1 h.left, cell1 h.right, kcell h.below X2.out, kcell h.below X3.out, kcell h.below Y2.out, kcell h.below Y3.out⟩
    have HELD2 := Lib.hid held2
    clear held2
    have HL6' := Lib.hid HI6.out.lt
    go_region_held3 (fun w' => w'.cell? ⟨w.heap.size, 1, none⟩ = some (.slice (some ad) 2 ca) ∧ w'.cell? ⟨w.heap.size + 1, 1, none⟩ = some (.slice (some bd) 2 cb) ∧ w'.cell? ⟨ad.block, ad.off + 2, none⟩ = some (.bool p1.1.f0) ∧ w'.cell? ⟨ad.block, ad.off + 2 + 1, none⟩ = some (.slice p1.2.1 p1.1.f1.length p1.2.2) ∧ w'.cell? ⟨bd.block, bd.off + 2, none⟩ = some (.bool q1.1.f0) ∧ w'.cell? ⟨bd.block, bd.off + 2 + 1, none⟩ = some (.slice q1.2.1 q1.1.f1.length q1.2.2))
      (first | exact HELD2.out _ HD6.out | exact HELD2.out _ HZ6.out | exact HELD2.out _ HI7.out | exact HELD2.out _ (HI7.out.step ((Below.refl _ _).alloc (Nat.le_refl _) _)) | exact HELD2.out _ ((HI7.out.far HI6.out.lt).far HI6.out.lt) | exact HELD2.out _ (HI7.out.far HI6.out.lt))
      (first
        | (go_at_call 43; refine (IHB.out p1 q1 _ _ HP1.out HQ1.out (FP1.out.below (by first | exact HD6.out.below | exact HZ6.out.below)) (FQ1.out.below (by first | exact HD6.out.below | exact HZ6.out.below))).mono ?_; rintro e w7 ⟨k2, rfl, hk2, hf2, hb7⟩; have HI7 := Lib.hid (by first | exact HD6.out.step hb7 | exact HZ6.out.step hb7 : SuI w w7 (⟨false, [a.toS, b.toS]⟩, some ad, ca) (⟨false, [c.toS, d.toS]⟩, some bd, cb) #[.bool false, .slice none 0 0]); have HK2 := Lib.hid hk2; have HF2 := Lib.hid hf2; (try have gl : w7.heap[W6.heap.size]? = some (.cells #[.bool false, .slice none 0 0] 24 (0, 0)) := blk_below (w := W6.drew.alloc (.cells #[.bool false, .slice none 0 0] 24)) (blk_new W6.drew _) hb7); (try have gl0 := cell0 gl); (try have gl1 := cell1 gl); (try have glf := free2 gl); (try have GL2 := Lib.hid gl); (try clear gl); have HB7 := Lib.hid (by first | exact (((Below.refl W6.heap.size W6).drew).trans hb7) | exact (((Below.refl W6.heap.size W6).drew).alloc (Nat.le_refl _) (.cells #[.bool false, .slice none 0 0] 24)).trans (hb7.mono (le_alloc W6 (.cells #[.bool false, .slice none 0 0] 24))) : Below W6.heap.size W6 w7); clear hk2 hf2 hb7))
    all_goals
      have HL7 := Lib.hid HI7.out.lt
      have HM7 := Lib.hid (HL6.out.step HB7.out)
      have HG6 := Lib.hid (Array.getElem?_eq_some_iff.1 HL6.out.box).1
      have HS7 := Lib.hid HB7.out.size
      have HFF := Lib.hid (HL6.out.foot.below HB7.out)
      first
        | (have hI8 := (HI7.out.far (o := 0) (u := .bool k2.1.f0) HL6'.out).far (o := 1) (u := .slice k2.2.1 k2.1.f1.length k2.2.2) HL6'.out
           have hL8 : SuL w ((w7.setCell ⟨W6.heap.size, 0, none⟩ (.bool k2.1.f0)).setCell ⟨W6.heap.size, 1, none⟩ (.slice k2.2.1 k2.1.f1.length k2.2.2)) ok W6.heap.size k2 := SuL.ahead GL2.out HF2.out (fun j hj => by
              have e : (W6.alloc (.cells #[.bool false, .slice none 0 0] 24)).heap.size = W6.heap.size + 1 := World.size_alloc _ _
              have := HL6'.out
              rcases hj with hj | hj
              · exact ⟨.inl hj, by have := hj.2; omega⟩
              · have hj2 : W6.heap.size + 1 ≤ j := Nat.le_trans (Nat.le_of_eq e.symm) hj
                exact ⟨.inr (by omega), by omega⟩) HL6'.out
           have hM8 : SuL w ((w7.setCell ⟨W6.heap.size, 0, none⟩ (.bool k2.1.f0)).setCell ⟨W6.heap.size, 1, none⟩ (.slice k2.2.1 k2.1.f1.length k2.2.2)) ok g k1 := by
             obtain ⟨m1, m2⟩ := HM7.out.keep (g2 := W6.heap.size) (o := 0) (u := .bool k2.1.f0) HFF.out HG6.out (Nat.le_refl _) HS7.out
             exact (m1.keep m2 HG6.out (Nat.le_refl _) (by rw [size_set]; exact HS7.out)).1
           obtain ⟨W8, hW8⟩ : ∃ W8, (w7.setCell ⟨W6.heap.size, 0, none⟩ (.bool k2.1.f0)).setCell ⟨W6.heap.size, 1, none⟩ (.slice k2.2.1 k2.1.f1.length k2.2.2) = W8 := ⟨_, rfl⟩
           rw [hW8] at hI8 hL8 hM8 ⊢
           obtain ⟨g2, hg2⟩ : ∃ g2, W6.heap.size = g2 := ⟨_, rfl⟩
           rw [hg2] at hL8 ⊢)
        | (have hI8 := HI7.out.step ((Below.refl _ _).alloc (Nat.le_refl _) (.cells #[.bool k2.1.f0, .slice k2.2.1 k2.1.f1.length k2.2.2] 24))
           have hL8 : SuL w (w7.alloc (.cells #[.bool k2.1.f0, .slice k2.2.1 k2.1.f1.length k2.2.2] 24)) ok w7.heap.size k2 := SuL.behind HF2.out (fun j hj => by
              have := HL6'.out
              rcases hj with hj | hj
              · exact .inl hj
              · exact .inr (Nat.lt_of_lt_of_le this hj)) HL7.out
           have hM8 := HM7.out.step ((Below.refl _ _).alloc (Nat.le_refl _) (.cells #[.bool k2.1.f0, .slice k2.2.1 k2.1.f1.length k2.2.2] 24))
           obtain ⟨W8, hW8⟩ : ∃ W8, w7.alloc (.cells #[.bool k2.1.f0, .slice k2.2.1 k2.1.f1.length k2.2.2] 24) = W8 := ⟨_, rfl⟩
           rw [hW8] at hI8 hL8 hM8 ⊢
           obtain ⟨g2, hg2⟩ : ∃ g2, w7.heap.size = g2 := ⟨_, rfl⟩
           rw [hg2] at hL8 ⊢)
      have HI8 := Lib.hid hI8
      have HL8 := Lib.hid hL8
      have HM8 := Lib.hid hM8
      have b0 := cell0 hM8.box
      have b1 := cell1 hM8.box
      have c0 := cell0 hL8.box
      have c1 := cell1 hL8.box
      clear hI8 hL8 hM8 hg2 hW8
      go_wp2_with fail
      refine (join_calls k1 k2 _ _ _ (fun j => (ok j ∧ j < w.heap.size) ∨ w.heap.size + 1 + 1 < j) HK1.out HK2.out (HM8.out.foot.mono (fun j hj => hj.1)) (HL8.out.foot.mono (fun j hj => hj.1))).mono ?_
      rintro e w9 ⟨k3, rfl, hk3, hf3, hb9⟩
      have HI9 := Lib.hid (HI8.out.step hb9)
      have HK3 := Lib.hid hk3
      have HF3 := Lib.hid hf3
      have HL8' := Lib.hid HI8.out.lt
      clear b0 b1 c0 c1 hk3 hf3 hb9
      have o0 := cell0 HI9.out.out
      have o1 := cell1 HI9.out.out
      have fo := free2 HI9.out.out
      have fin : ∀ x, x = (T.sum (.node a b) (.node c d)).2 → ∀ W', Below w.heap.size w W' → (∀ j, j ≠ w.heap.size + 1 + 1 → W'.heap[j]? = w9.heap[j]?) → ∃ k4 : Kd2, Ending.returned (.tuple #[kv k3, .bool x]) = .returned (.tuple #[kv k4, .bool (T.sum (.node a b) (.node c d)).2]) ∧ k4.1 = (T.sum (.node a b) (.node c d)).1.toS ∧ Ft W' (fun j => ok j ∨ w.heap.size ≤ j) k4 ∧ Below w.heap.size w W' := fun x hx W' hb' hm => by
        refine ⟨k3, by rw [hx], HK3.out, (HF3.out.move (fun j hj => hm j ?_)).mono (fun j hj => ?_), hb'⟩
        · have := HL8'.out; rcases hj with (hj | hj) | hj <;> omega
        · have := HL8'.out; rcases hj with (hj | hj) | hj <;> first | exact .inl hj.1 | (right; omega)
      have FIN := Lib.hid fin
      clear fin
      cases hx : (T.sum a c).2 <;> cases hy : (T.sum b d).2
      all_goals
        go_wp2_with fail
        refine sum_out k3 _ HI9.out rfl rfl (FIN.out _ ?_)
        simp [T.sum, hx, hy]

theorem sum_calls : ∀ (a b : T) (ka kb : Kd2) (w : World) (ok : Nat → Prop), ka.1 = a.toS → kb.1 = b.toS → Ft w ok ka → Ft w ok kb →
    Calls Try.prog 43 #[kv ka, kv kb] w fun e w' => ∃ k1 : Kd2, e = .returned (.tuple #[kv k1, .bool (T.sum a b).2]) ∧ k1.1 = (T.sum a b).1.toS ∧ Ft w' (fun j => ok j ∨ w.heap.size ≤ j) k1 ∧ Below w.heap.size w w'
  | .leaf x, b, ka, kb, w, ok, h1, h2, h3, h4 => sum_small _ _ rfl ka kb w ok h1 h2 h3 h4
  | .node a b, .leaf y, ka, kb, w, ok, h1, h2, h3, h4 => sum_small _ _ rfl ka kb w ok h1 h2 h3 h4
  | .node a b, .node c d, ka, kb, w, ok, h1, h2, h3, h4 => sum_nodes a b c d (sum_calls a c) (sum_calls b d) ka kb w ok h1 h2 h3 h4
end Go.Proofs.Ytlhaofbncoijfaa.HandF
