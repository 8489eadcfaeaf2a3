/- A contract by hand, in the print's form: id.equal. -/
import Derived.Test.YtlhaofbncoijfaaKids
import Derived.Test.YtlhaofbncoijfaaBlocks
import Derived.LoopN
import Derived.Lib.Hide
namespace Go.Proofs.Ytlhaofbncoijfaa.HandF
set_option linter.unusedVariables false
set_option linter.unusedSimpArgs false
open Go.RowKit Go.Proofs.Ytlhaofbncoijfaa.X Go.Proofs.Ytlhaofbncoijfaa.Tree Go.Proofs.Ytlhaofbncoijfaa.Blocks
open Go.Proofs.YtlhaofbncoijfaaW.PrintWords Go.Proofs.YtlhaofbncoijfaaW.PrintLast Go.Proofs.YtlhaofbncoijfaaW.PrintMore

/-- What slices.EqualFunc tells of two trees' kids. -/
def kidsEq : T → T → Bool
  | .leaf _, .leaf _ => true
  | .node a b, .node c d => T.eqb a c && T.eqb b d
  | _, _ => false
set_option maxRecDepth 100000 in
set_option maxHeartbeats 40000000 in
theorem eqf_empty (A B : Option Addr) (c d : Nat) (w : World) :
    Calls Try.prog 68 #[.slice A 0 c, .slice B 0 d, .func (.func 46) #[] #[]] w fun e w' => e = .returned (.bool true) ∧ Below w.heap.size w w' := by
  go_enter Try.func68, Try.ntmps68
  go_wp2_with fail
  refine wp_loop_rounds 1 ?_
  rw [rounds_succ]
  go_wp2_with fail
  go_ret
  exact ⟨rfl, Below.refl _ _⟩
set_option maxRecDepth 100000 in
set_option maxHeartbeats 40000000 in
theorem eqf_differ (A B : Option Addr) (m n c d : Nat) (h : m ≠ n) (w : World) :
    Calls Try.prog 68 #[.slice A m c, .slice B n d, .func (.func 46) #[] #[]] w fun e w' => e = .returned (.bool false) ∧ Below w.heap.size w w' := by
  have e1 : ((m : Int) != (n : Int)) = true := bne_iff_ne.2 (by omega)
  have e2 : (m != n) = true := bne_iff_ne.2 h
  go_enter Try.func68, Try.ntmps68
  go_wp2_with fail
  go_ret
  exact ⟨rfl, Below.refl _ _⟩
set_option maxRecDepth 100000 in
set_option maxHeartbeats 40000000 in
theorem eqf_two (a b a' b' : T)
    (ih1 : ∀ (k m : Kd2) (w : World) (ok : Nat → Prop), k.1 = a.toS → m.1 = a'.toS → Ft w ok k → Ft w ok m → Calls Try.prog 46 #[kv k, kv m] w fun e w' => e = .returned (.bool (T.eqb a a')) ∧ Below w.heap.size w w')
    (ih2 : ∀ (k m : Kd2) (w : World) (ok : Nat → Prop), k.1 = b.toS → m.1 = b'.toS → Ft w ok k → Ft w ok m → Calls Try.prog 46 #[kv k, kv m] w fun e w' => e = .returned (.bool (T.eqb b b')) ∧ Below w.heap.size w w')
    (k m : Kd2) (w : World) (ok : Nat → Prop) (hk : k.1 = (T.node a b).toS) (hm : m.1 = (T.node a' b').toS) (fk : Ft w ok k) (fm : Ft w ok m) :
    Calls Try.prog 68 #[.slice k.2.1 2 k.2.2, .slice m.2.1 2 m.2.2, .func (.func 46) #[] #[]] w fun e w' => e = .returned (.bool (T.eqb a a' && T.eqb b b')) ∧ Below w.heap.size w w' := by
  obtain ⟨ad, p0, p1, hA, hp0, hp1, fp0, fp1, x0, x1, x2, x3⟩ := fk.kids hk
  obtain ⟨bd, q0, q1, hB, hq0, hq1, fq0, fq1, y0, y1, y2, y3⟩ := fm.kids hm
  rw [hA, hB]
  have IH1 := Lib.hid ih1
  have IH2 := Lib.hid ih2
  have HP0 := Lib.hid hp0
  have HP1 := Lib.hid hp1
  have HQ0 := Lib.hid hq0
  have HQ1 := Lib.hid hq1
  have FP0 := Lib.hid fp0
  have FP1 := Lib.hid fp1
  have FQ0 := Lib.hid fq0
  have FQ1 := Lib.hid fq1
  have X2 := Lib.hid x2
  have X3 := Lib.hid x3
  have Y2 := Lib.hid y2
  have Y3 := Lib.hid y3
  have hB1 : Below w.heap.size w (w.alloc (.cells #[.bool p0.1.f0, .slice p0.2.1 p0.1.f1.length p0.2.2] 24)) := (Below.refl _ _).alloc (Nat.le_refl _) _
  have y0' := kcell hB1 y0
  have y1' := kcell hB1 y1
  have g1 := blk_new w (.cells #[.bool p0.1.f0, .slice p0.2.1 p0.1.f1.length p0.2.2] 24)
  have g1' := blk_alloc g1 (.cells #[.bool q0.1.f0, .slice q0.2.1 q0.1.f1.length q0.2.2] 24)
  have v0 := cell0 g1'
  have v1 := cell1 g1'
  have HB2 := Lib.hid (hB1.alloc (by rw [World.size_alloc]; omega) (.cells #[.bool q0.1.f0, .slice q0.2.1 q0.1.f1.length q0.2.2] 24))
  clear ih1 ih2 hk hm fk fm hA hB hp0 hp1 hq0 hq1 fp0 fp1 fq0 fq1 x2 x3 y2 y3 hB1 g1 g1'
  have hu24 := Try.underlying24
  have hu22 := Try.underlying22
  go_enter Try.func68, Try.ntmps68
  go_wp2_with fail
  refine wp_loop_rounds 3 ?_
  rw [rounds_succ]
  go_wp2_with fail
  refine (IH1.out p0 q0 _ _ HP0.out HQ0.out (FP0.out.below HB2.out) (FQ0.out.below HB2.out)).mono ?_
  rintro e w3 ⟨rfl, hb3⟩
  have HB3 := Lib.hid (HB2.out.trans (hb3.mono HB2.out.size))
  clear hb3 y0' y1' v0 v1 x0 x1 y0 y1
  cases he : T.eqb a a'
  · go_wp2_with fail
    go_ret
    exact ⟨by rw [he]; rfl, HB3.out⟩
  · have z2 := kcell HB3.out X2.out
    have z3 := kcell HB3.out X3.out
    have hB4 : Below w3.heap.size w3 (w3.alloc (.cells #[.bool p1.1.f0, .slice p1.2.1 p1.1.f1.length p1.2.2] 24)) := (Below.refl _ _).alloc (Nat.le_refl _) _
    have u2 := kcell (HB3.out.trans (hB4.mono HB3.out.size)) Y2.out
    have u3 := kcell (HB3.out.trans (hB4.mono HB3.out.size)) Y3.out
    have g1 := blk_new w3 (.cells #[.bool p1.1.f0, .slice p1.2.1 p1.1.f1.length p1.2.2] 24)
    have g1' := blk_alloc g1 (.cells #[.bool q1.1.f0, .slice q1.2.1 q1.1.f1.length q1.2.2] 24)
    have v0 := cell0 g1'
    have v1 := cell1 g1'
    have HB5 := Lib.hid (hB4.alloc (by rw [World.size_alloc]; omega) (.cells #[.bool q1.1.f0, .slice q1.2.1 q1.1.f1.length q1.2.2] 24))
    clear hB4 g1 g1'
    go_wp2_with fail
    rw [rounds_succ]
    go_wp2_with fail
    refine (IH2.out p1 q1 _ _ HP1.out HQ1.out (FP1.out.below (HB3.out.trans (HB5.out.mono HB3.out.size))) (FQ1.out.below (HB3.out.trans (HB5.out.mono HB3.out.size)))).mono ?_
    rintro e w6 ⟨rfl, hb6⟩
    have HB6 := Lib.hid ((HB3.out.trans (HB5.out.mono HB3.out.size)).trans (hb6.mono (HB3.out.trans (HB5.out.mono HB3.out.size)).size))
    clear hb6 z2 z3 u2 u3 v0 v1
    cases he2 : T.eqb b b'
    · go_wp2_with fail
      go_ret
      exact ⟨by rw [he, he2]; rfl, HB6.out⟩
    · go_wp2_with fail
      rw [rounds_succ]
      go_wp2_with fail
      go_ret
      exact ⟨by rw [he, he2]; rfl, HB6.out⟩
set_option maxRecDepth 100000 in
set_option maxHeartbeats 40000000 in
theorem equal_step (a b : T) (k m : Kd2) (w : World) (ok : Nat → Prop) (hk : k.1 = a.toS) (hm : m.1 = b.toS) (fk : Ft w ok k) (fm : Ft w ok m)
    (h68 : ∀ W, Below w.heap.size w W → Calls Try.prog 68 #[.slice k.2.1 k.1.f1.length k.2.2, .slice m.2.1 m.1.f1.length m.2.2, .func (.func 46) #[] #[]] W fun e w' => e = .returned (.bool (kidsEq a b)) ∧ Below W.heap.size W w') :
    Calls Try.prog 46 #[kv k, kv m] w fun e w' => e = .returned (.bool (T.eqb a b)) ∧ Below w.heap.size w w' := by
  have hu24 := Try.underlying24
  have hu22 := Try.underlying22
  have HK := Lib.hid hk
  have HM := Lib.hid hm
  have H := Lib.hid h68
  have hb2 : Below w.heap.size w ((w.alloc (.cells #[.bool k.1.f0, .slice k.2.1 k.1.f1.length k.2.2] 24)).alloc (.cells #[.bool m.1.f0, .slice m.2.1 m.1.f1.length m.2.2] 24)) := ((Below.refl _ _).alloc (Nat.le_refl _) _).alloc (by simp) _
  have HB2 := Lib.hid hb2
  clear hk hm h68 fk fm hb2
  cases hf : (k.1.f0 == m.1.f0)
  · have he : T.eqb a b = false := by
      cases h : T.eqb a b
      · rfl
      · have := T.eqb_iff.1 h
        rw [HK.out, HM.out, this] at hf
        simp at hf
    rw [he]
    go_enter Try.func46, Try.ntmps46
    go_wp2_with fail
    go_ret
    exact ⟨rfl, HB2.out⟩
  · have he : T.eqb a b = kidsEq a b := by
      rw [HK.out, HM.out] at hf
      cases a with
      | leaf x => cases b with
        | leaf y => simpa [T.eqb, kidsEq, T.toS] using hf
        | node c d => rfl
      | node c d => cases b <;> rfl
    rw [he]
    go_enter Try.func46, Try.ntmps46
    go_wp2_with fail
    refine (H.out _ HB2.out).mono ?_
    rintro e w3 ⟨rfl, hb3⟩
    have HB3 := Lib.hid (HB2.out.trans (hb3.mono HB2.out.size))
    clear hb3
    go_wp2_with fail
    go_ret
    exact ⟨rfl, HB3.out⟩
theorem equal_calls : ∀ (a b : T) (k m : Kd2) (w : World) (ok : Nat → Prop), k.1 = a.toS → m.1 = b.toS → Ft w ok k → Ft w ok m →
    Calls Try.prog 46 #[kv k, kv m] w fun e w' => e = .returned (.bool (T.eqb a b)) ∧ Below w.heap.size w w'
  | .leaf x, .leaf y, k, m, w, ok, hk, hm, fk, fm => equal_step _ _ k m w ok hk hm fk fm (fun W _ => by rw [hk, hm]; exact eqf_empty _ _ _ _ W)
  | .leaf x, .node c d, k, m, w, ok, hk, hm, fk, fm => equal_step _ _ k m w ok hk hm fk fm (fun W _ => by rw [hk, hm]; exact eqf_differ _ _ _ _ _ _ (by simp [T.toS]) W)
  | .node a b, .leaf y, k, m, w, ok, hk, hm, fk, fm => equal_step _ _ k m w ok hk hm fk fm (fun W _ => by rw [hk, hm]; exact eqf_differ _ _ _ _ _ _ (by simp [T.toS]) W)
  | .node a b, .node c d, k, m, w, ok, hk, hm, fk, fm => equal_step _ _ k m w ok hk hm fk fm (fun W hW => by
      have := eqf_two a b c d (equal_calls a c) (equal_calls b d) k m W ok hk hm (fk.below hW) (fm.below hW)
      rw [hk, hm]
      exact this)

def id_equal.f (a0_0 : Bool) (l0_1 : List S24) (a1_0 : Bool) (l1_1 : List S24) : Option Bool :=
  match T.ofS ⟨a0_0, l0_1⟩, T.ofS ⟨a1_0, l1_1⟩ with
  | some a, some b => some (T.eqb a b)
  | _, _ => none
theorem id_equal.calls (a0_0 : Bool) (A0_1 : Option Addr) (c0_1 : Nat) (l0_1 : List S24) (a1_0 : Bool) (A1_1 : Option Addr) (c1_1 : Nat) (l1_1 : List S24) (r : Bool) (w : World) (hr0_1 : Kd.C k24 w A0_1 l0_1.length l0_1) (hc0_1 : l0_1.length ≤ c0_1) (hr1_1 : Kd.C k24 w A1_1 l1_1.length l1_1) (hc1_1 : l1_1.length ≤ c1_1) (h : id_equal.f a0_0 l0_1 a1_0 l1_1 = some r) :
    Calls Try.prog 46 #[.agg #[.bool a0_0, .slice A0_1 l0_1.length c0_1], .agg #[.bool a1_0, .slice A1_1 l1_1.length c1_1]] w fun e w' => e = .returned (.bool r) ∧ Below w.heap.size w w' := by
  unfold id_equal.f at h
  cases ha : T.ofS ⟨a0_0, l0_1⟩ with
  | none => rw [ha] at h; cases h
  | some a =>
    cases hb : T.ofS ⟨a1_0, l1_1⟩ with
    | none => rw [ha, hb] at h; cases h
    | some b =>
      rw [ha, hb] at h
      obtain rfl : T.eqb a b = r := by simpa using h
      exact equal_calls a b (⟨a0_0, l0_1⟩, A0_1, c0_1) (⟨a1_0, l1_1⟩, A1_1, c1_1) w _ (T.ofS_eq.1 ha).symm (T.ofS_eq.1 hb).symm (Ft.all hc0_1 hr0_1) (Ft.all hc1_1 hr1_1)
end Go.Proofs.Ytlhaofbncoijfaa.HandF
