/- The walk of the law IdThree. -/
import Derived.Test.YtlhaofbncoijfaaThreeMath
import Derived.Test.YtlhaofbncoijfaaSplits8
namespace Go.Proofs.Ytlhaofbncoijfaa.HandF
set_option linter.unusedVariables false
set_option linter.unusedSimpArgs false
open Go.RowKit Go.Proofs.Ytlhaofbncoijfaa.X Go.Proofs.Ytlhaofbncoijfaa.Tree Go.Proofs.Ytlhaofbncoijfaa.Blocks
open Go.Proofs.YtlhaofbncoijfaaW.PrintWords Go.Proofs.YtlhaofbncoijfaaW.PrintLast Go.Proofs.YtlhaofbncoijfaaW.PrintMore

theorem box24.alloc {W : World} {g : Nat} {k : Kd2} {ob : Obj} (h : box24 W g k) : box24 (W.alloc ob) g k := blk_alloc h _
/-- Sum, of any two values that lie in memory. -/
theorem Sum22S (k m : Kd2) (w : World) (hk : k.1.f1.length ≤ k.2.2) (hkC : Kd.C k24 w k.2.1 k.1.f1.length k.1.f1) (hm : m.1.f1.length ≤ m.2.2) (hmC : Kd.C k24 w m.2.1 m.1.f1.length m.1.f1) :
    Calls Try.prog 22 #[kv k, kv m] w fun e w' => ∃ k1 : Kd2, e = .returned (.tuple #[kv k1, .int .i64 (SumS k.1 m.1).2]) ∧ k1.1 = (SumS k.1 m.1).1 ∧ Ft w' (fun j => w.heap.size ≤ j) k1 ∧ Below w.heap.size w w' := by
  rcases SumS_cases k.1 m.1 with h | ⟨a, b, ha, hb, hra, hrb⟩
  · refine (Sum22_bad k m w hk hkC hm hmC h).mono ?_
    rintro e w' ⟨rfl, hb⟩
    rw [SumS_bad _ _ h]
    exact ⟨(⟨false, []⟩, none, 0), rfl, rfl, Ft.leaf _ _ _, hb⟩
  · have := Sum22 k m a b w ha.symm hb.symm hra hrb hk hkC hm hmC
    rw [← ha, ← hb, SumS_T a b hra hrb]
    exact this
theorem Equal19 (k m : Kd2) (a b : T) (w : World) (ha : k.1 = a.toS) (hb : m.1 = b.toS) (hk : k.1.f1.length ≤ k.2.2) (hkC : Kd.C k24 w k.2.1 k.1.f1.length k.1.f1) (hm : m.1.f1.length ≤ m.2.2) (hmC : Kd.C k24 w m.2.1 m.1.f1.length m.1.f1) :
    Calls Try.prog 19 #[kv k, kv m] w fun e w' => e = .returned (.bool (T.eqb a b)) ∧ Below w.heap.size w w' := by
  obtain ⟨s, A, c⟩ := k
  obtain ⟨u, B, d⟩ := m
  dsimp only at ha hb
  subst ha hb
  exact pannierref04_Equal.calls _ _ A c _ _ B d _ _ w hkC hk hmC hm (Equal_T a b _ (Nat.le_refl _))

set_option maxRecDepth 100000 in
set_option maxHeartbeats 40000000 in
theorem Three6 (k m n : Kd2) (w : World) (hk : k.1.f1.length ≤ k.2.2) (hkC : Kd.C k24 w k.2.1 k.1.f1.length k.1.f1) (hm : m.1.f1.length ≤ m.2.2) (hmC : Kd.C k24 w m.2.1 m.1.f1.length m.1.f1) (hn : n.1.f1.length ≤ n.2.2) (hnC : Kd.C k24 w n.2.1 n.1.f1.length n.1.f1) :
    Calls Try.prog 6 #[kv k, kv m, kv n] w fun e w' => e = .returned (.bool true) ∧ Below w.heap.size w w' := by
  have LK := Lib.hid hk
  have CK := Lib.hid hkC
  have LM := Lib.hid hm
  have CM := Lib.hid hmC
  have LN := Lib.hid hn
  have CN := Lib.hid hnC
  clear hk hkC hm hmC hn hnC
  have hu24 := Try.underlying24
  have hu22 := Try.underlying22
  have hu26 := Try.underlying26
  obtain ⟨e1, he1⟩ : ∃ e, (SumS k.1 m.1).2 = e := ⟨_, rfl⟩
  obtain ⟨e2, he2⟩ : ∃ e, (SumS m.1 n.1).2 = e := ⟨_, rfl⟩
  have E1 := Lib.hid he1
  have E2 := Lib.hid he2
  have E3 : Hid ((SumS m.1 k.1).2 = e1) := Lib.hid (by rw [SumS_comm]; exact he1)
  clear he1 he2
  go_enter Try.func6, Try.ntmps6
  go_wp2_with fail
  obtain ⟨W0, hW0⟩ : ∃ W0, ((w.alloc (.cells #[.bool k.1.f0, .slice k.2.1 k.1.f1.length k.2.2] 24)).alloc (.cells #[.bool m.1.f0, .slice m.2.1 m.1.f1.length m.2.2] 24)).alloc (.cells #[.bool n.1.f0, .slice n.2.1 n.1.f1.length n.2.2] 24) = W0 := ⟨_, rfl⟩
  have hb0 : Below w.heap.size w W0 := by
    rw [← hW0]
    exact (((Below.refl _ _).alloc (Nat.le_refl _) _).alloc (by simp) _).alloc (by simp; omega) _
  have ga : box24 W0 w.heap.size k := by rw [← hW0]; exact (box24.new _ _).alloc.alloc
  have gb : box24 W0 (w.heap.size + 1) m := by
    rw [← hW0]
    have := box24.new (w.alloc (.cells #[.bool k.1.f0, .slice k.2.1 k.1.f1.length k.2.2] 24)) m
    rw [World.size_alloc] at this
    exact this.alloc
  have gc : box24 W0 (w.heap.size + 1 + 1) n := by
    rw [← hW0]
    have := box24.new ((w.alloc (.cells #[.bool k.1.f0, .slice k.2.1 k.1.f1.length k.2.2] 24)).alloc (.cells #[.bool m.1.f0, .slice m.2.1 m.1.f1.length m.2.2] 24)) n
    rwa [World.size_alloc, World.size_alloc] at this
  rw [hW0]
  have B0 := Lib.hid hb0
  have A0 := Lib.hid ga
  have M0 := Lib.hid gb
  have N0 := Lib.hid gc
  clear hW0 hb0 ga gb gc
  refine (pannierlaw04_shown.calls true _ rfl).mono ?_
  rintro e w1 ⟨rfl, hb1⟩
  have A1 := Lib.hid (A0.out.below hb1)
  have M1 := Lib.hid (M0.out.below hb1)
  have N1 := Lib.hid (N0.out.below hb1)
  have B1 := Lib.hid (B0.out.trans (hb1.mono B0.out.size))
  clear hb1 A0 M0 N0 
  have cA0 := A1.out.c0
  have cA1 := A1.out.c1
  have cM0 := M1.out.c0
  have cM1 := M1.out.c1
  go_wp2_with fail
  clear cA0 cA1 cM0 cM1
  refine (Sum22S k m _ LK.out (Kd.C_below CK.out B1.out) LM.out (Kd.C_below CM.out B1.out)).mono ?_
  rintro e w2 ⟨x, rfl, hx, fx, hb2⟩
  rw [E1.out]
  have Hx := Lib.hid hx
  have Fx2 := Lib.hid fx
  clear hx fx
  have A2 := Lib.hid (A1.out.below hb2)
  have M2 := Lib.hid (M1.out.below hb2)
  have N2 := Lib.hid (N1.out.below hb2)
  have B2 := Lib.hid (B1.out.trans (hb2.mono B1.out.size))
  clear hb2 A1 M1 N1 
  have cM0 := (M2.out.alloc (ob := .cells #[.bool x.1.f0, .slice x.2.1 x.1.f1.length x.2.2] 24)).c0
  have cM1 := (M2.out.alloc (ob := .cells #[.bool x.1.f0, .slice x.2.1 x.1.f1.length x.2.2] 24)).c1
  have cN0 := (N2.out.alloc (ob := .cells #[.bool x.1.f0, .slice x.2.1 x.1.f1.length x.2.2] 24)).c0
  have cN1 := (N2.out.alloc (ob := .cells #[.bool x.1.f0, .slice x.2.1 x.1.f1.length x.2.2] 24)).c1
  go_wp2_with fail
  clear cM0 cM1 cN0 cN1
  obtain ⟨W3, hW3⟩ : ∃ W, w2.alloc (.cells #[.bool x.1.f0, .slice x.2.1 x.1.f1.length x.2.2] 24) = W := ⟨_, rfl⟩
  have hb3 : Below w2.heap.size w2 W3 := by rw [← hW3]; exact (Below.refl _ _).alloc (Nat.le_refl _) _
  have gX : box24 W3 w2.heap.size x := by rw [← hW3]; exact box24.new _ _
  rw [hW3]
  have X3 := Lib.hid gX
  clear hW3 gX
  have A3 := Lib.hid (A2.out.below hb3)
  have M3 := Lib.hid (M2.out.below hb3)
  have N3 := Lib.hid (N2.out.below hb3)
  have Fx3 := Lib.hid (Fx2.out.below hb3)
  have B3 := Lib.hid (B2.out.trans (hb3.mono B2.out.size))
  clear hb3 A2 M2 N2 Fx2 
  refine (Sum22S m n _ LM.out (Kd.C_below CM.out B3.out) LN.out (Kd.C_below CN.out B3.out)).mono ?_
  rintro e w4 ⟨y, rfl, hy, fy, hb4⟩
  rw [E2.out]
  have Hy := Lib.hid hy
  have Fy4 := Lib.hid fy
  clear hy fy
  have A4 := Lib.hid (A3.out.below hb4)
  have M4 := Lib.hid (M3.out.below hb4)
  have N4 := Lib.hid (N3.out.below hb4)
  have X4 := Lib.hid (X3.out.below hb4)
  have Fx4 := Lib.hid (Fx3.out.below hb4)
  have B4 := Lib.hid (B3.out.trans (hb4.mono B3.out.size))
  clear hb4 A3 M3 N3 X3 Fx3 
  have cM0 := (M4.out.alloc (ob := .cells #[.bool y.1.f0, .slice y.2.1 y.1.f1.length y.2.2] 24)).c0
  have cM1 := (M4.out.alloc (ob := .cells #[.bool y.1.f0, .slice y.2.1 y.1.f1.length y.2.2] 24)).c1
  have cA0 := (A4.out.alloc (ob := .cells #[.bool y.1.f0, .slice y.2.1 y.1.f1.length y.2.2] 24)).c0
  have cA1 := (A4.out.alloc (ob := .cells #[.bool y.1.f0, .slice y.2.1 y.1.f1.length y.2.2] 24)).c1
  go_wp2_with fail
  clear cM0 cM1 cA0 cA1
  obtain ⟨W5, hW5⟩ : ∃ W, w4.alloc (.cells #[.bool y.1.f0, .slice y.2.1 y.1.f1.length y.2.2] 24) = W := ⟨_, rfl⟩
  have hb5 : Below w4.heap.size w4 W5 := by rw [← hW5]; exact (Below.refl _ _).alloc (Nat.le_refl _) _
  have gY : box24 W5 w4.heap.size y := by rw [← hW5]; exact box24.new _ _
  rw [hW5]
  have Y5 := Lib.hid gY
  clear hW5 gY
  have A5 := Lib.hid (A4.out.below hb5)
  have M5 := Lib.hid (M4.out.below hb5)
  have N5 := Lib.hid (N4.out.below hb5)
  have X5 := Lib.hid (X4.out.below hb5)
  have Fx5 := Lib.hid (Fx4.out.below hb5)
  have Fy5 := Lib.hid (Fy4.out.below hb5)
  have B5 := Lib.hid (B4.out.trans (hb5.mono B4.out.size))
  clear hb5 A4 M4 N4 X4 Fx4 Fy4 
  refine (Sum22S m k _ LM.out (Kd.C_below CM.out B5.out) LK.out (Kd.C_below CK.out B5.out)).mono ?_
  rintro e w6 ⟨z, rfl, hz, fz, hb6⟩
  rw [E3.out]
  have Hz := Lib.hid hz
  have Fz6 := Lib.hid fz
  clear hz fz
  have A6 := Lib.hid (A5.out.below hb6)
  have M6 := Lib.hid (M5.out.below hb6)
  have N6 := Lib.hid (N5.out.below hb6)
  have X6 := Lib.hid (X5.out.below hb6)
  have Y6 := Lib.hid (Y5.out.below hb6)
  have Fx6 := Lib.hid (Fx5.out.below hb6)
  have Fy6 := Lib.hid (Fy5.out.below hb6)
  have B6 := Lib.hid (B5.out.trans (hb6.mono B5.out.size))
  clear hb6 A5 M5 N5 X5 Y5 Fx5 Fy5 
  have e11 : (e1 != e1) = false := by simp
  have cX0 := (X6.out.alloc (ob := .cells #[.bool z.1.f0, .slice z.2.1 z.1.f1.length z.2.2] 24)).c0
  have cX1 := (X6.out.alloc (ob := .cells #[.bool z.1.f0, .slice z.2.1 z.1.f1.length z.2.2] 24)).c1
  go_wp2_with fail
  clear cX0 cX1
  obtain ⟨W7, hW7⟩ : ∃ W, w6.alloc (.cells #[.bool z.1.f0, .slice z.2.1 z.1.f1.length z.2.2] 24) = W := ⟨_, rfl⟩
  have hb7 : Below w6.heap.size w6 W7 := by rw [← hW7]; exact (Below.refl _ _).alloc (Nat.le_refl _) _
  have gZ : box24 W7 w6.heap.size z := by rw [← hW7]; exact box24.new _ _
  rw [hW7]
  have Z7 := Lib.hid gZ
  clear hW7 gZ
  have A7 := Lib.hid (A6.out.below hb7)
  have M7 := Lib.hid (M6.out.below hb7)
  have N7 := Lib.hid (N6.out.below hb7)
  have X7 := Lib.hid (X6.out.below hb7)
  have Y7 := Lib.hid (Y6.out.below hb7)
  have Fx7 := Lib.hid (Fx6.out.below hb7)
  have Fy7 := Lib.hid (Fy6.out.below hb7)
  have Fz7 := Lib.hid (Fz6.out.below hb7)
  have B7 := Lib.hid (B6.out.trans (hb7.mono B6.out.size))
  clear hb7 A6 M6 N6 X6 Y6 Fx6 Fy6 Fz6 
  obtain ⟨tx, htx, rtx⟩ := SumS_tree k.1 m.1
  have TX : Hid (x.1 = tx.toS) := Lib.hid (by rw [Hx.out, htx])
  have TZ : Hid (z.1 = tx.toS) := Lib.hid (by rw [Hz.out, SumS_comm, htx])
  have RX := Lib.hid rtx
  clear htx rtx
  refine (Same23 x z tx tx _ TX.out TZ.out RX.out RX.out Fx7.out.len Fx7.out.now Fz7.out.len Fz7.out.now).mono ?_
  rintro e w8 ⟨rfl, hb8⟩
  rw [eqb_self]
  have A8 := Lib.hid (A7.out.below hb8)
  have M8 := Lib.hid (M7.out.below hb8)
  have N8 := Lib.hid (N7.out.below hb8)
  have X8 := Lib.hid (X7.out.below hb8)
  have Y8 := Lib.hid (Y7.out.below hb8)
  have Z8 := Lib.hid (Z7.out.below hb8)
  have Fx8 := Lib.hid (Fx7.out.below hb8)
  have Fy8 := Lib.hid (Fy7.out.below hb8)
  have Fz8 := Lib.hid (Fz7.out.below hb8)
  have B8 := Lib.hid (B7.out.trans (hb8.mono B7.out.size))
  clear hb8 A7 M7 N7 X7 Y7 Z7 Fx7 Fy7 Fz7 
  by_cases h1 : e1 = 0
  · by_cases h2 : e2 = 0
    · have E6 : Hid (SumS x.1 n.1 = SumS k.1 y.1) := Lib.hid (by rw [Hx.out, Hy.out]; exact SumS_three _ _ _ (E1.out.trans h1) (E2.out.trans h2))
      obtain ⟨g, hg⟩ : ∃ g, (SumS x.1 n.1).2 = g := ⟨_, rfl⟩
      have E4 := Lib.hid hg
      have E5 : Hid ((SumS k.1 y.1).2 = g) := Lib.hid (by rw [← E6.out]; exact hg)
      have n1 : (e1 != 0) = false := by rw [h1]; rfl
      have n2 : (e2 != 0) = false := by rw [h2]; rfl
      have n3 : (e1 == 0) = true := by rw [h1]; rfl
      clear h1 h2 hg
      have cX0 := X8.out.c0
      have cX1 := X8.out.c1
      have cN0 := N8.out.c0
      have cN1 := N8.out.c1
      go_wp2_with fail
      clear cX0 cX1 cN0 cN1
      refine (Sum22S x n _ Fx8.out.len Fx8.out.now LN.out (Kd.C_below CN.out B8.out)).mono ?_
      rintro e w9 ⟨p, rfl, hp, fp, hb9⟩
      rw [E4.out]
      have Hp := Lib.hid hp
      have Fp9 := Lib.hid fp
      clear hp fp
      have A9 := Lib.hid (A8.out.below hb9)
      have M9 := Lib.hid (M8.out.below hb9)
      have N9 := Lib.hid (N8.out.below hb9)
      have X9 := Lib.hid (X8.out.below hb9)
      have Y9 := Lib.hid (Y8.out.below hb9)
      have Z9 := Lib.hid (Z8.out.below hb9)
      have Fx9 := Lib.hid (Fx8.out.below hb9)
      have Fy9 := Lib.hid (Fy8.out.below hb9)
      have Fz9 := Lib.hid (Fz8.out.below hb9)
      have B9 := Lib.hid (B8.out.trans (hb9.mono B8.out.size))
      clear hb9 A8 M8 N8 X8 Y8 Z8 Fx8 Fy8 Fz8 
      have cA0 := (A9.out.alloc (ob := .cells #[.bool p.1.f0, .slice p.2.1 p.1.f1.length p.2.2] 24)).c0
      have cA1 := (A9.out.alloc (ob := .cells #[.bool p.1.f0, .slice p.2.1 p.1.f1.length p.2.2] 24)).c1
      have cY0 := (Y9.out.alloc (ob := .cells #[.bool p.1.f0, .slice p.2.1 p.1.f1.length p.2.2] 24)).c0
      have cY1 := (Y9.out.alloc (ob := .cells #[.bool p.1.f0, .slice p.2.1 p.1.f1.length p.2.2] 24)).c1
      go_wp2_with fail
      clear cA0 cA1 cY0 cY1
      obtain ⟨W10, hW10⟩ : ∃ W, w9.alloc (.cells #[.bool p.1.f0, .slice p.2.1 p.1.f1.length p.2.2] 24) = W := ⟨_, rfl⟩
      have hb10 : Below w9.heap.size w9 W10 := by rw [← hW10]; exact (Below.refl _ _).alloc (Nat.le_refl _) _
      have gP : box24 W10 w9.heap.size p := by rw [← hW10]; exact box24.new _ _
      rw [hW10]
      have P10 := Lib.hid gP
      clear hW10 gP
      have A10 := Lib.hid (A9.out.below hb10)
      have M10 := Lib.hid (M9.out.below hb10)
      have N10 := Lib.hid (N9.out.below hb10)
      have X10 := Lib.hid (X9.out.below hb10)
      have Y10 := Lib.hid (Y9.out.below hb10)
      have Z10 := Lib.hid (Z9.out.below hb10)
      have Fx10 := Lib.hid (Fx9.out.below hb10)
      have Fy10 := Lib.hid (Fy9.out.below hb10)
      have Fz10 := Lib.hid (Fz9.out.below hb10)
      have Fp10 := Lib.hid (Fp9.out.below hb10)
      have B10 := Lib.hid (B9.out.trans (hb10.mono B9.out.size))
      clear hb10 A9 M9 N9 X9 Y9 Z9 Fx9 Fy9 Fz9 Fp9 
      refine (Sum22S k y _ LK.out (Kd.C_below CK.out B10.out) Fy10.out.len Fy10.out.now).mono ?_
      rintro e w11 ⟨q, rfl, hq, fq, hb11⟩
      rw [E5.out]
      have Hq := Lib.hid hq
      have Fq11 := Lib.hid fq
      clear hq fq
      have A11 := Lib.hid (A10.out.below hb11)
      have M11 := Lib.hid (M10.out.below hb11)
      have N11 := Lib.hid (N10.out.below hb11)
      have X11 := Lib.hid (X10.out.below hb11)
      have Y11 := Lib.hid (Y10.out.below hb11)
      have Z11 := Lib.hid (Z10.out.below hb11)
      have P11 := Lib.hid (P10.out.below hb11)
      have Fx11 := Lib.hid (Fx10.out.below hb11)
      have Fy11 := Lib.hid (Fy10.out.below hb11)
      have Fz11 := Lib.hid (Fz10.out.below hb11)
      have Fp11 := Lib.hid (Fp10.out.below hb11)
      have B11 := Lib.hid (B10.out.trans (hb11.mono B10.out.size))
      clear hb11 A10 M10 N10 X10 Y10 Z10 P10 Fx10 Fy10 Fz10 Fp10 
      by_cases hg2 : g = 2
      · have g2 : (g == 2) = true := by rw [hg2]; rfl
        have hbf := B11.out.trans ((((Below.refl w11.heap.size w11).alloc (Nat.le_refl _) (.cells #[.bool q.1.f0, .slice q.2.1 q.1.f1.length q.2.2] 24))).mono B11.out.size)
        have BF := Lib.hid hbf
        clear hg2 hbf
        go_wp2_with fail
        go_ret
        exact ⟨rfl, BF.out⟩
      · have g2 : (g == 2) = false := beq_eq_false_iff_ne.2 hg2
        have gg : (g == g) = true := by simp
        clear hg2
        have cP0 := (P11.out.alloc (ob := .cells #[.bool q.1.f0, .slice q.2.1 q.1.f1.length q.2.2] 24)).c0
        have cP1 := (P11.out.alloc (ob := .cells #[.bool q.1.f0, .slice q.2.1 q.1.f1.length q.2.2] 24)).c1
        go_wp2_with fail
        clear cP0 cP1
        obtain ⟨W12, hW12⟩ : ∃ W, w11.alloc (.cells #[.bool q.1.f0, .slice q.2.1 q.1.f1.length q.2.2] 24) = W := ⟨_, rfl⟩
        have hb12 : Below w11.heap.size w11 W12 := by rw [← hW12]; exact (Below.refl _ _).alloc (Nat.le_refl _) _
        have gQ : box24 W12 w11.heap.size q := by rw [← hW12]; exact box24.new _ _
        rw [hW12]
        have Q12 := Lib.hid gQ
        clear hW12 gQ
        have A12 := Lib.hid (A11.out.below hb12)
        have M12 := Lib.hid (M11.out.below hb12)
        have N12 := Lib.hid (N11.out.below hb12)
        have X12 := Lib.hid (X11.out.below hb12)
        have Y12 := Lib.hid (Y11.out.below hb12)
        have Z12 := Lib.hid (Z11.out.below hb12)
        have P12 := Lib.hid (P11.out.below hb12)
        have Fx12 := Lib.hid (Fx11.out.below hb12)
        have Fy12 := Lib.hid (Fy11.out.below hb12)
        have Fz12 := Lib.hid (Fz11.out.below hb12)
        have Fp12 := Lib.hid (Fp11.out.below hb12)
        have Fq12 := Lib.hid (Fq11.out.below hb12)
        have B12 := Lib.hid (B11.out.trans (hb12.mono B11.out.size))
        clear hb12 A11 M11 N11 X11 Y11 Z11 P11 Fx11 Fy11 Fz11 Fp11 Fq11 
        obtain ⟨tp, htp, rtp⟩ := SumS_tree x.1 n.1
        have TP : Hid (p.1 = tp.toS) := Lib.hid (by rw [Hp.out, htp])
        have TQ : Hid (q.1 = tp.toS) := Lib.hid (by rw [Hq.out, ← E6.out, htp])
        clear htp rtp
        refine (Equal19 p q tp tp _ TP.out TQ.out Fp12.out.len Fp12.out.now Fq12.out.len Fq12.out.now).mono ?_
        rintro e w13 ⟨rfl, hb13⟩
        rw [eqb_self]
        have BF := Lib.hid (B12.out.trans (hb13.mono B12.out.size))
        clear hb13
        go_wp2_with fail
        go_ret
        exact ⟨rfl, BF.out⟩
    · have n1 : (e1 != 0) = false := by rw [h1]; rfl
      have n2 : (e2 != 0) = true := bne_iff_ne.2 h2
      have n3 : (e1 == 0) = true := by rw [h1]; rfl
      clear h1 h2
      go_wp2_with fail
      go_ret
      exact ⟨rfl, B8.out⟩
  · have n1 : (e1 != 0) = true := bne_iff_ne.2 h1
    have n3 : (e1 == 0) = false := beq_eq_false_iff_ne.2 h1
    clear h1
    go_wp2_with fail
    go_ret
    exact ⟨rfl, B8.out⟩
end Go.Proofs.Ytlhaofbncoijfaa.HandF
