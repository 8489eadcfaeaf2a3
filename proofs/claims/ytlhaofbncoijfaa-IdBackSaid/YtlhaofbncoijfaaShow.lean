/- The walk of id.show. -/
import Derived.Test.YtlhaofbncoijfaaKids
import Derived.Test.YtlhaofbncoijfaaBuild
namespace Go.Proofs.Ytlhaofbncoijfaa.HandF
set_option linter.unusedVariables false
set_option linter.unusedSimpArgs false
open Go.RowKit Go.Proofs.Ytlhaofbncoijfaa.X Go.Proofs.Ytlhaofbncoijfaa.Tree Go.Proofs.Ytlhaofbncoijfaa.Blocks
open Go.Proofs.YtlhaofbncoijfaaW.PrintWords Go.Proofs.YtlhaofbncoijfaaW.PrintLast Go.Proofs.YtlhaofbncoijfaaW.PrintMore

/-- What show keeps: the tree's box, the builder. -/
structure ShI (N b : Nat) (w W : World) (g : Nat) (k : Kd2) (l : List UInt8) : Prop where
  keep : BKeep N b w W
  box : W.heap[g]? = some (.cells #[.bool k.1.f0, .slice k.2.1 k.1.f1.length k.2.2] 24 (0, 0))
  bld : BIs N b (Lib.byteCells l) W
  size : N ≤ W.heap.size
  lt : b ≤ N
theorem ShI.step {N b : Nat} {w W W' : World} {g : Nat} {k : Kd2} {l : List UInt8} (h : ShI N b w W g k l) (hb : Below W.heap.size W W') : ShI N b w W' g k l :=
  ⟨h.keep.trans (BKeep.fresh h.size h.lt hb), blk_below h.box hb, h.bld.below hb, Nat.le_trans h.size hb.size, h.lt⟩
theorem ShI.put {N b : Nat} {w W W' : World} {g : Nat} {k : Kd2} {l : List UInt8} (h : ShI N b w W g k l) (l2 : List UInt8) (hbl : BAt N b (.pointer (some ⟨b, 0, none⟩)) (Lib.byteCells (l ++ l2)) W') (hk : BKeep N b W W') : ShI N b w W' g k (l ++ l2) :=
  ⟨h.keep.trans hk, hk.ty _ _ _ _ (by simp) h.box, .inr hbl, Nat.le_trans h.size hk.below.size, h.lt⟩
theorem bytes_put (l : List UInt8) (c : UInt8) : Lib.byteCells l ++ [.int .u8 (c.toNat : Int)] = Lib.byteCells (l ++ [c]) := by simp [Lib.byteCells]

theorem BIs_lt {N b : Nat} {bs : List Value} {w : World} (h : BIs N b bs w) : b ≤ N := by rcases h with h | h <;> exact Nat.le_of_lt h.1
set_option maxRecDepth 100000 in
set_option maxHeartbeats 40000000 in
theorem show_calls : ∀ (t : T) (k : Kd2) (B b : Nat) (l : List UInt8) (w : World), k.1 = t.toS → Ft w (fun j => j < B ∧ j ≠ b) k → BIs B b (Lib.byteCells l) w → B ≤ w.heap.size → l.length + t.text.length ≤ 140737488355328 →
    Calls Try.prog 47 #[.pointer (some ⟨b, 0, none⟩), kv k] w fun e w' => e = .returned (.tuple #[]) ∧ BAt B b (.pointer (some ⟨b, 0, none⟩)) (Lib.byteCells (l ++ t.text)) w' ∧ BKeep B b w w'
  | .leaf x, k, B, b, l, w, hk, h, hbl, hB, hlen => by
    have HK := Lib.hid hk
    have HF := Lib.hid h
    have hI : ShI B b w (w.alloc (.cells #[.bool k.1.f0, .slice k.2.1 k.1.f1.length k.2.2] 24)) w.heap.size k l :=
      ⟨BKeep.fresh hB (BIs_lt hbl) ((Below.refl _ _).alloc (Nat.le_refl _) _), blk_new _ _, hbl.below ((Below.refl _ _).alloc (Nat.le_refl _) _), by rw [World.size_alloc]; omega, BIs_lt hbl⟩
    have HI := Lib.hid hI
    have HL := Lib.hid hlen
    clear hk h hbl hB hI hlen
    have hu24 := Try.underlying24
    have hu22 := Try.underlying22
    go_enter Try.func47, Try.ntmps47
    go_wp2_with fail
    refine (one_calls k (.leaf x) _ _ HK.out (HF.out.move (fun j hj => HI.out.keep.same j hj.1 hj.2))).mono ?_
    rintro e w1 ⟨rfl, hb1⟩
    have HI1 := Lib.hid (HI.out.step hb1)
    clear hb1
    have hc0 := cell0 HI1.out.box
    have hc1 := cell1 HI1.out.box
    cases x
    · go_wp2_with fail
      refine (leaf_calls k (.leaf false) _ _ HK.out (HF.out.move (fun j hj => HI1.out.keep.same j hj.1 hj.2))).mono ?_
      rintro e w2 ⟨rfl, hb2⟩
      have HI2 := Lib.hid (HI1.out.step hb2)
      clear hb2 hc0 hc1
      go_wp2_with fail
      refine (byte_calls B b _ 48 _ HI2.out.bld (by rw [Lib.byteCells_length]; have := HL.out; simp [T.text] at this; omega) HI2.out.size).mono ?_
      rintro e w3 ⟨rfl, h3, hk3⟩
      have HI3 := Lib.hid (HI2.out.put [48] (by rw [← bytes_put]; exact h3) hk3)
      have H3 := Lib.hid h3
      clear h3 hk3
      go_wp2_with fail
      go_end0
      exact ⟨rfl, by have := H3.out; rw [show (T.leaf false).text = [48] from rfl, ← bytes_put]; exact this, HI3.out.keep⟩
    · go_wp2_with fail
      refine (byte_calls B b _ 49 _ HI1.out.bld (by rw [Lib.byteCells_length]; have := HL.out; simp [T.text] at this; omega) HI1.out.size).mono ?_
      rintro e w3 ⟨rfl, h3, hk3⟩
      have HI3 := Lib.hid (HI1.out.put [49] (by rw [← bytes_put]; exact h3) hk3)
      have H3 := Lib.hid h3
      clear h3 hk3
      go_wp2_with fail
      go_end0
      exact ⟨rfl, by have := H3.out; rw [show (T.leaf true).text = [49] from rfl, ← bytes_put]; exact this, HI3.out.keep⟩
  | .node a b', k, B, b, l, w, hk, h, hbl, hB, hlen => by
    obtain ⟨ad, ka, kb, hA, hka, hkb, ha, hb, x0, x1, x2, x3⟩ := h.kids hk
    obtain ⟨s, A, c⟩ := k
    dsimp only at hA
    subst hA
    obtain rfl : s = ⟨false, [a.toS, b'.toS]⟩ := hk
    have HF := Lib.hid h
    have hlen' : l.length + (a.text.length + b'.text.length + 3) ≤ 140737488355328 := by simp [T.text] at hlen; omega
    have HL := Lib.hid hlen'
    have hI : ShI B b w (w.alloc (.cells #[.bool false, .slice (some ad) 2 c] 24)) w.heap.size (⟨false, [a.toS, b'.toS]⟩, some ad, c) l :=
      ⟨BKeep.fresh hB (BIs_lt hbl) ((Below.refl _ _).alloc (Nat.le_refl _) _), blk_new _ _, hbl.below ((Below.refl _ _).alloc (Nat.le_refl _) _), by rw [World.size_alloc]; omega, BIs_lt hbl⟩
    have HI := Lib.hid hI
    have HA := Lib.hid ha
    have HB := Lib.hid hb
    have HKA := Lib.hid hka
    have HKB := Lib.hid hkb
    -- the kids' cells stay, for they lie below B
    have lie : ∀ W, BKeep B b w W → W.cell? ad = some (.bool ka.1.f0) ∧ W.cell? ⟨ad.block, ad.off + 1, none⟩ = some (.slice ka.2.1 ka.1.f1.length ka.2.2) ∧ W.cell? ⟨ad.block, ad.off + 2, none⟩ = some (.bool kb.1.f0) ∧ W.cell? ⟨ad.block, ad.off + 2 + 1, none⟩ = some (.slice kb.2.1 kb.1.f1.length kb.2.2) := fun W hW => by
      have hbk : ad.block < B ∧ ad.block ≠ b := by
        obtain ⟨ad', c0, e, _, _, _, hin⟩ := Kd.F_get h.2 z24 0 (by omega) (by simp)
        obtain rfl : ad = ad' := by injection e
        exact hin (by decide)
      refine ⟨?_, ?_, ?_, ?_⟩
      all_goals (refine (World.cell?_of_block (hW.same _ ?_ ?_)).trans (by assumption); exact hbk.1; exact hbk.2)
    have LIE := Lib.hid lie
    clear h hbl hB hI hlen hlen' ha hb hka hkb x0 x1 x2 x3 lie
    have hu24 := Try.underlying24
    have hu22 := Try.underlying22
    show Calls Try.prog 47 #[.pointer (some ⟨b, 0, none⟩), .agg #[.bool false, .slice (some ad) 2 c]] w _
    go_enter Try.func47, Try.ntmps47
    go_wp2_with fail
    refine (one_calls (⟨false, [a.toS, b'.toS]⟩, some ad, c) (.node a b') _ _ rfl (HF.out.move (fun j hj => HI.out.keep.same j hj.1 hj.2))).mono ?_
    rintro e w1 ⟨rfl, hb1⟩
    have HI1 := Lib.hid (HI.out.step hb1)
    clear hb1
    have hc0 : w1.cell? ⟨w.heap.size, 0, none⟩ = some (.bool false) := cell0 HI1.out.box
    have hc1 : w1.cell? ⟨w.heap.size, 1, none⟩ = some (.slice (some ad) 2 c) := cell1 HI1.out.box
    go_wp2_with fail
    refine (leaf_calls (⟨false, [a.toS, b'.toS]⟩, some ad, c) (.node a b') _ _ rfl (HF.out.move (fun j hj => HI1.out.keep.same j hj.1 hj.2))).mono ?_
    rintro e w2 ⟨rfl, hb2⟩
    have HI2 := Lib.hid (HI1.out.step hb2)
    clear hb2 hc0 hc1
    go_wp2_with fail
    refine (byte_calls B b _ 40 _ HI2.out.bld (by rw [Lib.byteCells_length]; have := HL.out; omega) HI2.out.size).mono ?_
    rintro e w3 ⟨rfl, h3, hk3⟩
    have HI3 := Lib.hid (HI2.out.put [40] (by rw [← bytes_put]; exact h3) hk3)
    clear h3 hk3
    have hc0 : w3.cell? ⟨w.heap.size, 0, none⟩ = some (.bool false) := cell0 HI3.out.box
    have hc1 : w3.cell? ⟨w.heap.size, 1, none⟩ = some (.slice (some ad) 2 c) := cell1 HI3.out.box
    obtain ⟨y0, y1, y2, y3⟩ := LIE.out _ HI3.out.keep
    go_wp2_with fail
    refine (show_calls a ka B b (l ++ [40]) _ HKA.out (HA.out.move (fun j hj => HI3.out.keep.same j hj.1 hj.2)) HI3.out.bld HI3.out.size (by have := HL.out; simp; omega)).mono ?_
    rintro e w4 ⟨rfl, h4, hk4⟩
    have HI4 := Lib.hid (HI3.out.put a.text h4 hk4)
    clear h4 hk4 hc0 hc1 y0 y1 y2 y3
    go_wp2_with fail
    refine (byte_calls B b _ 44 _ HI4.out.bld (by rw [Lib.byteCells_length]; have := HL.out; simp; omega) HI4.out.size).mono ?_
    rintro e w5 ⟨rfl, h5, hk5⟩
    have HI5 := Lib.hid (HI4.out.put [44] (by rw [← bytes_put]; exact h5) hk5)
    clear h5 hk5
    have hc0 : w5.cell? ⟨w.heap.size, 0, none⟩ = some (.bool false) := cell0 HI5.out.box
    have hc1 : w5.cell? ⟨w.heap.size, 1, none⟩ = some (.slice (some ad) 2 c) := cell1 HI5.out.box
    obtain ⟨y0, y1, y2, y3⟩ := LIE.out _ HI5.out.keep
    go_wp2_with fail
    refine (show_calls b' kb B b (l ++ [40] ++ a.text ++ [44]) _ HKB.out (HB.out.move (fun j hj => HI5.out.keep.same j hj.1 hj.2)) HI5.out.bld HI5.out.size (by have := HL.out; simp; omega)).mono ?_
    rintro e w6 ⟨rfl, h6, hk6⟩
    have HI6 := Lib.hid (HI5.out.put b'.text h6 hk6)
    clear h6 hk6 hc0 hc1 y0 y1 y2 y3
    go_wp2_with fail
    refine (byte_calls B b _ 41 _ HI6.out.bld (by rw [Lib.byteCells_length]; have := HL.out; simp; omega) HI6.out.size).mono ?_
    rintro e w7 ⟨rfl, h7, hk7⟩
    have HI7 := Lib.hid (HI6.out.put [41] (by rw [← bytes_put]; exact h7) hk7)
    have H7 := Lib.hid h7
    clear h7 hk7
    go_wp2_with fail
    go_end0
    exact ⟨rfl, by have := H7.out; rw [show l ++ (T.node a b').text = l ++ [40] ++ a.text ++ [44] ++ b'.text ++ [41] by simp [T.text], ← bytes_put]; exact this, HI7.out.keep⟩
end Go.Proofs.Ytlhaofbncoijfaa.HandF
