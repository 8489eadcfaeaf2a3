/- A contract by hand, in the print's form: id.Show. -/
import Derived.Test.YtlhaofbncoijfaaShow
import Derived.Test.YtlhaofbncoijfaaRightMath
import Derived.Test.YtlhaofbncoijfaaHandR
namespace Go.Proofs.Ytlhaofbncoijfaa.HandF
set_option linter.unusedVariables false
set_option linter.unusedSimpArgs false
open Go.RowKit Go.Proofs.Ytlhaofbncoijfaa.X Go.Proofs.Ytlhaofbncoijfaa.Tree Go.Proofs.Ytlhaofbncoijfaa.Blocks
open Go.Proofs.YtlhaofbncoijfaaW.PrintWords Go.Proofs.YtlhaofbncoijfaaW.PrintLast Go.Proofs.YtlhaofbncoijfaaW.PrintMore

theorem norm_calls (k : Kd2) (t : T) (w : World) (hk : k.1 = t.toS) (hl : k.1.f1.length ≤ k.2.2) (hC : Kd.C k24 w k.2.1 k.1.f1.length k.1.f1) :
    Calls Try.prog 36 #[kv k] w fun e w' => ∃ k' : Kd2, e = .returned (kv k') ∧ k'.1 = t.norm.toS ∧ Ft w' (fun j => w.heap.size ≤ j ∧ j < w'.heap.size) k' ∧ Below w.heap.size w w' := by
  obtain ⟨s, A, c⟩ := k
  dsimp only at hk
  subst hk
  refine (id_norm.calls (t.depth + 1) t.toS.f0 A c t.toS.f1 _ _ w hC hl (norm_f t _ (Nat.lt_succ_self _))).mono ?_
  rintro e w' ⟨v, rfl, hv, hbl⟩
  obtain ⟨A', c', rfl, hl', hf⟩ := Kd.N_V (base' := 0) hv
  exact ⟨(t.norm.toS, A', c'), rfl, rfl, ⟨hl', Kd.F_bound hf⟩, hbl⟩

def id_Show.f (a0_0 : Bool) (l0_1 : List S24) : Option (ByteArray × Int) :=
  if rightB ⟨a0_0, l0_1⟩ = true then (T.ofS ⟨a0_0, l0_1⟩).map fun t => (⟨t.norm.text.toArray⟩, 0) else some (⟨#[]⟩, 2)
theorem info67 : (Try.prog.info? 67).map (fun i => (i.zero, i.size)) = some (some (.agg #[.pointer none, .slice none 0 0]), 2) := by kernel_rfl
set_option maxRecDepth 100000 in
set_option maxHeartbeats 40000000 in
theorem id_Show.calls (a0_0 : Bool) (A0_1 : Option Addr) (c0_1 : Nat) (l0_1 : List S24) (r1 : ByteArray) (r2 : Int) (w : World) (hr0_1 : Kd.C k24 w A0_1 l0_1.length l0_1) (hc0_1 : l0_1.length ≤ c0_1) (h : id_Show.f a0_0 l0_1 = some (r1, r2)) :
    Calls Try.prog 28 #[.agg #[.bool a0_0, .slice A0_1 l0_1.length c0_1]] w fun e w' => e = .returned (.tuple #[.string r1, .int .i64 r2]) ∧ Below w.heap.size w w' := by
  have hu24 := Try.underlying24
  have hu22 := Try.underlying22
  have hu67 := Try.underlying67
  have hR := right_calls (⟨a0_0, l0_1⟩, A0_1, c0_1)
  have HC := Lib.hid hr0_1
  have HL := Lib.hid hc0_1
  have HH := Lib.hid h
  have HR := Lib.hid hR
  clear hr0_1 hc0_1 h hR
  have hbA : Below w.heap.size w (w.alloc (.cells #[.bool a0_0, .slice A0_1 l0_1.length c0_1] 24)) := (Below.refl _ _).alloc (Nat.le_refl _) _
  have gA := blk_new w (.cells #[.bool a0_0, .slice A0_1 l0_1.length c0_1] 24)
  have HBA := Lib.hid hbA
  have GA := Lib.hid gA
  clear hbA gA
  go_enter Try.func28, Try.ntmps28
  go_wp2_with fail
  refine (HR.out _ ⟨HL.out, Kd.C_below HC.out HBA.out⟩).mono ?_
  rintro e w1 ⟨rfl, hb1⟩
  have HB1 := Lib.hid (HBA.out.trans (hb1.mono HBA.out.size))
  have g1 := blk_below GA.out hb1
  have hc0 := cell0 g1
  have hc1 := cell1 g1
  have G1 := Lib.hid g1
  clear hb1 g1
  dsimp only
  cases hr : rightB ⟨a0_0, l0_1⟩
  · have hh := HH.out
    unfold id_Show.f at hh
    rw [hr] at hh
    obtain ⟨rfl, rfl⟩ : (⟨#[]⟩ : ByteArray) = r1 ∧ (2 : Int) = r2 := by simpa using hh
    clear hh
    go_wp2_with fail
    go_ret2
    exact ⟨rfl, HB1.out⟩
  · obtain ⟨t, ht, hrt⟩ := (right_iff _).1 hr
    have hh := HH.out
    unfold id_Show.f at hh
    rw [hr, if_pos rfl, T.ofS_eq.2 ht] at hh
    obtain ⟨rfl, rfl⟩ : (⟨t.norm.text.toArray⟩ : ByteArray) = r1 ∧ (0 : Int) = r2 := by simpa using hh
    have HT := Lib.hid ht
    have HRT := Lib.hid hrt
    clear hh ht hrt
    have hd0 := cell0 (blk_alloc G1.out (.cells #[.pointer none, .slice none 0 0] 67))
    have hd1 := cell1 (blk_alloc G1.out (.cells #[.pointer none, .slice none 0 0] 67))
    go_wp2_with fail
    obtain ⟨W2, hW2⟩ : ∃ W2, w1.alloc (.cells #[.pointer none, .slice none 0 0] 67) = W2 := ⟨_, rfl⟩
    have hs2 : W2.heap.size = w1.heap.size + 1 := by rw [← hW2]; exact World.size_alloc _ _
    have hb2 : Below w1.heap.size w1 W2 := by rw [← hW2]; exact (Below.refl _ _).alloc (Nat.le_refl _) _
    have g2 : W2.heap[w1.heap.size]? = some (.cells #[.pointer none, .slice none 0 0] 67 (0, 0)) := by rw [← hW2]; exact blk_new _ _
    rw [hW2]
    have HB2 := Lib.hid (HB1.out.trans (hb2.mono HB1.out.size))
    have HS2 := Lib.hid hs2
    have GB := Lib.hid g2
    clear hW2 hs2 hb2 g2 hc0 hc1 hd0 hd1
    refine (norm_calls (⟨a0_0, l0_1⟩, A0_1, c0_1) t _ HT.out.symm HL.out (Kd.C_below HC.out HB2.out)).mono ?_
    rintro e w3 ⟨k', rfl, hk', hf', hb3⟩
    have HB3 := Lib.hid (HB2.out.trans (hb3.mono HB2.out.size))
    have HK' := Lib.hid hk'
    have HF' := Lib.hid hf'
    have G3 := Lib.hid (blk_below GB.out hb3)
    have HS3 := Lib.hid hb3.size
    clear hk' hf' hb3
    go_wp2_with fail
    have hbld : BIs w3.heap.size w1.heap.size (Lib.byteCells []) w3 := .inl ⟨by have := HS3.out; have := HS2.out; omega, _, G3.out, own_nil _ _ _ _⟩
    have hft : Ft w3 (fun j => j < w3.heap.size ∧ j ≠ w1.heap.size) k' := HF'.out.mono (fun j hj => ⟨hj.2, by have := hj.1; have := HS2.out; omega⟩)
    have hlen : ([] : List UInt8).length + t.norm.text.length ≤ 140737488355328 := by
      have h1 := text_length t.norm
      have h2 := (norm_right HRT.out).2
      simp only [List.length_nil]
      omega
    refine (show_calls t.norm k' w3.heap.size w1.heap.size [] w3 HK'.out hft hbld (Nat.le_refl _) hlen).mono ?_
    rintro e w4 ⟨rfl, h4, hk4⟩
    have HB4 := Lib.hid (HB3.out.trans (hk4.below.mono HB1.out.size))
    have H4 := Lib.hid h4
    clear hbld hft hlen h4 hk4
    go_wp2_with fail
    refine (Try.Builder_String_any w1.heap.size w1.heap.size t.norm.text w4 (.inr H4.out.std) (Nat.le_trans (Nat.le_of_lt (Array.getElem?_eq_some_iff.1 H4.out.2.choose_spec.1).1) (Nat.le_refl _))).mono ?_
    rintro e w5 ⟨rfl, hb5⟩
    have HB5 := Lib.hid (HB4.out.trans (hb5.mono HB1.out.size))
    clear hb5
    go_wp2_with fail
    go_ret2
    exact ⟨rfl, HB5.out⟩
end Go.Proofs.Ytlhaofbncoijfaa.HandF
