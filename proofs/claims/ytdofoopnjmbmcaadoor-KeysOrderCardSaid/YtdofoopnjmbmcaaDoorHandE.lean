/- A contract by hand: strings.ReplaceAll, each byte 0 by 0 and 255. -/
import Derived.Test.YtdofoopnjmbmcaaDoorX0
import Derived.Test.YtdofoopnjmbmcaaDoorBlocks
import Derived.Test.YtdofoopnjmbmcaaDoorShelf
import Derived.Test.YtdofoopnjmbmcaaDoorEscMath
import Derived.WalkSpells
import Derived.WalkMore
import Derived.Lib.Hide
namespace Go.Proofs.YtdofoopnjmbmcaaDoor.HandF
set_option linter.unusedVariables false
set_option linter.unusedSimpArgs false
open Go.RowKit Go.Proofs.YtdofoopnjmbmcaaDoor.X Go.Proofs.YtdofoopnjmbmcaaDoor.Blocks
open Go.Proofs.YtdofoopnjmbmcaaDoorW.PrintWords Go.Proofs.YtdofoopnjmbmcaaDoorW.PrintLast Go.Proofs.YtdofoopnjmbmcaaDoorW.PrintMore

/-- A text, escaped. -/
def escS (s : ByteArray) : ByteArray := ⟨(Math.escU s.data.toList).toArray⟩

theorem size_toList (s : ByteArray) : s.data.toList.length = s.size := by rw [Array.length_toList]; rfl

set_option maxRecDepth 100000 in
set_option maxHeartbeats 2000000 in
theorem replace_calls (s : ByteArray) (w : World) (hs : s.size ≤ 35184372088832) :
    Calls Tryd.prog 34 #[.string s, .string ⟨#[0]⟩, .string ⟨#[0, 255]⟩, .int .i64 (-1)] w fun e w' => e = .returned (.string (escS s)) ∧ Below w.heap.size w w' := by
  obtain ⟨L, hL⟩ : ∃ L, s.data.toList = L := ⟨_, rfl⟩
  have hLl : L.length = s.size := by rw [← hL]; exact size_toList s
  obtain ⟨cn, hcn⟩ : ∃ cn, L.count 0 = cn := ⟨_, rfl⟩
  have hcnl : cn ≤ s.size := by rw [← hLl, ← hcn]; exact List.count_le_length
  have hC := fun w => Tryd.strings_Count_one s 0 w
  have hcc : Lib.countByte s.data.toList 0 = cn := by rw [hL]; exact hcn
  rw [hcc] at hC
  have HC := Aside0.mk hC
  have HL := Aside0.mk hL
  have HLl := Aside0.mk hLl
  have HCN := Aside0.mk hcn
  clear hC hcc hL hLl hcn
  have e1 : ((⟨#[0]⟩ : ByteArray).toList == (⟨#[0, 255]⟩ : ByteArray).toList) = false := by decide +kernel
  by_cases h0 : cn = 0
  · subst h0
    have hr : escS s = s := by
      unfold escS
      rw [HL.out, Math.escU_none HCN.out, ← HL.out]
    rw [hr]
    go_enter Tryd.func34, Tryd.ntmps34
    go_wp2_with (go_at_call 39; (with_reducible refine (HC.out _).mono ?_); rintro e w' ⟨rfl, rfl⟩)
    go_ret
    exact ⟨rfl, Below.refl _ _⟩
  · have d0 : ((cn : Int) == 0) = false := beq_eq_false_iff_ne.2 (by omega)
    go_enter Tryd.func34, Tryd.ntmps34
    go_wp2_with (go_at_call 39; (with_reducible refine (HC.out _).mono ?_); rintro e w' ⟨rfl, hw⟩; have hw2 := hw.symm; subst hw2)
    refine (Tryd.Builder_Grow_fresh w.heap.size w.heap.size (s.size + cn) _ (Nat.le_refl _) (alloc_new w _) (by simp) (by omega)).mono ?_
    rintro e w1 ⟨rfl, hbd, hb⟩
    have HB1 := Aside0.mk (Below.trans ((Below.refl w.heap.size w).alloc (Nat.le_refl _) _) hb)
    have HD1 : Aside0 (Lib.IsBuilder 65 5 w.heap.size w.heap.size (Lib.byteCells []) w1) := ⟨.inr hbd⟩
    have HEL : Aside0 ((Math.escU L).length = s.size + cn) := ⟨by rw [Math.escU_length, HLl.out, HCN.out]⟩
    clear hb hbd
    go_wp2_with fail
    go_loopw [11, 53] (fun v11 v53 wr => ∃ (i st : Nat) (D : List UInt8), v11 = .int .i64 (st : Int) ∧ v53 = .int .i64 (i : Int) ∧ i ≤ cn ∧ st ≤ s.size ∧ Aside0 (D ++ Math.escU (L.drop st) = Math.escU L) ∧ Aside0 ((L.drop st).count 0 + i = cn) ∧ Aside0 (Lib.IsBuilder 65 5 w.heap.size w.heap.size (Lib.byteCells D) wr) ∧ Aside0 (Below w.heap.size w wr)) (fun _ v53 _ => cn - (intOf v53).toNat)
    case atStart => exact ⟨0, 0, [], rfl, rfl, Nat.zero_le _, Nat.zero_le _, ⟨rfl⟩, ⟨by rw [List.drop_zero, HCN.out]; rfl⟩, HD1, HB1⟩
    case round =>
      obtain ⟨i, st, D, rfl, rfl, hi, hst, HX, HN, HD, HB⟩ := hrel
      have hz := HB.out.size
      have hDl : D.length ≤ s.size + cn := by have h1 := congrArg List.length HX.out; rw [List.length_append, HEL.out] at h1; omega
      by_cases h1 : i < cn
      · have d1 : decide ((i : Int) < (cn : Int)) = true := decide_eq_true (by omega)
        have d1' : decide (i < cn) = true := decide_eq_true h1
        obtain ⟨o, o1, o2, o3, o4⟩ := Math.idx_split (l := L.drop st) (by have := HN.out; omega)
        have hdl : (L.drop st).length = s.size - st := by rw [List.length_drop, HLl.out]
        have ho : st + o + 1 ≤ s.size := by omega
        have q0 : (0 : Int) ≤ (st : Int) := by omega
        have q1 : (st : Int) ≤ (s.size : Int) := by omega
        have q2 : (st : Int) ≤ (st : Int) + (o : Int) := by omega
        have q3 : (st : Int) + (o : Int) + 1 ≤ (s.size : Int) := by omega
        have q4 : (st : Int) + (o : Int) ≤ (s.size : Int) := by omega
        obtain ⟨S1, hS1⟩ : ∃ S1, s.extract st s.size = S1 := ⟨_, rfl⟩
        have hS1l : S1.data.toList = L.drop st := by
          rw [← hS1, ByteArray.data_extract, Array.toList_extract, List.extract_eq_take_drop, HL.out, List.take_of_length_le (by rw [hdl]; exact Nat.le_refl _)]
        obtain ⟨S2, hS2⟩ : ∃ S2, s.extract st (st + o) = S2 := ⟨_, rfl⟩
        have hS2l : S2.data.toList = (L.drop st).take o := by
          rw [← hS2, ByteArray.data_extract, Array.toList_extract, List.extract_eq_take_drop, HL.out]
          congr 1
          omega
        have hS2s : S2.size = o := by rw [← size_toList, hS2l, List.length_take]; omega
        have HI := Aside0.mk (fun W => Tryd.strings_Index_one S1 0 W)
        rw [hS1l, o1] at HI
        have HS2 := Aside0.mk hS2l
        have HO3 := Aside0.mk o3
        have HO4 := Aside0.mk o4
        have H1 := Aside0.mk h1
        clear hS1l hS2l o1 o2 o3 o4 h1 hdl
        go_wp2_with fail
        refine (HI.out _).mono ?_
        rintro e w2 ⟨rfl, hw9⟩
        have hw2 := hw9.symm
        subst hw2
        clear hw9
        go_wp2_with fail
        refine (Tryd.Builder_WriteString w.heap.size w.heap.size (Lib.byteCells D) S2 _ HD.out (by rw [Lib.byteCells_length]; omega) hz).mono ?_
        rintro e w3 ⟨rfl, hbd, hb⟩
        have HB3 := Aside0.mk (Below.trans HB.out hb)
        have HD3 : Aside0 (Lib.IsBuilder 65 5 w.heap.size w.heap.size (Lib.byteCells (D ++ (L.drop st).take o)) w3) := ⟨.inr (by rw [Lib.strCells_eq, HS2.out, ← Lib.byteCells_append] at hbd; exact hbd)⟩
        have hz3 := HB3.out.size
        have hl3 : (D ++ (L.drop st).take o).length ≤ s.size + cn := by rw [List.length_append, List.length_take]; have h2 := congrArg List.length HX.out; rw [List.length_append, HEL.out, HO3.out] at h2; simp only [List.length_append, List.length_take] at h2; omega
        clear hb hbd HD
        go_wp2_with fail
        refine (Tryd.Builder_WriteString w.heap.size w.heap.size (Lib.byteCells (D ++ (L.drop st).take o)) ⟨#[0, 255]⟩ _ HD3.out (by rw [Lib.byteCells_length]; show _ + 2 ≤ _; omega) hz3).mono ?_
        rintro e w4 ⟨rfl, hbd, hb⟩
        have HB4 := Aside0.mk (Below.trans HB3.out hb)
        have HD4 : Aside0 (Lib.IsBuilder 65 5 w.heap.size w.heap.size (Lib.byteCells (D ++ (L.drop st).take o ++ [0, 255])) w4) := ⟨.inr (by rw [Lib.byteCells_append]; exact hbd)⟩
        clear hb hbd HD3
        go_wp2
        go_roundw
        case rel => exact ⟨i + 1, st + o + 1, _, by go_num, rfl, by have := H1.out; omega, by omega, ⟨by have h2 := HX.out; rw [HO3.out, List.drop_drop] at h2; rw [← h2]; simp only [List.append_assoc]; rw [show st + (o + 1) = st + o + 1 by omega]⟩, ⟨by have h2 := HO4.out; have h3 := HN.out; rw [List.drop_drop, show st + (o + 1) = st + o + 1 by omega] at h2; omega⟩, HD4, HB4⟩
        case measure => have := H1.out; simp [intOf] <;> omega
      · have d1 : decide ((i : Int) < (cn : Int)) = false := decide_eq_false (by omega)
        have d1' : decide (i < cn) = false := decide_eq_false h1
        have hic : i = cn := by omega
        have q0 : (0 : Int) ≤ (st : Int) := by omega
        have q1 : (st : Int) ≤ (s.size : Int) := by omega
        obtain ⟨S1, hS1⟩ : ∃ S1, s.extract st s.size = S1 := ⟨_, rfl⟩
        have hdl : (L.drop st).length = s.size - st := by rw [List.length_drop, HLl.out]
        have hS1l : S1.data.toList = L.drop st := by
          rw [← hS1, ByteArray.data_extract, Array.toList_extract, List.extract_eq_take_drop, HL.out, List.take_of_length_le (by rw [hdl]; exact Nat.le_refl _)]
        have hc0 : (L.drop st).count 0 = 0 := by have := HN.out; omega
        have hfin : D ++ L.drop st = Math.escU L := by have h2 := HX.out; rw [Math.escU_none hc0] at h2; exact h2
        have hS1s : S1.size ≤ s.size := by rw [← size_toList, hS1l, hdl]; omega
        have HS1 := Aside0.mk hS1l
        have HFI := Aside0.mk hfin
        clear hS1l hfin hc0 hdl hic h1 hi
        go_wp2_with fail
        refine (Tryd.Builder_WriteString w.heap.size w.heap.size (Lib.byteCells D) S1 _ HD.out (by rw [Lib.byteCells_length]; omega) hz).mono ?_
        rintro e w3 ⟨rfl, hbd, hb⟩
        have HB3 := Aside0.mk (Below.trans HB.out hb)
        have HD3 : Aside0 (Lib.IsBuilder 65 5 w.heap.size w.heap.size (Lib.byteCells (Math.escU L)) w3) := ⟨.inr (by rw [Lib.strCells_eq, HS1.out, ← Lib.byteCells_append, HFI.out] at hbd; exact hbd)⟩
        have hz3 := HB3.out.size
        clear hb hbd HD
        go_wp2_with fail
        refine (Tryd.Builder_String_any w.heap.size w.heap.size (Math.escU L) _ HD3.out hz3).mono ?_
        rintro e w4 ⟨rfl, hb⟩
        have HB4 := Aside0.mk (Below.trans HB3.out hb)
        clear hb
        go_wp2
        go_ret
        exact ⟨by unfold escS; rw [HL.out]; rfl, HB4.out⟩

set_option maxHeartbeats 1000000 in
theorem replaceAll_calls (s : ByteArray) (w : World) (hs : s.size ≤ 35184372088832) :
    Calls Tryd.prog 24 #[.string s, .string ⟨#[0]⟩, .string ⟨#[0, 255]⟩] w fun e w' => e = .returned (.string (escS s)) ∧ Below w.heap.size w w' := by
  have HI := Aside0.mk (replace_calls s w hs)
  go_enter Tryd.func24, Tryd.ntmps24
  go_wp2_with (go_at_call 34; (with_reducible refine HI.out.mono ?_); rintro e w' ⟨rfl, hb⟩; have HB := Aside0.mk hb; clear hb)
  go_ret
  exact ⟨rfl, HB.out⟩
end Go.Proofs.YtdofoopnjmbmcaaDoor.HandF
