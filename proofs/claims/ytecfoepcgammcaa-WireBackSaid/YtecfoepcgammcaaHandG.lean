/- Contracts by hand: slices.Grow of nothing, slices.Concat of three rows of bytes. -/
import Derived.Test.YtecfoepcgammcaaHandS
import Derived.IntWalk
namespace Go.Proofs.Ytecfoepcgammcaa.HandF
set_option linter.unusedVariables false
set_option linter.unusedSimpArgs false
open Go.RowKit Go.Proofs.Ytecfoepcgammcaa.X Go.Proofs.Ytecfoepcgammcaa.Blocks
open Go.Proofs.YtecfoepcgammcaaW.PrintWords Go.Proofs.YtecfoepcgammcaaW.PrintLast Go.Proofs.YtecfoepcgammcaaW.PrintMore

theorem cap_bounds (n t : Nat) (hn : n ≤ 140737488355328) : n ≤ (Question.appendCap n 0 5).cut t ∧ (Question.appendCap n 0 5).cut t ≤ maxLen := by
  have e : (Question.appendCap n 0 5).cut t = n + t % (2 ^ 63 - n) := rfl
  have h := Nat.mod_lt t (show 0 < 2 ^ 63 - n by omega)
  rw [e]
  unfold maxLen
  omega
theorem zero_size (m : Nat) : (Builtin.zeroCells #[Value.int .u8 0] m).size = m := by simp [Builtin.zeroCells]

set_option maxRecDepth 100000 in
set_option maxHeartbeats 2000000 in
theorem grow_calls (n : Nat) (w : World) (hn : n ≤ 140737488355328) :
    Calls Try.prog 36 #[.slice none 0 0, .int .i64 (n : Int)] w fun e w' => ∃ v, e = .returned v ∧ w'.ownsRow w.heap.size 5 1 v 0 (nums .u8 []) ∧ Below w.heap.size w w' := by
  obtain ⟨i0, hi0, hz0, hz1, hz2⟩ := info_parts info5
  by_cases h0 : n = 0
  · subst h0
    go_enter Try.func36, Try.ntmps36
    go_wp2_with fail
    go_ret
    exact ⟨_, rfl, own_nil _ _ _ _, Below.refl _ _⟩
  · have d1 : decide ((n : Int) < 0) = false := decide_eq_false (by omega)
    have d2 : decide (0 < n) = true := decide_eq_true (by omega)
    have d3 : decide ((0 : Int) < (n : Int)) = true := decide_eq_true (by omega)
    have hB : Try.t5.bytes = 1 := rfl
    have hN : Builtin.nextslicecap n 0 = n := by unfold Builtin.nextslicecap; rw [if_pos (by omega)]
    have d4 : decide ((281474976710656 : Int) < (n : Int)) = false := decide_eq_false (by omega)
    have d5 : decide (281474976710656 < n) = false := decide_eq_false (by omega)
    have d6 : ¬ (281474976710656 < n) := by omega
    have d7 : ¬ ((281474976710656 : Int) < (n : Int)) := by omega
    have hw : IntKind.i64.wrap (n : Int) = (n : Int) := IntWalk.i64_in _ (by omega)
    have hmk0 : True := trivial
    have hmk1 : ∀ W : World, (Instr.makeSlice 22 (.int .i64 (n : Int)) (.int .i64 (n : Int))).run Try.prog W = .ok (.slice (some ⟨W.heap.size, 0, none⟩) n n) (W.alloc (.cells (madeCells #[.int .u8 0] n) 5)) := fun W => by
      have := run_make (P := Try.prog) W 22 5 i0 (.int .u8 0) Try.underlying22 hi0 hz0 .i64 .i64 (n : Int) (n : Int) (by omega) (Int.le_refl _) (by rw [hz2]; omega) (by omega)
      rw [hz1] at this
      rw [this, Int.toNat_natCast]
      simp [Value.cells]
    go_enter Try.func36, Try.ntmps36
    go_wp2_with fail
    go_ret
    refine ⟨_, rfl, ?_, ((Below.refl _ _).alloc (Nat.le_refl _) _).drew⟩
    have hc := cap_bounds n (w.tape w.drawn (Question.appendCap n 0 5)) (by omega)
    obtain ⟨C, hC⟩ : ∃ C, (Question.appendCap n 0 5).cut (w.tape w.drawn (Question.appendCap n 0 5)) = C := ⟨_, rfl⟩
    rw [hC] at hc ⊢
    refine World.ownsRow.drew ⟨rfl, .inr ⟨w.heap.size, C, _, rfl, Nat.le_refl _, alloc_new w _, Nat.zero_le _, hc.2, ?_, rfl⟩⟩
    rw [Array.size_append, zero_size, zero_size]
    omega

def flat (ps : List (Option Addr × Nat × List Int)) : List Int := (ps.map fun p => p.2.2).flatten

theorem flat_step {ps : List (Option Addr × Nat × List Int)} {i : Nat} {p : Option Addr × Nat × List Int} (h : ps[i]? = some p) : flat (ps.take (i + 1)) = flat (ps.take i) ++ p.2.2 := by
  unfold flat
  rw [List.take_add_one, h]
  simp
theorem flat_le (ps : List (Option Addr × Nat × List Int)) (i : Nat) : (flat (ps.take i)).length ≤ (flat ps).length := by
  have h : flat ps = flat (ps.take i) ++ flat (ps.drop i) := by
    unfold flat
    rw [← List.flatten_append, ← List.map_append, List.take_append_drop]
  rw [h, List.length_append]
  omega

set_option maxRecDepth 100000 in
set_option maxHeartbeats 2000000 in
theorem concat_calls (Ap : Option Addr) (cp : Nat) (ps : List (Option Addr × Nat × List Int)) (w : World) (hb : ps.length ≤ 1000) (hs : (flat ps).length ≤ 140737488355328)
    (hp : ∀ i p, ps[i]? = some p → ∃ ad, Ap = some ad ∧ w.cell? (ad.add i) = some (.slice p.1 p.2.2.length p.2.1) ∧ Kd.C (Kd.int .u8) w p.1 p.2.2.length p.2.2 ∧ p.2.2.length ≤ 140737488355328) :
    Calls Try.prog 33 #[.slice Ap ps.length cp] w fun e w' => ∃ v, e = .returned v ∧ w'.ownsRow w.heap.size 5 1 v (flat ps).length (nums .u8 (flat ps)) ∧ Below w.heap.size w w' := by
  have HP := Aside0.mk hp
  have HS := Aside0.mk hs
  clear hp hs
  go_enter Try.func33, Try.ntmps33
  go_wp2_with fail
  go_loopw [3, 11] (fun v3 v11 wr => ∃ i : Nat, v3 = .int .i64 ((flat (ps.take i)).length : Int) ∧ v11 = .int .i64 (i : Int) ∧ w = wr ∧ i ≤ ps.length) (fun _ v11 _ => ps.length - (intOf v11).toNat)
  case atStart => exact ⟨0, rfl, rfl, rfl, Nat.zero_le _⟩
  case round =>
    obtain ⟨i, rfl, rfl, rfl, hi⟩ := hrel
    by_cases h1 : i < ps.length
    · have d1 : decide ((i : Int) < (ps.length : Int)) = true := decide_eq_true (by omega)
      have d1' : decide (i < ps.length) = true := decide_eq_true h1
      obtain ⟨p, hp⟩ : ∃ p, ps[i] = p := ⟨_, rfl⟩
      have hg : ps[i]? = some p := by rw [List.getElem?_eq_getElem h1, hp]
      have hfl := flat_step hg
      have hle := flat_le ps (i + 1)
      obtain ⟨ad, rfl, hcell, hC, hpl⟩ := HP.out i p hg
      obtain ⟨pA, pc, l⟩ := p
      dsimp only at hcell hC hpl hfl
      rw [hfl, List.length_append] at hle
      have hSz := HS.out
      have HF := Aside0.mk hfl
      have p0 : (0 : Int) ≤ (i : Int) := Int.natCast_nonneg i
      have p1 : (i : Int) < (ps.length : Int) := by omega
      have H1 := Aside0.mk h1
      obtain ⟨m, hm⟩ : ∃ m, (flat (ps.take i)).length = m := ⟨_, rfl⟩
      have HM := Aside0.mk hm
      rw [hm] at hle ⊢
      have hm1 : m + l.length ≤ 140737488355328 := by omega
      have d2 : decide ((m : Int) + (l.length : Int) < 0) = false := decide_eq_false (by omega)
      clear hp hg hC h1 hfl hm hle hSz
      go_wp2
      go_roundw
      case rel => exact ⟨i + 1, by rw [HF.out, List.length_append, HM.out]; rfl, rfl, trivial, by have := H1.out; omega⟩
      case measure => have := H1.out; simp [intOf] <;> omega
    · have d1 : decide ((i : Int) < (ps.length : Int)) = false := decide_eq_false (by omega)
      have d1' : decide (i < ps.length) = false := decide_eq_false h1
      obtain rfl : i = ps.length := by omega
      rw [List.take_length]
      clear h1 hi
      go_wp2_with fail
      refine (grow_calls _ _ HS.out).mono ?_
      rintro e w1 ⟨v1, rfl, hown, hb1⟩
      have HO1 := Aside0.mk hown
      have HB1 := Aside0.mk hb1
      clear hown hb1
      go_wp2_with fail
      go_loopw [6, 27] (fun v6 v27 wx => ∃ i : Nat, v27 = .int .i64 (i : Int) ∧ i ≤ ps.length ∧ Aside0 (wx.ownsRow w.heap.size 5 1 v6 (flat (ps.take i)).length (nums .u8 (flat (ps.take i)))) ∧ Aside0 (Below w.heap.size w wx)) (fun _ v27 _ => ps.length - (intOf v27).toNat)
      case atStart => exact ⟨0, rfl, Nat.zero_le _, HO1, HB1⟩
      case round =>
        obtain ⟨i, rfl, hi, HO, HB⟩ := hrel
        by_cases h1 : i < ps.length
        · have d3 : decide ((i : Int) < (ps.length : Int)) = true := decide_eq_true (by omega)
          have d3' : decide (i < ps.length) = true := decide_eq_true h1
          obtain ⟨p, hp⟩ : ∃ p, ps[i] = p := ⟨_, rfl⟩
          have hg : ps[i]? = some p := by rw [List.getElem?_eq_getElem h1, hp]
          have hfl := flat_step hg
          have hle := flat_le ps (i + 1)
          obtain ⟨ad, rfl, hcell, hC, hpl⟩ := HP.out i p hg
          obtain ⟨pA, pc, l⟩ := p
          dsimp only at hcell hC hpl hfl
          rw [hfl, List.length_append] at hle
          have hSz := HS.out
          have HF := Aside0.mk hfl
          have p0 : (0 : Int) ≤ (i : Int) := Int.natCast_nonneg i
          have p1 : (i : Int) < (ps.length : Int) := by omega
          have H1 := Aside0.mk h1
          have hcell2 := (HB.out.cell (World.block_lt_of_cell? _ _ hcell)).trans hcell
          have HC := Aside0.mk (Kd.C_below hC HB.out)
          have hbase := HB.out.size
          have hroom : (flat (ps.take i)).length + l.length ≤ 140737488355328 := by omega
          clear hp hg hC h1 hfl hle hSz hcell
          obtain ⟨A5, c5, rfl⟩ := own_slice HO.out
          go_wp2_with (at_builtin; refine print_append_row_of (w0 := w) (Value.int .u8) 0 w.heap.size rfl _ _ 22 5 (.int .u8 0) 1 rfl Try.underlying22 info5 rfl (by decide) (fun _ => rfl) (.slice A5 (flat (ps.take i)).length c5) (flat (ps.take i)) l pA l.length pc rfl rfl HO.out (Kd.reads_of_C (d := 0) (h1 := fun _ => rfl) HC.out) HB.out hbase (by omega) ?_; intro v2 w2 hown2 hb2 _ _; have HO2 := Aside0.mk hown2; have HB2 := Aside0.mk hb2; clear hown2 hb2)
          go_roundw
          case rel => exact ⟨i + 1, rfl, by have := H1.out; omega, by rw [HF.out]; exact HO2, HB2⟩
          case measure => have := H1.out; simp [intOf] <;> omega
        · have d3 : decide ((i : Int) < (ps.length : Int)) = false := decide_eq_false (by omega)
          have d3' : decide (i < ps.length) = false := decide_eq_false h1
          obtain rfl : i = ps.length := by omega
          have ho := HO.out
          rw [List.take_length] at ho
          have HO3 := Aside0.mk ho
          clear h1 hi ho HO
          go_wp2
          go_ret
          exact ⟨_, rfl, HO3.out, HB.out⟩
end Go.Proofs.Ytecfoepcgammcaa.HandF
