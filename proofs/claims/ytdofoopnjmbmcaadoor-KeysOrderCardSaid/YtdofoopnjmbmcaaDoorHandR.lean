/- Contracts by hand: keys.right, slices.ContainsFunc at it, keys.Right. -/
import Derived.Test.YtdofoopnjmbmcaaDoorX0
import Derived.Test.YtdofoopnjmbmcaaDoorBlocks
import Derived.WalkSpells
import Derived.WalkMore
import Derived.Lib.Hide
namespace Go.Proofs.YtdofoopnjmbmcaaDoor.HandF
set_option linter.unusedVariables false
set_option linter.unusedSimpArgs false
open Go.RowKit Go.Proofs.YtdofoopnjmbmcaaDoor.X Go.Proofs.YtdofoopnjmbmcaaDoor.Blocks
open Go.Proofs.YtdofoopnjmbmcaaDoorW.PrintWords Go.Proofs.YtdofoopnjmbmcaaDoorW.PrintLast Go.Proofs.YtdofoopnjmbmcaaDoorW.PrintMore

/-- Is a part right? -/
def rightP (p : S41) : Bool := if p.f0 then (p.f1 == 0) && decide (p.f2.size ≤ 512) else (p.f2.toList == [])

set_option maxHeartbeats 1000000 in
theorem right_calls (b : Bool) (n : Int) (s : ByteArray) (w : World) :
    Calls Tryd.prog 30 #[.agg #[.bool b, .int .u64 n, .string s]] w fun e w' => e = .returned (.bool (rightP ⟨b, n, s⟩)) ∧ Below w.heap.size w w' := by
  have hu41 := Tryd.underlying41
  obtain ⟨r, hr⟩ : ∃ r, rightP ⟨b, n, s⟩ = r := ⟨_, rfl⟩
  have HR := Aside0.mk hr
  rw [hr]
  clear hr
  cases b with
  | true =>
    by_cases c : n = 0
    · subst c
      by_cases d : s.size ≤ 512
      · have d1 : decide ((s.size : Int) ≤ 512) = true := decide_eq_true (by omega)
        have d2 : decide (s.size ≤ 512) = true := decide_eq_true d
        have hr : r = true := by rw [← HR.out]; simp [rightP, d]
        clear d
        go_enter Tryd.func30, Tryd.ntmps30
        go_wp2
        go_ret
        exact ⟨by rw [hr]; rfl, (Below.refl _ _).alloc (Nat.le_refl _) _⟩
      · have d1 : decide ((s.size : Int) ≤ 512) = false := decide_eq_false (by omega)
        have d2 : decide (s.size ≤ 512) = false := decide_eq_false d
        have hr : r = false := by rw [← HR.out]; simp [rightP, d]
        clear d
        go_enter Tryd.func30, Tryd.ntmps30
        go_wp2
        go_ret
        exact ⟨by rw [hr]; rfl, (Below.refl _ _).alloc (Nat.le_refl _) _⟩
    · have d1 : (n == 0) = false := beq_eq_false_iff_ne.2 c
      have hr : r = false := by rw [← HR.out]; simp [rightP, c]
      clear c
      go_enter Tryd.func30, Tryd.ntmps30
      go_wp2
      go_ret
      exact ⟨by rw [hr]; rfl, (Below.refl _ _).alloc (Nat.le_refl _) _⟩
  | false =>
    obtain ⟨q, hq⟩ : ∃ q, (s.toList == ([] : List UInt8)) = q := ⟨_, rfl⟩
    have hr : r = q := by rw [← HR.out, ← hq]; rfl
    cases q with
    | true =>
      have d2 : s.toList = [] := beq_iff_eq.1 hq
      go_enter Tryd.func30, Tryd.ntmps30
      go_wp2
      go_ret
      exact ⟨by rw [hr]; first | rfl | simp [d2], (Below.refl _ _).alloc (Nat.le_refl _) _⟩
    | false =>
      have d2 : ¬ s.toList = [] := beq_eq_false_iff_ne.1 hq
      have d3 : s.toList.isEmpty = false := by simpa using d2
      go_enter Tryd.func30, Tryd.ntmps30
      go_wp2
      go_ret
      exact ⟨by rw [hr]; first | rfl | simp [d2, d3], (Below.refl _ _).alloc (Nat.le_refl _) _⟩

set_option maxHeartbeats 1000000 in
theorem right1_calls (b : Bool) (n : Int) (s : ByteArray) (w : World) :
    Calls Tryd.prog 29 #[.agg #[.bool b, .int .u64 n, .string s]] w fun e w' => e = .returned (.bool (!rightP ⟨b, n, s⟩)) ∧ Below w.heap.size w w' := by
  have hu41 := Tryd.underlying41
  obtain ⟨r, hr⟩ : ∃ r, rightP ⟨b, n, s⟩ = r := ⟨_, rfl⟩
  have hC := fun w => right_calls b n s w
  rw [hr] at hC ⊢
  have HC := Aside0.mk hC
  clear hr hC
  go_enter Tryd.func29, Tryd.ntmps29
  go_wp2_with (go_at_call 30; (with_reducible refine (HC.out _).mono ?_); rintro e w' ⟨rfl, hb⟩; have HB := Aside0.mk hb; clear hb)
  go_ret
  exact ⟨rfl, below_step ((Below.refl _ _).alloc (Nat.le_refl _) _) HB.out⟩

theorem rd_T41_get (l : List S41) (i : Nat) (h : i < l.length) : rd_T41 l (i : Int) = l[i] := by
  unfold rd_T41
  rw [Int.toNat_natCast, List.getD_eq_getElem?_getD, List.getElem?_eq_getElem h]
  rfl
theorem all_take (l : List S41) (i : Nat) (h : i < l.length) : (l.take (i + 1)).all rightP = ((l.take i).all rightP && rightP l[i]) := by
  rw [List.take_succ_eq_append_getElem h, List.all_append]
  simp
theorem all_not (l : List S41) (i : Nat) (h : i < l.length) (hf : rightP l[i] = false) : l.all rightP = false := by
  rw [Bool.eq_false_iff]
  intro ha
  have := List.all_eq_true.1 ha l[i] (List.getElem_mem h)
  rw [hf] at this
  cases this

set_option maxRecDepth 100000 in
set_option maxHeartbeats 2000000 in
theorem index_calls (A0 : Option Addr) (c0 : Nat) (l : List S41) (w : World) (hC : Kd.C k41 w A0 l.length l) (hl : l.length ≤ 140737488355328) :
    Calls Tryd.prog 36 #[.slice A0 l.length c0, .func (.func 29) #[] #[]] w fun e w' => ∃ r : Int, e = .returned (.int .i64 r) ∧ decide (0 ≤ r) = (!l.all rightP) ∧ Below w.heap.size w w' := by
  have hu41 := Tryd.underlying41
  have HC := Aside0.mk hC
  have HB0 := Aside0.mk (Below.refl w.heap.size w)
  clear hC
  go_enter Tryd.func36, Tryd.ntmps36
  go_wp2_with fail
  go_loopw [8] (fun v8 wr => ∃ i : Nat, v8 = .int .i64 (i : Int) ∧ i ≤ l.length ∧ Aside0 ((l.take i).all rightP = true) ∧ Aside0 (Below w.heap.size w wr)) (fun v8 _ => l.length - (intOf v8).toNat)
  case atStart => exact ⟨0, rfl, Nat.zero_le _, ⟨rfl⟩, HB0⟩
  case round =>
    obtain ⟨i, rfl, hi, HT, HB⟩ := hrel
    by_cases h1 : i < l.length
    · have d1 : decide ((i : Int) < (l.length : Int)) = true := decide_eq_true (by omega)
      have d1' : decide (i < l.length) = true := decide_eq_true h1
      have p0 : (0 : Int) ≤ (i : Int) := Int.natCast_nonneg i
      have p1 : (i : Int) < (l.length : Int) := by omega
      have H1 := Aside0.mk h1
      obtain ⟨ad, e, c0', c1', c2'⟩ := at_T41 HC.out (i : Int) p0 p1
      cases e
      have hall := all_take l i h1
      rw [HT.out, ← rd_T41_get l i h1, Bool.true_and] at hall
      have hnot := fun hf => all_not l i h1 (by rw [← rd_T41_get l i h1]; exact hf)
      obtain ⟨x, hx⟩ : ∃ x, rd_T41 l (i : Int) = x := ⟨_, rfl⟩
      rw [hx, Int.toNat_natCast] at c0' c1' c2'
      rw [hx] at hall hnot
      replace c0' := (HB.out.cell (World.block_lt_of_cell? w _ c0')).trans c0'
      replace c1' := (HB.out.cell (World.block_lt_of_cell? w _ c1')).trans c1'
      replace c2' := (HB.out.cell (World.block_lt_of_cell? w _ c2')).trans c2'
      obtain ⟨xb, xn, xs⟩ := x
      obtain ⟨q, hq⟩ : ∃ q, rightP ⟨xb, xn, xs⟩ = q := ⟨_, rfl⟩
      have hcl : ∀ W, Calls Tryd.prog 29 #[.agg #[.bool xb, .int .u64 xn, .string xs]] W fun e w' => e = .returned (.bool (!q)) ∧ Below W.heap.size W w' := fun W => by rw [← hq]; exact right1_calls xb xn xs W
      rw [hq] at hall hnot
      have HCL := Aside0.mk hcl
      have HAL := Aside0.mk hall
      have HNO := Aside0.mk hnot
      clear hall hnot hcl hq h1 hx HT
      cases q with
      | true =>
        go_wp2_with (go_at_call 29; (with_reducible refine (HCL.out _).mono ?_); rintro e w' ⟨rfl, hb⟩; have HBN := Aside0.mk (below_step HB.out hb); clear hb)
        go_roundw
        case rel => exact ⟨i + 1, rfl, by have := H1.out; omega, HAL, HBN⟩
        case measure => have := H1.out; simp [intOf] <;> omega
      | false =>
        go_wp2_with (go_at_call 29; (with_reducible refine (HCL.out _).mono ?_); rintro e w' ⟨rfl, hb⟩; have HBN := Aside0.mk (below_step HB.out hb); clear hb)
        go_ret
        exact ⟨(i : Int), rfl, by rw [HNO.out (by trivial)]; exact decide_eq_true (Int.natCast_nonneg i), HBN.out⟩
    · have d1 : decide ((i : Int) < (l.length : Int)) = false := decide_eq_false (by omega)
      have d1' : decide (i < l.length) = false := decide_eq_false h1
      obtain rfl : i = l.length := by omega
      have ht := HT.out
      rw [List.take_length] at ht
      have HT2 := Aside0.mk ht
      clear h1 hi ht HT
      go_wp2
      go_ret
      exact ⟨-1, rfl, by rw [HT2.out]; rfl, HB.out⟩

set_option maxHeartbeats 1000000 in
theorem contains_calls (A0 : Option Addr) (c0 : Nat) (l : List S41) (w : World) (hC : Kd.C k41 w A0 l.length l) (hl : l.length ≤ 140737488355328) :
    Calls Tryd.prog 28 #[.slice A0 l.length c0, .func (.func 29) #[] #[]] w fun e w' => e = .returned (.bool (!l.all rightP)) ∧ Below w.heap.size w w' := by
  have HI := Aside0.mk (index_calls A0 c0 l w hC hl)
  clear hC
  obtain ⟨q, hq⟩ : ∃ q, l.all rightP = q := ⟨_, rfl⟩
  rw [hq] at HI ⊢
  clear hq
  go_enter Tryd.func28, Tryd.ntmps28
  go_wp2_with (go_at_call 36; (with_reducible refine HI.out.mono ?_); rintro e w' ⟨r, rfl, hr, hb⟩; have HB := Aside0.mk hb; clear hb)
  go_ret
  exact ⟨by rw [← hr]; rfl, HB.out⟩

def keys_Right.f (l : List S41) : Option Bool := some (decide (0 < l.length) && decide (l.length ≤ 8) && l.all rightP)

set_option maxHeartbeats 2000000 in
theorem keys_Right.calls (A0 : Option Addr) (c0 : Nat) (l0 : List S41) (r : Bool) (w : World) (hr0 : Kd.C k41 w A0 l0.length l0) (hc0 : l0.length ≤ c0) (h : keys_Right.f l0 = some r) :
    Calls Tryd.prog 20 #[.slice A0 l0.length c0] w fun e w' => e = .returned (.bool r) ∧ Below w.heap.size w w' := by
  unfold keys_Right.f at h
  have H := Aside0.mk (Option.some.inj h)
  clear h
  by_cases h0 : 0 < l0.length
  · have d1 : decide (0 < l0.length) = true := decide_eq_true h0
    have d1' : decide ((0 : Int) < (l0.length : Int)) = true := decide_eq_true (by omega)
    by_cases h8 : l0.length ≤ 8
    · have d2 : decide (l0.length ≤ 8) = true := decide_eq_true h8
      have d2' : decide ((l0.length : Int) ≤ 8) = true := decide_eq_true (by omega)
      have HI := Aside0.mk (contains_calls A0 c0 l0 w hr0 (by omega))
      obtain ⟨q, hq⟩ : ∃ q, l0.all rightP = q := ⟨_, rfl⟩
      rw [hq] at HI
      have hr : r = q := by rw [← H.out, d1, d2, hq]; rfl
      clear hq hr0 hc0 h0 h8
      go_enter Tryd.func20, Tryd.ntmps20
      go_wp2_with (go_at_call 28; (with_reducible refine HI.out.mono ?_); rintro e w' ⟨rfl, hb⟩; have HB := Aside0.mk hb; clear hb)
      go_ret
      exact ⟨by rw [hr]; cases q <;> rfl, HB.out⟩
    · have d2 : decide (l0.length ≤ 8) = false := decide_eq_false h8
      have d2' : decide ((l0.length : Int) ≤ 8) = false := decide_eq_false (by omega)
      have hr : r = false := by rw [← H.out, d1, d2]; rfl
      clear hr0 hc0 h0 h8
      go_enter Tryd.func20, Tryd.ntmps20
      go_wp2
      go_ret
      exact ⟨by rw [hr]; rfl, Below.refl _ _⟩
  · have d1 : decide (0 < l0.length) = false := decide_eq_false h0
    have d1' : decide ((0 : Int) < (l0.length : Int)) = false := decide_eq_false (by omega)
    have hr : r = false := by rw [← H.out, d1]; rfl
    clear hr0 hc0 h0
    go_enter Tryd.func20, Tryd.ntmps20
    go_wp2
    go_ret
    exact ⟨by rw [hr]; rfl, Below.refl _ _⟩
end Go.Proofs.YtdofoopnjmbmcaaDoor.HandF
