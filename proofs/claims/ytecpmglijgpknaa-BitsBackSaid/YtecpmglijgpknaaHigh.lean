/- The iterator 'high' of package bits: its rounds come with the number's bits, the highest first. -/
import Derived.Outline
import Derived.Lib.Hide
import Derived.Test.YtecpmglijgpknaaRange
import Derived.Test.YtecpmglijgpknaaBlocks
import Derived.Test.YtecpmglijgpknaaProg
namespace Go.Proofs.Ytecpmglijgpknaa.Hand
set_option linter.unusedVariables false
set_option linter.unusedSimpArgs false
open Go.RowKit Go.Shelf Go.Proofs.Ytecpmglijgpknaa.Range Go.Proofs.Ytecpmglijgpknaa.Blocks
attribute [local go_sem] Oper.semAt_some

/-- A fact that the walk does not look into. -/
structure Aside (p : Prop) : Prop where mk :: (out : p)
def numAt (b : Nat) (w : World) : Nat := match w.cell? ⟨b, 0, none⟩ with | some c => (intOf c).toNat | none => 0
theorem numAt_eq {b : Nat} {w : World} {d : Nat} (h : w.cell? ⟨b, 0, none⟩ = some (.int .i64 (d : Int))) : numAt b w = d := by simp [numAt, h, intOf]

/-- Bit m of a number. -/
def bitAt (v : Int) (m : Nat) : Bool := bits .and .u64 v (IntKind.u64.wrap (2 ^ m)) != 0
/-- A number's bits, the highest first. -/
def highs (v : Int) (wd : Nat) : List Bool := (List.range wd).map fun i => bitAt v (wd - 1 - i)
theorem highs_length (v : Int) (wd : Nat) : (highs v wd).length = wd := by simp [highs]
theorem highs_at {v : Int} {wd i : Nat} (h : i < wd) : (highs v wd)[i]? = some (bitAt v (wd - 1 - i)) := by simp [highs, h]

/-- What the iterator does between two rounds. -/
def HighStep (Bw : Nat) (W W' : World) : Prop := ∃ x, W' = (W.setCell ⟨Bw, 0, none⟩ x).drew
/-- What the loop knows at each round's head. -/
def HighRel (Bw Bv : Nat) (v : Int) (wd : Nat) (J : Nat → World → Prop) (W : World) : Prop :=
  ∃ d : Nat, d ≤ wd ∧ W.heap[Bw]? = some (.cells #[.int .i64 (d : Int)] 3 (0, 0)) ∧ W.heap[Bv]? = some (.cells #[.int .u64 v] 23 (0, 0)) ∧ J (wd - d) W
/-- How a round may end. -/
def HighEnd (ts : List Nat) (i : Nat) (J : Nat → World → Prop) (Jx : World → Prop) (W : World) (e : Ending) (W' : World) : Prop :=
  ∃ b : Bool, e = .returned (.bool b) ∧ Aside (b = true → J (i + 1) W' ∧ KeepsTy ts W W') ∧ Aside (b = false → Jx W')

set_option maxRecDepth 100000 in
set_option maxHeartbeats 4000000 in
theorem high1_seq (F : Fence) (n : Nat) (h29 : F.fn 29) (hro : F.round = none) (hn : 1 ≤ n) (l Bw Bv : Nat) (v : Int) (wd : Nat) (hwd : wd ≤ 64) (ts : List Nat) (h3 : 3 ∉ ts) (h23 : 23 ∉ ts)
    (W : World) (hBw : W.heap[Bw]? = some (.cells #[.int .i64 wd] 3 (0, 0))) (hBv : W.heap[Bv]? = some (.cells #[.int .u64 v] 23 (0, 0))) :
    SeqAt F n Try.prog 29 #[.pointer (some ⟨Bw, 0, none⟩), .pointer (some ⟨Bv, 0, none⟩)] (fun b : Bool => #[.bool b]) (highs v wd) (KeepsTy ts) (HighStep Bw) W l := by
  intro J Jx hJ hJx hY h0
  show CallsIn F n Try.prog 29 #[.func (.yield l) #[] #[], .pointer (some ⟨Bw, 0, none⟩), .pointer (some ⟨Bv, 0, none⟩)] W _
  rw [highs_length]
  refine callsIn_of_wp Try.func29 rfl h29 ?_ hro
  simp only [Try.ntmps29, List.size_toArray, List.length_cons, List.length_nil, Nat.reduceAdd, Nat.reduceSub, Array.replicate_succ, Array.replicate_zero, List.push_toArray, List.append_toArray, List.nil_append, List.cons_append]
  gi_wp2
  gi_loopw [4] (fun _ wr => HighRel Bw Bv v wd J wr) (fun _ wr => numAt Bw wr)
  case atStart => exact ⟨wd, Nat.le_refl _, hBw, hBv, by rw [Nat.sub_self]; exact h0⟩
  case round =>
    obtain ⟨d, hd, hbw, hbv, hJi⟩ := hrel
    have hne : Bw ≠ Bv := fun e => by rw [e, hbv] at hbw; injection hbw with hbw; injection hbw with _ hbw _; cases hbw
    have hcw := cell_of_one hbw
    have hfw := free_of_one hbw
    have hcv := cell_of_one hbv
    have Hbw := Lib.hid hbw
    have Hbv := Lib.hid hbv
    clear hbw hbv
    cases d with
    | succ m =>
      have hcv' : (wr.setCell ⟨Bw, 0, none⟩ (.int .i64 (m : Int))).cell? ⟨Bv, 0, none⟩ = some (.int .u64 v) := by
        rw [World.cell?_setCell_other _ _ _ _ (by intro e; injection e with e; exact hne e)]; exact hcv
      have hcw' : (wr.setCell ⟨Bw, 0, none⟩ (.int .i64 (m : Int))).cell? ⟨Bw, 0, none⟩ = some (.int .i64 (m : Int)) :=
        World.cell?_setCell_same' _ _ _ (by rw [hcw]; rfl)
      have hfw' : (wr.setCell ⟨Bw, 0, none⟩ (.int .i64 (m : Int))).frozen? ⟨Bw, 0, none⟩ = false := by
        rw [World.frozen?_setCell]; exact hfw
      obtain ⟨fn, tmps, assign, body, hy, hR⟩ := hY (wd - (m + 1)) _ (wr.setCell ⟨Bw, 0, none⟩ (.int .i64 (m : Int))).drew (highs_at (by omega)) (hJ _ _ _ hJi ⟨_, rfl⟩)
      rw [show wd - 1 - (wd - (m + 1)) = m by omega] at hy
      unfold bitAt at hy
      have hmix : Try.prog.follows .mixedOrders = true := by kernel_rfl
      have hR2 := RoundIn.mono (R' := HighEnd ts (wd - (m + 1)) J Jx (wr.setCell ⟨Bw, 0, none⟩ (.int .i64 (m : Int))).drew) hR (by
        rintro e W3 (⟨rfl, h1, h2⟩ | ⟨rfl, h1⟩)
        · exact ⟨true, rfl, ⟨fun _ => ⟨h1, h2⟩⟩, ⟨fun h => by cases h⟩⟩
        · exact ⟨false, rfl, ⟨fun h => by cases h⟩, ⟨fun _ => h1⟩⟩)
      have hR' := Lib.hid hR2
      clear hR hR2
      have fin0 : ∀ W3, J (wd - (m + 1) + 1) W3 → KeepsTy ts (wr.setCell ⟨Bw, 0, none⟩ (.int .i64 (m : Int))).drew W3 → HighRel Bw Bv v wd J W3 ∧ numAt Bw W3 < numAt Bw wr := by
        intro W3 hJ3 hk3
        have e1 : W3.heap[Bw]? = some (.cells #[.int .i64 (m : Int)] 3 (0, 0)) := hk3 _ _ _ _ h3 (one_setCell Hbw.out)
        refine ⟨⟨m, by omega, e1, hk3 _ _ _ _ h23 ((set_other (a := ⟨Bw, 0, none⟩) (Ne.symm hne)).trans Hbv.out), ?_⟩, ?_⟩
        · rw [show wd - m = wd - (m + 1) + 1 by omega]; exact hJ3
        · rw [numAt_eq (cell_of_one e1), numAt_eq hcw]; omega
      have fin := Lib.hid fin0
      clear fin0 hY
      gi_wp2
      gi_region_with_o ((with_reducible refine RoundIn.mono hR'.out ?_); rintro e W3 ⟨b, rfl, hT, hX⟩)
      all_goals
        cases b
        · have hx := Lib.hid (hX.out rfl)
          clear hX hT
          gi_wp2
          refine bodyPost_ret (results_none rfl _ _ _) rfl ?_
          exact ⟨⟨_, rfl⟩, .inr hx.out⟩
        · have hx := Lib.hid (fin.out _ (hT.out rfl).1 (hT.out rfl).2)
          clear hX hT
          gi_wp2
          exact hx.out
    | zero =>
      gi_wp2
      go_end0
      exact ⟨⟨_, rfl⟩, .inl hJi⟩
end Go.Proofs.Ytecpmglijgpknaa.Hand
